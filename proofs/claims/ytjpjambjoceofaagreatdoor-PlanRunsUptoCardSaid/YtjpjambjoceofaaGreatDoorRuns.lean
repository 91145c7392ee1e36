/- Own work. -/
import Derived.Test.YtjpjambjoceofaaGreatDoorCards
import Derived.Test.YtjpjambjoceofaaGreatDoorTie
import Derived.WalkKit
import Derived.ProofKit
import Derived.OpenShut
import Derived.ShutString
import Derived.ChangeOld
import Derived.Below
import Derived.Carry
import Derived.Deep.DeepHandedRow
import Derived.Lib.LaidTab
import Derived.Stop.LaidErr
import Derived.Test.YtjpjambjoceofaaGreatDoorUj
import Derived.Test.YtjpjambjoceofaaGreatDoorUj
import Derived.Test.YtjpjambjoceofaaGreatDoorUj
set_option linter.unusedVariables false
set_option linter.unusedSimpArgs false
namespace Go.Ps
open Go Go.Vc Go.Proofs
theorem law_calls{f:FuncId}{S:Vc.Spec}(G:Sound Tryz.prog f S){w:World}{p:List CV}{vs:List Value}{h:PH}{T:TypeId}(C:w.heap[1]? =some (.cells (Lib.pow10Tab.map λz=>Value.int .u64 z).toArray T (0,0)))
 (q:p=vs.map .val)(s:∀b o v,h b o=some v->w.cell? ⟨b,o,none⟩=some v)(H:∀i,h 1 i=none)
 (D:∀K,(∀m' x,(∀b o,(λb=>if b=1 then some (Obj.cells (Lib.pow10Tab.map λz=>Value.int .u64 z).toArray T (0,0))else none:MH) b=some o->m' b=some o)->K (cB true) m' x)->S p (λb=>if b=1 then some (.cells (Lib.pow10Tab.map λz=>Value.int .u64 z).toArray T (0,0))else none) h K):
 Calls Tryz.prog f vs.toArray w λe w'=>e= .returned (.bool true)/\Go.RowKit.Below w.heap.size w w':=by
 subst q
 have l:DV w (vs.map .val) vs:=by
  clear D
  induction vs with
  |nil=>trivial
  |cons v vs I=>exact⟨rfl,I⟩
 have a:∀(i:Nat)(c:CV)(u:Value)(b:Nat),(vs.map CV.val)[i]? =some c->iG c u=some b->False:=λi c u b E g=>by
  rw[List.getElem?_map,Option.map_eq_some_iff]at E;obtain⟨v,_,rfl⟩:=E;cases g
 have t:B9 w (λb=>if b=1 then some (.cells (Lib.pow10Tab.map λz=>Value.int .u64 z).toArray T (0,0))else none) h (vs.map .val) vs:=by
  refine⟨l,s,λb o e=>?_,λb o e i=>?_,λi j c d u v b m F y O J P=>(a i c u b m J).elim,λi c u b m F y=>(a i c u b m y).elim⟩
  .by_cases g:b=1
   .subst g;simp at e;rw[<-e];exact C
   .simp[g]at e
  .by_cases g:b=1
   .subst g;exact H i
   .simp[g]at e
 refine(G.2 _ vs _ h w (λr m' x=>r=cB true/\m' 1=some (.cells (Lib.pow10Tab.map λz=>Value.int .u64 z).toArray T (0,0))) (D _ λm' x L=>⟨rfl,L 1 _ (by simp)⟩) t).mono ?_;rintro e w' ⟨r,u,m',x,rfl,⟨rfl,A⟩,B,n,_⟩;have M:u= .bool true:=B;subst M;refine⟨rfl,⟨n.os,n.tape,n.output,n.size,λk N=>?_⟩⟩;by_cases g:k=1
 .subst g;rw[n.msat 1 _ A,C]
 .refine n.frame k N ?_;rintro(m|⟨i,c,u,m,F,y⟩)
  .exact m (by simp[g])
  .exact a i c u k m y
end Go.Ps
namespace Go.Proofs.YtjpjambjoceofaaGreatDoor.planRuns
open Go.ChangeShapes Go.WideShapes Go.ChangeAt Go.RowKit
set_option linter.unusedVariables false
theorem own:ownKnob Tryz.prog.godebug=none:=by kernel_rfl
theorem laidOut:laidOutB Tryz.prog=true:=by kernel_rfl
theorem gTab:Tryz.prog.globalNamed "internal/strconv.uint64pow10" =some 1:=by kernel_rfl
theorem gTabType:(Tryz.prog.globals[1]?).map (·.type)=some 323:=by kernel_rfl
theorem gSize:1<Tryz.prog.globals.size:=of_decide_eq_true (by kernel_rfl)
theorem cells323:Tryz.prog.cellsOf 323=20:=by kernel_rfl
theorem cells301:Tryz.prog.cellsOf 301=1:=by kernel_rfl
theorem under323:Tryz.prog.underlying 323=some (.array 20 301):=by kernel_rfl
theorem under301:Tryz.prog.underlying 301=some (.int .u64):=by kernel_rfl
theorem row0:(((begin Tryz.prog (λ_ _=>0) default).world.heap[1]?).bind Obj.row?).map (·.2)=some 323:=by kernel_rfl
theorem tabEq:(Rows.laid_internal_strconv_uint64pow10:DataW Unit)=Lib.tabData .u64 Lib.pow10Tab:=by kernel_rfl
theorem table{W:World}(h:laidMetH Tryz.prog Rows.planRunsRow.laid W)(b:W.ShapedOpen Tryz.prog):W.heap[1]? =some (.cells (Lib.pow10Tab.map λz=>Value.int .u64 z).toArray 323 (0,0)):=by
 have e:laidMet Tryz.prog [("math/bits.deBruijn32tab",Rows.laid_math_bits_deBruijn32tab),("math/bits.deBruijn64tab",Rows.laid_math_bits_deBruijn64tab),("internal/strconv.uint64pow10",Rows.laid_internal_strconv_uint64pow10)] W:=h;have f:laidMet Tryz.prog [("internal/strconv.uint64pow10",Lib.tabData .u64 Lib.pow10Tab)] W:=by rw[<-tabEq];exact e.tail.tail
 have a:Lib.TabIs Tryz.prog W "internal/strconv.uint64pow10" .u64 Lib.pow10Tab:=Lib.tabIs_of_head (rest:=[]) gTab gTabType under323 under301 cells301 cells323 f;have g:=row0;obtain⟨⟨zero,t⟩,i,c⟩:=Option.map_eq_some_iff.1 g;have c:t=323:=c;subst c;obtain⟨j,d,_,_⟩:=b.1 1 zero 323 gSize i;unfold Lib.TabIs World.var? at a;rw[gTab]at a;simp only[Option.bind_some,d,Option.some.injEq]at a;rw[d,a]
theorem hW_tab{w:World}{T:TypeId}(b:w.heap[1]? =some (.cells (Lib.pow10Tab.map λz=>Value.int .u64 z).toArray T (0,0)))(i:Nat):Go.Ps.hW w 1 i=none:=by
 unfold Go.Ps.hW;split
 .rfl
 .rename_i x a;simp only[World.cell?,b];rw[if_neg (by simp)];rw[<-Array.getElem?_toList,List.getElem?_map];cases e:Lib.pow10Tab[i]? with
  |none=>rfl
  |some z=>
   refine(a z ?_).elim;simp only[World.cell?,b];rw[if_neg (by simp), <-Array.getElem?_toList,List.getElem?_map,e];rfl
theorem bytes_of{H:Type}{enc:TypeId×Value->H}{w:World}{b:Nat}{j:Nat->Bool}{held:Bool}{f:Nat}{cs:List Value}{x:DataW H×List MemPlace}(h:DataW.trod enc Tryz.prog w b j held f 22 cs=some x):
 ∃(s:Go.Vc.Sl)(l:List UInt8),cs=[.slice s.a s.len s.cap]/\Go.Vc.cE (Go.Ps.hW w) s 1 (Go.Vc.bH l):=by
 obtain⟨s,t,o,p,d, -⟩:=Go.Ps.Pd (w:=w) (α:=Unit) (β:=UInt8) Tryz.underlying22 (show Tryz.prog.cellsOf 5=1 by kernel_rfl) aC (λc=>[.int .u8 c.toNat]) (λv u i n e=>by simp at i;rw[i]at e;cases e) (λ_ _=>True) h (λm c y _ _ q=>by
  obtain⟨k,e, -,g⟩:=DataW.trod_int Tryz.underlying5 q;have z:=bounds_u8 g;refine⟨(),UInt8.ofNat k.toNat,?_,trivial⟩;rw[e];have r:(UInt8.ofNat k.toNat).toNat=k.toNat:=by rw[UInt8.toNat_ofNat'];omega
  simp only[r,List.cons.injEq,Value.int.injEq,true_and,and_true];omega)
 exact⟨s,o,p,d⟩
theorem walk(s:Go.Vc.Sl)(l:List UInt8)(r:Go.Vc.Sl)(st:List (List (List Go.Ps.VV)))(w:World)(b:Go.Vc.cE (Go.Ps.hW w) s 1 (Go.Vc.bH l))(d:Go.Ps.Leaves (Go.Ps.hW w) r st)(f:Go.Ps.Vj st)(c:w.heap[1]? =some (.cells (Lib.pow10Tab.map λz=>Value.int .u64 z).toArray 323 (0,0))):
 Calls Tryz.prog 4 #[.slice s.a s.len s.cap,.agg ⟨[.slice r.a r.len r.cap]⟩] w λe w'=>e= .returned (.bool true)/\Below w.heap.size w w':=
 Go.Ps.law_calls (vs:=[.slice s.a s.len s.cap,.agg ⟨[.slice r.a r.len r.cap]⟩]) Go.Ps.bhJ c rfl (λ_ _ _=>Go.Ps.csQ) (hW_tab c) λK g=>⟨s,l,r,st,rfl,b,b.cap,d,f,⟨323,(0,0),by simp⟩,g⟩
set_option maxRecDepth 100000 in
theorem contract(H:Type)(enc:TypeId×Value->H)(W:World)(i:Nat)(args:Array Value)(w J:List (DataW H))(c:List MemPlace)
 (b:∀(j:Nat) t v,Tryz.f4.params[j]? =some t->args[j]? =some v->Value.okWide Tryz.prog W .any i t v)
 (hW:DataW.Whole enc Tryz.prog Tryz.f4.params.toList Rows.planRunsSpec.vars false W args.toList w J c)(S:laidMetH Tryz.prog Rows.planRunsRow.laid W)(y:W.ShapedOpen Tryz.prog)(z:Rows.uptoBulkAll (w++J)<=1048576):
 Calls Tryz.prog 4 args W λe W'=>∃v,e= .returned v/\Rows.planRunsSpec.post enc Tryz.prog Tryz.f4 false true false false W args v W':=by
 have A:=hW;obtain⟨p,q,k,T,rfl,U,V⟩:=hW;have K:DataW.TrodAll enc Tryz.prog W 0 (λ_=>true) true Tryz.f4.params.toList args.toList w p:=k;rw[Tryz.params4]at K b;obtain⟨L,X,d0,Y,Z,q0,B,rfl,rfl,M,r0⟩:=trodAll_cons K;obtain⟨N,a',d1,a1,p1,q1,d,rfl,rfl,O,r1⟩:=trodAll_cons r0;subst d;obtain⟨rfl,rfl,rfl⟩:=trodAll_nil r1;obtain rfl:args= #[L,N]:=by cases args;simp_all
 obtain⟨rfl,rfl⟩:=trodVars_none T;obtain⟨a0,KS,n,rfl⟩:=okWide_slice Tryz.underlying22 (b 0 22 L rfl rfl);obtain⟨o,rfl, -⟩:=okWide_struct Tryz.underlying25 (b 1 25 N rfl rfl);have P:=M;have Q:=O;have C:∀x∈Z,x.block<W.heap.size:=by obtain⟨m,D⟩:=P;exact DataW.trod_lt m _ _ _ D
 have E:∀x∈p1,x.block<W.heap.size:=by obtain⟨m,D⟩:=Q;exact DataW.trod_lt m _ _ _ D
 obtain⟨s,l,es,w0⟩:∃(s:Go.Vc.Sl)(l:List UInt8),Value.slice a0 KS n= .slice s.a s.len s.cap/\Go.Vc.cE (Go.Ps.hW W) s 1 (Go.Vc.bH l):=by
  obtain⟨u,F⟩:=M;obtain⟨s,l,e,r⟩:=bytes_of F;exact⟨s,l,by simpa[Value.cells]using e,r⟩
 obtain⟨g,r,er,G,I⟩:∃(g:List (List (List Go.Ps.VV)))(r:Go.Vc.Sl),Value.agg o= .agg ⟨[.slice r.a r.len r.cap]⟩/\Go.Ps.Leaves (Go.Ps.hW W) r g/\Go.Ps.Vj g:=by
  obtain⟨u,F⟩:=O;obtain⟨g,r,e,h3,h4, -⟩:=Go.Ps.Yj F (by simp only[Rows.uptoBulkAll,List.cons_append,List.nil_append]at z;show Rows.uptoBulk d1<=_;omega);refine⟨g,r,?_,h3,h4⟩;have e:o.toList=[.slice r.a r.len r.cap]:=e;rw[<-e]
 clear k;have R:=walk s l r g W w0 G I (table S y);rw[<-es, <-er]at R;refine R.mono λe W'⟨he,f⟩=>?_;subst he;exact⟨_,rfl,_,_,_,[],_,[],A,trodAll_mk1 (shut_bool Tryz.underlying4 _),(trodAll_cons_mk (Below.trod laidOut (by kernel_rfl) (of_decide_eq_true (by kernel_rfl)) P f C) (trodAll_cons_mk (Below.trod laidOut (by kernel_rfl) (of_decide_eq_true (by kernel_rfl)) Q f E) trodAll_mk0)),rfl,f.frame _,λh=>by cases h⟩
def noS:Value:=.agg #[.slice none 0 0]
def putCells(cs:Array Value):Obj->Obj
 |.cells _ t a=>.cells cs t a
 |o=>o
noncomputable def laidWorld(a:Os):World:=
 {World.holding Tryz.prog a ⟨#[], #[],[]⟩with heap:=(((World.holding Tryz.prog a ⟨#[], #[],[]⟩).heap.modify 1 (putCells (Lib.pow10Tab.map λz=>Value.int .u64 z).toArray)).modify 2 (putCells ([0,1,28,2,29,14,24,3,30,22,20,15,25,17,4,8,31,27,13,23,21,19,16,7,26,12,18,6,11,5,10,9].map λz=>Value.int .u8 z).toArray)).modify 3 (putCells ([0,1,56,2,57,49,28,3,61,58,42,50,38,29,17,4,62,47,59,36,45,43,51,22,53,39,33,30,24,18,12,5,63,55,48,27,60,41,37,16,46,35,44,21,52,32,23,11,54,26,40,15,34,20,31,10,25,14,19,9,13,8,7,6].map λz=>Value.int .u8 z).toArray)}
theorem laid_met(a:Os):laidMet Tryz.prog Rows.planRunsRow.laid ((laidWorld a).forCall (λ_ _=>0) ⟨#[], #[.slice none 0 0,noS],[]⟩).memory:=
 laidMet_of_run' 8 (by kernel_rfl) (by kernel_rfl)
theorem reads(b:Os){H:Type}(enc:TypeId×Value->H):∃a,DataW.whole enc Tryz.prog ((laidWorld b).forCall (λ_ _=>0) ⟨#[], #[.slice none 0 0,noS],[]⟩).memory Tryz.f4.params.toList Rows.planRunsSpec.vars false #[Value.slice none 0 0,noS].toList 8=some ([.nil,.agg [.nil]],[],a):=
 ⟨[],by kernel_rfl⟩
set_option maxRecDepth 100000 in
theorem lifted(c:Os)(a:c.Started)(H:Type)(enc:TypeId×Value->H)(F:Stop.Interp):
 ReturnsInHanded {} Tryz.checked c 4 .any ((Rows.OpenSpec.upto Rows.planRunsSpec).preRow enc Tryz.prog Tryz.f4 Rows.planRunsUptoRow.domain false Rows.planRunsUptoRow.laid) (((Rows.OpenSpec.upto Rows.planRunsSpec).at F).post enc Tryz.prog Tryz.f4 false true false false):=by
 obtain⟨f,h⟩:=reads c enc
 refine returnsInHanded_of_row (C:=Tryz.checked) (s:=Rows.OpenSpec.upto Rows.planRunsSpec) own a (by kernel_rfl) Tryz.func4
  (witness_row_at (enc:=enc) (C:=Tryz.checked) false (laidWorld c) #[.slice none 0 0,noS] rfl (by kernel_rfl) (by kernel_rfl) (by kernel_rfl)
   (OpenSpec.preRow_of_cond 8 h (by kernel_rfl) (λk i=>by cases i;kernel_rfl) (by kernel_rfl) (laid_met c))) ?_
 intro W d args j l b e hW _ m _ n g _;exact contract H enc W d args j l b e hW n g (of_decide_eq_true (m _ rfl))
theorem andT{a b:Bool}(x:a=true)(y:b=true):(a&&b)=true:=by rw[x,y];rfl
theorem fact0:(Rows.planRunsUptoRow.wf (OpenSpec.ofChange (Rows.OpenSpec.upto Rows.planRunsSpec).bare):Bool)=true:=by kernel_rfl
theorem fact1:(laidOutB Tryz.pinned.checked.prog:Bool)=true:=by kernel_rfl
theorem fact2:(mapsRowed Tryz.pinned.checked.prog:Bool)=true:=by kernel_rfl
theorem fact3:(Tryz.f4.params.all (Tryz.pinned.checked.prog.readableRec ·):Bool)=true:=by kernel_rfl
theorem fact4:(namedTie Tryz.pinned.checked.prog Rows.planRunsUptoRow.named (Rows.OpenSpec.upto Rows.planRunsSpec).bare.vars:Bool)=true:=by kernel_rfl
theorem fact5:((Rows.planRunsUptoRow.stops==[]):Bool)=true:=by kernel_rfl
theorem fact6:((Tryz.pinned.checked.prog.stops==[]):Bool)=true:=by kernel_rfl
theorem fact7:((Rows.planRunsUptoRow.knobs==[]):Bool)=true:=by kernel_rfl
theorem fact8:((Tryz.pinned.checked.prog.stopKnobs==[]):Bool)=true:=by kernel_rfl
theorem fact9:((Rows.planRunsUptoRow.inPlace==Tryz.pinned.checked.prog.inPlace 4):Bool)=true:=by kernel_rfl
theorem fact10:((Rows.planRunsUptoRow.unfollowed==Tryz.pinned.checked.prog.unfollowed 4):Bool)=true:=by kernel_rfl
theorem fact11:((Rows.planRunsUptoRow.recurses==Tryz.pinned.checked.prog.recurses 4):Bool)=true:=by kernel_rfl
theorem fact12:((Rows.planRunsUptoRow.named==Tryz.pinned.checked.prog.varsNamed 4):Bool)=true:=by kernel_rfl
theorem fact13:((Rows.planRunsUptoRow.maps==(Tryz.f4.params.toList++(Rows.OpenSpec.upto Rows.planRunsSpec).bare.plain.varTypes Tryz.pinned.checked.prog).any (Tryz.pinned.checked.prog.mapsRec ·)):Bool)=true:=by kernel_rfl
theorem fact14:((Rows.planRunsUptoRow.ifaces==(Tryz.f4.params.toList++(Rows.OpenSpec.upto Rows.planRunsSpec).bare.plain.varTypes Tryz.pinned.checked.prog).any (Tryz.pinned.checked.prog.ifacesRec ·)):Bool)=true:=by kernel_rfl
theorem fact15:((Rows.planRunsUptoRow.mapsOut==Tryz.pinned.checked.prog.mapsAmong Tryz.f4.resultTypes.toList):Bool)=true:=by kernel_rfl
theorem fact16:((Rows.planRunsUptoRow.loops==(Tryz.f4.params.toList++(Rows.OpenSpec.upto Rows.planRunsSpec).bare.plain.varTypes Tryz.pinned.checked.prog).any (Tryz.pinned.checked.prog.loopsFrom ·)):Bool)=true:=by kernel_rfl
theorem fact17:((Rows.planRunsUptoRow.wideKeys==(Tryz.f4.params.toList++(Rows.OpenSpec.upto Rows.planRunsSpec).bare.plain.varTypes Tryz.pinned.checked.prog++Tryz.f4.resultTypes.toList).any (Tryz.pinned.checked.prog.wideKeysFrom ·)):Bool)=true:=by kernel_rfl
theorem fact18:((Rows.OpenSpec.upto Rows.planRunsSpec).bare.vars.all (Tryz.pinned.checked.prog.varReadable ·):Bool)=true:=by kernel_rfl
theorem fact19:(Tryz.f4.resultTypes.all (λt=>Tryz.pinned.checked.prog.readableRec t&&decide (t<Tryz.pinned.checked.prog.types.size)):Bool)=true:=by kernel_rfl
theorem fact20:((Rows.planRunsUptoRow.ifacesOut==Tryz.f4.resultTypes.toList.any (Tryz.pinned.checked.prog.ifacesRec ·)):Bool)=true:=by kernel_rfl
theorem fact21:((Rows.planRunsUptoRow.loopsOut==Tryz.f4.resultTypes.toList.any (Tryz.pinned.checked.prog.loopsFrom ·)):Bool)=true:=by kernel_rfl
theorem fact22:((Rows.planRunsUptoRow.plainKeys==Tryz.pinned.checked.prog.plainKeys):Bool)=true:=by kernel_rfl
theorem fact23:(Rows.planRunsUptoRow.shortTexts.isNone:Bool)=true:=by kernel_rfl
theorem fact24:(Tryz.pinned.checked.prog.stopsHeard:Bool)=true:=by kernel_rfl
theorem fact25:(Tryz.pinned.checked.prog.mayEnter:Bool)=true:=by kernel_rfl
theorem fact26:((Rows.planRunsUptoRow.lifted==Tryz.pinned.checked.prog.liftsFinal):Bool)=true:=by kernel_rfl
theorem fact27:((Tryz.pinned.checked.prog.make==some Rows.planRunsUptoRow.make):Bool)=true:=by kernel_rfl
theorem fact29:((Rows.planRunsUptoRow.pinned==Rows.planRunsUptoRow.pinnedBy):Bool)=true:=by kernel_rfl
theorem fact30:((Rows.planRunsUptoRow.veiled==(Tryz.f4.params.toList++(Rows.OpenSpec.upto Rows.planRunsSpec).bare.plain.varTypes Tryz.pinned.checked.prog++Tryz.f4.resultTypes.toList).any (Tryz.pinned.checked.prog.veiledRec ·)):Bool)=true:=by kernel_rfl
theorem fact31:(Rows.planRunsUptoRow.veiledFits Tryz.pinned.checked.prog Tryz.f4.params.toList (Tryz.f4.params.toList++(Rows.OpenSpec.upto Rows.planRunsSpec).bare.plain.varTypes Tryz.pinned.checked.prog++Tryz.f4.resultTypes.toList):Bool)=true:=by kernel_rfl
theorem facts:joinedFacts Tryz.pinned.checked.prog 4 Tryz.f4 (Rows.OpenSpec.upto Rows.planRunsSpec).bare Rows.planRunsUptoRow=true:=by
 unfold joinedFacts;exact andT (andT (andT (andT (andT (andT (andT (andT (andT (andT (andT (andT (andT (andT (andT (andT (andT (andT (andT (andT (andT (andT (andT (andT (andT (andT (andT (andT (andT (andT (andT fact0 fact1) fact2) fact3) fact4) fact5) fact6) fact7) fact8) fact9) fact10) fact11) fact12) fact13) fact14) fact15) fact16) fact17) fact18) fact19) fact20) fact21) fact22) fact23) fact24) fact25) fact26) fact27) (by kernel_rfl)) fact29) fact30) fact31
theorem named:Tryz.pinned.checked.prog.funcNamed Rows.planRunsUptoRow.func=some 4:=by kernel_rfl
theorem wraps:Tryz.f4.isWrapper Tryz.pinned.checked.prog Rows.planRunsUptoRow.wrapper Rows.planRunsUptoRow.mainSum:=by
 unfold Func.isWrapper;first|(rw[if_pos (by decide+kernel)];kernel_rfl)|(rw[if_neg (by decide+kernel)];exact⟨rfl,rfl⟩)
theorem said:Rows.PlanRunsUptoSaid:=
 OpenClaim.holds_of_cond 4 Tryz.f4 rfl rfl rfl rfl rfl rfl rfl ⟨rfl,rfl,rfl,rfl,rfl⟩ rfl rfl rfl rfl rfl named Tryz.func4 facts
  (of_decide_eq_true (by kernel_rfl)) (by unfold Func.isWrapper;first|(rw[if_pos (by decide+kernel)];kernel_rfl)|(rw[if_neg (by decide+kernel)];exact⟨rfl,rfl⟩))
  (λb a H enc _ F=>by rw[OpenClaim.pre_eq_preRow];exact lifted b a H enc F)
theorem plain(f:FuncId)(fn:Func)(c:Tryz.pinned.checked.prog.funcNamed "partsync/partsynclaw12.PlanRuns" =some f)(a:Tryz.pinned.checked.prog.funcs[f]? =some fn):
 false=Tryz.pinned.checked.prog.looks []/\∀(j:Nat) t,fn.params[j]? =some t->Tryz.pinned.checked.prog.wantsStandIn t=false:=by
 obtain rfl:f=4:=Option.some.inj ((show Tryz.prog.funcNamed "partsync/partsynclaw12.PlanRuns" =some 4 by kernel_rfl).symm.trans c) |>.symm;obtain rfl:fn=Tryz.f4:=(Option.some.inj (Tryz.func4.symm.trans a)).symm;refine⟨by kernel_rfl,λj t b=>?_⟩;rw[Tryz.params4]at b;have d:t=22\/t=25:=by simpa using Array.mem_of_getElem? b
 rcases d with rfl|rfl
 .exact(show Tryz.prog.wantsStandIn 22=false by kernel_rfl)
 .exact(show Tryz.prog.wantsStandIn 25=false by kernel_rfl)
end Go.Proofs.YtjpjambjoceofaaGreatDoor.planRuns
namespace Go.Proofs.YtjpjambjoceofaaGreatDoor
theorem planRunsUpto_card:Rows.PlanRunsUptoCardSaid:=
 Claim7.holds_tied_plain_at .later [] _ _ _ _ planRuns.said (λ_ h=>by cases h) (by kernel_rfl) (λ_ h=>by cases h) planRunsUpto_row_tie rfl ⟨rfl,rfl⟩ (by kernel_rfl) rfl planRuns.plain (by kernel_rfl)
#print axioms planRunsUpto_card
end Go.Proofs.YtjpjambjoceofaaGreatDoor
