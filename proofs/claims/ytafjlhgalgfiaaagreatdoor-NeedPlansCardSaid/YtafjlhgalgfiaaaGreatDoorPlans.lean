/- Own work. -/
import Derived.Test.YtafjlhgalgfiaaaGreatDoorCards
import Derived.Test.YtafjlhgalgfiaaaGreatDoorTie
import Derived.WalkKit
import Derived.ProofKit
import Derived.OpenShut
import Derived.ShutString
import Derived.ChangeOld
import Derived.Below
import Derived.Carry
import Derived.Deep.DeepHandedRow
import Derived.Lib.LaidTab
import Derived.Stop.LaidErr
import Derived.Test.YtafjlhgalgfiaaaGreatDoorPk
set_option linter.unusedVariables false
set_option linter.unusedSimpArgs false
namespace Go.Ps
open Go Go.Vc Go.Proofs
theorem law_calls{f S}(H:Sound Tryz.prog f S){w p}{vs:List Value}{h T}(D:w.heap[1]? =some (.cells (Lib.pow10Tab.map λz=>Value.int .u64 z).toArray T (0,0)))(s:p=vs.map .val)(t:∀b o v,h b o=some v->w.cell? ⟨b,o,none⟩=some v)(I:∀i,h 1 i=none)(E:∀K,(∀m' y,(∀b o,(λb=>if b=1 then some (Obj.cells (Lib.pow10Tab.map λz=>Value.int .u64 z).toArray T (0,0))else none:MH) b=some o->m' b=some o)->K (cB true) m' y)->S p (λb=>if b=1 then some (.cells (Lib.pow10Tab.map λz=>Value.int .u64 z).toArray T (0,0))else none) h K):
 Calls Tryz.prog f vs.toArray w λe w'=>e= .returned (.bool true)/\Go.RowKit.Below w.heap.size w w':=by
 subst s
 have l:DY w (vs.map .val) vs:=by
  clear E
  induction vs with
  |nil=>trivial
  |cons v vs J=>exact⟨rfl,J⟩
 have a:∀(i:Nat)(c:CV)(u:Value)(b:Nat),(vs.map CV.val)[i]? =some c->jF c u=some b->False:=λi c u b F g=>by
  rw[List.getElem?_map,Option.map_eq_some_iff]at F;obtain⟨v,_,rfl⟩:=F;cases g
 have x:Dr w (λb=>if b=1 then some (.cells (Lib.pow10Tab.map λz=>Value.int .u64 z).toArray T (0,0))else none) h (vs.map .val) vs:=by
  refine⟨l,t,λb o e=>?_,λb o e i=>?_,λi j c d u v b m G A P L Q=>(a i c u b m L).elim,λi c u b m G A=>(a i c u b m A).elim⟩
  .by_cases g:b=1
   .subst g;simp at e;rw[<-e];exact D
   .simp[g]at e
  .by_cases g:b=1
   .subst g;exact I i
   .simp[g]at e
 refine(H.2 _ vs _ h w (λr m' y=>r=cB true/\m' 1=some (.cells (Lib.pow10Tab.map λz=>Value.int .u64 z).toArray T (0,0))) (E _ λm' y M=>⟨rfl,M 1 _ (by simp)⟩) x).mono ?_;rintro e w' ⟨r,u,m',y,rfl,⟨rfl,B⟩,C,n,_⟩;have N:u= .bool true:=C;subst N;refine⟨rfl,⟨n.os,n.tape,n.output,n.size,λk O=>?_⟩⟩;by_cases g:k=1
 .subst g;rw[n.msat 1 _ B,D]
 .refine n.frame k O ?_;rintro(m|⟨i,c,u,m,G,A⟩)
  .exact m (by simp[g])
  .exact a i c u k m A
end Go.Ps
namespace Go.Proofs.YtafjlhgalgfiaaaGreatDoor.needPlans
open Go.ChangeShapes Go.WideShapes Go.ChangeAt Go.RowKit
set_option linter.unusedVariables false
theorem own:ownKnob Tryz.prog.godebug=none:=by kernel_rfl
theorem laidOut:laidOutB Tryz.prog=true:=by kernel_rfl
theorem gTab:Tryz.prog.globalNamed "internal/strconv.uint64pow10" =some 1:=by kernel_rfl
theorem gTabType:(Tryz.prog.globals[1]?).map (·.type)=some 296:=by kernel_rfl
theorem gSize:1<Tryz.prog.globals.size:=of_decide_eq_true (by kernel_rfl)
theorem cells289:Tryz.prog.cellsOf 296=20:=by kernel_rfl
theorem cells263:Tryz.prog.cellsOf 263=1:=by kernel_rfl
theorem under289:Tryz.prog.underlying 296=some (.array 20 263):=by kernel_rfl
theorem under263:Tryz.prog.underlying 263=some (.int .u64):=by kernel_rfl
theorem row0:(((begin Tryz.prog (λ_ _=>0) default).world.heap[1]?).bind Obj.row?).map (·.2)=some 296:=by kernel_rfl
theorem tabEq:(Rows.laid_internal_strconv_uint64pow10:DataW Unit)=Lib.tabData .u64 Lib.pow10Tab:=by kernel_rfl
theorem table{W}(h:laidMetH Tryz.prog Rows.needPlansRow.laid W)(b:W.ShapedOpen Tryz.prog):W.heap[1]? =some (.cells (Lib.pow10Tab.map λz=>Value.int .u64 z).toArray 296 (0,0)):=by
 have e:laidMet Tryz.prog [("math/bits.deBruijn32tab",Rows.laid_math_bits_deBruijn32tab),("math/bits.deBruijn64tab",Rows.laid_math_bits_deBruijn64tab),("internal/strconv.uint64pow10",Rows.laid_internal_strconv_uint64pow10)] W:=h;have f:laidMet Tryz.prog [("internal/strconv.uint64pow10",Lib.tabData .u64 Lib.pow10Tab)] W:=by rw[<-tabEq];exact e.tail.tail
 have a:Lib.TabIs Tryz.prog W "internal/strconv.uint64pow10" .u64 Lib.pow10Tab:=Lib.tabIs_of_head (rest:=[]) gTab gTabType under289 under263 cells263 cells289 f;have g:=row0;obtain⟨⟨zero,t⟩,i,c⟩:=Option.map_eq_some_iff.1 g;have c:t=296:=c;subst c;obtain⟨j,d,_,_⟩:=b.1 1 zero 296 gSize i;unfold Lib.TabIs World.var? at a;rw[gTab]at a;simp only[Option.bind_some,d,Option.some.injEq]at a;rw[d,a]
def IsRow(k:IntKind)(w:World)(a:Option Addr)(len b:Nat)(c:List Int):=
 (a=none/\len=0/\b=0/\c=[])\/
 ∃x,a=some x/\len<=b/\b<=maxLen/\c.length=b/\(∀i,i<c.length->w.cell? (x.add i)=some (.int k (c.getD i 0)))/\∀n∈c,(Lit.int k n).wf=true
open Go.Ps Go.Vc in
theorem bytes_in{w:World}{a:Option Addr}{len d:Nat}{m:List Int}(B:IsRow .u8 w a len d m){T:TypeId}(C:w.heap[1]? =some (.cells (Lib.pow10Tab.map λz=>Value.int .u64 z).toArray T (0,0))):
 len<=d/\∃(h:PH)(cs:List UInt8),(∀b o v,h b o=some v->w.cell? ⟨b,o,none⟩=some v)/\(∀i,h 1 i=none)/\cO h ⟨a,len,d⟩ 1 (bJ cs):=by
 rcases B with⟨rfl,rfl,rfl,rfl⟩|⟨x,rfl,n,I,J,f,p⟩
 .exact⟨Nat.le_refl _,λ_ _=>none,[],λb o v e=>by simp at e,λ_=>rfl,rfl,.inl rfl,Nat.le_refl _⟩
 .refine⟨n,?_⟩;by_cases D:len=0
  .subst D;exact⟨λ_ _=>none,[],λb o v e=>by simp at e,λ_=>rfl,rfl,.inl rfl,n⟩
  .obtain⟨b,g,rfl,t⟩:=ints_at f aD;refine⟨λu i=>if u=b/\g<=i/\i<g+len then w.cell? ⟨b,i,none⟩else none,(m.take len).map (λz=>UInt8.ofNat z.toNat),λu o v e=>?_,λi=>?_,by simp[bJ];omega,.inr ⟨b,g,rfl,λi e y=>⟨λj v r=>?_⟩⟩,n⟩
   .simp only at e;split at e
    .rename_i A;rw[A.1];exact e
    .cases e
   .simp only;rw[if_neg];rintro⟨rfl,A,K⟩;have l:=t 0 aD;simp only[World.cell?,C]at l;rw[if_neg (by simp)]at l;rw[<-Array.getElem?_toList,List.getElem?_map,Option.map_eq_some_iff]at l;obtain⟨z,_,E⟩:=l;cases E
   .simp only[bJ,List.getElem?_map,Option.map_map,Option.map_eq_some_iff,List.getElem?_take]at y;obtain⟨z,c,rfl⟩:=y;split at c
    .rename_i F;have s:=(List.getElem?_eq_some_iff.1 c).1;cases j with
     |succ j=>simp at r
     |zero=>
      simp only[Function.comp,List.getElem?_cons_zero,Option.some.injEq]at r;subst r;simp only[Nat.mul_one,Nat.add_zero];rw[if_pos (by simp;omega),t i s];have L:=bounds_u8 (p z (List.mem_of_getElem? c));have G:m.getD i 0=z:=by simp[List.getD,c]
      rw[G]
      have H:(UInt8.ofNat z.toNat).toNat=z.toNat:=by
       rw[UInt8.toNat_ofNat'];omega
      rw[H];simp;omega
    .cases c
theorem walk b Ft a d w(f:IsRow .u8 w b Ft a d)(c:w.heap[1]? =some (.cells (Lib.pow10Tab.map λz=>Value.int .u64 z).toArray 296 (0,0))):
 Calls Tryz.prog 3 #[.slice b Ft a] w λe w'=>e= .returned (.bool true)/\Below w.heap.size w w':=by
 obtain⟨g,h,i,j,l,m⟩:=bytes_in f c;exact Go.Ps.law_calls (vs:=[.slice b Ft a]) Go.Ps.bFZ c rfl j l λK n=>⟨⟨b,Ft,a⟩,i,rfl,m,g,⟨296,(0,0),by simp⟩,n⟩
set_option maxRecDepth 100000 in
theorem contract H(enc:TypeId×Value->H) W i args ds K b(d:∀(j:Nat) t v,Tryz.f3.params[j]? =some t->args[j]? =some v->Value.okWide Tryz.prog W .any i t v)(C:DataW.Whole enc Tryz.prog Tryz.f3.params.toList Rows.needPlansSpec.vars false W args.toList ds K b)(L:laidMetH Tryz.prog Rows.needPlansRow.laid W)(r:W.ShapedOpen Tryz.prog):
 Calls Tryz.prog 3 args W λe W'=>∃v,e= .returned v/\Rows.needPlansSpec.post enc Tryz.prog Tryz.f3 false true false false W args v W':=by
 have s:=C;obtain⟨p,q,n,M,rfl,N,O⟩:=C;have D:DataW.TrodAll enc Tryz.prog W 0 (λ_=>true) true Tryz.f3.params.toList args.toList ds p:=n;rw[Tryz.params3]at D d;obtain⟨E,P,d0,Q,R,q0,u,rfl,rfl,F,S⟩:=trodAll_cons D;obtain⟨rfl,rfl,rfl⟩:=trodAll_nil S;obtain rfl:args= #[E]:=by cases args;simp_all
 obtain⟨rfl,rfl⟩:=trodVars_none M;obtain⟨G,Ft,f,rfl⟩:=okWide_slice Tryz.underlying22 (d 0 22 E rfl rfl);have I:=F;have y:∀x∈R,x.block<W.heap.size:=by obtain⟨m,z⟩:=I;exact DataW.trod_lt m _ _ _ z
 obtain⟨T,U⟩:∃A,IsRow .u8 W G Ft f A:=by
  obtain⟨J,V⟩:=F;rcases open_ints Tryz.underlying22 Tryz.underlying5 (by kernel_rfl) V with⟨a,_⟩|⟨x,l,c,A,a,_,X,z,Y,_,g,B⟩
  .simp[Value.cells]at a;obtain⟨rfl,rfl,rfl⟩:=a;exact⟨[],.inl ⟨rfl,rfl,rfl,rfl⟩⟩
  .simp[Value.cells]at a;obtain⟨rfl,rfl,rfl⟩:=a;exact⟨A,.inr ⟨_,rfl,X,z,by simpa using Y,g,B⟩⟩
 clear n;refine(walk G Ft f T W U (table L r)).mono λe W'⟨Z,o⟩=>?_;subst Z;exact⟨_,rfl,_,_,_,[],_,[],s,trodAll_mk1 (shut_bool Tryz.underlying4 _),(trodAll_cons_mk (Below.trod laidOut (by kernel_rfl) (of_decide_eq_true (by kernel_rfl)) I o y) trodAll_mk0),rfl,o.frame _,λh=>by cases h⟩
def putCells(cs:Array Value):Obj->Obj
 |.cells _ t a=>.cells cs t a
 |o=>o
noncomputable def laidWorld a:=
 {World.holding Tryz.prog a ⟨#[], #[],[]⟩with heap:=(((World.holding Tryz.prog a ⟨#[], #[],[]⟩).heap.modify 1 (putCells (Lib.pow10Tab.map λz=>Value.int .u64 z).toArray)).modify 2 (putCells ([0,1,28,2,29,14,24,3,30,22,20,15,25,17,4,8,31,27,13,23,21,19,16,7,26,12,18,6,11,5,10,9].map λz=>Value.int .u8 z).toArray)).modify 3 (putCells ([0,1,56,2,57,49,28,3,61,58,42,50,38,29,17,4,62,47,59,36,45,43,51,22,53,39,33,30,24,18,12,5,63,55,48,27,60,41,37,16,46,35,44,21,52,32,23,11,54,26,40,15,34,20,31,10,25,14,19,9,13,8,7,6].map λz=>Value.int .u8 z).toArray)}
theorem laid_met a:laidMet Tryz.prog Rows.needPlansRow.laid ((laidWorld a).forCall (λ_ _=>0) ⟨#[], #[.slice none 0 0],[]⟩).memory:=
 laidMet_of_run' 8 (by kernel_rfl) (by kernel_rfl)
theorem reads b{H}(enc:TypeId×Value->H):∃a,DataW.whole enc Tryz.prog ((laidWorld b).forCall (λ_ _=>0) ⟨#[], #[.slice none 0 0],[]⟩).memory Tryz.f3.params.toList Rows.needPlansSpec.vars false #[Value.slice none 0 0].toList 8=some ([.nil],[],a):=
 ⟨[],by kernel_rfl⟩
set_option maxRecDepth 100000 in
theorem lifted c(a:c.Started) H(enc:TypeId×Value->H) F:
 ReturnsInHanded {} Tryz.checked c 3 .any ((OpenSpec.ofChange Rows.needPlansSpec).preRow enc Tryz.prog Tryz.f3 Rows.needPlansRow.domain false Rows.needPlansRow.laid) (((OpenSpec.ofChange Rows.needPlansSpec).at F).post enc Tryz.prog Tryz.f3 false true false false):=by
 obtain⟨f,h⟩:=reads c enc
 refine returnsInHanded_of_row (C:=Tryz.checked) (s:=OpenSpec.ofChange Rows.needPlansSpec) own a (by kernel_rfl) Tryz.func3
  (witness_row_at (enc:=enc) (C:=Tryz.checked) false (laidWorld c) #[.slice none 0 0] rfl (by kernel_rfl) (by kernel_rfl) (by kernel_rfl)
   (OpenSpec.preRow_of_cond 8 h (by kernel_rfl) (λk i=>by cases i) (by kernel_rfl) (laid_met c))) ?_
 intro W d args j l b e m _ _ _ n g _;exact contract H enc W d args j l b e m n g
theorem said:Rows.NeedPlansSaid:=
 OpenClaim.holds_of_cond 3 Tryz.f3 rfl rfl rfl rfl rfl rfl rfl ⟨rfl,rfl,rfl,rfl,rfl⟩ rfl rfl rfl rfl rfl (by kernel_rfl) Tryz.func3 (by kernel_rfl)
  (of_decide_eq_true (by kernel_rfl)) (by unfold Func.isWrapper;first|(rw[if_pos (by decide+kernel)];kernel_rfl)|(rw[if_neg (by decide+kernel)];exact⟨rfl,rfl⟩))
  (λb a H enc _ F=>by rw[OpenClaim.pre_eq_preRow];exact lifted b a H enc F)
theorem plain f fn(c:Tryz.pinned.checked.prog.funcNamed "partsync/partsynclaw14.NeedPlans" =some f)(a:Tryz.pinned.checked.prog.funcs[f]? =some fn):
 false=Tryz.pinned.checked.prog.looks []/\∀(j:Nat) t,fn.params[j]? =some t->Tryz.pinned.checked.prog.wantsStandIn t=false:=by
 obtain rfl:f=3:=Option.some.inj ((show Tryz.prog.funcNamed "partsync/partsynclaw14.NeedPlans" =some 3 by kernel_rfl).symm.trans c) |>.symm;obtain rfl:fn=Tryz.f3:=(Option.some.inj (Tryz.func3.symm.trans a)).symm;refine⟨by kernel_rfl,λj t b=>?_⟩;rw[Tryz.params3]at b;obtain rfl:t=22:=by simpa using Array.mem_of_getElem? b
 exact(show Tryz.prog.wantsStandIn 22=false by kernel_rfl)
end Go.Proofs.YtafjlhgalgfiaaaGreatDoor.needPlans
namespace Go.Proofs.YtafjlhgalgfiaaaGreatDoor
theorem needPlans_card:Rows.NeedPlansCardSaid:=
 Claim7.holds_tied_plain_at .later [] _ _ _ _ needPlans.said (λ_ h=>by cases h) (by kernel_rfl) (λ_ h=>by cases h) needPlans_row_tie rfl ⟨rfl,rfl⟩ (by kernel_rfl) rfl needPlans.plain (by kernel_rfl)
#print axioms needPlans_card
end Go.Proofs.YtafjlhgalgfiaaaGreatDoor
