/- Own work. -/
import Derived.Test.YtbpoogcannjnbaaGreatDoorCards
import Derived.Test.YtbpoogcannjnbaaGreatDoorTie
import Derived.WalkKit
import Derived.ProofKit
import Derived.OpenShut
import Derived.ShutString
import Derived.ChangeOld
import Derived.Below
import Derived.Carry
import Derived.Deep.DeepHandedRow
import Derived.Lib.LaidTab
import Derived.Stop.LaidErr
import Derived.Test.YtbpoogcannjnbaaGreatDoorGj
set_option linter.unusedVariables false
set_option linter.unusedSimpArgs false
namespace Go.Ps
open Go Go.Vc Go.Proofs
theorem law_calls{f:FuncId}{S:Vc.Spec}(H:Sound Tryz.prog f S){w:World}{p:List CV}{vs:List Value}{h:PH}{T:TypeId}(D:w.heap[1]? =some (.cells (Lib.pow10Tab.map λz=>Value.int .u64 z).toArray T (0,0)))
 (q:p=vs.map .val)(s:∀b o v,h b o=some v->w.cell? ⟨b,o,none⟩=some v)(I:∀i,h 1 i=none)
 (E:∀K,(∀m' y,(∀b o,(λb=>if b=1 then some (Obj.cells (Lib.pow10Tab.map λz=>Value.int .u64 z).toArray T (0,0))else none:MH) b=some o->m' b=some o)->K (cB true) m' y)->S p (λb=>if b=1 then some (.cells (Lib.pow10Tab.map λz=>Value.int .u64 z).toArray T (0,0))else none) h K):
 Calls Tryz.prog f vs.toArray w λe w'=>e= .returned (.bool true)/\Go.RowKit.Below w.heap.size w w':=by
 subst q
 have l:Cy w (vs.map .val) vs:=by
  clear E
  induction vs with
  |nil=>trivial
  |cons v vs J=>exact⟨rfl,J⟩
 have a:∀(i:Nat)(c:CV)(u:Value)(b:Nat),(vs.map CV.val)[i]? =some c->gA c u=some b->False:=λi c u b F g=>by
  rw[List.getElem?_map,Option.map_eq_some_iff]at F;obtain⟨v,_,rfl⟩:=F;cases g
 have t:AK w (λb=>if b=1 then some (.cells (Lib.pow10Tab.map λz=>Value.int .u64 z).toArray T (0,0))else none) h (vs.map .val) vs:=by
  refine⟨l,s,λb o e=>?_,λb o e i=>?_,λi j c d u v b m G A P L Q=>(a i c u b m L).elim,λi c u b m G A=>(a i c u b m A).elim⟩
  .by_cases g:b=1
   .subst g;simp at e;rw[<-e];exact D
   .simp[g]at e
  .by_cases g:b=1
   .subst g;exact I i
   .simp[g]at e
 refine(H.2 _ vs _ h w (λr m' y=>r=cB true/\m' 1=some (.cells (Lib.pow10Tab.map λz=>Value.int .u64 z).toArray T (0,0))) (E _ λm' y M=>⟨rfl,M 1 _ (by simp)⟩) t).mono ?_;rintro e w' ⟨r,u,m',y,rfl,⟨rfl,B⟩,C,n,_⟩;have N:u= .bool true:=C;subst N;refine⟨rfl,⟨n.os,n.tape,n.output,n.size,λk O=>?_⟩⟩;by_cases g:k=1
 .subst g;rw[n.msat 1 _ B,D]
 .refine n.frame k O ?_;rintro(m|⟨i,c,u,m,G,A⟩)
  .exact m (by simp[g])
  .exact a i c u k m A
end Go.Ps
namespace Go.Proofs.YtbpoogcannjnbaaGreatDoor.permitGrows
open Go.ChangeShapes Go.WideShapes Go.ChangeAt Go.RowKit
set_option linter.unusedVariables false
theorem own:ownKnob Tryz.prog.godebug=none:=by kernel_rfl
theorem laidOut:laidOutB Tryz.prog=true:=by kernel_rfl
theorem gTab:Tryz.prog.globalNamed "internal/strconv.uint64pow10" =some 1:=by kernel_rfl
theorem gTabType:(Tryz.prog.globals[1]?).map (·.type)=some 303:=by kernel_rfl
theorem gSize:1<Tryz.prog.globals.size:=of_decide_eq_true (by kernel_rfl)
theorem cells303:Tryz.prog.cellsOf 303=20:=by kernel_rfl
theorem cells287:Tryz.prog.cellsOf 287=1:=by kernel_rfl
theorem under303:Tryz.prog.underlying 303=some (.array 20 287):=by kernel_rfl
theorem under287:Tryz.prog.underlying 287=some (.int .u64):=by kernel_rfl
theorem row0:(((begin Tryz.prog (λ_ _=>0) default).world.heap[1]?).bind Obj.row?).map (·.2)=some 303:=by kernel_rfl
theorem tabEq:(Rows.laid_internal_strconv_uint64pow10:DataW Unit)=Lib.tabData .u64 Lib.pow10Tab:=by kernel_rfl
theorem table{W:World}(h:laidMetH Tryz.prog Rows.permitGrowsRow.laid W)(b:W.ShapedOpen Tryz.prog):W.heap[1]? =some (.cells (Lib.pow10Tab.map λz=>Value.int .u64 z).toArray 303 (0,0)):=by
 have e:laidMet Tryz.prog [("math/bits.deBruijn32tab",Rows.laid_math_bits_deBruijn32tab),("math/bits.deBruijn64tab",Rows.laid_math_bits_deBruijn64tab),("internal/strconv.uint64pow10",Rows.laid_internal_strconv_uint64pow10)] W:=h;have f:laidMet Tryz.prog [("internal/strconv.uint64pow10",Lib.tabData .u64 Lib.pow10Tab)] W:=by rw[<-tabEq];exact e.tail.tail
 have a:Lib.TabIs Tryz.prog W "internal/strconv.uint64pow10" .u64 Lib.pow10Tab:=Lib.tabIs_of_head (rest:=[]) gTab gTabType under303 under287 cells287 cells303 f;have g:=row0;obtain⟨⟨zero,t⟩,i,c⟩:=Option.map_eq_some_iff.1 g;have c:t=303:=c;subst c;obtain⟨cs,d,_,_⟩:=b.1 1 zero 303 gSize i;unfold Lib.TabIs World.var? at a;rw[gTab]at a;simp only[Option.bind_some,d,Option.some.injEq]at a;rw[d,a]
def IsRow(k:IntKind)(w:World)(a:Option Addr)(len cap:Nat)(b:List Int):Prop:=
 (a=none/\len=0/\cap=0/\b=[])\/
 ∃x,a=some x/\len<=cap/\cap<=maxLen/\b.length=cap/\(∀i,i<b.length->w.cell? (x.add i)=some (.int k (b.getD i 0)))/\∀n∈b,(Lit.int k n).wf=true
open Go.Ps Go.Vc in
theorem bytes_in{w:World}{a:Option Addr}{len cap:Nat}{k:List Int}(u:IsRow .u8 w a len cap k){T:TypeId}(y:w.heap[1]? =some (.cells (Lib.pow10Tab.map λz=>Value.int .u64 z).toArray T (0,0))):
 len<=cap/\∃(h:PH)(cs:List UInt8),(∀b o v,h b o=some v->w.cell? ⟨b,o,none⟩=some v)/\(∀i,h 1 i=none)/\bX h ⟨a,len,cap⟩ 1 (cC cs):=by
 rcases u with⟨rfl,rfl,rfl,rfl⟩|⟨x,rfl,l,F,G,d,m⟩
 .exact⟨Nat.le_refl _,λ_ _=>none,[],λb o v e=>by simp at e,λ_=>rfl,rfl,.inl rfl,Nat.le_refl _⟩
 .refine⟨l,?_⟩;by_cases A:len=0
  .subst A;exact⟨λ_ _=>none,[],λb o v e=>by simp at e,λ_=>rfl,rfl,.inl rfl,l⟩
  .obtain⟨b,f,rfl,q⟩:=ints_at d aC;refine⟨λr i=>if r=b/\f<=i/\i<f+len then w.cell? ⟨b,i,none⟩else none,(k.take len).map (λz=>UInt8.ofNat z.toNat),λr o v e=>?_,λi=>?_,by simp[cC];omega,.inr ⟨b,f,rfl,λi e s=>⟨λj v n=>?_⟩⟩,l⟩
   .simp only at e;split at e
    .rename_i t;rw[t.1];exact e
    .cases e
   .simp only;rw[if_neg];rintro⟨rfl,t,H⟩;have g:=q 0 aC;simp only[World.cell?,y]at g;rw[if_neg (by simp)]at g;rw[<-Array.getElem?_toList,List.getElem?_map,Option.map_eq_some_iff]at g;obtain⟨z,_,B⟩:=g;cases B
   .simp only[cC,List.getElem?_map,Option.map_map,Option.map_eq_some_iff,List.getElem?_take]at s;obtain⟨z,c,rfl⟩:=s;split at c
    .rename_i C;have p:=(List.getElem?_eq_some_iff.1 c).1;cases j with
     |succ j=>simp at n
     |zero=>
      simp only[Function.comp,List.getElem?_cons_zero,Option.some.injEq]at n;subst n;simp only[Nat.mul_one,Nat.add_zero];rw[if_pos (by simp;omega),q i p];have I:=bounds_u8 (m z (List.mem_of_getElem? c));have D:k.getD i 0=z:=by simp[List.getD,c]
      rw[D]
      have E:(UInt8.ofNat z.toNat).toNat=z.toNat:=by
       rw[UInt8.toNat_ofNat'];omega
      rw[E];simp;omega
    .cases c
theorem walk(b:Option Addr)(Kx a:Nat)(d:List Int)(w:World)(f:IsRow .u8 w b Kx a d)(c:w.heap[1]? =some (.cells (Lib.pow10Tab.map λz=>Value.int .u64 z).toArray 303 (0,0))):
 Calls Tryz.prog 5 #[.slice b Kx a] w λe w'=>e= .returned (.bool true)/\Below w.heap.size w w':=by
 obtain⟨g,h,cs,i,j,k⟩:=bytes_in f c;exact Go.Ps.law_calls (vs:=[.slice b Kx a]) Go.Ps.bd c rfl i j λK l=>⟨⟨b,Kx,a⟩,cs,rfl,k,g,⟨303,(0,0),by simp⟩,l⟩
set_option maxRecDepth 100000 in
theorem contract(H:Type)(enc:TypeId×Value->H)(W:World)(i:Nat)(args:Array Value)(ds I:List (DataW H))(b:List MemPlace)
 (d:∀(j:Nat) t v,Tryz.f5.params[j]? =some t->args[j]? =some v->Value.okWide Tryz.prog W .any i t v)
 (A:DataW.Whole enc Tryz.prog Tryz.f5.params.toList Rows.permitGrowsSpec.vars false W args.toList ds I b)(J:laidMetH Tryz.prog Rows.permitGrowsRow.laid W)(o:W.ShapedOpen Tryz.prog):
 Calls Tryz.prog 5 args W λe W'=>∃v,e= .returned v/\Rows.permitGrowsSpec.post enc Tryz.prog Tryz.f5 false true false false W args v W':=by
 have r:=A;obtain⟨p,q,k,K,rfl,L,M⟩:=A;have B:DataW.TrodAll enc Tryz.prog W 0 (λ_=>true) true Tryz.f5.params.toList args.toList ds p:=k;rw[Tryz.params5]at B d;obtain⟨C,N,Y,O,P,Z,s,rfl,rfl,D,Q⟩:=trodAll_cons B;obtain⟨rfl,rfl,rfl⟩:=trodAll_nil Q;obtain rfl:args= #[C]:=by cases args;simp_all
 obtain⟨rfl,rfl⟩:=trodVars_none K;obtain⟨E,Kx,f,rfl⟩:=okWide_slice Tryz.underlying22 (d 0 22 C rfl rfl);have F:=D;have u:∀x∈P,x.block<W.heap.size:=by obtain⟨m,w⟩:=F;exact DataW.trod_lt m _ _ _ w
 obtain⟨R,S⟩:∃y,IsRow .u8 W E Kx f y:=by
  obtain⟨G,T⟩:=D;rcases open_ints Tryz.underlying22 Tryz.underlying5 (by kernel_rfl) T with⟨a,_⟩|⟨x,l,c,y,a,_,U,w,V,_,g,z⟩
  .simp[Value.cells]at a;obtain⟨rfl,rfl,rfl⟩:=a;exact⟨[],.inl ⟨rfl,rfl,rfl,rfl⟩⟩
  .simp[Value.cells]at a;obtain⟨rfl,rfl,rfl⟩:=a;exact⟨y,.inr ⟨_,rfl,U,w,by simpa using V,g,z⟩⟩
 clear k;refine(walk E Kx f R W S (table J o)).mono λe W'⟨X,n⟩=>?_;subst X;exact⟨_,rfl,_,_,_,[],_,[],r,trodAll_mk1 (shut_bool Tryz.underlying4 _),(trodAll_cons_mk (Below.trod laidOut (by kernel_rfl) (of_decide_eq_true (by kernel_rfl)) F n u) trodAll_mk0),rfl,n.frame _,λh=>by cases h⟩
def putCells(cs:Array Value):Obj->Obj
 |.cells _ t a=>.cells cs t a
 |o=>o
noncomputable def laidWorld(a:Os):World:=
 {World.holding Tryz.prog a ⟨#[], #[],[]⟩with heap:=(((World.holding Tryz.prog a ⟨#[], #[],[]⟩).heap.modify 1 (putCells (Lib.pow10Tab.map λz=>Value.int .u64 z).toArray)).modify 2 (putCells ([0,1,28,2,29,14,24,3,30,22,20,15,25,17,4,8,31,27,13,23,21,19,16,7,26,12,18,6,11,5,10,9].map λz=>Value.int .u8 z).toArray)).modify 3 (putCells ([0,1,56,2,57,49,28,3,61,58,42,50,38,29,17,4,62,47,59,36,45,43,51,22,53,39,33,30,24,18,12,5,63,55,48,27,60,41,37,16,46,35,44,21,52,32,23,11,54,26,40,15,34,20,31,10,25,14,19,9,13,8,7,6].map λz=>Value.int .u8 z).toArray)}
theorem laid_met(a:Os):laidMet Tryz.prog Rows.permitGrowsRow.laid ((laidWorld a).forCall (λ_ _=>0) ⟨#[], #[.slice none 0 0],[]⟩).memory:=
 laidMet_of_run' 8 (by kernel_rfl) (by kernel_rfl)
theorem reads(b:Os){H:Type}(enc:TypeId×Value->H):∃a,DataW.whole enc Tryz.prog ((laidWorld b).forCall (λ_ _=>0) ⟨#[], #[.slice none 0 0],[]⟩).memory Tryz.f5.params.toList Rows.permitGrowsSpec.vars false #[Value.slice none 0 0].toList 8=some ([.nil],[],a):=
 ⟨[],by kernel_rfl⟩
set_option maxRecDepth 100000 in
theorem lifted(c:Os)(a:c.Started)(H:Type)(enc:TypeId×Value->H)(F:Stop.Interp):
 ReturnsInHanded {} Tryz.checked c 5 .any ((OpenSpec.ofChange Rows.permitGrowsSpec).preRow enc Tryz.prog Tryz.f5 Rows.permitGrowsRow.domain false Rows.permitGrowsRow.laid) (((OpenSpec.ofChange Rows.permitGrowsSpec).at F).post enc Tryz.prog Tryz.f5 false true false false):=by
 obtain⟨f,h⟩:=reads c enc
 refine returnsInHanded_of_row (C:=Tryz.checked) (s:=OpenSpec.ofChange Rows.permitGrowsSpec) own a (by kernel_rfl) Tryz.func5
  (witness_row_at (enc:=enc) (C:=Tryz.checked) false (laidWorld c) #[.slice none 0 0] rfl (by kernel_rfl) (by kernel_rfl) (by kernel_rfl)
   (OpenSpec.preRow_of_cond 8 h (by kernel_rfl) (λk i=>by cases i) (by kernel_rfl) (laid_met c))) ?_
 intro W d args j l b e m _ _ _ n g _;exact contract H enc W d args j l b e m n g
theorem said:Rows.PermitGrowsSaid:=
 OpenClaim.holds_of_cond 5 Tryz.f5 rfl rfl rfl rfl rfl rfl rfl ⟨rfl,rfl,rfl,rfl,rfl⟩ rfl rfl rfl rfl rfl (by kernel_rfl) Tryz.func5 (by kernel_rfl)
  (of_decide_eq_true (by kernel_rfl)) (by unfold Func.isWrapper;first|(rw[if_pos (by decide+kernel)];kernel_rfl)|(rw[if_neg (by decide+kernel)];exact⟨rfl,rfl⟩))
  (λb a H enc _ F=>by rw[OpenClaim.pre_eq_preRow];exact lifted b a H enc F)
theorem plain(f:FuncId)(fn:Func)(c:Tryz.pinned.checked.prog.funcNamed "partsync/partsynclaw17.PermitGrows" =some f)(a:Tryz.pinned.checked.prog.funcs[f]? =some fn):
 false=Tryz.pinned.checked.prog.looks []/\∀(j:Nat) t,fn.params[j]? =some t->Tryz.pinned.checked.prog.wantsStandIn t=false:=by
 obtain rfl:f=5:=Option.some.inj ((show Tryz.prog.funcNamed "partsync/partsynclaw17.PermitGrows" =some 5 by kernel_rfl).symm.trans c) |>.symm;obtain rfl:fn=Tryz.f5:=(Option.some.inj (Tryz.func5.symm.trans a)).symm;refine⟨by kernel_rfl,λj t b=>?_⟩;rw[Tryz.params5]at b;obtain rfl:t=22:=by simpa using Array.mem_of_getElem? b
 exact(show Tryz.prog.wantsStandIn 22=false by kernel_rfl)
end Go.Proofs.YtbpoogcannjnbaaGreatDoor.permitGrows
namespace Go.Proofs.YtbpoogcannjnbaaGreatDoor
theorem permitGrows_card:Rows.PermitGrowsCardSaid:=
 Claim7.holds_tied_plain_at .later [] _ _ _ _ permitGrows.said (λ_ h=>by cases h) (by kernel_rfl) (λ_ h=>by cases h) permitGrows_row_tie rfl ⟨rfl,rfl⟩ (by kernel_rfl) rfl permitGrows.plain (by kernel_rfl)
#print axioms permitGrows_card
end Go.Proofs.YtbpoogcannjnbaaGreatDoor
