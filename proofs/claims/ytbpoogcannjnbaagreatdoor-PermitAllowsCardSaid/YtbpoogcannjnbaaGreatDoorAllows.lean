/- PermitAllows returns true for every input, and its argument reads afterwards as it read before. Conditions: the card's own (the three listed tables of Go's library hold what the program's text lays). -/
import Derived.Test.YtbpoogcannjnbaaGreatDoorCards
import Derived.Test.YtbpoogcannjnbaaGreatDoorTie
import Derived.WalkKit
import Derived.ProofKit
import Derived.OpenShut
import Derived.ShutString
import Derived.ChangeOld
import Derived.Below
import Derived.Carry
import Derived.Deep.DeepHandedRow
import Derived.Lib.LaidTab
import Derived.Stop.LaidErr
import Derived.Test.YtbpoogcannjnbaaGreatDoorAl
set_option linter.unusedVariables false
set_option linter.unusedSimpArgs false
namespace Go.Ps
open Go Go.Vc Go.Proofs
theorem pd{f:FuncId}{S:AC}(H:af Tryz.prog f S){w:World}{p:List CV}{vs:List Value}{h:PH}{T:TypeId}(D:w.heap[1]? =some (.cells (Lib.pow10Tab.map λz=>.int .u64 z).toArray T (0,0)))(q:p=vs.map .val)(s:∀b o v,h b o=some v->w.cell? ⟨b,o,none⟩=some v)(I:∀i,h 1 i=none)(E:∀K,(∀m' y,(∀b o,(λb=>if b=1 then some (Obj.cells (Lib.pow10Tab.map λz=>.int .u64 z).toArray T (0,0))else none:MH) b=some o->m' b=some o)->K (cB true) m' y)->S p (λb=>if b=1 then some (.cells (Lib.pow10Tab.map λz=>.int .u64 z).toArray T (0,0))else none) h K):
 Calls Tryz.prog f vs.toArray w λe w'=>e= .returned (.bool true)/\Go.RowKit.Below w.heap.size w w':=by
 subst q
 have l:EM w (vs.map .val) vs:=by
  clear E
  induction vs with
  |nil=>trivial
  |cons v vs J=>exact⟨rfl,J⟩
 have a:∀(i:Nat)(c:CV)(u:Value)(b:Nat),(vs.map CV.val)[i]? =some c->jC c u=some b->False:=λi c u b F g=>by
  rw[List.getElem?_map,Option.map_eq_some_iff]at F;obtain⟨v,_,rfl⟩:=F;cases g
 have t:CJ w (λb=>if b=1 then some (.cells (Lib.pow10Tab.map λz=>Value.int .u64 z).toArray T (0,0))else none) h (vs.map .val) vs:=by
  refine⟨l,s,λb o e=>?_,λb o e i=>?_,λi j c d u v b m G A P L Q=>(a i c u b m L).elim,λi c u b m G A=>(a i c u b m A).elim⟩
  .by_cases g:b=1
   .subst g;simp at e;rw[<-e];exact D
   .simp[g]at e
  .by_cases g:b=1
   .subst g;exact I i
   .simp[g]at e
 refine(H.2 _ vs _ h w (λr m' y=>r=cB true/\m' 1=some (.cells (Lib.pow10Tab.map λz=>Value.int .u64 z).toArray T (0,0))) (E _ λm' y M=>⟨rfl,M 1 _ (by simp)⟩) t).mono ?_;rintro e w' ⟨r,u,m',y,rfl,⟨rfl,B⟩,C,n,_⟩;have N:u= .bool true:=C;subst N;refine⟨rfl,⟨n.os,n.tape,n.output,n.size,λk O=>?_⟩⟩;by_cases g:k=1
 .subst g;rw[n.t 1 _ B,D]
 .refine n.frame k O ?_;rintro(m|⟨i,c,u,m,G,A⟩)
  .exact m (by simp[g])
  .exact a i c u k m A
end Go.Ps
namespace Go.Proofs.YtbpoogcannjnbaaGreatDoor.permitAllows
open Go.ChangeShapes Go.WideShapes Go.ChangeAt Go.RowKit
set_option linter.unusedVariables false
theorem own:ownKnob Tryz.prog.godebug=none:=by kernel_rfl
theorem laidOut:laidOutB Tryz.prog=true:=by kernel_rfl
theorem gTab:Tryz.prog.globalNamed "internal/strconv.uint64pow10" =some 1:=by kernel_rfl
theorem qt:(Tryz.prog.globals[1]?).map (·.type)=some 303:=by kernel_rfl
theorem gSize:1<Tryz.prog.globals.size:=of_decide_eq_true (by kernel_rfl)
theorem ri:Tryz.prog.cellsOf 303=20:=by kernel_rfl
theorem rj:Tryz.prog.cellsOf 287=1:=by kernel_rfl
theorem pz:Tryz.prog.underlying 303=some (.array 20 287):=by kernel_rfl
theorem qc:Tryz.prog.underlying 287=some (.int .u64):=by kernel_rfl
theorem row0:(((begin Tryz.prog (λ_ _=>0) default).world.heap[1]?).bind Obj.row?).map (·.2)=some 303:=by kernel_rfl
theorem tabEq:(Rows.laid_internal_strconv_uint64pow10:DataW Unit)=Lib.tabData .u64 Lib.pow10Tab:=by kernel_rfl
theorem ah{W:World}(h:laidMetH Tryz.prog Rows.permitAllowsRow.laid W)(b:W.ShapedOpen Tryz.prog):W.heap[1]? =some (.cells (Lib.pow10Tab.map λz=>.int .u64 z).toArray 303 (0,0)):=by
 have e:laidMet Tryz.prog [("math/bits.deBruijn32tab",Rows.laid_math_bits_deBruijn32tab),("math/bits.deBruijn64tab",Rows.laid_math_bits_deBruijn64tab),("internal/strconv.uint64pow10",Rows.laid_internal_strconv_uint64pow10)] W:=h;have f:laidMet Tryz.prog [("internal/strconv.uint64pow10",Lib.tabData .u64 Lib.pow10Tab)] W:=by rw[<-tabEq];exact e.tail.tail
 have a:Lib.TabIs Tryz.prog W "internal/strconv.uint64pow10" .u64 Lib.pow10Tab:=Lib.tabIs_of_head (rest:=[]) gTab qt pz qc rj ri f;have g:=row0;obtain⟨⟨zero,t⟩,i,c⟩:=Option.map_eq_some_iff.1 g;have c:t=303:=c;subst c;obtain⟨cs,d,_,_⟩:=b.1 1 zero 303 gSize i;unfold Lib.TabIs World.var? at a;rw[gTab]at a;simp only[Option.bind_some,d,Option.some.injEq]at a;rw[d,a]
def sf(k:IntKind)(w:World)(a:Option Addr)(len cap:Nat)(b:List Int):Prop:=
 (a=none/\len=0/\cap=0/\b=[])\/
 ∃x,a=some x/\len<=cap/\cap<=maxLen/\b.length=cap/\(∀i,i<b.length->w.cell? (x.add i)=some (.int k (b.getD i 0)))/\∀n∈b,(Lit.int k n).wf=true
open Go.Ps Go.Vc in
theorem rm{w:World}{a:Option Addr}{len cap:Nat}{g:List Int}(u:sf .u8 w a len cap g){T:TypeId}(y:w.heap[1]? =some (.cells (Lib.pow10Tab.map λz=>Value.int .u64 z).toArray T (0,0))):
 len<=cap/\∃(h:PH)(cs:List UInt8),(∀b o v,h b o=some v->w.cell? ⟨b,o,none⟩=some v)/\(∀i,h 1 i=none)/\bT h ⟨a,len,cap⟩ 1 (dE cs):=by
 rcases u with⟨rfl,rfl,rfl,rfl⟩|⟨x,rfl,l,F,G,d,m⟩
 .exact⟨Nat.le_refl _,λ_ _=>none,[],λb o v e=>by simp at e,λ_=>rfl,rfl,.inl rfl,Nat.le_refl _⟩
 .refine⟨l,?_⟩;by_cases A:len=0
  .subst A;exact⟨λ_ _=>none,[],λb o v e=>by simp at e,λ_=>rfl,rfl,.inl rfl,l⟩
  .obtain⟨b,off,rfl,q⟩:=ints_at d aC;refine⟨λr i=>if r=b/\off<=i/\i<off+len then w.cell? ⟨b,i,none⟩else none,(g.take len).map (λz=>UInt8.ofNat z.toNat),λr o v e=>?_,λi=>?_,by simp[dE];omega,.inr ⟨b,off,rfl,λi e s=>⟨λj v n=>?_⟩⟩,l⟩
   .simp only at e;split at e
    .rename_i t;rw[t.1];exact e
    .cases e
   .simp only;rw[if_neg];rintro⟨rfl,t,H⟩;have f:=q 0 aC;simp only[World.cell?,y]at f;rw[if_neg (by simp)]at f;rw[<-Array.getElem?_toList,List.getElem?_map,Option.map_eq_some_iff]at f;obtain⟨z,_,B⟩:=f;cases B
   .simp only[dE,List.getElem?_map,Option.map_map,Option.map_eq_some_iff,List.getElem?_take]at s;obtain⟨z,c,rfl⟩:=s;split at c
    .rename_i C;have p:=(List.getElem?_eq_some_iff.1 c).1;cases j with
     |succ j=>simp at n
     |zero=>
      simp only[Function.comp,List.getElem?_cons_zero,Option.some.injEq]at n;subst n;simp only[Nat.mul_one,Nat.add_zero];rw[if_pos (by simp;omega),q i p];have I:=bounds_u8 (m z (List.mem_of_getElem? c));have D:g.getD i 0=z:=by simp[List.getD,c]
      rw[D]
      have E:(UInt8.ofNat z.toNat).toNat=z.toNat:=by
       rw[UInt8.toNat_ofNat'];omega
      rw[E];simp;omega
    .cases c
theorem walk(b:Option Addr)(NT a:Nat)(d:List Int)(w:World)(f:sf .u8 w b NT a d)(c:w.heap[1]? =some (.cells (Lib.pow10Tab.map λz=>.int .u64 z).toArray 303 (0,0))):
 Calls Tryz.prog 4 #[.slice b NT a] w λe w'=>e= .returned (.bool true)/\Below w.heap.size w w':=by
 obtain⟨g,h,cs,i,j,l⟩:=rm f c;exact Go.Ps.pd (vs:=[.slice b NT a]) Go.Ps.cqJ c rfl i j λK m=>⟨⟨b,NT,a⟩,cs,rfl,l,g,⟨303,(0,0),by simp⟩,m⟩
set_option maxRecDepth 100000 in
theorem rf(H:Type)(ag:TypeId×Value->H)(W:World)(i:Nat)(args:Array Value)(ds J:List (DataW H))(b:List MemPlace)
 (d:∀(j:Nat) t v,Tryz.f4.params[j]? =some t->args[j]? =some v->Value.okWide Tryz.prog W .any i t v)
 (B:DataW.Whole ag Tryz.prog Tryz.f4.params.toList Rows.permitAllowsSpec.vars false W args.toList ds J b)(K:laidMetH Tryz.prog Rows.permitAllowsRow.laid W)(r:W.ShapedOpen Tryz.prog):
 Calls Tryz.prog 4 args W λe W'=>∃v,e= .returned v/\Rows.permitAllowsSpec.post ag Tryz.prog Tryz.f4 false true false false W args v W':=by
 have s:=B;obtain⟨p,q,n,L,rfl,M,N⟩:=B;have C:DataW.TrodAll ag Tryz.prog W 0 (λ_=>true) true Tryz.f4.params.toList args.toList ds p:=n;rw[Tryz.params4]at C d;obtain⟨D,O,Z,P,Q,q0,u,rfl,rfl,E,R⟩:=trodAll_cons C;obtain⟨rfl,rfl,rfl⟩:=trodAll_nil R;obtain rfl:args= #[D]:=by cases args;simp_all
 obtain⟨rfl,rfl⟩:=trodVars_none L;obtain⟨F,NT,f,rfl⟩:=okWide_slice Tryz.underlying22 (d 0 22 D rfl rfl);have G:=E;have w:∀x∈Q,x.block<W.heap.size:=by obtain⟨m,y⟩:=G;exact DataW.trod_lt m _ _ _ y
 obtain⟨S,T⟩:∃z,sf .u8 W F NT f z:=by
  obtain⟨I,U⟩:=E;rcases open_ints Tryz.underlying22 Tryz.underlying5 (by kernel_rfl) U with⟨a,_⟩|⟨x,l,c,z,a,_,V,y,X,_,g,A⟩
  .simp[Value.cells]at a;obtain⟨rfl,rfl,rfl⟩:=a;exact⟨[],.inl ⟨rfl,rfl,rfl,rfl⟩⟩
  .simp[Value.cells]at a;obtain⟨rfl,rfl,rfl⟩:=a;exact⟨z,.inr ⟨_,rfl,V,y,by simpa using X,g,A⟩⟩
 clear n;refine(walk F NT f S W T (ah K r)).mono λe W'⟨Y,o⟩=>?_;subst Y;exact⟨_,rfl,_,_,_,[],_,[],s,trodAll_mk1 (shut_bool Tryz.underlying4 _),(trodAll_cons_mk (Below.trod laidOut (by kernel_rfl) (of_decide_eq_true (by kernel_rfl)) G o w) trodAll_mk0),rfl,o.frame _,λh=>by cases h⟩
def putCells(cs:Array Value):Obj->Obj
 |.cells _ t a=>.cells cs t a
 |o=>o
noncomputable def jq(a:Os):World:=
 {World.holding Tryz.prog a ⟨#[], #[],[]⟩with heap:=(((World.holding Tryz.prog a ⟨#[], #[],[]⟩).heap.modify 1 (putCells (Lib.pow10Tab.map λz=>.int .u64 z).toArray)).modify 2 (putCells ([0,1,28,2,29,14,24,3,30,22,20,15,25,17,4,8,31,27,13,23,21,19,16,7,26,12,18,6,11,5,10,9].map λz=>.int .u8 z).toArray)).modify 3 (putCells ([0,1,56,2,57,49,28,3,61,58,42,50,38,29,17,4,62,47,59,36,45,43,51,22,53,39,33,30,24,18,12,5,63,55,48,27,60,41,37,16,46,35,44,21,52,32,23,11,54,26,40,15,34,20,31,10,25,14,19,9,13,8,7,6].map λz=>.int .u8 z).toArray)}
theorem qo(a:Os):laidMet Tryz.prog Rows.permitAllowsRow.laid ((jq a).forCall (λ_ _=>0) ⟨#[], #[.slice none 0 0],[]⟩).memory:=
 laidMet_of_run' 8 (by kernel_rfl) (by kernel_rfl)
theorem reads(b:Os){H:Type}(ag:TypeId×Value->H):∃a,DataW.whole ag Tryz.prog ((jq b).forCall (λ_ _=>0) ⟨#[], #[.slice none 0 0],[]⟩).memory Tryz.f4.params.toList Rows.permitAllowsSpec.vars false #[.slice none 0 0].toList 8=some ([.nil],[],a):=
 ⟨[],by kernel_rfl⟩
set_option maxRecDepth 100000 in
theorem lifted(c:Os)(a:c.Started)(H:Type)(ag:TypeId×Value->H)(F:Stop.Interp):
 ReturnsInHanded {} Tryz.checked c 4 .any ((OpenSpec.ofChange Rows.permitAllowsSpec).preRow ag Tryz.prog Tryz.f4 Rows.permitAllowsRow.domain false Rows.permitAllowsRow.laid) (((OpenSpec.ofChange Rows.permitAllowsSpec).at F).post ag Tryz.prog Tryz.f4 false true false false):=by
 obtain⟨f,h⟩:=reads c ag
 refine returnsInHanded_of_row (C:=Tryz.checked) (s:=OpenSpec.ofChange Rows.permitAllowsSpec) own a (by kernel_rfl) Tryz.func4
  (witness_row_at (enc:=ag) (C:=Tryz.checked) false (jq c) #[.slice none 0 0] rfl (by kernel_rfl) (by kernel_rfl) (by kernel_rfl)
   (OpenSpec.preRow_of_cond 8 h (by kernel_rfl) (λk i=>by cases i) (by kernel_rfl) (qo c))) ?_
 intro W d args j l b e m _ _ _ n g _;exact rf H ag W d args j l b e m n g
theorem said:Rows.PermitAllowsSaid:=
 OpenClaim.holds_of_cond 4 Tryz.f4 rfl rfl rfl rfl rfl rfl rfl ⟨rfl,rfl,rfl,rfl,rfl⟩ rfl rfl rfl rfl rfl (by kernel_rfl) Tryz.func4 (by kernel_rfl)
  (of_decide_eq_true (by kernel_rfl)) (by unfold Func.isWrapper;first|(rw[if_pos (by decide+kernel)];kernel_rfl)|(rw[if_neg (by decide+kernel)];exact⟨rfl,rfl⟩))
  (λb a H ag _ F=>by rw[OpenClaim.pre_eq_preRow];exact lifted b a H ag F)
theorem plain(f:FuncId)(fn:Func)(c:Tryz.pinned.checked.prog.funcNamed "partsync/partsynclaw17.PermitAllows" =some f)(a:Tryz.pinned.checked.prog.funcs[f]? =some fn):
 false=Tryz.pinned.checked.prog.looks []/\∀(j:Nat) t,fn.params[j]? =some t->Tryz.pinned.checked.prog.wantsStandIn t=false:=by
 obtain rfl:f=4:=Option.some.inj ((show Tryz.prog.funcNamed "partsync/partsynclaw17.PermitAllows" =some 4 by kernel_rfl).symm.trans c) |>.symm;obtain rfl:fn=Tryz.f4:=(Option.some.inj (Tryz.func4.symm.trans a)).symm;refine⟨by kernel_rfl,λj t b=>?_⟩;rw[Tryz.params4]at b;obtain rfl:t=22:=by simpa using Array.mem_of_getElem? b
 exact(show Tryz.prog.wantsStandIn 22=false by kernel_rfl)
end Go.Proofs.YtbpoogcannjnbaaGreatDoor.permitAllows
namespace Go.Proofs.YtbpoogcannjnbaaGreatDoor
theorem permitAllows_card:Rows.PermitAllowsCardSaid:=
 Claim7.holds_tied_plain_at .later [] _ _ _ _ permitAllows.said (λ_ h=>by cases h) (by kernel_rfl) (λ_ h=>by cases h) permitAllows_row_tie rfl ⟨rfl,rfl⟩ (by kernel_rfl) rfl permitAllows.plain (by kernel_rfl)
#print axioms permitAllows_card
end Go.Proofs.YtbpoogcannjnbaaGreatDoor
