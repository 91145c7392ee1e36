/- Own work. -/
import Derived.Test.YtbpoogcannjnbaaGreatDoorCards
import Derived.Test.YtbpoogcannjnbaaGreatDoorTie
import Derived.WalkKit
import Derived.ProofKit
import Derived.OpenShut
import Derived.ShutString
import Derived.ChangeOld
import Derived.Below
import Derived.Carry
import Derived.Deep.DeepHandedRow
import Derived.Lib.LaidTab
import Derived.Stop.LaidErr
import Derived.Test.YtbpoogcannjnbaaGreatDoorTh
set_option linter.unusedVariables false
set_option linter.unusedSimpArgs false
namespace Go.Ps
open Go Go.Vc Go.Proofs
theorem law_calls{f:FuncId}{S:Vc.Spec}(hS:Sound Tryz.prog f S){w:World}{cvs:List CV}{vs:List Value}{h:PH}{T:TypeId}(hT:w.heap[1]? =some (.cells (Lib.pow10Tab.map λz=>Value.int .u64 z).toArray T (0,0)))
 (hcvs:cvs=vs.map .val)(hsat:∀b o v,h b o=some v->w.cell? ⟨b,o,none⟩=some v)(h0:∀i,h 1 i=none)
 (hs:∀K,(∀m' h',(∀b o,(λb=>if b=1 then some (Obj.cells (Lib.pow10Tab.map λz=>Value.int .u64 z).toArray T (0,0))else none:MH) b=some o->m' b=some o)->K (cB true) m' h')->S cvs (λb=>if b=1 then some (.cells (Lib.pow10Tab.map λz=>Value.int .u64 z).toArray T (0,0))else none) h K):
 Calls Tryz.prog f vs.toArray w λe w'=>e= .returned (.bool true)/\Go.RowKit.Below w.heap.size w w':=by
 subst hcvs
 have hargs:wT w (vs.map .val) vs:=by
  clear hs
  induction vs with
  |nil=>trivial
  |cons v vs ih=>exact⟨rfl,ih⟩
 have nolst:∀(i:Nat)(c:CV)(u:Value)(b:Nat),(vs.map CV.val)[i]? =some c->eJ c u=some b->False:=λi c u b hc hb=>by
  rw[List.getElem?_map,Option.map_eq_some_iff]at hc;obtain⟨v,_,rfl⟩:=hc;cases hb
 have hpre:uD w (λb=>if b=1 then some (.cells (Lib.pow10Tab.map λz=>Value.int .u64 z).toArray T (0,0))else none) h (vs.map .val) vs:=by
  refine⟨hargs,hsat,λb o e=>?_,λb o e i=>?_,λi j c d u v b h1 h2 h3 h4 h5 h6=>(nolst i c u b h1 h5).elim,λi c u b h1 h2 h3=>(nolst i c u b h1 h3).elim⟩
  .by_cases hb:b=1
   .subst hb;simp at e;rw[<-e];exact hT
   .simp[hb]at e
  .by_cases hb:b=1
   .subst hb;exact h0 i
   .simp[hb]at e
 refine(hS.2 _ vs _ h w (λr m' h'=>r=cB true/\m' 1=some (.cells (Lib.pow10Tab.map λz=>Value.int .u64 z).toArray T (0,0))) (hs _ λm' h' hm=>⟨rfl,hm 1 _ (by simp)⟩) hpre).mono ?_;rintro e w' ⟨r,u,m',h',rfl,⟨rfl,hm0⟩,hok,hw,_⟩;have hu:u= .bool true:=hok;subst hu;refine⟨rfl,⟨hw.os,hw.tape,hw.output,hw.size,λk hk=>?_⟩⟩;by_cases hb:k=1
 .subst hb;rw[hw.msat 1 _ hm0,hT]
 .refine hw.frame k hk ?_;rintro(h1|⟨i,c,u,h1,h2,h3⟩)
  .exact h1 (by simp[hb])
  .exact nolst i c u k h1 h3
end Go.Ps
namespace Go.Proofs.YtbpoogcannjnbaaGreatDoor.permitTogether
open Go.ChangeShapes Go.WideShapes Go.ChangeAt Go.RowKit
set_option linter.unusedVariables false
theorem own:ownKnob Tryz.prog.godebug=none:=by kernel_rfl
theorem laidOut:laidOutB Tryz.prog=true:=by kernel_rfl
theorem gTab:Tryz.prog.globalNamed "internal/strconv.uint64pow10" =some 1:=by kernel_rfl
theorem gTabType:(Tryz.prog.globals[1]?).map (·.type)=some 303:=by kernel_rfl
theorem gSize:1<Tryz.prog.globals.size:=of_decide_eq_true (by kernel_rfl)
theorem cells303:Tryz.prog.cellsOf 303=20:=by kernel_rfl
theorem cells287:Tryz.prog.cellsOf 287=1:=by kernel_rfl
theorem under303:Tryz.prog.underlying 303=some (.array 20 287):=by kernel_rfl
theorem under287:Tryz.prog.underlying 287=some (.int .u64):=by kernel_rfl
theorem row0:(((begin Tryz.prog (λ_ _=>0) default).world.heap[1]?).bind Obj.row?).map (·.2)=some 303:=by kernel_rfl
theorem tabEq:(Rows.laid_internal_strconv_uint64pow10:DataW Unit)=Lib.tabData .u64 Lib.pow10Tab:=by kernel_rfl
theorem table{W:World}(h:laidMetH Tryz.prog Rows.permitTogetherRow.laid W)(hsh:W.ShapedOpen Tryz.prog):W.heap[1]? =some (.cells (Lib.pow10Tab.map λz=>Value.int .u64 z).toArray 303 (0,0)):=by
 have h1:laidMet Tryz.prog [("math/bits.deBruijn32tab",Rows.laid_math_bits_deBruijn32tab),("math/bits.deBruijn64tab",Rows.laid_math_bits_deBruijn64tab),("internal/strconv.uint64pow10",Rows.laid_internal_strconv_uint64pow10)] W:=h;have h2:laidMet Tryz.prog [("internal/strconv.uint64pow10",Lib.tabData .u64 Lib.pow10Tab)] W:=by rw[<-tabEq];exact h1.tail.tail
 have h3:Lib.TabIs Tryz.prog W "internal/strconv.uint64pow10" .u64 Lib.pow10Tab:=Lib.tabIs_of_head (rest:=[]) gTab gTabType under303 under287 cells287 cells303 h2;have h4:=row0;obtain⟨⟨zero,t⟩,h5,h6⟩:=Option.map_eq_some_iff.1 h4;have h6:t=303:=h6;subst h6;obtain⟨cs,h7,_,_⟩:=hsh.1 1 zero 303 gSize h5;unfold Lib.TabIs World.var? at h3;rw[gTab]at h3;simp only[Option.bind_some,h7,Option.some.injEq]at h3;rw[h7,h3]
def IsRow(k:IntKind)(w:World)(a:Option Addr)(len cap:Nat)(zs:List Int):Prop:=
 (a=none/\len=0/\cap=0/\zs=[])\/
 ∃x,a=some x/\len<=cap/\cap<=maxLen/\zs.length=cap/\(∀i,i<zs.length->w.cell? (x.add i)=some (.int k (zs.getD i 0)))/\∀n∈zs,(Lit.int k n).wf=true
open Go.Ps Go.Vc in
theorem ints_in{w:World}{a:Option Addr}{len cap:Nat}{zs:List Int}(hr:IsRow .i64 w a len cap zs){T:TypeId}(hT:w.heap[1]? =some (.cells (Lib.pow10Tab.map λz=>Value.int .u64 z).toArray T (0,0))):
 ∃(h:PH)(xs:List Int),(∀b o v,h b o=some v->w.cell? ⟨b,o,none⟩=some v)/\(∀i,h 1 i=none)/\bH h ⟨a,len,cap⟩ 1 (xs.map eI)/\∀x∈xs,Dl x:=by
 rcases hr with⟨rfl,rfl,rfl,rfl⟩|⟨x,rfl,hl,hm,hz,hcell,hwf⟩
 .exact⟨λ_ _=>none,[],λb o v e=>by simp at e,λ_=>rfl,⟨rfl,.inl rfl,Nat.le_refl _⟩,λx hx=>by cases hx⟩
 .have hI:∀x∈zs.take len,Dl x:=λx hx=>bounds_i64 (hwf x (List.mem_of_mem_take hx));by_cases h0:len=0
  .subst h0;exact⟨λ_ _=>none,[],λb o v e=>by simp at e,λ_=>rfl,⟨rfl,.inl rfl,hl⟩,λx hx=>by cases hx⟩
  .obtain⟨b,off,rfl,hc⟩:=ints_at hcell aC;refine⟨λb' i=>if b'=b/\off<=i/\i<off+len then w.cell? ⟨b,i,none⟩else none,zs.take len,λb' o v e=>?_,λi=>?_,⟨by show len=_;rw[List.length_map,List.length_take];omega,.inr ⟨b,off,rfl,λi e hi=>⟨λj v hj=>?_⟩⟩,hl⟩,hI⟩
   .simp only at e;split at e
    .rename_i h1;rw[h1.1];exact e
    .cases e
   .simp only;rw[if_neg];rintro⟨rfl,h1,h2⟩;have h3:=hc 0 aC;simp only[World.cell?,hT]at h3;rw[if_neg (by simp)]at h3;rw[<-Array.getElem?_toList,List.getElem?_map,Option.map_eq_some_iff]at h3;obtain⟨z,_,h4⟩:=h3;cases h4
   .simp only[List.getElem?_map,Option.map_eq_some_iff,List.getElem?_take]at hi;obtain⟨z,hz2,rfl⟩:=hi;split at hz2
    .rename_i hil;have hzl:=(List.getElem?_eq_some_iff.1 hz2).1;cases j with
     |succ j=>simp[eI]at hj
     |zero=>
      simp only[eI,List.getElem?_cons_zero,Option.some.injEq]at hj;subst hj;simp only[Nat.mul_one,Nat.add_zero];rw[if_pos (by simp;omega),hc i hzl];have e1:zs.getD i 0=z:=by simp[List.getD,hz2]
      rw[e1]
    .cases hz2
theorem walk(a0 a1 a2:Int)(a3:Option Addr)(len3 cap3:Nat)(z3:List Int)(a4:Bool)(w:World)(w0:(Lit.int .i64 a0).wf=true)(w1:(Lit.int .i64 a1).wf=true)(w3:IsRow .i64 w a3 len3 cap3 z3)(hT:w.heap[1]? =some (.cells (Lib.pow10Tab.map λz=>Value.int .u64 z).toArray 303 (0,0))):
 Calls Tryz.prog 6 #[.int .i64 a0,.int .i64 a1,.int .i64 a2,.slice a3 len3 cap3,.bool a4] w λe w'=>e= .returned (.bool true)/\Below w.heap.size w w':=by
 obtain⟨h,xs,h1,h2,h3,h4⟩:=ints_in w3 hT;exact Go.Ps.law_calls (vs:=[.int .i64 a0,.int .i64 a1,.int .i64 a2,.slice a3 len3 cap3,.bool a4]) Go.Ps.VR hT rfl h1 h2 λK hK=>⟨a0,a1,a2,⟨a3,len3,cap3⟩,a4,xs,rfl,bounds_i64 w0,bounds_i64 w1,h3,h4,⟨303,(0,0),by simp⟩,hK _ _ λb o e=>e⟩
set_option maxRecDepth 100000 in
theorem contract(H:Type)(enc:TypeId×Value->H)(W:World)(base:Nat)(args:Array Value)(ds gs:List (DataW H))(before:List MemPlace)
 (hval:∀(j:Nat) t v,Tryz.f6.params[j]? =some t->args[j]? =some v->Value.okWide Tryz.prog W .any base t v)
 (hW:DataW.Whole enc Tryz.prog Tryz.f6.params.toList Rows.permitTogetherSpec.vars false W args.toList ds gs before)(hL:laidMetH Tryz.prog Rows.permitTogetherRow.laid W)(hsh:W.ShapedOpen Tryz.prog):
 Calls Tryz.prog 6 args W λe W'=>∃v,e= .returned v/\Rows.permitTogetherSpec.post enc Tryz.prog Tryz.f6 false true false false W args v W':=by
 have hW':=hW;obtain⟨p,q,hA0,hV,rfl,hfz,hnd⟩:=hW;have hA:DataW.TrodAll enc Tryz.prog W 0 (λ_=>true) true Tryz.f6.params.toList args.toList ds p:=hA0;rw[Tryz.params6]at hA hval;obtain⟨v0,vs0,d0,ds0,p0,q0,hargs,rfl,rfl,h0,r0⟩:=trodAll_cons hA;obtain⟨v1,vs1,d1,ds1,p1,q1,rfl,rfl,rfl,h1,r1⟩:=trodAll_cons r0;obtain⟨v2,vs2,d2,ds2,p2,q2,rfl,rfl,rfl,h2,r2⟩:=trodAll_cons r1;obtain⟨v3,vs3,d3,ds3,p3,q3,rfl,rfl,rfl,h3,r3⟩:=trodAll_cons r2;obtain⟨v4,vs4,d4,ds4,p4,q4,rfl,rfl,rfl,h4,r4⟩:=trodAll_cons r3;obtain⟨rfl,rfl,rfl⟩:=trodAll_nil r4;obtain rfl:args= #[v0,v1,v2,v3,v4]:=by cases args;simp_all
 obtain⟨rfl,rfl⟩:=trodVars_none hV;obtain⟨a0,rfl,rfl,rfl,w0⟩:=open_int Tryz.underlying2 (hval 0 2 v0 rfl rfl) h0;obtain⟨a1,rfl,rfl,rfl,w1⟩:=open_int Tryz.underlying2 (hval 1 2 v1 rfl rfl) h1;obtain⟨a2,rfl,rfl,rfl,w2⟩:=open_int Tryz.underlying2 (hval 2 2 v2 rfl rfl) h2;obtain⟨a3,len3,cap3,rfl⟩:=okWide_slice Tryz.underlying78 (hval 3 78 v3 rfl rfl);have k3:=h3;have lt3:∀x∈p3,x.block<W.heap.size:=by obtain⟨m,hm⟩:=k3;exact DataW.trod_lt m _ _ _ hm
 obtain⟨z3,w3⟩:∃zs,IsRow .i64 W a3 len3 cap3 zs:=by
  obtain⟨fuel,hf⟩:=h3;rcases open_ints Tryz.underlying78 Tryz.underlying2 (by kernel_rfl) hf with⟨hcs,_⟩|⟨x,l,c,zs,hcs,_,hl,hm,hz,_,hcell,hwz⟩
  .simp[Value.cells]at hcs;obtain⟨rfl,rfl,rfl⟩:=hcs;exact⟨[],.inl ⟨rfl,rfl,rfl,rfl⟩⟩
  .simp[Value.cells]at hcs;obtain⟨rfl,rfl,rfl⟩:=hcs;exact⟨zs,.inr ⟨_,rfl,hl,hm,by simpa using hz,hcell,hwz⟩⟩
 obtain⟨a4,rfl,rfl,rfl⟩:=open_bool Tryz.underlying4 (hval 4 4 v4 rfl rfl) h4;clear hA0;refine(walk a0 a1 a2 a3 len3 cap3 z3 a4 W w0 w1 w3 (table hL hsh)).mono λe W'⟨he,bel⟩=>?_;subst he;exact⟨_,rfl,_,_,_,[],_,[],hW',trodAll_mk1 (shut_bool Tryz.underlying4 _),(trodAll_cons_mk (shut_int Tryz.underlying2 w0) (trodAll_cons_mk (shut_int Tryz.underlying2 w1) (trodAll_cons_mk (shut_int Tryz.underlying2 w2) (trodAll_cons_mk (Below.trod laidOut (by kernel_rfl) (of_decide_eq_true (by kernel_rfl)) k3 bel lt3) (trodAll_cons_mk (shut_bool Tryz.underlying4 _) trodAll_mk0))))),rfl,bel.frame _,λh=>by cases h⟩
def putCells(cs:Array Value):Obj->Obj
 |.cells _ t frozen=>.cells cs t frozen
 |o=>o
noncomputable def laidWorld(os:Os):World:=
 {World.holding Tryz.prog os ⟨#[], #[],[]⟩with heap:=(((World.holding Tryz.prog os ⟨#[], #[],[]⟩).heap.modify 1 (putCells (Lib.pow10Tab.map λz=>Value.int .u64 z).toArray)).modify 2 (putCells ([0,1,28,2,29,14,24,3,30,22,20,15,25,17,4,8,31,27,13,23,21,19,16,7,26,12,18,6,11,5,10,9].map λz=>Value.int .u8 z).toArray)).modify 3 (putCells ([0,1,56,2,57,49,28,3,61,58,42,50,38,29,17,4,62,47,59,36,45,43,51,22,53,39,33,30,24,18,12,5,63,55,48,27,60,41,37,16,46,35,44,21,52,32,23,11,54,26,40,15,34,20,31,10,25,14,19,9,13,8,7,6].map λz=>Value.int .u8 z).toArray)}
theorem laid_met(os:Os):laidMet Tryz.prog Rows.permitTogetherRow.laid ((laidWorld os).forCall (λ_ _=>0) ⟨#[], #[.int .i64 0,.int .i64 0,.int .i64 0,.slice none 0 0,.bool false],[]⟩).memory:=
 laidMet_of_run' 8 (by kernel_rfl) (by kernel_rfl)
theorem reads(os:Os){H:Type}(enc:TypeId×Value->H):∃places,DataW.whole enc Tryz.prog ((laidWorld os).forCall (λ_ _=>0) ⟨#[], #[.int .i64 0,.int .i64 0,.int .i64 0,.slice none 0 0,.bool false],[]⟩).memory Tryz.f6.params.toList Rows.permitTogetherSpec.vars false #[Value.int .i64 0,Value.int .i64 0,Value.int .i64 0,Value.slice none 0 0,Value.bool false].toList 8=some ([.lit (.int .i64 0),.lit (.int .i64 0),.lit (.int .i64 0),.nil,.lit (.bool false)],[],places):=
 ⟨[],by kernel_rfl⟩
set_option maxRecDepth 100000 in
theorem lifted(os:Os)(started:os.Started)(H:Type)(enc:TypeId×Value->H)(F:Stop.Interp):
 ReturnsInHanded {} Tryz.checked os 6 .any ((OpenSpec.ofChange Rows.permitTogetherSpec).preRow enc Tryz.prog Tryz.f6 Rows.permitTogetherRow.domain false Rows.permitTogetherRow.laid) (((OpenSpec.ofChange Rows.permitTogetherSpec).at F).post enc Tryz.prog Tryz.f6 false true false false):=by
 obtain⟨places,hx⟩:=reads os enc
 refine returnsInHanded_of_row (C:=Tryz.checked) (s:=OpenSpec.ofChange Rows.permitTogetherSpec) own started (by kernel_rfl) Tryz.func6
  (witness_row_at (enc:=enc) (C:=Tryz.checked) false (laidWorld os) #[.int .i64 0,.int .i64 0,.int .i64 0,.slice none 0 0,.bool false] rfl (by kernel_rfl) (by kernel_rfl) (by kernel_rfl)
   (OpenSpec.preRow_of_cond 8 hx (by kernel_rfl) (λk hk=>by cases hk) (by kernel_rfl) (laid_met os))) ?_
 intro W base args ds gs before hval hW _ _ _ hL hsh _;exact contract H enc W base args ds gs before hval hW hL hsh
theorem said:Rows.PermitTogetherSaid:=
 OpenClaim.holds_of_cond 6 Tryz.f6 rfl rfl rfl rfl rfl rfl rfl ⟨rfl,rfl,rfl,rfl,rfl⟩ rfl rfl rfl rfl rfl (by kernel_rfl) Tryz.func6 (by kernel_rfl)
  (of_decide_eq_true (by kernel_rfl)) (by unfold Func.isWrapper;first|(rw[if_pos (by decide+kernel)];kernel_rfl)|(rw[if_neg (by decide+kernel)];exact⟨rfl,rfl⟩))
  (λos started H enc _ F=>by rw[OpenClaim.pre_eq_preRow];exact lifted os started H enc F)
theorem plain(f:FuncId)(fn:Func)(hf:Tryz.pinned.checked.prog.funcNamed "partsync/partsynclaw17.PermitTogether" =some f)(hfn:Tryz.pinned.checked.prog.funcs[f]? =some fn):
 false=Tryz.pinned.checked.prog.looks []/\∀(j:Nat) t,fn.params[j]? =some t->Tryz.pinned.checked.prog.wantsStandIn t=false:=by
 obtain rfl:f=6:=Option.some.inj ((show Tryz.prog.funcNamed "partsync/partsynclaw17.PermitTogether" =some 6 by kernel_rfl).symm.trans hf) |>.symm;obtain rfl:fn=Tryz.f6:=(Option.some.inj (Tryz.func6.symm.trans hfn)).symm;refine⟨by kernel_rfl,λj t ht=>?_⟩;rw[Tryz.params6]at ht
 have hm:t=2\/t=78\/t=4:=by
  have:=Array.mem_of_getElem? ht;simp at this;rcases this with h|h|h
  .exact .inl h
  .exact .inr (.inl h)
  .exact .inr (.inr h)
 rcases hm with rfl|rfl|rfl
 .exact(show Tryz.prog.wantsStandIn 2=false by kernel_rfl)
 .exact(show Tryz.prog.wantsStandIn 78=false by kernel_rfl)
 .exact(show Tryz.prog.wantsStandIn 4=false by kernel_rfl)
end Go.Proofs.YtbpoogcannjnbaaGreatDoor.permitTogether
namespace Go.Proofs.YtbpoogcannjnbaaGreatDoor
theorem permitTogether_card:Rows.PermitTogetherCardSaid:=
 Claim7.holds_tied_plain_at .later [] _ _ _ _ permitTogether.said (λ_ h=>by cases h) (by kernel_rfl) (λ_ h=>by cases h) permitTogether_row_tie rfl ⟨rfl,rfl⟩ (by kernel_rfl) rfl permitTogether.plain (by kernel_rfl)
#print axioms permitTogether_card
end Go.Proofs.YtbpoogcannjnbaaGreatDoor
