/-
  Part 5 of a proof that a law of the given program returns true: a condition generator that is proved sound, and contracts of functions. No condition of its own. Own work, joined by a program (pack2.py).
-/
import Derived.RangeFuncLeaves
import Derived.RangeFuncCalls
import Derived.Test.YtileehgdfcknkaaGreatDoorGd
set_option linter.unusedVariables false
set_option linter.unusedSimpArgs false
namespace Go.Vc
open Go
section
variable{B:oH}{C:Ctx}{ι:Nat->Value}{σ:St}{a:Act}{w:World}{o:Oper}{K:St->Prop}
theorem It(l:Nat){P:Program}{next:Act->World->Prop}{Q:Exit->Act->World->Prop}(hd:∀c,o.op≠ .defer c)(h:o.wpIn Fence.wide 0 P a w next Q):o.wpIn (Fence.wide.inRound l) 0 P a w next Q:=by
 refine⟨λ_ _=>trivial,?_⟩;have h2:o.uponIn Fence.wide 0 P a next Q ((execOp a.eval o).run P w):=h.2
 show o.uponIn (Fence.wide.inRound l) 0 P a next Q ((o.semAt (some l) a.eval).run P w)
 rw[Oper.semAt_eq _ _ _ hd];cases hr:(execOp a.eval o).run P w with
 |ok x w'=>
  rw[hr]at h2;cases x<;>exact h2
 |halt x w'=>
  rw[hr]at h2;cases x<;>exact h2
theorem aI.putD(hM:aI B ι σ a w){D:Nat}{ob:Obj}(ob':Obj)(hD:w.heap[D]? =some ob)(hnc:ob.isCells=false)(hlt:D<B.w0.heap.size)(hnE:¬B.E D):
 aI {B with E:=λb=>B.E b\/b=D} ι σ a (w.putObj D ob'):=by
 have hw:=hM.wrel;have hoth:∀b',b'≠D->(w.putObj D ob').heap[b']? =w.heap[b']? :=λb' hne=>World.putObj_heap_other (λe=>hne e)
 have hown:∀k o,nth σ.own k=some (some o)->∀b',blk (ι k)=some b'->b'≠D:=λk o hk b' hb' e=>by
  rcases(hM.fresh k o b' hk hb').1 with h1|h1
  .omega
  .exact hnE (e▸h1)
 refine⟨hM.slots,hM.defers,λk o hk=>(hM.own k o hk).world (λb' hb'=>hoth b' (hown k o hk b' hb')),hM.dist,?_,?_,hM.one⟩
 .intro k o b' hk hb';obtain⟨f1,f2,f3⟩:=hM.fresh k o b' hk hb';exact⟨f1.imp id .inl,f2,f3⟩
 .refine⟨hw.tape,hw.os,hw.output,hw.drawn,by have:=hw.size;simpa using this,?_,?_,?_,hw.disj,hw.hle,?_,?_⟩
  .intro b' h1 h2;rw[hoth b' (λe=>h2 (.inr e))];exact hw.frame b' h1 (λe=>h2 (.inl e))
  .intro b' i v hv;have h1:=hw.hsat b' i v hv
   have hne:b'≠D:=λe=>by
    unfold World.cell? at h1;rw[e]at h1;dsimp only at h1;rw[hD]at h1;cases ob<;>simp[Obj.isCells]at hnc h1
   rw[World.cell?_of_block (w:=w) (w':=w.putObj D ob') (a:=⟨b',i,none⟩) (hoth b' hne)];exact h1
  .intro b' o hb'
   have hne:b'≠D:=λe=>by
    rcases hw.mfr b' o hb' with h1|h1
    .omega
    .exact hnE (e▸h1)
   rw[hoth b' hne];exact hw.msat b' o hb'
  .intro b' h1 h2;exact hw.hold b' h1 (λe=>h2 (.inl e))
  .intro b' o hb';exact(hw.mfr b' o hb').imp id .inl
end
end Go.Vc
namespace Go.Ps
open Go Go.Vc Go.Proofs
variable{K:CV->MH->PH->Prop}{m:MH}{h:PH}{s:nY}{ps:List Int}{cb:Nat}{sc:bR}{v:QV}{q:Query}{p:Pred}{l:List Int}{i:Nat}{N:Nat}{m':MH}{h':PH}{co:List Int}{gr:List Int}{od:List (Int×Bool)}{w:Pred}{ta:Int}{li:Int}{xs:List (List Value)}{sz:Nat}{k:Nat}{ks:List (List Int)}{rs:List Int}{r:Sl}{a:List Int}{b:Nat}
end Go.Ps
namespace Go.Vc
open Go.Ps Go.Proofs
end Go.Vc
namespace Go.Ps
open Go Go.Vc Go.Proofs
variable{K:CV->MH->PH->Prop}{m:MH}{h:PH}{s:nY}{ps:List Int}{cb:Nat}{sc:bR}{v:QV}{q:Query}{p:Pred}{l:List Int}{i:Nat}{N:Nat}{m':MH}{h':PH}{co:List Int}{gr:List Int}{od:List (Int×Bool)}{w:Pred}{ta:Int}{li:Int}{xs:List (List Value)}{sz:Nat}{k:Nat}{ks:List (List Int)}{rs:List Int}{r:Sl}{a:List Int}{b:Nat}
end Go.Ps
namespace Go.Vc
open Go.Ps Go.Proofs
end Go.Vc
namespace Go.Ps
open Go Go.Vc Go.Proofs
variable{K:CV->MH->PH->Prop}{m:MH}{h:PH}{s:nY}{ps:List Int}{cb:Nat}{sc:bR}{v:QV}{q:Query}{p:Pred}{l:List Int}{i:Nat}{N:Nat}{m':MH}{h':PH}{co:List Int}{gr:List Int}{od:List (Int×Bool)}{w:Pred}{ta:Int}{li:Int}{xs:List (List Value)}{sz:Nat}{k:Nat}{ks:List (List Int)}{rs:List Int}{r:Sl}{a:List Int}{b:Nat}
end Go.Ps
