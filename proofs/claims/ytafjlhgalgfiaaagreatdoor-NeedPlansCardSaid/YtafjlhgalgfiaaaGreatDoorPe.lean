/- Own work. -/
import Derived.RangeFuncLeaves
import Derived.RangeFuncCalls
import Derived.Test.YtafjlhgalgfiaaaGreatDoorPd
set_option linter.unusedVariables false
set_option linter.unusedSimpArgs false
namespace Go.Vc
open Go List
section
variable{B:xC}{C:Ctx}{ι:dm}{σ:St}{a:Act}{w:World}{o:Oper}{K:St->Prop}
theorem PZ l{P next Q}(e:∀c,o.op≠ .defer c)(h:o.wpIn Fence.wide 0 P a w next Q):o.wpIn (Fence.wide.inRound l) 0 P a w next Q:=by
 refine⟨λ_ _=>trivial,?_⟩;have b:o.uponIn Fence.wide 0 P a next Q ((execOp a.eval o).run P w):=h.2
 show o.uponIn (Fence.wide.inRound l) 0 P a next Q ((o.semAt (some l) a.eval).run P w)
 rw[Oper.semAt_eq _ _ _ e];cases d:(execOp a.eval o).run P w with
 |ok x f=>
  rw[d]at b;cases x<;>exact b
 |halt x f=>
  rw[d]at b;cases x<;>exact b
theorem aR.putD(l:aR B ι σ a w){D ob} m(t:w.heap[D]? =some ob)(s:ob.isCells=false)(u:D<B.w0.heap.size)(x:¬B.E D):
 aR {B with E:=λb=>B.E b\/b=D} ι σ a (w.putObj D m):=by
 have h:=l.wrel;have f:∀c,c≠D->(w.putObj D m).heap[c]? =w.heap[c]? :=λc j=>World.putObj_heap_other (λe=>j e)
 have p:∀k o,nth σ.own k=some (some o)->∀c,blk (ι k)=some c->c≠D:=λk o n c d e=>by
  rcases(l.fresh k o c n d).1 with g|g
  .omega
  grind
 refine⟨l.slots,l.defers,λk o n=>(l.own k o n).world (λc d=>f c (p k o n c d)),l.dist,?_,?_,l.one⟩
 .intro k o c n d;obtain⟨z,A,F⟩:=l.fresh k o c n d
  grind
 .refine⟨h.tape,h.os,h.output,h.drawn,by have:=h.size;simpa using this,?_,?_,?_,h.disj,h.hle,?_,?_⟩
  .intro c g r;rw[f c (λe=>r (.inr e))];exact h.frame c g (λe=>r (.inl e))
  .intro c i v y;have g:=h.hsat c i v y
   have j:c≠D:=λe=>by
    unfold World.cell? at g;rw[e]at g;dsimp only at g;rw[t]at g;cases ob<;>simp[Obj.isCells]at s g
   rw[World.cell?_of_block (w:=w) (w':=w.putObj D m) (a:=⟨c,i,none⟩) (f c j)];exact g
  .intro c o d
   have j:c≠D:=λe=>by
    rcases h.mfr c o d with g|g
    .omega
    grind
   rw[f c j];exact h.msat c o d
  .intro c g r;exact h.hold c g (λe=>r (.inl e))
  .intro c o d;exact(h.mfr c o d).imp id .inl
end
end Go.Vc
namespace Go.Ps
open Go Go.Vc Go.Proofs List
variable{K:da}{m:MH}{h:PH}{s:jC}{ps:db}{cb:Nat}{sc:cK}{v:QV}{p:Pred}{l:db}{i:Nat}{N:Nat}{m':MH}{h':PH}{co:db}{gr:db}{od:di}{ta:Int}{li:Int}{xs:List dc}{sz:Nat}{ks:List db}{rs:db}{r:Sl}{a:db}{b:Nat}
end Go.Ps
namespace Go.Vc
open Go.Ps Go.Proofs List
end Go.Vc
namespace Go.Ps
open Go Go.Vc Go.Proofs List
variable{K:da}{m:MH}{h:PH}{s:jC}{ps:db}{cb:Nat}{sc:cK}{v:QV}{p:Pred}{l:db}{i:Nat}{N:Nat}{m':MH}{h':PH}{co:db}{gr:db}{od:di}{ta:Int}{li:Int}{xs:List dc}{sz:Nat}{ks:List db}{rs:db}{r:Sl}{a:db}{b:Nat}
end Go.Ps
namespace Go.Vc
open Go.Ps Go.Proofs List
end Go.Vc
namespace Go.Ps
open Go Go.Vc Go.Proofs List
variable{K:da}{m:MH}{h:PH}{s:jC}{ps:db}{cb:Nat}{sc:cK}{v:QV}{p:Pred}{l:db}{i:Nat}{N:Nat}{m':MH}{h':PH}{co:db}{gr:db}{od:di}{ta:Int}{li:Int}{xs:List dc}{sz:Nat}{ks:List db}{rs:db}{r:Sl}{a:db}{b:Nat}
end Go.Ps
