/-
  Part 2 of a proof that a law of the given program returns true: a condition generator that is proved sound, and contracts of functions. No condition of its own. Own work, joined by a program (pack2.py).
-/
import Derived.MapKept
import Derived.Maps.RangeRun
import Derived.Test.YtileehgdfcknkaaGreatDoorProg
import Derived.IntWalk
import Derived.ChangeKeysEq
import Derived.Test.YtileehgdfcknkaaGreatDoorMa
namespace Go.Vc
open Go
section
variable {B : oY} {C : Ctx} {ι : Nat -> Value} {σ : St} {a : Act} {w : World} {o : Oper} {K : St -> Prop}
theorem Wo (hM : aH B ι σ a w) (ob : Obj) :
 aH B ι { σ with m := λ b => if b = w.heap.size then some ob else σ.m b } a (w.alloc ob) /\ cD σ.m σ.h w.heap.size /\ ∀ o, Ex σ ι o w (w.alloc ob) := by
 have hw := hM.wrel
 have hun : cD σ.m σ.h w.heap.size := by
  constructor
  . cases e : σ.m w.heap.size with
    | none => rfl
    | some x => have := (CP.1 (hw.msat _ _ e)).1; omega
  . intro i
    cases e : σ.h w.heap.size i with
    | none => rfl
    | some x => have := World.block_lt_of_cell? w ⟨w.heap.size, i, none⟩ (hw.hsat _ _ _ e); simp at this
 have hsz : (w.alloc ob).heap.size = w.heap.size + 1 := by show (w.heap.push ob).size = _; simp
 refine ⟨⟨hM.slots, hM.defers, λ k o' hk => (hM.own k o' hk).world (λ b hb => eY w ob (nO (hM.own k o' hk) hb)), hM.dist, ?_, ?_, hM.one⟩, hun, λ o => ⟨?_, ?_, λ _ b hb => eY w ob hb, λ _ b _ hb _ _ => eY w ob hb⟩⟩
 . intro k o' b hk hb
   obtain ⟨f1, f2, f3⟩ := hM.fresh k o' b hk hb
   have hlt := nO (hM.own k o' hk) hb
   refine ⟨f1, ?_, f3⟩
   show (if b = w.heap.size then some ob else σ.m b) = none
   rw [if_neg aC]; exact f2
 . refine ⟨hw.tape, hw.os, hw.output, hw.drawn, by rw [hsz]; exact Nat.le_succ_of_le hw.size, ?_, ?_, ?_, ?_, hw.hle, hw.hold, ?_⟩
   . intro b hb hE
     rw [eY w ob (X6 hb hw.size)]
     exact hw.frame b hb hE
   . intro b i v hv
     have h1 := hw.hsat b i v hv
     rw [<- h1]
     exact World.cell?_of_block (w := w) (w' := w.alloc ob) (a := ⟨b, i, none⟩) (eY w ob (World.block_lt_of_cell? w ⟨b, i, none⟩ h1))
   . intro b x hb
     have hb : (if b = w.heap.size then some ob else σ.m b) = some x := hb
     by_cases e : b = w.heap.size
     . rw [if_pos e] at hb; rw [e, kR]; exact hb
     . rw [if_neg e] at hb
       have h1 := hw.msat b x hb
       rw [eY w ob (CP.1 h1).1]; exact h1
   . intro b x hb i
     have hb : (if b = w.heap.size then some ob else σ.m b) = some x := hb
     by_cases e : b = w.heap.size
     . rw [e]; exact hun.h_ i
     . rw [if_neg e] at hb; exact hw.disj b x hb i
   . intro b x hb
     have hb : (if b = w.heap.size then some ob else σ.m b) = some x := hb
     by_cases e : b = w.heap.size
     . left; rw [e]; exact hw.size
     . rw [if_neg e] at hb; exact hw.mfr b x hb
 . intro k p T cs b hk _ hι
   exact eY w ob (nO (hM.own k _ hk) (by rw [hι]; rfl))
 . intro b i v hv
   have h1 := hw.hsat b i v hv
   rw [<- h1]
   exact World.cell?_of_block (w := w) (w' := w.alloc ob) (a := ⟨b, i, none⟩) (eY w ob (World.block_lt_of_cell? w ⟨b, i, none⟩ h1))
theorem OX (hM : aH B ι σ a w) {b : Nat} {ob0 ob : Obj} (hm : σ.m b = some ob0) :
 aH B ι { σ with m := λ b' => if b' = b then some ob else σ.m b' } a { w with heap := w.heap.setIfInBounds b ob } /\ ∀ o, vT o.op = false -> Ex σ ι o w { w with heap := w.heap.setIfInBounds b ob } := by
 have hw := hM.wrel
 have hlt : b < w.heap.size := (CP.1 (hw.msat _ _ hm)).1
 have hblock : ∀ b', b' ≠ b -> (w.heap.setIfInBounds b ob)[b']? = w.heap[b']? := λ b' hne => by
  rw [Array.getElem?_setIfInBounds_ne (Ne.symm hne)]
 have hself : (w.heap.setIfInBounds b ob)[b]? = some ob := by simp [hlt]
 have hnb : ∀ k o', nth σ.own k = some (some o') -> blk (ι k) ≠ some b := by
  intro k o' hk hb
  have := (hM.fresh k o' b hk hb).2.1
  rw [hm] at this; cases this
 have hcell : ∀ b' i v, σ.h b' i = some v -> ({ w with heap := w.heap.setIfInBounds b ob } : World).cell? ⟨b', i, none⟩ = some v := by
  intro b' i v hv
  have hne : b' ≠ b := λ e => by subst e; rw [hw.disj b' _ hm i] at hv; cases hv
  have h2 := hw.hsat b' i v hv
  rw [<- h2]
  exact World.cell?_of_block (w := w) (w' := { w with heap := w.heap.setIfInBounds b ob }) (a := ⟨b', i, none⟩) (hblock b' hne)
 refine ⟨⟨hM.slots, hM.defers, λ k o' hk => (hM.own k o' hk).world (λ b' hb' => hblock b' (λ e => hnb k o' hk (e ▸ hb'))), hM.dist, ?_, ?_, hM.one⟩, λ o hg => ⟨?_, hcell, λ h => (by rw [hg] at h; cases h), λ _ b' _ _ hn _ => hblock b' (λ e => by rw [e, hm] at hn; cases hn)⟩⟩
 . intro k o' b' hk hb'
   obtain ⟨f1, f2, f3⟩ := hM.fresh k o' b' hk hb'
   refine ⟨f1, ?_, f3⟩
   show (if b' = b then some ob else σ.m b') = none
   rw [if_neg (fun (e : b' = b) => hnb k o' hk (e ▸ hb'))]; exact f2
 . refine ⟨hw.tape, hw.os, hw.output, hw.drawn, by simpa using hw.size, ?_, hcell, ?_, ?_, hw.hle, hw.hold, ?_⟩
   . intro b' hb' hE
     have hne : b' ≠ b := λ e => by
      subst e
      rcases hw.mfr b' _ hm with h2 | h2
      . omega
      . exact hE h2
     rw [hblock b' hne]
     exact hw.frame b' hb' hE
   . intro b' x hb'
     have hb' : (if b' = b then some ob else σ.m b') = some x := hb'
     by_cases e : b' = b
     . rw [if_pos e] at hb'; rw [e, <- hb']; exact hself
     . rw [if_neg e] at hb'; rw [hblock b' e]; exact hw.msat b' x hb'
   . intro b' x hb' i
     have hb' : (if b' = b then some ob else σ.m b') = some x := hb'
     by_cases e : b' = b
     . rw [e]; exact hw.disj b _ hm i
     . rw [if_neg e] at hb'; exact hw.disj b' _ hb' i
   . intro b' x hb'
     have hb' : (if b' = b then some ob else σ.m b') = some x := hb'
     by_cases e : b' = b
     . rw [e]; exact hw.mfr b _ hm
     . rw [if_neg e] at hb'; exact hw.mfr b' _ hb'
 . intro k p T cs b' hk _ hι
   exact hblock b' (λ e => hnb k _ hk (by rw [hι, e]; rfl))
theorem La (hM : aH B ι σ a w) {t : Nat} {r : Option Operand} (ho : o.op = .makeMap t r) (h : GG o r σ K) : QS B C ι o σ K a w := by
 intro next Q hnext
 unfold GG at h
 split at h
 . obtain ⟨hM1, hun, hk⟩ := Wo hM (.map #[] 0)
   have hrun : (execOp a.eval o).run C.P w = .ok (.value (.map (some w.heap.size))) (w.alloc (.map #[] 0)) := by
    unfold execOp
    simp [ho, Instr.makeMap]
   unfold Oper.wp
   rw [hrun, Oper.upon_value]
   exact hnext ι _ _ _ (hM1.put o.dst (x := .at (.val (.map (some w.heap.size)))) rfl) (h w.heap.size _ hun ⟨by simp, λ b' hb' => by simp [hb']⟩) (hk o)
 . exact h.elim
theorem aH.drew {B : oY} {ι : Nat -> Value} {σ : St} {a : Act} {w : World} (h : aH B ι σ a w) (k : Nat) (hk : w.drawn <= k) : aH B ι σ a { w with drawn := k } := by
 refine ⟨h.slots, h.defers, λ j o hj => (h.own j o hj).world (λ _ _ => rfl), h.dist, h.fresh, ?_, h.one⟩
 have hw := h.wrel
 exact ⟨hw.tape, hw.os, hw.output, Ae hw.drawn hk, hw.size, hw.frame, hw.hsat, hw.msat, hw.disj, hw.hle, hw.hold, hw.mfr⟩
theorem sU {α : Type} {l : List α} {j : Nat} {x : α} (h : l[j]? = some x) : l = l.take j ++ x :: l.drop (j + 1) := by
 have hj := (mG.1 h).1
 have e := (mG.1 h).2
 rw [<- e, <- X2 hj, List.take_append_drop]
theorem O8 (hM : aH B ι σ a w) {t : Nat} {x : Operand} (ho : o.op = .range t x) (h : Nt C o t x σ K) : QS B C ι o σ K a w := by
 intro next Q hnext
 have hev := hM.ev x
 unfold Nt at h
 split at h
 . rename_i s hu hx
   rw [hx] at hev
   have hev : a.eval x = .string s := hev
   obtain ⟨hM1, hun, hk⟩ := Wo hM (.stringIter s 0)
   have hrun : (execOp a.eval o).run C.P w = .ok (.value (.pointer (some ⟨w.heap.size, 0, none⟩))) (w.alloc (.stringIter s 0)) := by
    unfold execOp
    simp [ho, hev, Instr.range, run_underlying hu]
   unfold Oper.wp
   rw [hrun, Oper.upon_value]
   exact hnext ι _ _ _ (hM1.put o.dst (x := .at (.val (.pointer (some ⟨w.heap.size, 0, none⟩)))) rfl) (h w.heap.size _ hun ⟨by simp, λ b' hb' => by simp [hb']⟩) (hk o)
 . rename_i kt et b hu hx
   rw [hx] at hev
   have hev : a.eval x = .map (some b) := hev
   obtain ⟨kvs, ⟨es, clock, hm, hes, hborn, hnd⟩, h⟩ := h
   have hg := hM.wrel.msat b _ hm
   obtain ⟨hM1, hun, hk⟩ := Wo hM (.mapIter (some b) clock #[] clock)
   have hrun : (execOp a.eval o).run C.P w = .ok (.value (.pointer (some ⟨w.heap.size, 0, none⟩))) (w.alloc (.mapIter (some b) clock #[] clock)) := by
    unfold execOp
    simp [ho, hev, Instr.range, run_underlying hu, MapKept.run_getObj_map hg, Result.andThen]
   unfold Oper.wp
   rw [hrun, Oper.upon_value]
   have hne : b ≠ w.heap.size := λ e => by have := (CP.1 hg).1; omega
   refine hnext ι _ _ _ (hM1.put o.dst (x := .at (.val (.pointer (some ⟨w.heap.size, 0, none⟩)))) rfl) (h w.heap.size _ hun ⟨λ b' hb' => by simp [hb']⟩ ⟨es, clock, clock, #[], clock, ?_, hes, hborn, hnd, by simp, hborn, BH _, BH _, ?_⟩) (hk o)
   . simp [hne, hm]
   . rw [<- hes]
     congr 1
     exact List.filter_eq_self.2 (λ _ _ => by simp)
 . exact h.elim
theorem Rl (hM : aH B ι σ a w) {x : Operand} {st : Bool} (ho : o.op = .next x st) (h : Rm o x st σ K) : QS B C ι o σ K a w := by
 intro next Q hnext
 have hev := hM.ev x
 unfold Rm at h
 split at h
 . rename_i b hx
   rw [hx] at hev
   have hev : a.eval x = .pointer (some ⟨b, 0, none⟩) := hev
   obtain ⟨s, pos, hm, h1, h2⟩ := h
   have hg := hM.wrel.msat b _ hm.at_
   by_cases hlt : pos < s.size
   . obtain ⟨hM1, hk⟩ := OX (ob := .stringIter s (pos + (Utf8.decode s pos).2)) hM hm.at_
     have hrun : (execOp a.eval o).run C.P w = .ok (.value (.tuple #[.bool true, .int .i64 pos, .int .i32 (Utf8.decode s pos).1])) { w with heap := w.heap.setIfInBounds b (.stringIter s (pos + (Utf8.decode s pos).2)) } := by
      unfold execOp
      simp [ho, hev, Instr.next, getObj, setObj, Sem.run, hg, hlt, goInt, Result.andThen]
     unfold Oper.wp
     rw [hrun, Oper.upon_value]
     refine hnext ι _ _ _ (hM1.put o.dst (x := .tup _) ?_) (h2 hlt _ ⟨by simp, λ b' hb' => by simp [hb']⟩) (hk o (by rw [ho]; rfl))
     exact ⟨_, rfl, rfl, rfl, rfl, trivial⟩
   . have hrun : (execOp a.eval o).run C.P w = .ok (.value (.tuple #[.bool false])) w := by
      unfold execOp
      simp [ho, hev, Instr.next, getObj, Sem.run, hg, hlt, Result.andThen]
     unfold Oper.wp
     rw [hrun, Oper.upon_value]
     refine hnext ι _ _ _ (hM.put o.dst (x := .tup _) ?_) (h1 aC) (jW hM)
     exact ⟨_, rfl, rfl, trivial⟩
 . rename_i r hx
   rw [hx] at hev
   have hev : a.eval x = .pointer (some ⟨r, 0, none⟩) := hev
   obtain ⟨b, kvs, left, ⟨es, clock, since, seen, c0, hmb, hes, hborn, hnd, hmr, hold, hsc, hscl, hleft⟩, h1, h2⟩ := h
   have hgb := hM.wrel.msat b _ hmb
   have hgr := hM.wrel.msat r _ hmr
   rcases run_next_at (P := C.P) w o.type r b since c0 seen es clock hgr hgb hold hsc with ⟨h0, hrun⟩ | ⟨e, he, w1, hw1, hrun⟩
   . have hl : left = [] := by
      rw [<- hleft]
      have : (leftOf es seen).toList = [] := by simpa using h0
      unfold leftOf at this
      rw [Array.toList_filter] at this
      rw [this]; rfl
     have hrun : (execOp a.eval o).run C.P w = .ok (.value (.tuple #[.bool false])) w := by
      unfold execOp
      simp [ho, hev, hrun, Result.andThen]
     unfold Oper.wp
     rw [hrun, Oper.upon_value]
     refine hnext ι _ _ _ (hM.put o.dst (x := .tup _) ?_) (h1 hl) (jW hM)
     exact ⟨_, rfl, rfl, trivial⟩
   . have hM0 : ∃ n, aH B ι σ a w1 /\ w1 = { w with drawn := n } := by
      rcases hw1 with rfl | rfl
      . exact ⟨w1.drawn, hM, rfl⟩
      . exact ⟨w.drawn + 1, hM.drew (w.drawn + 1) (Nat.le_succ _), rfl⟩
     obtain ⟨n, hM0, hw1e⟩ := hM0
     obtain ⟨hM1, hk⟩ := OX (ob := .mapIter (some b) since (seen.push e.born) clock) hM0 hmr
     have hrun : (execOp a.eval o).run C.P w = .ok (.value (.tuple #[.bool true, e.key, e.val])) { w1 with heap := w1.heap.setIfInBounds r (.mapIter (some b) since (seen.push e.born) clock) } := by
      unfold execOp
      simp [ho, hev, hrun, Result.andThen, ChangeMaps.setBlock]
     have hel : e ∈ es.toList.filter λ e => !seen.contains e.born := by
      unfold leftOf at he
      rw [Array.toList_filter] at he
      exact he
     have hees : e ∈ es.toList := (List.mem_filter.1 hel).1
     obtain ⟨j, hj⟩ := List.getElem?_of_mem hel
     have hsp := sU hj
     have hrb : r ≠ b := λ e => by rw [e, hmb] at hmr; cases hmr
     have hnd2 : (((es.toList.filter λ e => !seen.contains e.born)).map (·.born)).Nodup := hnd.sublist (List.filter_sublist.map _)
     have hleft2 : es.toList.filter (λ x => !(seen.push e.born).contains x.born) = (es.toList.filter λ e => !seen.contains e.born).take j ++ (es.toList.filter λ e => !seen.contains e.born).drop (j + 1) := by
      have h3 : es.toList.filter (λ x => !(seen.push e.born).contains x.born) = (es.toList.filter λ e => !seen.contains e.born).filter λ x => x.born != e.born := by
       rw [List.filter_filter]
       congr 1
       funext x
       simp only [Array.contains_push, Bool.not_or]
       rw [Bool.and_comm]
       rfl
      rw [h3]
      generalize (es.toList.filter λ e => !seen.contains e.born) = L at hsp hnd2 hj
      have hlt := (mG.1 hj).1
      generalize L.take j = A at hsp
      generalize L.drop (j + 1) = D at hsp
      subst hsp
      simp only [xH, EB, List.nodup_append, List.nodup_cons, mH, xA] at hnd2
      obtain ⟨_, ⟨hn2, _⟩, hn3⟩ := hnd2
      rw [List.filter_append, List.filter_cons]
      simp only [bne_self_eq_false, Tl, if_false]
      congr 1
      . refine List.filter_eq_self.2 λ x hx => ?_
        simp only [bne_iff_ne, ne_eq]
        exact λ h4 => hn3 _ ⟨x, hx, rfl⟩ _ (.inl rfl) h4
      . refine List.filter_eq_self.2 λ x hx => ?_
        simp only [bne_iff_ne, ne_eq]
        exact λ h4 => hn2 ⟨x, hx, h4⟩
     unfold Oper.wp
     rw [hrun, Oper.upon_value]
     have hmb' : (if b = r then some (Obj.mapIter (some b) since (seen.push e.born) clock) else σ.m b) = some (.map es clock) := by rw [if_neg (λ e => hrb e.symm)]; exact hmb
     refine hnext ι _ _ _ (hM1.put o.dst (x := .tup _) ?_) (h2 (((es.toList.filter λ e => !seen.contains e.born).take j).map λ e => (e.key, e.val)) (e.key, e.val) (((es.toList.filter λ e => !seen.contains e.born).drop (j + 1)).map λ e => (e.key, e.val)) ?_ _ ⟨λ b' hb' => by simp [hb']⟩ ⟨⟨es, clock, since, seen.push e.born, clock, hmb', hes, hborn, hnd, by simp, hold, hscl, hscl, ?_⟩, es, clock, since, seen, e, hmb', hnd, by simp, hees, rfl⟩) ?_
     . exact ⟨_, rfl, rfl, rfl, rfl, trivial⟩
     . rw [<- hleft]
       conv => lhs; rw [hsp]
       simp
     . rw [hleft2]; simp
     . have := hk o (by rw [ho]; rfl)
       subst hw1e
       exact ⟨this.cells, this.imm, this.ext, this.args⟩
 . exact h.elim
theorem QC (hM : aH B ι σ a w) {x : Operand} (ho : o.op = .entry x) (h : N0 o x σ K) : QS B C ι o σ K a w := by
 intro next Q hnext
 have hev := hM.ev x
 unfold N0 at h
 split at h
 . rename_i r hx
   rw [hx] at hev
   have hev : a.eval x = .pointer (some ⟨r, 0, none⟩) := hev
   obtain ⟨b, kvs, left, x, ⟨_, es, clock, since, seen, e, hmb, hnd, hmr, he, rfl⟩, h⟩ := h
   have hrun := run_entry_at (P := C.P) w r b since seen es clock e (hM.wrel.msat r _ hmr) (hM.wrel.msat b _ hmb) he hnd
   have hrun : (execOp a.eval o).run C.P w = .ok (.value (.tuple #[e.key, e.val])) w := by
    unfold execOp
    simp [ho, hev, hrun, Result.andThen]
   unfold Oper.wp
   rw [hrun, Oper.upon_value]
   refine hnext ι _ _ _ (hM.put o.dst (x := .tup _) ?_) h (jW hM)
   exact ⟨_, rfl, rfl, rfl, trivial⟩
 . exact h.elim
theorem B8 {P : Program} {kt : TypeId} {Ok : Value -> Prop} (L : KeyLaw P kt Ok) {k : Value} (hk : Ok k) (w : World) : ∀ (es : List MapEntry) (i : Nat), (∀ e ∈ es, Ok e.key) ->
 ((∀ e ∈ es, e.key ≠ k) /\ (Instr.findAsking kt k es i).run P w = .ok none w) \/ ∃ j e, es[j]? = some e /\ e.key = k /\ (Instr.findAsking kt k es i).run P w = .ok (some (i + j, e.val)) w
 | [], i, _ => .inl ⟨λ e he => (by cases he), by simp [Instr.findAsking]⟩
 | e :: es, i, hes => by
  obtain ⟨r, hr, hrk⟩ := L.eq k e.key w hk (hes e (by simp))
  cases r with
  | true => exact .inr ⟨0, e, rfl, (hrk.1 rfl).symm, by simp [Instr.findAsking, hr]⟩
  | false =>
   have hne : e.key ≠ k := λ h => by have := hrk.2 h.symm; cases this
   rcases B8 L hk w es (i + 1) (λ e' he' => hes e' (by simp [he'])) with ⟨h1, h2⟩ | ⟨j, e', h1, h2, h3⟩
   . refine .inl ⟨λ e' he' => ?_, by simp [Instr.findAsking, hr, h2]⟩
     rcases xA.1 he' with rfl | h
     . exact hne
     . exact h1 e' h
   . exact .inr ⟨j + 1, e', by simpa using h1, h2, by simp [Instr.findAsking, hr, h3]; omega⟩
theorem findNow_spec {P : Program} {kt : TypeId} {Ok : Value -> Prop} (L : KeyLaw P kt Ok) {d : TypeDesc} (hd : P.underlying kt = some d) {k : Value} (hk : Ok k) : ∀ (es : List MapEntry) (i : Nat) (r : Option (Nat × Value)), (∀ e ∈ es, Ok e.key) ->
 Instr.findNow d k es i = some r -> ((∀ e ∈ es, e.key ≠ k) /\ r = none) \/ ∃ j e, es[j]? = some e /\ e.key = k /\ r = some (i + j, e.val)
 | [], i, r, _, h => by
  simp [Instr.findNow] at h
  exact .inl ⟨λ e he => (by cases he), h.symm⟩
 | e :: es, i, r, hes, h => by
  simp only [Instr.findNow] at h
  split at h
  . rename_i hs
    simp only [sW] at h
    exact .inr ⟨0, e, rfl, ((L.now d k e.key true hd hk (hes e (by simp)) hs).1 rfl).symm, by simpa using h.symm⟩
  . rename_i hs
    have hne : e.key ≠ k := λ h' => by have := (L.now d k e.key false hd hk (hes e (by simp)) hs).2 h'.symm; cases this
    rcases findNow_spec L hd hk es (i + 1) r (λ e' he' => hes e' (by simp [he'])) h with ⟨h1, h2⟩ | ⟨j, e', h1, h2, h3⟩
    . refine .inl ⟨λ e' he' => ?_, h2⟩
      rcases xA.1 he' with rfl | h
      . exact hne
      . exact h1 e' h
    . exact .inr ⟨j + 1, e', by simpa using h1, h2, by rw [h3]; congr 2; omega⟩
  . cases h
theorem run_findKey {P : Program} {kt : TypeId} {Ok : Value -> Prop} (L : KeyLaw P kt Ok) {k : Value} (hk : Ok k) (w : World) (es : List MapEntry) (hes : ∀ e ∈ es, Ok e.key) :
 ((∀ e ∈ es, e.key ≠ k) /\ (Instr.findKey kt k es).run P w = .ok none w) \/ ∃ j e, es[j]? = some e /\ e.key = k /\ (Instr.findKey kt k es).run P w = .ok (some (j, e.val)) w := by
 obtain ⟨d, hd⟩ := L.under
 cases hn : Instr.findNow d k es 0 with
 | some r =>
  have hrun : (Instr.findKey kt k es).run P w = .ok r w := by simp [Instr.findKey, run_underlying hd, hn]
  rcases findNow_spec L hd hk es 0 r hes hn with ⟨h1, rfl⟩ | ⟨j, e, h1, h2, rfl⟩
  . exact .inl ⟨h1, hrun⟩
  . exact .inr ⟨j, e, h1, h2, by rw [hrun]; simp⟩
 | none =>
  have hrun : (Instr.findKey kt k es).run P w = (Instr.findAsking kt k es).run P w := by simp [Instr.findKey, run_underlying hd, hn]
  rw [hrun]
  rcases B8 L hk w es 0 hes with ⟨h1, h2⟩ | ⟨j, e, h1, h2, h3⟩
  . exact .inl ⟨h1, h2⟩
  . exact .inr ⟨j, e, h1, h2, by rw [h3]; simp⟩
theorem OD {P : Program} {T : TypeId} {z : Value} (h : M8 P T = some z) (w : World) : (zeroValue T).run P w = .ok z w := by
 unfold M8 at h
 split at h
 . rename_i i hi
   split at h
   . rename_i k n hz
     simp only [sW] at h; subst h
     simp [zeroValue, typeInfo, hi, hz]
   . rename_i b hz
     simp only [sW] at h; subst h
     simp [zeroValue, typeInfo, hi, hz]
   . rename_i hz
     simp only [sW] at h; subst h
     simp [zeroValue, typeInfo, hi, hz]
   . cases h
 . cases h
theorem NM (hM : aH B ι σ a w) {t : Nat} {x k : Operand} {ok : Bool} (ho : o.op = .lookup t x k ok) (h : J1 C o t x k ok σ K) : QS B C ι o σ K a w := by
 intro next Q hnext
 have hev := hM.ev x
 unfold J1 at h
 split at h
 . rename_i kt et b kv hu hx hkv
   rw [hx] at hev
   have hev : a.eval x = .map (some b) := hev
   have hke : a.eval k = kv := (hM.ev k).val? hkv
   split at h
   . rename_i z hz
     obtain ⟨kvs, Ok, ⟨es, clock, hm, hes⟩, L, hok, hoks, hmiss, hhit⟩ := h
     have hg := hM.wrel.msat b _ hm
     have hmem : ∀ e ∈ es.toList, ∃ p ∈ kvs, e.key = p.1 /\ e.val = only ((C.dec et).enc p.2) := by
      intro e he
      have : (e.key, e.val) ∈ kvs.map λ p => (p.1, only ((C.dec et).enc p.2)) := by
       rw [<- hes]; exact mH.2 ⟨e, he, rfl⟩
      obtain ⟨p, hp, e2⟩ := mH.1 this
      simp only [Ez] at e2
      exact ⟨p, hp, e2.1.symm, e2.2.symm⟩
     have hall : ∀ e ∈ es.toList, Ok e.key := λ e he => by
      obtain ⟨p, hp, e1, _⟩ := hmem e he
      rw [e1]; exact hoks p hp
     have hchk := L.check kv w es.isEmpty hok
     unfold Oper.wp
     rcases run_findKey L hok w es.toList hall with ⟨h1, h2⟩ | ⟨j, e, h1, h2, h3⟩
     . have hrun : (execOp a.eval o).run C.P w = .ok (.value (if ok then .tuple #[z, .bool false] else z)) w := by
        unfold execOp
        simp [ho, hev, hke, Instr.lookup, run_underlying hu, MapKept.run_getObj_map hg, hchk, h2, OD hz, Result.andThen]
       rw [hrun, Oper.upon_value]
       refine hnext ι _ _ _ (hM.put o.dst ?_) (hmiss ?_) (jW hM)
       . cases ok
         . rfl
         . exact ⟨_, rfl, rfl, rfl, trivial⟩
       . intro p hp e1
         have : (p.1, only ((C.dec et).enc p.2)) ∈ es.toList.map λ e => (e.key, e.val) := by
          rw [hes]; exact mH.2 ⟨p, hp, rfl⟩
         obtain ⟨e, he, e2⟩ := mH.1 this
         simp only [Ez] at e2
         exact h1 e he (e2.1.trans e1)
     . have he : e ∈ es.toList := lP h1
       obtain ⟨p, hp, e1, e2⟩ := hmem e he
       have hrun : (execOp a.eval o).run C.P w = .ok (.value (if ok then .tuple #[e.val, .bool true] else e.val)) w := by
        unfold execOp
        simp [ho, hev, hke, Instr.lookup, run_underlying hu, MapKept.run_getObj_map hg, hchk, h3, Result.andThen]
       have hh := hhit p.2 (by rw [<- h2, e1]; exact hp)
       rw [hrun, Oper.upon_value]
       split at hh
       . rename_i u hu2
         rw [hu2] at e2
         refine hnext ι _ _ _ (hM.put o.dst ?_) hh (jW hM)
         cases ok
         . exact e2
         . exact ⟨_, rfl, e2, rfl, trivial⟩
       . exact hh.elim
   . exact h.elim
 . exact h.elim
theorem Ii (hM : aH B ι σ a w) {t : Nat} {x k v : Operand} (ho : o.op = .mapUpdate t x k v) (hdst : o.dst = none) (h : y9 C t x k v σ K) : QS B C ι o σ K a w := by
 intro next Q hnext
 have hev := hM.ev x
 unfold y9 at h
 split at h
 . rename_i kt et b kv u hu hx hkv hv
   rw [hx] at hev
   have hev : a.eval x = .map (some b) := hev
   have hke : a.eval k = kv := (hM.ev k).val? hkv
   have hve : a.eval v = u := (hM.ev v).val? hv
   obtain ⟨kvs, Ok, ⟨es, clock, hm, hes⟩, L, hok, hoks, hnew, hK⟩ := h
   have hg := hM.wrel.msat b _ hm
   have hmem : ∀ e ∈ es.toList, (e.key, e.val) ∈ kvs := λ e he => by rw [<- hes]; exact mH.2 ⟨e, he, rfl⟩
   have hall : ∀ e ∈ es.toList, Ok e.key := λ e he => hoks _ (hmem e he)
   have hchk := L.check kv w false hok
   rcases run_findKey L hok w es.toList hall with ⟨h1, h2⟩ | ⟨j, e, h1, h2, h3⟩
   . obtain ⟨hM1, hk⟩ := OX (ob := .map (es.push { key := kv, val := u, born := clock }) (clock + 1)) hM hm
     have hrun : (execOp a.eval o).run C.P w = .ok .skip { w with heap := w.heap.setIfInBounds b (.map (es.push { key := kv, val := u, born := clock }) (clock + 1)) } := by
      unfold execOp
      simp [ho, hev, hke, hve, Instr.mapUpdate, run_underlying hu, MapKept.run_getObj_map hg, MapKept.run_setObj_map _ hg, hchk, h2, Result.andThen]
     unfold Oper.wp
     rw [hrun, Oper.upon_skip, show a.put o.dst undef = a by rw [hdst]; rfl]
     refine hnext ι _ _ _ hM1 (hK _ ⟨λ b' hb' => by simp [hb']⟩ ⟨es.push { key := kv, val := u, born := clock }, clock + 1, by simp, ?_⟩) (hk o (by rw [ho]; rfl))
     simp [hes]
   . exact (hnew _ (hmem e (lP h1)) h2).elim
 . exact h.elim
theorem NL (hM : aH B ι σ a w) {t : Nat} {x k v : Operand} (ho : o.op = .mapUpdate t x k v) (hdst : o.dst = none) (h : FI C t x k v σ K) : QS B C ι o σ K a w := by
 intro next Q hnext
 have hev := hM.ev x
 unfold FI at h
 split at h
 . rename_i kt et b kv u hu hx hkv hv
   rw [hx] at hev
   have hev : a.eval x = .map (some b) := hev
   have hke : a.eval k = kv := (hM.ev k).val? hkv
   have hve : a.eval v = u := (hM.ev v).val? hv
   obtain ⟨kvs, Ok, ⟨es, clock, hm, hes, hborn, hnd⟩, L, hok, hsame, hoks, hnew, hold⟩ := h
   have hg := hM.wrel.msat b _ hm
   have hmem : ∀ e ∈ es.toList, (e.key, e.val) ∈ kvs := λ e he => by rw [<- hes]; exact mH.2 ⟨e, he, rfl⟩
   have hall : ∀ e ∈ es.toList, Ok e.key := λ e he => hoks _ (hmem e he)
   have hchk := L.check kv w false hok
   rcases run_findKey L hok w es.toList hall with ⟨h1, h2⟩ | ⟨j, e, h1, h2, h3⟩
   . obtain ⟨hM1, hk⟩ := OX (ob := .map (es.push { key := kv, val := u, born := clock }) (clock + 1)) hM hm
     have hrun : (execOp a.eval o).run C.P w = .ok .skip { w with heap := w.heap.setIfInBounds b (.map (es.push { key := kv, val := u, born := clock }) (clock + 1)) } := by
      unfold execOp
      simp [ho, hev, hke, hve, Instr.mapUpdate, run_underlying hu, MapKept.run_getObj_map hg, MapKept.run_setObj_map _ hg, hchk, h2, Result.andThen]
     unfold Oper.wp
     rw [hrun, Oper.upon_skip, show a.put o.dst undef = a by rw [hdst]; rfl]
     refine hnext ι _ _ _ hM1 (hnew (λ p hp e1 => ?_) _ ⟨λ b' hb' => by simp [hb']⟩ ⟨es.push { key := kv, val := u, born := clock }, clock + 1, by simp, by simp [hes], λ e he => ?_, ?_⟩) (hk o (by rw [ho]; rfl))
     . rw [<- hes] at hp
       obtain ⟨e, he, rfl⟩ := mH.1 hp
       exact h1 e he e1
     . rw [Array.toList_push, BZ, X5] at he
       rcases he with he | rfl
       . have := hborn e he; omega
       . exact Nat.lt_succ_self _
     . rw [Array.toList_push, xH, List.nodup_append]
       refine ⟨hnd, by simp, λ x hx y hy e1 => ?_⟩
       obtain ⟨e, he, rfl⟩ := mH.1 hx
       simp at hy
       have := hborn e he
       omega
   . have hjlt := (mG.1 h1).1
     have hje : es[j]? = some e := by rw [<- BU]; exact h1
     obtain ⟨hM1, hk⟩ := OX (ob := .map (es.modify j λ e => { e with key := kv, val := u }) clock) hM hm
     have hrun : (execOp a.eval o).run C.P w = .ok .skip { w with heap := w.heap.setIfInBounds b (.map (es.modify j λ e => { e with key := kv, val := u }) clock) } := by
      unfold execOp
      simp [ho, hev, hke, hve, Instr.mapUpdate, run_underlying hu, MapKept.run_getObj_map hg, MapKept.run_setObj_map _ hg, hchk, h3, hje, h2, Instr.keyThatStays, hsame, Result.andThen]
     have hlist : (es.modify j λ e => { e with key := kv, val := u }).toList = es.toList.take j ++ { e with key := kv, val := u } :: es.toList.drop (j + 1) := by
      rw [Array.toList_modify, List.modify_eq_take_cons_drop hjlt]
      congr 2
      have := (mG.1 h1).2
      rw [this]
     have hsp := sU h1
     unfold Oper.wp
     rw [hrun, Oper.upon_skip, show a.put o.dst undef = a by rw [hdst]; rfl]
     refine hnext ι _ _ _ hM1 (hold ((es.toList.take j).map λ e => (e.key, e.val)) e.val ((es.toList.drop (j + 1)).map λ e => (e.key, e.val)) ?_ _ ⟨λ b' hb' => by simp [hb']⟩ ⟨es.modify j λ e => { e with key := kv, val := u }, clock, by simp, ?_, ?_, ?_⟩) (hk o (by rw [ho]; rfl))
     . rw [<- hes]
       conv => lhs; rw [hsp]
       simp [h2]
     . rw [hlist]; simp
     . intro x hx
       rw [hlist] at hx
       rw [hsp] at hborn
       rcases BZ.1 hx with hx | hx
       . exact hborn x (List.mem_append_left _ hx)
       . rcases xA.1 hx with rfl | hx
         . exact hborn e (List.mem_append_right _ (Gh ..))
         . exact hborn x (List.mem_append_right _ (D3 _ hx))
     . rw [hlist]
       rw [hsp] at hnd
       simpa using hnd
 . exact h.elim
end
end Go.Vc
namespace Go.Vc
open Go
section
variable {B : oY} {C : Ctx} {ι : Nat -> Value} {σ : St} {a : Act} {w : World} {o : Oper} {K : St -> Prop}
theorem Wn (hM : aH B ι σ a w) (hr : Bx o.op = true) (h : Nx C o σ K) : On C ι o σ K a w := by
 unfold Nx at h
 cases ho : o.op <;> simp only [ho] at h hr
 case move x => exact JY hM (.inl ho) h
 case assign x => exact JY hM (.inr ho) h
 case pick c x y => exact Rh hM ho h
 case build T ps => exact QK hM ho h
 case load T x => exact Ro hM ho h
 case nilCheck x => exact JO hM ho h
 case binOp op tx x y ty =>
  cases op
  case eql =>
   simp only at h
   split at h
   . exact B6 (neg := false) hM ho h
   . exact i6 hM (λ cs b => by rw [ho]; intro e; cases e) h
  case neq =>
   simp only at h
   split at h
   . exact B6 (neg := true) hM ho h
   . exact i6 hM (λ cs b => by rw [ho]; intro e; cases e) h
  case add => exact N4 hM ho h
  all_goals first
   | exact i6 hM (λ cs b => by rw [ho]; intro e; cases e) h
   | exact VK hM ho h
 case unOp op t x => exact i6 hM (λ cs b => by rw [ho]; intro e; cases e) h
 case convert s d x => exact Lf hM ho h
 case fieldAddr T x f => exact Il hM ho h
 case field T x f => exact PA hM ho h
 case indexAddr T x i => exact Ik hM ho h
 case index T x i => exact Pt hM ho h
 case extract x i => exact Le hM ho h
 case call c =>
  obtain ⟨callee, args, argTypes⟩ := c
  cases callee with
  | builtin b =>
   cases b <;> simp only [Bx, Tl] at hr
   case len =>
    simp only at h
    split at h
    . rename_i x hx
      exact UM hM ho rfl hx h
    . exact h.elim
   case min => exact i6 hM (λ cs b => by rw [ho]; intro e; cases e) h
   case max => exact i6 hM (λ cs b => by rw [ho]; intro e; cases e) h
  | value f => simp [Bx] at hr
  | invoke r n => simp [Bx] at hr
 all_goals (first | exact h.elim | (simp [Bx] at hr))
theorem On.stp (hM : aH B ι σ a w) (h : On C ι o σ K a w) : QS B C ι o σ K a w := by
 intro next Q hnext
 obtain ⟨v, x, hrun, hx, hK⟩ := h
 unfold Oper.wp
 rw [hrun w (.inr rfl), Oper.upon_value]
 exact hnext ι _ _ _ (hM.put o.dst hx) hK (jW hM)
theorem Pf (hspecs : ∀ g S, assoc C.specs g = some S -> Sound C.P g S) (hM : aH B ι σ a w) (h : Nx C o σ K) : QS B C ι o σ K a w := by
 cases hr : Bx o.op with
 | true => exact (Wn hM hr h).stp hM
 | false =>
  unfold Nx at h
  cases ho : o.op <;> simp only [ho] at h hr
  case alloc T =>
   intro next Q hn
   refine QO hM ho h next Q (λ ι' σ' a' w' hM' h' hk => ?_)
   obtain ⟨σ2, hM2, hK2, _⟩ := tJ _ _ hM' h'
   exact hn ι' σ2 a' w' hM2 hK2 hk
  case box T x =>
   split at h
   . intro next Q hn
     obtain ⟨τ, hMτ, hK, hfz⟩ := kZ _ _ hM h
     refine MU hMτ ho hK next Q (λ ι' σ' a' w' hM' h' hk => ?_)
     obtain ⟨σ2, hM2, hK2, _⟩ := tJ _ _ hM' h'
     exact hn ι' σ2 a' w' hM2 hK2 (hk.of_fz hfz)
   . exact MU hM ho h
  case buildSlice T n ps =>
   intro next Q hn
   refine Hs hM ho h next Q (λ ι' σ' a' w' hM' h' hk => ?_)
   obtain ⟨σ2, hM2, hK2, _⟩ := z7 _ _ hM' h'
   obtain ⟨σ3, hM3, hK3, _⟩ := kZ _ _ hM2 hK2
   exact hn ι' σ3 a' w' hM3 hK3 hk
  case makeFunc f x cs =>
   intro next Q hn
   obtain ⟨τ, hMτ, hK, hld⟩ := tJ _ _ hM h
   obtain ⟨v, x, hrun, hx, hK⟩ := i6 hMτ (λ cs b => by rw [ho]; intro e; cases e) hK
   unfold Oper.wp
   rw [hrun w (.inr rfl), Oper.upon_value]
   exact hn ι _ _ _ (hMτ.put o.dst hx) hK (jW hM)
  case store T x v =>
   cases hd : o.dst with
   | none =>
    rw [hd] at h
    intro next Q hn
    obtain ⟨τ, hMτ, hK, hfz⟩ := kZ _ _ hM h
    exact OP hMτ ho hd hK next Q (λ ι' σ' a' w' hM' h' hk => hn ι' σ' a' w' hM' h' (hk.of_fz hfz))
   | some d => rw [hd] at h; exact h.elim
  case makeSlice T l c =>
   intro next Q hn
   refine Ij hM ho h next Q (λ ι' σ' a' w' hM' h' hk => ?_)
   obtain ⟨σ2, hM2, hK2, _⟩ := z7 _ _ hM' h'
   exact hn ι' σ2 a' w' hM2 hK2 hk
  case slice T x lo hi mx => exact OW hM ho h
  case makeMap T r => exact La hM ho h
  case lookup T x k ok => exact NM hM ho h
  case mapUpdate T x k v =>
   cases hd : o.dst with
   | none =>
    rw [hd] at h
    have h : (match NJ C.heapT 400000 with | true => FI C T x k v σ K | false => y9 C T x k v σ K) := h
    split at h
    . exact NL hM ho hd h
    . exact Ii hM ho hd h
   | some d => rw [hd] at h; exact h.elim
  case range T x => exact O8 hM ho h
  case next x b => exact Rl hM ho h
  case entry x => exact QC hM ho h
  case call c =>
   obtain ⟨callee, args, argTypes⟩ := c
   cases callee with
   | builtin b =>
    cases b <;> simp only [Bx, Bool.true_eq_false] at hr <;> simp only at h
    case append =>
     split at h
     . rename_i x y T tx hx ht
       intro next Q hn
       refine N8 hM ho rfl hx ht h next Q (λ ι' σ' a' w' hM' h' hk => ?_)
       obtain ⟨σ3, hM3, hK3, _⟩ := kZ _ _ hM' h'
       exact hn ι' σ3 a' w' hM3 hK3 hk
     . exact h.elim
    case cap => exact (i6 hM (λ cs b => by rw [ho]; intro e; cases e) h).stp hM
    all_goals exact h.elim
   | value g =>
    simp only at h
    split at h
    . rename_i f fs cs hg
      split at h
      . rename_i hfs hcs
        exact SX hspecs hM ho rfl hg hfs hcs h
      . exact h.elim
    . exact h.elim
   | invoke r n => exact h.elim
  all_goals (first | exact h.elim | (simp [Bx] at hr))
theorem Jp (hM : aH B ι σ a w) {d : Nat} {xs : Array Value} (h : σ.ev (.tmp d) = .at (.val (.tuple xs))) : a.tmps[d]? = none \/ ∃ xs, a.tmps[d]? = some (.tuple xs) := by
 have hev := hM.ev (.tmp d)
 rw [h] at hev
 have hev : a.eval (.tmp d) = .tuple xs := hev
 simp only [Act.eval, Array.getD_eq_getD_getElem?] at hev
 cases hd : a.tmps[d]? with
 | none => exact .inl rfl
 | some v => rw [hd] at hev; simp at hev; exact .inr ⟨xs, by rw [hev]⟩
theorem D5 (hM : aH B ι σ a w) {d : Nat} {t : Bool} (h : σ.ev (.tmp d) = .at (.val (.bool t))) : a.tmps[d]? = some (.bool t) := by
 have hev := hM.ev (.tmp d)
 rw [h] at hev
 have hev : a.eval (.tmp d) = .bool t := hev
 simp only [Act.eval, Array.getD_eq_getD_getElem?] at hev
 cases hd : a.tmps[d]? with
 | none => rw [hd] at hev; simp [undef] at hev
 | some v => rw [hd] at hev; simp at hev; rw [hev]
theorem aH.setTmp (hM : aH B ι σ a w) {c : Operand} {t : Bool} (h : σ.ev c = .at (.val (.bool t))) : aH B ι (setTmp σ c t) a w := by
 cases c with
 | tmp d =>
  refine ⟨?_, hM.defers, hM.own, hM.dist, hM.fresh, hM.wrel, hM.one⟩
  have ht := D5 hM h
  have := hM.slots.set d (x := .at (.val (.bool t))) (v := .bool t) rfl
  show DenS ι (σ.sl.set d _) a.tmps.toList
  have e : a.tmps.toList.set d (.bool t) = a.tmps.toList := by
   apply List.ext_getElem?
   intro j
   rw [List.getElem?_set]
   split
   . rename_i hj
     subst hj
     rw [BU, ht]
     split
     . rfl
     . rename_i hlt
       simp at hlt
       rw [Array.getElem?_eq_none hlt] at ht
       cases ht
   . rfl
  rw [e] at this
  exact this
 | const v => exact hM
 | global g => exact hM
 | func f => exact hM
theorem LJ {c : Operand} {t : Bool} (h : σ.ev c = .at (.val (.bool t))) : Fz σ (setTmp σ c t) := by
 cases c with
 | tmp d =>
  refine ⟨λ _ _ _ cs h => ⟨cs, h⟩, λ _ _ _ h => h, ?_, ?_, rfl⟩
  . intro x k off hx
    cases x with
    | tmp e =>
     simp only [Vc.setTmp, St.ev, tT] at hx
     simp only [St.ev]
     by_cases he : e = d /\ d < σ.sl.length
     . rw [if_pos he] at hx
       cases hx
     . rw [if_neg he] at hx
       exact hx
    | const v => exact hx
    | global g => exact hx
    | func f => exact hx
  . intro x k hx
    cases x with
    | tmp e =>
     simp only [Vc.setTmp, St.ev, tT] at hx
     simp only [St.ev]
     by_cases he : e = d /\ d < σ.sl.length
     . rw [if_pos he] at hx
       cases hx
     . rw [if_neg he] at hx
       exact hx
    | const v => exact hx
    | global g => exact hx
    | func f => exact hx
 | const v => exact Fz.refl σ
 | global g => exact Fz.refl σ
 | func f => exact Fz.refl σ
def GWp (C : Ctx) (ops : Array Oper) (o : Oper) (a : Act) (w : World) (next : Act -> World -> Prop) (Q : Exit -> Act -> World -> Prop) : Prop :=
 if Region.wanted o (yielded ops a.tmps) then o.wp C.P a w next Q else next (a.put o.dst undef) w
theorem Lm {ops : Array Oper} {j d : Nat} {want t : Bool} {g : Oper} (hg : o.guard = some (j, want)) (hj : nth ops.toList j = some g) (hd : g.dst = some d) (ht : a.tmps[d]? = some (.bool t)) :
 Region.wanted o (yielded ops a.tmps) = (t == want) := by
 unfold Region.wanted
 rw [hg]
 rw [iG, BU] at hj
 simp [yielded, hj, hd, ht]
theorem ED {ops : Array Oper} {j d : Nat} {want : Bool} {g : Oper} (hg : o.guard = some (j, want)) (hj : nth ops.toList j = some g) (hd : g.dst = some d) (ht : a.tmps[d]? = none \/ ∃ xs, a.tmps[d]? = some (.tuple xs)) :
 Region.wanted o (yielded ops a.tmps) = false := by
 unfold Region.wanted
 rw [hg]
 rw [iG, BU] at hj
 rcases ht with ht | ⟨xs, ht⟩ <;> simp [yielded, hj, hd, ht]
theorem Cx {f : Oper -> St -> (St -> Prop) -> Prop} {ops : Array Oper} (hM : aH B ι σ a w) (h : J8 f ops o σ K) :
 ∃ σ1, aH B ι σ1 a w /\ Fz σ σ1 /\ ((Region.wanted o (yielded ops a.tmps) = true /\ f o σ1 K) \/ (Region.wanted o (yielded ops a.tmps) = false /\ K (σ1.put o.dst (.at (.val undef))))) := by
 unfold J8 at h
 split at h
 . rename_i hg
   exact ⟨σ, hM, Fz.refl σ, .inl ⟨by simp [Region.wanted, hg], h⟩⟩
 . rename_i j want hg
   split at h
   . exact h.elim
   . rename_i g hj
     split at h
     . exact h.elim
     . rename_i d hd
       split at h
       . rename_i t ht
         have htm := D5 hM ht
         have hw := Lm (o := o) (a := a) hg hj hd htm
         rcases qV h with ⟨rfl, h⟩ | ⟨rfl, h⟩
         . refine ⟨setTmp σ (.tmp d) true, hM.setTmp ht, LJ ht, ?_⟩
           cases want with
           | true => exact .inl ⟨by simpa using hw, h⟩
           | false => exact .inr ⟨by simpa using hw, h⟩
         . refine ⟨setTmp σ (.tmp d) false, hM.setTmp ht, LJ ht, ?_⟩
           cases want with
           | true => exact .inr ⟨by simpa using hw, h⟩
           | false => exact .inl ⟨by simpa using hw, h⟩
       . rename_i xs ht
         exact ⟨σ, hM, Fz.refl σ, .inr ⟨ED hg hj hd (Jp hM ht), h⟩⟩
       . exact h.elim
theorem Pv (hspecs : ∀ g S, assoc C.specs g = some S -> Sound C.P g S) {ops : Array Oper} (hM : aH B ι σ a w) (h : NW C ops o σ K)
 (next : Act -> World -> Prop) (Q : Exit -> Act -> World -> Prop) (hnext : ∀ ι' σ' a' w', aH B ι' σ' a' w' -> K σ' -> Ex σ ι o w w' -> next a' w') : GWp C ops o a w next Q := by
 obtain ⟨σ1, hM1, hfz, hc⟩ := Cx hM h
 unfold GWp
 rcases hc with ⟨hw, h⟩ | ⟨hw, h⟩
 . rw [if_pos hw]
   exact Pf hspecs hM1 h next Q (λ ι' σ' a' w' h1 h2 h3 => hnext ι' σ' a' w' h1 h2 (h3.of_fz hfz))
 . rw [if_neg (by simp [hw])]
   exact hnext ι _ _ _ (hM1.put o.dst (x := .at (.val undef)) rfl) h (jW hM)
theorem Jm {P : Program} {next : Act -> World -> Prop} {Q : Exit -> Act -> World -> Prop} (h : o.wp P a w next Q) : o.wpIn Fence.wide 0 P a w next Q := by
 refine ⟨λ _ _ => trivial, ?_⟩
 show o.uponIn Fence.wide 0 P a next Q ((execOp a.eval o).run P w)
 unfold Oper.wp at h
 cases hr : (execOp a.eval o).run P w with
 | ok x w' =>
  rw [hr] at h
  cases x with
  | value v => exact h
  | skip => exact h
  | defer d => exact h
  | enter f args => exact ⟨λ e => by simp [Fence.wide] at e, callsIn_wide.2 h⟩
  | row r args =>
   refine ⟨λ e => by simp [Fence.wide] at e, λ c cs _ => ?_⟩
   obtain ⟨v, w2, hv, hs⟩ := h c cs
   exact ⟨v, w2, hv, stepsIn_wide.2 hs⟩
  | _ => exact h.elim
 | halt x w' =>
  rw [hr] at h
  cases x with
  | panic v => exact h
  | _ => exact h.elim
def Xy (B : oY) (C : Ctx) (o : Oper) (K : St -> Prop) (a : Act) (w : World) : Prop :=
 ∀ (next : Act -> World -> Prop) (Q : Exit -> Act -> World -> Prop), (∀ ι' σ' a' w', aH B ι' σ' a' w' -> K σ' -> next a' w') -> o.wpIn Fence.wide 0 C.P a w next Q
theorem CG (hM : aH B ι σ a w) : ∀ (i : Nat) (l : List Operand) (ts : List TypeId) (cvs : List CV), oX C.P σ [] i l ts = some cvs -> cvs = (l.map a.eval).map .val
 | i, [], ts, cvs, h => by simp [oX] at h; subst h; rfl
 | i, x :: r, ts, cvs, h => by
  simp only [oX] at h
  split at h
  . cases h
  . rename_i rest hrest
    have ih := CG hM (i + 1) r ts.tail rest hrest
    simp only [List.contains_nil] at h
    split at h
    . rename_i u hu
      simp only [sW] at h
      subst h
      simp only [EB, (hM.ev x).val? hu, ih]
    . cases h
theorem OG (hM : aH B ι σ a w) {c : Call} {g : Operand} {l : Nat} {fs cs : Array Value} (ho : o.op = .call c) (hc : c.callee = .value g)
 (hg : σ.ev g = .at (.val (.func (.yield l) fs cs))) (hfs : fs.toList = []) (hcs : cs.toList = []) (h : Nb C o (.func (.yield l) #[] #[]) c.args.toList σ K) : Xy B C o K a w := by
 intro next Q hnext
 unfold Nb at h
 split at h
 . exact h.elim
 . rename_i S hS
   split at h
   . rename_i cvs hcvs
     obtain ⟨hY, h⟩ := h
     have hv := CG hM 0 _ _ _ hcvs
     subst hv
     have hw := hM.wrel
     obtain ⟨fn, tmps, assign, body, hrun, hround⟩ := hY.go l _ σ.m σ.h w _ h ⟨hw.hsat, hw.msat, hw.disj⟩
     have hev : a.eval g = .func (.yield l) fs cs := by have := hM.ev g; rw [hg] at this; exact this
     have hfs' : fs = #[] := by apply Oz.1; simpa using hfs
     have hcs' : cs = #[] := by apply Oz.1; simpa using hcs
     subst hfs' hcs'
     have hargsA : c.args.map a.eval = (c.args.toList.map a.eval).toArray := by apply Oz.1; simp
     have hrun2 : (execOp a.eval o).run C.P w = .ok (.round l fn tmps assign body) w := by
      unfold execOp
      simp only [ho, resolve, hc, hev, Deferred.ofValue, Sem.run_bind, Sem.run_pure, Result.andThen_ok, invoke]
      simp [hargsA, hrun]
     refine ⟨λ _ _ => trivial, ?_⟩
     show o.uponIn Fence.wide 0 C.P a next Q ((execOp a.eval o).run C.P w)
     rw [hrun2, Oper.uponIn_round]
     refine ⟨λ e => by simp [Fence.wide] at e, hround.mono ?_⟩
     rintro e w' ⟨u, m', h', rfl, hK, hf⟩
     show next (a.put o.dst u) w'
     have hwr : Ab ⟨w, λ b => σ.m b ≠ none, σ.h, []⟩ m' h' w' :=
      ⟨hf.tape, hf.os, hf.output, hf.drawn, hf.size, λ b hb hn => hf.frame b hb (Classical.byContradiction hn), hf.heapy.hsat, hf.heapy.msat, hf.heapy.disj, hf.hle.le, λ b hb hn => hf.hold b hb (Classical.byContradiction hn), λ b ob hb => hf.mfr b ob hb⟩
     have hM2 := hM.called hwr (λ b hb => by
      cases hm : σ.m b with
      | none => exact (hb hm).elim
      | some ob => exact hw.mfr b ob hm) (λ j o' b hj hb hn => hn (hM.fresh j o' b hj hb).2.1)
     exact hnext ι _ _ _ (hM2.put o.dst (x := .at (.val u)) rfl) hK
   . exact h.elim
theorem UJ (hspecs : ∀ g S, assoc C.specs g = some S -> Sound C.P g S) (hM : aH B ι σ a w) (h : TD C o σ K) : Xy B C o K a w := by
 have old : Nx C o σ K -> Xy B C o K a w := λ h next Q hn => Jm (Pf hspecs hM h next Q (λ ι' σ' a' w' h1 h2 _ => hn ι' σ' a' w' h1 h2))
 unfold TD at h
 split at h
 . rename_i c ho
   split at h
   . rename_i g hc
     split at h
     . rename_i l fs cs hg
       split at h
       . rename_i hfs hcs
         exact OG hM ho hc hg hfs hcs h
       . exact h.elim
     . exact old h
   . exact old h
 . exact old h
theorem Lc (hspecs : ∀ g S, assoc C.specs g = some S -> Sound C.P g S) {ops : Array Oper} (hM : aH B ι σ a w) (h : J8 (TD C) ops o σ K)
 (next : Act -> World -> Prop) (Q : Exit -> Act -> World -> Prop) (hnext : ∀ ι' σ' a' w', aH B ι' σ' a' w' -> K σ' -> next a' w') :
 if Region.wanted o (yielded ops a.tmps) then o.wpIn Fence.wide 0 C.P a w next Q else (∀ f, o.about C.P w a.eval = some f -> Fence.wide.fn f) /\ next (a.put o.dst undef) w := by
 obtain ⟨σ1, hM1, hfz, hc⟩ := Cx hM h
 rcases hc with ⟨hw, h⟩ | ⟨hw, h⟩
 . rw [if_pos hw]
   exact UJ hspecs hM1 h next Q hnext
 . rw [if_neg (by simp [hw])]
   exact ⟨λ _ _ => trivial, hnext ι _ _ _ (hM1.put o.dst (x := .at (.val undef)) rfl) h⟩
theorem D8 (hspecs : ∀ g S, assoc C.specs g = some S -> Sound C.P g S) {ops : Array Oper} {Q : Exit -> Act -> World -> Prop} {R : St -> Prop} {rest : List Nat} (hQ : ∀ ι σ a w, aH B ι σ a w -> R σ -> wpOpsIn Fence.wide 0 C.P ops Q rest a w) :
 ∀ (l : List Oper) (s : Nat) (ι : Nat -> Value) (σ : St) (a : Act) (w : World), (∀ j, j < l.length -> l[j]? = ops.toList[s + j]?) -> aH B ι σ a w -> Tw C ops l σ R -> wpOpsIn Fence.wide 0 C.P ops Q (List.range' s l.length ++ rest) a w
 | [], s, ι, σ, a, w, _, hM, h => hQ ι σ a w hM h
 | o :: l, s, ι, σ, a, w, hl, hM, h => by
  have ho : ops[s]? = some o := by have := hl 0 (by simp); simp at this; exact this.symm
  simp only [Gi, List.range'_succ, List.cons_append, wpOpsIn, ho]
  exact Lc hspecs hM h (wpOpsIn Fence.wide 0 C.P ops Q (List.range' (s + 1) l.length ++ rest)) Q (λ ι' σ' a' w' h1 h2 =>
   D8 hspecs hQ l (s + 1) ι' σ' a' w' (λ j hj => by have := hl (j + 1) (by simp; omega); simp only [Tm] at this; rw [this]; congr 1; omega) h1 h2)
end
end Go.Vc
namespace Go.Vc
open Go
def Yd (P : Program) (ops : Array Oper) (w : World) (o : Oper) (v : Value) (a : Act) : Prop :=
 (Region.wanted o (yielded ops a.tmps) = true /\ (execOp a.eval o).run P w = .ok (.value v) w) \/ (Region.wanted o (yielded ops a.tmps) = false /\ v = undef)
def Aft (ops : Array Oper) (ok : Oper) (i : Nat) : Prop := waits ok i = true \/ ∃ j oj, ops[j]? = some oj /\ waits ok j = true /\ waits oj i = true
def S7 (ops : Array Oper) (oi : Oper) : Prop := ∀ (k : Nat) (ok : Oper) (d : Nat), ops[k]? = some ok -> ok.dst = some d -> d ∈ oi.looksAt ops -> waits oi k = true
structure XM (ops : Array Oper) (i : Nat) (oi : Oper) : Prop where
 mv : Yk oi.op = true
 look : ∀ (k : Nat) (ok : Oper) (d : Nat), ops[k]? = some ok -> ok.dst = some d -> d ∈ oi.looksAt ops -> Aft ops ok i
structure ZG (ops : Array Oper) : Prop where
 look : ∀ (i : Nat) (oi : Oper), ops[i]? = some oi -> S7 ops oi \/ XM ops i oi
 dst : ∀ (i k : Nat) (oi ok : Oper) (d : Nat), ops[i]? = some oi -> ops[k]? = some ok -> ok.dst = some d -> i ≠ k -> oi.dst ≠ some d
 topo : ∀ (i : Nat) (oi : Oper) (k : Nat), ops[i]? = some oi -> waits oi k = true -> k < i
 sel : ∀ (j : Nat) (o : Oper) cs b, ops[j]? = some o -> o.op ≠ .select cs b
theorem Aft.in_ {ops : Array Oper} {ok : Oper} {i : Nat} {L : Array Bool} (h : Aft ops ok i) (hk : ∀ j, waits ok j = true -> L.getD j false = true) (hL : ∀ (j : Nat) (oj : Oper), ops[j]? = some oj -> L.getD j false = true -> ∀ k, waits oj k = true -> L.getD k false = true) : L.getD i false = true := by
 rcases h with h | ⟨j, oj, hj, h1, h2⟩
 . exact hk i h
 . exact hL j oj hj (hk j h1) i h2
theorem ZG.self {ops : Array Oper} (hs : ZG ops) {k : Nat} {o : Oper} (ho : ops[k]? = some o) : ∀ d, o.dst = some d -> d ∉ o.looksAt ops := λ d hd hm => by
 rcases hs.look k o ho with h | h
 . have := hs.topo k o k ho (h k o d ho hd hm)
   omega
 . rcases h.look k o d ho hd hm with h1 | ⟨j, oj, hj, h1, h2⟩
   . have := hs.topo k o k ho h1
     omega
   . have := hs.topo k o j ho h1
     have := hs.topo j oj k hj h2
     omega
theorem Wp {P : Program} {o : Oper} (h : Yk o.op = true) : vS P o = false := by
 unfold vS
 cases e : o.op <;> simp_all [Yk]
theorem Gl {o : Oper} {k : Nat} : waits o k = true ↔ ∃ e ∈ o.after, Region.binds .any e = true /\ e.on = k := by
 unfold waits
 rw [List.any_eq_true]
 constructor
 . rintro ⟨e, he, h⟩
   simp only [Gf] at h
   exact ⟨e, by simpa using he, h.1, Gg h.2⟩
 . rintro ⟨e, he, h1, h2⟩
   exact ⟨e, by simpa using he, by simp [h1, h2]⟩
theorem Wd {ops : Array Oper} (h : Z1 ops = true) (hs : Region.noSelect ops = true) : ZG ops := by
 unfold Z1 at h
 simp only [Tn, XX] at h
 have lt : ∀ {i : Nat} {oi : Oper}, ops[i]? = some oi -> i < ops.toList.length := λ hi => by have := (CP.1 hi).1; simpa using this
 refine ⟨?_, ?_, ?_, Region.noSelect_spec hs⟩
 . intro i oi hi
   have h1 := h i (lt hi)
   rw [iG, BU, hi] at h1
   simp only [Gf, Bool.or_eq_true, Tn, XX] at h1
   rcases h1.2 with h2 | ⟨hm, h2⟩
   . refine .inl λ k ok d hk hd hl => ?_
     have h3 := h2 k (lt hk)
     rw [iG, BU, hk] at h3
     simp only [hd, Bool.or_eq_true, V5, List.contains_eq_mem, decide_eq_false_iff_not] at h3
     rcases h3 with h3 | h3
     . exact (h3 hl).elim
     . exact h3
   . refine .inr ⟨hm, λ k ok d hk hd hl => ?_⟩
     have h3 := h2 k (lt hk)
     rw [iG, BU, hk] at h3
     simp only [hd, Bool.or_eq_true, V5, List.contains_eq_mem, decide_eq_false_iff_not] at h3
     rcases h3 with h3 | h3
     . exact (h3 hl).elim
     . unfold afZ at h3
       simp only [Bool.or_eq_true, List.any_eq_true, Gf] at h3
       rcases h3 with h3 | ⟨⟨oj, j⟩, hj, h4, h5⟩
       . exact .inl h3
       . refine .inr ⟨j, oj, ?_, h4, h5⟩
         have := List.mem_zipIdx_iff_getElem?.1 hj
         simpa using this
 . intro i k oi ok d hi hk hd hne
   have h1 := h i (lt hi)
   rw [iG, BU, hi] at h1
   simp only [Gf, Tn, XX] at h1
   have h3 := h1.1.2 k (lt hk)
   rw [iG, BU, hk] at h3
   simp only [hd, Bool.or_eq_true] at h3
   rcases h3 with h3 | h3
   . exact (hne (Gg h3)).elim
   . simpa using h3
 . intro i oi k hi hw
   have hil : i < ops.toList.length := by have := (CP.1 hi).1; simpa using this
   have h1 := h i hil
   rw [iG, BU, hi] at h1
   simp only [Gf, Tn] at h1
   obtain ⟨e, he, hb, rfl⟩ := Gl.1 hw
   have := h1.1.1 e (by simpa using he)
   simp only [hb, V4, Bool.false_or] at this
   rw [<- Nat.blt_eq]; exact this
theorem qR {ops : Array Oper} {listed : Array Bool} {j : Nat} : j ∈ Region.ready .any ops listed ↔ listed.getD j true = false /\ ∃ o, ops[j]? = some o /\ ∀ k, waits o k = true -> listed.getD k false = true := by
 rw [mem_ready]
 constructor
 . rintro ⟨h1, o, ho, h2⟩
   refine ⟨h1, o, ho, λ k hk => ?_⟩
   obtain ⟨e, he, hb, rfl⟩ := Gl.1 hk
   exact h2 e he hb
 . rintro ⟨h1, o, ho, h2⟩
   exact ⟨h1, o, ho, λ e he hb => h2 e.on (Gl.2 ⟨e, he, hb, rfl⟩)⟩
theorem Ja {l : Array Bool} {i : Nat} (h : l.getD i true = false) : l.getD i false = false /\ i < l.size := by
 by_cases hi : i < l.size
 . simp [Array.getD, hi] at h ⊢; exact h
 . simp [Array.getD, hi] at h
theorem pS {l : Array Bool} {i : Nat} (h : i < l.size) : (l.setIfInBounds i true).getD i false = true := by
 simp [Array.getD, h]
theorem Er {ops : Array Oper} {o : Oper} {ar ac : Act} (hs : ∀ cs b, o.op ≠ .select cs b) (h : ∀ t ∈ o.looksAt ops, ar.tmps[t]? = ac.tmps[t]?) :
 execOp ar.eval o = execOp ac.eval o /\ Region.wanted o (yielded ops ar.tmps) = Region.wanted o (yielded ops ac.tmps) := by
 constructor
 . refine execOp_congr o hs λ x hx => ?_
   cases x with
   | tmp t =>
    have : t ∈ o.looksAt ops := List.mem_append_left _ (List.mem_filterMap.2 ⟨.tmp t, by simpa using hx, rfl⟩)
    simp only [Act.eval, Array.getD_eq_getD_getElem?, h t this]
   | const v => rfl
   | global g => rfl
   | func f => rfl
 . unfold Region.wanted
   split
   . rfl
   . rename_i j want hg
     have : yielded ops ar.tmps j = yielded ops ac.tmps j := by
      unfold yielded
      cases hd : (ops[j]?).bind (·.dst) with
      | none => rfl
      | some d =>
       have hm : d ∈ o.looksAt ops := by
        unfold Oper.looksAt
        refine List.mem_append_right _ ?_
        simp [hg, hd]
       simp only [Option.bind_some, h d hm]
     rw [this]
theorem Iv {a : Act} {d : Option Tmp} {v : Value} {t : Nat} (h : d ≠ some t) : (a.put d v).tmps[t]? = a.tmps[t]? := by
 cases d with
 | none => rfl
 | some e =>
  have : e ≠ t := λ x => h (by rw [x])
  simp [Act.put, Array.getElem?_setIfInBounds_ne this]
theorem Yc (a : Act) (d : Option Tmp) (u v : Value) : (a.put d u).put d v = a.put d v := by
 cases d with
 | none => rfl
 | some e => simp [Act.put]
structure MY (P : Program) (ops : Array Oper) (L Cl : Array Bool) (ar ac : Act) (w : World) : Prop where
 szL : L.size = ops.size
 szC : Cl.size = ops.size
 sub : ∀ i, L.getD i false = true -> Cl.getD i false = true
 rd : ∀ (i : Nat) (o : Oper), ops[i]? = some o -> Cl.getD i false = true -> L.getD i false = false -> Bx o.op = true
 clC : ∀ (i : Nat) (o : Oper), ops[i]? = some o -> Cl.getD i false = true -> ∀ k, waits o k = true -> Cl.getD k false = true
 clL : ∀ (i : Nat) (o : Oper), ops[i]? = some o -> L.getD i false = true -> ∀ k, waits o k = true -> L.getD k false = true
 tsz : ar.tmps.size = ac.tmps.size
 df : ar.defers = ac.defers
 agree : ∀ t, (∀ (i : Nat) (o : Oper), ops[i]? = some o -> Cl.getD i false = true -> L.getD i false = false -> o.dst ≠ some t) -> ar.tmps[t]? = ac.tmps[t]?
 pend : ∀ (i : Nat) (o : Oper), ops[i]? = some o -> Cl.getD i false = true -> L.getD i false = false -> ∃ v, (S7 ops o -> ∀ w'', (vS P o = false \/ w'' = w) -> Yd P ops w'' o v ac) /\ (XM ops i o -> ∀ w'', Yd P ops w'' o v ar) /\ ac.put o.dst v = ac
section
variable {P : Program} {ops : Array Oper} {L Cl : Array Bool} {ar ac : Act} {w : World}
theorem Yd.congr {o : Oper} {v : Value} {a a' : Act} {w : World} (h : Yd P ops w o v a) (he : execOp a'.eval o = execOp a.eval o) (hw : Region.wanted o (yielded ops a'.tmps) = Region.wanted o (yielded ops a.tmps)) : Yd P ops w o v a' := by
 unfold Yd at *
 rw [he, hw]
 exact h
theorem MY.looks (h : MY P ops L Cl ar ac w) {o : Oper} (hst : S7 ops o) (hr : ∀ k, waits o k = true -> L.getD k false = true) : ∀ t ∈ o.looksAt ops, ar.tmps[t]? = ac.tmps[t]? := by
 intro t ht
 refine h.agree t (λ k ok hk _ hL hd => ?_)
 have := hr k (hst k ok t hk hd ht)
 rw [this] at hL
 cases hL
theorem MY.looks' (h : MY P ops L Cl ar ac w) {i : Nat} {o : Oper} (hlo : XM ops i o) (hC : Cl.getD i false = false) : ∀ t ∈ o.looksAt ops, ar.tmps[t]? = ac.tmps[t]? := by
 intro t ht
 refine h.agree t (λ k ok hk hCk _ hd => ?_)
 have := (hlo.look k ok t hk hd ht).in_ (h.clC k ok hk hCk) h.clC
 rw [this] at hC
 cases hC
theorem MY.stepA (hs : ZG ops) (h : MY P ops L Cl ar ac w) {i : Nat} {o : Oper} (ho : ops[i]? = some o) (hC : Cl.getD i false = true) (hr : ∀ k, waits o k = true -> L.getD k false = true) {v : Value} (hv : ac.put o.dst v = ac) :
 MY P ops (L.setIfInBounds i true) Cl (ar.put o.dst v) ac w := by
 have hsz : i < L.size := by rw [h.szL]; exact (CP.1 ho).1
 have hsub : ∀ k, (L.setIfInBounds i true).getD k false = false -> L.getD k false = false /\ k ≠ i := by
  intro k hk
  by_cases e : i = k
  . subst e; rw [pS hsz] at hk; cases hk
  . rw [getD_set_ne false e] at hk; exact ⟨hk, λ x => e x.symm⟩
 refine ⟨by simpa using h.szL, h.szC, ?_, λ k ok hk hCk hLk => h.rd k ok hk hCk (hsub k hLk).1, h.clC, ?_, ?_, ?_, ?_, λ k ok hk hCk hLk => ?_⟩
 . intro k hk
   by_cases e : i = k
   . subst e; exact hC
   . rw [getD_set_ne false e] at hk; exact h.sub k hk
 . intro k ok hk hLk j hj
   by_cases e : i = k
   . subst e; rw [ho] at hk; cases hk; exact getD_set_true (hr j hj)
   . rw [getD_set_ne false e] at hLk; exact getD_set_true (h.clL k ok hk hLk j hj)
 . rw [<- h.tsz]; cases o.dst <;> simp [Act.put]
 . rw [<- h.df]; cases o.dst <;> rfl
 . intro t ht
   by_cases e : o.dst = some t
   . rw [e] at hv ⊢
     rw [<- hv]
     simp only [Act.put, Array.getElem?_setIfInBounds_self, h.tsz]
   . rw [Iv e]
     refine h.agree t (λ k ok hk hCk hLk => ?_)
     by_cases ek : i = k
     . subst ek; rw [ho] at hk; cases hk; exact e
     . exact ht k ok hk hCk (by rw [getD_set_ne false ek]; exact hLk)
 . obtain ⟨u, h1, h2, h3⟩ := h.pend k ok hk hCk (hsub k hLk).1
   refine ⟨u, h1, λ hlo w'' => ?_, h3⟩
   have hnl : ∀ d, o.dst = some d -> d ∉ ok.looksAt ops := λ d hd hm => by
    have := (hlo.look i o d ho hd hm).in_ hr h.clL
    rw [(hsub k hLk).1] at this
    cases this
   exact (h2 hlo w'').congr (execOp_put ok (hs.sel k ok · · hk) ar o.dst v hnl) (wanted_put ok ar o.dst v hnl)
theorem MY.take (hs : ZG ops) (h : MY P ops L Cl ar ac w) {k : Nat} {o : Oper} (ho : ops[k]? = some o) (hC : Cl.getD k false = false) (hr : ∀ j, waits o j = true -> Cl.getD j false = true) (hrd : Bx o.op = true) {v : Value}
 (hv : ∀ w'', (vS P o = false \/ w'' = w) -> Yd P ops w'' o v ac) : MY P ops L (Cl.setIfInBounds k true) ar (ac.put o.dst v) w := by
 have hsz : k < Cl.size := by rw [h.szC]; exact (CP.1 ho).1
 have hcase : ∀ j, (Cl.setIfInBounds k true).getD j false = true -> j = k \/ Cl.getD j false = true := by
  intro j hj
  by_cases e : k = j
  . exact .inl e.symm
  . rw [getD_set_ne false e] at hj; exact .inr hj
 have hLk : L.getD k false = false := by
  cases hl : L.getD k false with
  | false => rfl
  | true => rw [h.sub k hl] at hC; cases hC
 have hup : ∀ j, Cl.getD j false = true -> (Cl.setIfInBounds k true).getD j false = true := by
  intro j hj
  exact getD_set_true hj
 have hnl := hs.self ho
 refine ⟨h.szL, by simpa using h.szC, λ i hi => hup i (h.sub i hi), ?_, ?_, h.clL, ?_, ?_, ?_, ?_⟩
 . intro i oi hi hCi hLi
   rcases hcase i hCi with rfl | hCi
   . rw [ho] at hi; cases hi; exact hrd
   . exact h.rd i oi hi hCi hLi
 . intro i oi hi hCi j hj
   rcases hcase i hCi with rfl | hCi
   . rw [ho] at hi; cases hi; exact hup j (hr j hj)
   . exact hup j (h.clC i oi hi hCi j hj)
 . rw [h.tsz]; cases o.dst <;> simp [Act.put]
 . rw [h.df]; cases o.dst <;> rfl
 . intro t ht
   have e : o.dst ≠ some t := ht k o ho (pS hsz) hLk
   rw [Iv e]
   exact h.agree t (λ i oi hi hCi hLi => ht i oi hi (hup i hCi) hLi)
 . intro i oi hi hCi hLi
   by_cases e : i = k
   . subst e
     rw [ho] at hi
     cases hi
     refine ⟨v, λ _ w'' hw => (hv w'' hw).congr (execOp_put o (hs.sel i o · · ho) ac o.dst v hnl) (wanted_put o ac o.dst v hnl), λ hlo w'' => ?_, Yc _ _ _ _⟩
     obtain ⟨he, hwe⟩ := Er (hs.sel i o · · ho) (h.looks' hlo hC)
     exact (hv w'' (.inl (Wp hlo.mv))).congr he hwe
   . have hCi' := (hcase i hCi).resolve_left e
     obtain ⟨u, hu, hlu, hpu⟩ := h.pend i oi hi hCi' hLi
     refine ⟨u, λ hst w'' hw => ?_, hlu, ?_⟩
     . have hnl' : ∀ d, o.dst = some d -> d ∉ oi.looksAt ops := λ d hd hm => by
        have := h.clC i oi hi hCi' k (hst k o d ho hd hm)
        rw [this] at hC
        cases hC
       exact (hu hst w'' hw).congr (execOp_put oi (hs.sel i oi · · hi) ac o.dst v hnl') (wanted_put oi ac o.dst v hnl')
     rw [Act.put_comm ac v u (λ d hd => hs.dst i k oi o d hi ho hd e), hpu]
theorem OH {o : Oper} {a1 a2 : Act} {w : World} {next1 next2 : Act -> World -> Prop} {Q : Exit -> Act -> World -> Prop} (he : execOp a2.eval o = execOp a1.eval o) (h : o.wp P a1 w next1 Q)
 (hv : ∀ v w', next1 (a1.put o.dst v) w' -> next2 (a2.put o.dst v) w') (hd : ∀ d w', ¬ next1 (({ a1 with defers := d :: a1.defers } : Act).put o.dst undef) w') (hQ : ∀ c a w, ¬ Q (.panic c) a w) : o.wp P a2 w next2 Q := by
 unfold Oper.wp at *
 rw [he]
 generalize (execOp a1.eval o).run P w = r at *
 cases r with
 | ok n w' =>
  cases n <;> simp only [Oper.upon] at h ⊢
  case value u => exact hv u w' h
  case skip => exact hv undef w' h
  case defer d => exact (hd d w' h).elim
  case enter f args =>
   refine Calls.mono h λ e w'' he' => ?_
   cases e with
   | returned u => exact hv u w'' he'
   | panicked c => exact (hQ _ _ _ he').elim
   | outgrown => exact he'
  case row row args => exact Rows.mono h λ u w'' he' => hv u w'' he'
 | halt x w' =>
  cases x <;> simp only [Oper.upon] at h ⊢
  case panic u => exact (hQ _ _ _ h).elim
theorem MY.stepB (hs : ZG ops) (h : MY P ops L Cl ar ac w) {j : Nat} {o : Oper} (ho : ops[j]? = some o) (hC : Cl.getD j false = false) (hr : ∀ k, waits o k = true -> L.getD k false = true) (u : Value) (w' : World)
 (hpend : ∀ (i : Nat) (oi : Oper) (v : Value), ops[i]? = some oi -> Cl.getD i false = true -> L.getD i false = false -> Yd P ops w oi v ac -> Yd P ops w' oi v ac \/ vS P oi = false) :
 MY P ops (L.setIfInBounds j true) (Cl.setIfInBounds j true) (ar.put o.dst u) (ac.put o.dst u) w' := by
 have hszC : j < Cl.size := by rw [h.szC]; exact (CP.1 ho).1
 have hszL : j < L.size := by rw [h.szL]; exact (CP.1 ho).1
 have hcase : ∀ i, (Cl.setIfInBounds j true).getD i false = true -> i = j \/ Cl.getD i false = true := by
  intro i hi
  by_cases e : j = i
  . exact .inl e.symm
  . rw [getD_set_ne false e] at hi; exact .inr hi
 have hLcase : ∀ i, (L.setIfInBounds j true).getD i false = false -> i ≠ j /\ L.getD i false = false := by
  intro i hi
  by_cases e : j = i
  . subst e; rw [pS hszL] at hi; cases hi
  . rw [getD_set_ne false e] at hi; exact ⟨λ x => e x.symm, hi⟩
 have hup : ∀ i, Cl.getD i false = true -> (Cl.setIfInBounds j true).getD i false = true := λ i hi => getD_set_true hi
 refine ⟨by simpa using h.szL, by simpa using h.szC, ?_, ?_, ?_, ?_, ?_, ?_, ?_, ?_⟩
 . intro i hi
   by_cases e : j = i
   . subst e; exact pS hszC
   . rw [getD_set_ne false e] at hi; exact hup i (h.sub i hi)
 . intro i oi hi hCi hLi
   obtain ⟨hne, hLi'⟩ := hLcase i hLi
   exact h.rd i oi hi ((hcase i hCi).resolve_left hne) hLi'
 . intro i oi hi hCi k hk
   rcases hcase i hCi with rfl | hCi
   . rw [ho] at hi; cases hi; exact hup k (h.sub k (hr k hk))
   . exact hup k (h.clC i oi hi hCi k hk)
 . intro i oi hi hLi k hk
   by_cases e : j = i
   . subst e; rw [ho] at hi; cases hi; exact getD_set_true (hr k hk)
   . rw [getD_set_ne false e] at hLi; exact getD_set_true (h.clL i oi hi hLi k hk)
 . cases o.dst <;> simp [Act.put, h.tsz]
 . have := h.df
   cases o.dst <;> exact this
 . intro t ht
   by_cases e : o.dst = some t
   . rw [e]
     simp only [Act.put, Array.getElem?_setIfInBounds_self, h.tsz]
   . rw [Iv e, Iv e]
     refine h.agree t (λ i oi hi hCi hLi => ht i oi hi (hup i hCi) ?_)
     have hne : j ≠ i := λ x => by subst x; rw [hC] at hCi; cases hCi
     rw [getD_set_ne false hne]; exact hLi
 . intro i oi hi hCi hLi
   obtain ⟨hne, hLi'⟩ := hLcase i hLi
   have hCi' := (hcase i hCi).resolve_left hne
   obtain ⟨v, hv, hlv, hpv⟩ := h.pend i oi hi hCi' hLi'
   refine ⟨v, λ hst w'' hw => ?_, λ hlo w'' => ?_, ?_⟩
   . have hnl : ∀ d, o.dst = some d -> d ∉ oi.looksAt ops := λ d hd hm => by
      have := h.clC i oi hi hCi' j (hst j o d ho hd hm)
      rw [this] at hC
      cases hC
     have hy : Yd P ops w'' oi v ac := by
      rcases hw with hw | hw
      . exact hv hst w'' (.inl hw)
      . rw [hw]
        rcases hpend i oi v hi hCi' hLi' (hv hst w (.inr rfl)) with h1 | h1
        . exact h1
        . exact hv hst w' (.inl h1)
     exact hy.congr (execOp_put oi (hs.sel i oi · · hi) ac o.dst u hnl) (wanted_put oi ac o.dst u hnl)
   . have hnl : ∀ d, o.dst = some d -> d ∉ oi.looksAt ops := λ d hd hm => by
      have := (hlo.look j o d ho hd hm).in_ hr h.clL
      rw [this] at hLi'
      cases hLi'
     exact (hlv hlo w'').congr (execOp_put oi (hs.sel i oi · · hi) ar o.dst u hnl) (wanted_put oi ar o.dst u hnl)
   . rw [Act.put_comm ac u v (λ d hd => hs.dst i j oi o d hi ho hd hne), hpv]
end
section
variable {B : oY} {C : Ctx} {ι : Nat -> Value} {σ : St} {a : Act} {w : World}
theorem OS {P : Program} {fl : Bool} {σ : St} {oj oi : Oper} {K : Prop} (h : HH P fl σ oj oi K) : HH P fl σ oj oi True /\ K := by
 unfold HH at h ⊢
 repeat' split at h
 all_goals first | exact h.elim | skip
 all_goals simp_all
theorem Jr {P : Program} {fl : Bool} {ops : Array Oper} {listed : Array Bool} {σ : St} {oj : Oper} : ∀ (l : List Oper) (s : Nat) {K : Prop}, Gn P fl ops listed σ oj s l K ->
 K /\ ∀ (i : Nat) (oi : Oper), l[i]? = some oi -> listed.getD (s + i) false = true -> Bx oi.op = true -> waits oj (s + i) = false -> uR ops σ oi = false -> HH P fl σ oj oi True
 | [], s, K, h => ⟨h, λ i oi hi => by simp at hi⟩
 | o :: l, s, K, h => by
  have key : (Gn P fl ops listed σ oj (s + 1) l K) /\ (listed.getD s false = true -> Bx o.op = true -> waits oj s = false -> uR ops σ o = false -> HH P fl σ oj o True) := by
   simp only [Gn] at h
   split at h
   . obtain ⟨h1, h2⟩ := OS h
     exact ⟨h2, λ _ _ _ _ => h1⟩
   . rename_i hn
     refine ⟨h, λ h1 h2 h3 h4 => ?_⟩
     exact (hn h1 h2 h3 h4).elim
  obtain ⟨hK, ih⟩ := Jr l (s + 1) key.1
  refine ⟨hK, λ i oi hi h1 h2 h3 h4 => ?_⟩
  cases i with
  | zero => simp at hi; subst hi; exact key.2 (by simpa using h1) h2 (by simpa using h3) h4
  | succ i =>
   simp only [Tm] at hi
   exact ih i oi hi (by rw [show s + 1 + i = s + (i + 1) by omega]; exact h1) h2 (by rw [show s + 1 + i = s + (i + 1) by omega]; exact h3) h4
theorem OR {σ : St} {oj oi : Oper} {τ : St} {K : Prop} (h : EL σ oj oi τ K) : EL σ oj oi τ True /\ K := by
 unfold EL at h ⊢
 repeat' split at h
 all_goals simp_all
theorem HG {ops : Array Oper} {listed : Array Bool} {σ : St} {oj : Oper} {τ : St} : ∀ (l : List Oper) (s : Nat) {K : Prop}, CQ ops listed σ oj τ s l K ->
 K /\ ∀ (i : Nat) (oi : Oper), l[i]? = some oi -> listed.getD (s + i) false = true -> Bx oi.op = true -> waits oj (s + i) = false -> uR ops σ oi = false -> EL σ oj oi τ True
 | [], s, K, h => ⟨h, λ i oi hi => by simp at hi⟩
 | o :: l, s, K, h => by
  have key : (CQ ops listed σ oj τ (s + 1) l K) /\ (listed.getD s false = true -> Bx o.op = true -> waits oj s = false -> uR ops σ o = false -> EL σ oj o τ True) := by
   simp only [CQ] at h
   split at h
   . obtain ⟨h1, h2⟩ := OR h
     exact ⟨h2, λ _ _ _ _ => h1⟩
   . rename_i hn
     refine ⟨h, λ h1 h2 h3 h4 => ?_⟩
     exact (hn h1 h2 h3 h4).elim
  obtain ⟨hK, ih⟩ := HG l (s + 1) key.1
  refine ⟨hK, λ i oi hi h1 h2 h3 h4 => ?_⟩
  cases i with
  | zero => simp at hi; subst hi; exact key.2 (by simpa using h1) h2 (by simpa using h3) h4
  | succ i =>
   simp only [Tm] at hi
   exact ih i oi hi (by rw [show s + 1 + i = s + (i + 1) by omega]; exact h1) h2 (by rw [show s + 1 + i = s + (i + 1) by omega]; exact h3) h4
theorem NP {ops : Array Oper} {oi : Oper} (hM : aH B ι σ a w) (h : uR ops σ oi = true) : Region.wanted oi (yielded ops a.tmps) = false := by
 unfold uR at h
 split at h
 . cases h
 . rename_i j want hg
   split at h
   . cases h
   . rename_i g hj
     split at h
     . cases h
     . rename_i d hd
       split at h
       . rename_i t ht
         rw [Lm hg hj hd (D5 hM ht)]
         split at h
         . rfl
         . rfl
         . cases h
       . rename_i xs ht
         exact ED hg hj hd (Jp hM ht)
       . cases h
theorem xY (hM : aH B ι σ a w) {k : Nat} {ow : Own} (hown : nth σ.own k = some (some ow)) {b : Nat} (hb : blk (ι k) = some b) : ∀ {l : List Operand}, DM σ k l = true -> ∀ x ∈ l, ∀ j, (σ.ev x = .at (.lst j) \/ ∃ off, σ.ev x = .at (.ptr j off)) -> blk (ι j) ≠ some b
 | [], _, x, hx => by cases hx
 | y :: r, h, x, hx => by
  simp only [DM, Gf] at h
  rcases xA.1 hx with rfl | hx
  . intro j hj hbj
    have h1 := h.1
    rcases hj with hj | ⟨off, hj⟩
    all_goals
     simp only [hj] at h1
     split at h1
     . rename_i o' ho'
       have := hM.dist j k _ _ b ho' hown hbj hb
       subst this
       simp at h1
     . cases h1
  . exact xY hM hown hb h.2 x hx
theorem Ye {ops : Array Oper} {fl : Bool} {oj oi : Oper} {v : Value} {w' : World} (hM : aH B ι σ a w) (hk : Ex σ ι oj w w') (hst : HH C.P fl σ oj oi True) (hpost : fl = true -> ∃ τ : St, Ab B τ.m τ.h w' /\ EL σ oj oi τ True) (hy : Yd C.P ops w oi v a) : Yd C.P ops w' oi v a \/ vS C.P oi = false := by
 unfold HH at hst
 split at hst
 . rename_i hm; exact .inr hm
 . left
   rcases hy with ⟨hw, hrun⟩ | hy
   . left
     refine ⟨hw, ?_⟩
     split at hst
     . rename_i T x hop
       split at hst
       . exact hst.elim
       . rename_i hT
         have hev := hM.ev x
         have gen : ∀ (b off : Nat) (cs : List Value), a.eval x = .pointer (some ⟨b, off, none⟩) -> cs.length = C.P.cellsOf T -> (∀ j u, cs[j]? = some u -> w.cell? ⟨b, off + j, none⟩ = some u) -> (∀ j u, cs[j]? = some u -> w'.cell? ⟨b, off + j, none⟩ = some u) ->
          (execOp a.eval oi).run C.P w' = .ok (.value v) w' := by
          intro b off cs hx hl hc hc'
          have h1 := uV hT hl hc
          have h2 := uV hT hl hc'
          have e1 : (execOp a.eval oi).run C.P w = .ok (.value (Yg C.P T cs)) w := by
           unfold execOp
           simp only [hop, hx, Instr.loadAt, Instr.sureAddr, Sem.run_bind, Sem.run_pure, Result.andThen_ok, h1]
          have e2 : (execOp a.eval oi).run C.P w' = .ok (.value (Yg C.P T cs)) w' := by
           unfold execOp
           simp only [hop, hx, Instr.loadAt, Instr.sureAddr, Sem.run_bind, Sem.run_pure, Result.andThen_ok, h2]
          rw [e1] at hrun
          simp only [Result.ok.injEq, Next.value.injEq, and_true] at hrun
          rw [e2, hrun]
         split at hst
         . rename_i k off hx
           rw [hx] at hev
           split at hst
           . rename_i p T' cs hown
             split at hst
             . rename_i ht hle
               have hle := ZA hle
               obtain ⟨b, vs, hι, hh, hdc⟩ := tC hM hown
               obtain ⟨b', hb', hpt⟩ := hev
               rw [hι] at hb'
               simp only [Value.pointer.injEq, sW, Addr.mk.injEq] at hb'
               obtain ⟨rfl, -, -⟩ := hb'
               have hh' := hk.cells k p T' cs b hown ht hι
               rw [hh] at hh'
               have hvs : cs.length = vs.toList.length := hdc.length
               refine gen b off ((vs.toList.drop off).take (C.P.cellsOf T)) hpt (by simp at hvs ⊢; omega) (λ j u hu => ?_) (λ j u hu => ?_)
               . rw [cell_of_heap hh]; exact sY hu
               . rw [cell_of_heap hh']; exact sY hu
             . exact hst.elim
           . exact hst.elim
         . rename_i b off d hx hd
           rw [hx] at hev
           have hev : a.eval x = .pointer (some ⟨b, off, none⟩) := hev
           split at hst
           . rename_i cs hcs
             split at hst
             . rename_i l hl
               split at hst
               . rename_i hlen
                 split at hst
                 . rename_i hgr
                   have hc := AN hM.wrel hst.1
                   refine gen b off l hev (Gg hlen) hc (λ j u hu => ?_)
                   have h1 := hc j u hu
                   cases hgr2 : vT oj.op with
                   | false =>
                    rw [hgr2, Bool.false_or] at hgr
                    obtain ⟨τ, hwτ, h2⟩ := hpost hgr
                    unfold EL at h2
                    simp only [hop, hx, hd, hcs, hl, hgr2] at h2
                    exact AN hwτ h2.1 j u hu
                   | true =>
                   have hgr := hgr2
                   rw [<- h1]
                   exact World.cell?_of_block (w := w) (w' := w') (a := ⟨b, off + j, none⟩) (hk.ext hgr b (World.block_lt_of_cell? w ⟨b, off + j, none⟩ h1))
                 . refine gen b off l hev (Gg hlen) (λ j u hu => hM.wrel.hsat _ _ _ (hst.1.rd j u hu)) (λ j u hu => hk.imm _ _ _ (hst.1.rd j u hu))
               . exact hst.elim
             . exact hst.elim
           . exact hst.elim
         . rename_i k i sz off d hx hd
           rw [hx] at hev
           split at hst
           . rename_i E' s xs cs hown hcs
             split at hst
             . rename_i l hl hs hap
               have hs := Gg hs
               subst hs
               split at hst
               . rename_i hlen
                 obtain ⟨e, he, hel⟩ := hst.1
                 obtain ⟨hrows, hrow⟩ := nQ hM hown
                 obtain ⟨b, n, c, hι, hp⟩ := hev
                 have blkSame : ∀ b, blk (ι k) = some b -> w'.heap[b]? = w.heap[b]? := by
                  intro b hb
                  have hlt := nO (hM.own k _ hown) hb
                  unfold N9 at hap
                  rw [Bool.or_eq_true] at hap
                  rcases hap with hap | hap
                  . exact hk.ext hap b hlt
                  . split at hap
                    . rename_i l hl
                      refine hk.args l b hl hlt (hM.fresh k _ b hown hb).2.1 ?_
                      exact xY hM hown hb hap
                    . cases hap
                 have hrow' : w'.ownsRow 0 E' s (ι k) xs.length xs.flatten := ((hM.own k _ hown).world (λ b hb => blkSame b hb)).2
                 have rd : ∀ w1 : World, w1.ownsRow 0 E' s (ι k) xs.length xs.flatten -> ∀ j u, l[j]? = some u -> w1.cell? ⟨b, i * s + off + j, none⟩ = some u := by
                  intro w1 h1 j u hu
                  rw [<- hel] at hu
                  have hv' := sY hu
                  have hf := lA hrows.len he _ _ hv'
                  have := h1.cells (g := b) (by rw [hι]; rfl) _ _ hf
                  rw [Addr.add_none] at this
                  rw [<- this]
                  congr 1
                  simp only [Addr.mk.injEq, and_true, true_and]
                  omega
                 exact gen b (i * s + off) l hp (Gg hlen) (rd w hrow) (rd w' hrow')
               . exact hst.elim
             . exact hst.elim
           . exact hst.elim
         . exact hst.elim
     . rename_i src dst x hop
       have hev := hM.ev x
       split at hst
       . rename_i k d hx hd
         rw [hx] at hev
         have hev : a.eval x = ι k := hev
         split at hst
         . rename_i E' sz xs s hown hs
           split at hst
           . rename_i E hsrc hdst
             split at hst
             . rename_i hE
               split at hst
               . rename_i hap
                 have hxs := hst.1
                 obtain ⟨hrows, hrow⟩ := nQ hM hown
                 have hbl : xs = bF s.data.toList := hxs
                 have blkSame : ∀ b, blk (ι k) = some b -> w'.heap[b]? = w.heap[b]? := by
                  intro b hb
                  have hlt := nO (hM.own k _ hown) hb
                  unfold N9 at hap
                  rw [Bool.or_eq_true] at hap
                  rcases hap with hap | hap
                  . exact hk.ext hap b hlt
                  . split at hap
                    . rename_i l hl
                      refine hk.args l b hl hlt (hM.fresh k _ b hown hb).2.1 ?_
                      exact xY hM hown hb hap
                    . cases hap
                 have hrow' : w'.ownsRow 0 E' sz (ι k) xs.length xs.flatten := ((hM.own k _ hown).world (λ b hb => blkSame b hb)).2
                 have go : ∀ w1 : World, w1.ownsRow 0 E' sz (ι k) xs.length xs.flatten -> (execOp a.eval oi).run C.P w1 = .ok (.value (.string ⟨s.data.toList.toArray⟩)) w1 := by
                  intro w1 h1
                  subst hbl
                  exact BJ hop hsrc hE hdst hev h1
                 rw [go w hrow] at hrun
                 rw [go w' hrow']
                 simp only [Result.ok.injEq, Next.value.injEq, and_true] at hrun
                 rw [hrun]
               . exact hst.elim
             . exact hst.elim
           . exact hst.elim
         . exact hst.elim
       . exact hst.elim
     . exact hst.elim
   . exact .inr hy
theorem MW {g : Nat -> Prop} : ∀ {l : List Nat}, Xu g l -> ∀ j ∈ l, g j
 | [], _, j, hj => by cases hj
 | [i], h, j, hj => by simp at hj; subst hj; exact h
 | i :: k :: r, h, j, hj => by
  rcases xA.1 hj with rfl | hj
  . exact h.1
  . exact MW h.2 j hj
theorem Bz {ops : Array Oper} : ∀ {l : List Nat} {i : Nat} {o : Oper}, Ds ops l = some (i, o) -> i ∈ l /\ ops[i]? = some o /\ Bx o.op = true
 | [], i, o, h => by simp [Ds] at h
 | k :: r, i, o, h => by
  simp only [Ds] at h
  split at h
  . rename_i ok hok
    split at h
    . rename_i hr
      simp only [sW, Ez] at h
      obtain ⟨rfl, rfl⟩ := h
      rw [iG, BU] at hok
      exact ⟨Gh, hok, hr⟩
    . obtain ⟨h1, h2⟩ := Bz h
      exact ⟨D3 _ h1, h2⟩
  . obtain ⟨h1, h2⟩ := Bz h
    exact ⟨D3 _ h1, h2⟩
def pN (ops : Array Oper) (L : Array Bool) : Nat := ((List.range ops.size).filter λ i => !L.getD i false).length
theorem EF {ops : Array Oper} {L : Array Bool} {i : Nat} (hsz : L.size = ops.size) (hi : i < ops.size) (hL : L.getD i false = false) : pN ops (L.setIfInBounds i true) + 1 = pN ops L := by
 unfold pN
 have key : ∀ (l : List Nat), l.Nodup -> (l.filter λ j => !(L.setIfInBounds i true).getD j false).length + (if i ∈ l then 1 else 0) = (l.filter λ j => !L.getD j false).length := by
  intro l
  induction l with
  | nil => intro _; simp
  | cons j r ih =>
   intro hnd
   have hnd' := List.nodup_cons.1 hnd
   have := ih hnd'.2
   by_cases e : i = j
   . subst e
     have h1 : (L.setIfInBounds i true).getD i false = true := pS aC
     have h2 : i ∉ r := hnd'.1
     simp only [List.filter_cons, h1, hL, V4, X3, if_true, Tl, if_false, Gi, Gh]
     simp only [h2, if_false] at this
     omega
   . have h1 : (L.setIfInBounds i true).getD j false = L.getD j false := getD_set_ne false e
     have h2 : (i ∈ j :: r) ↔ i ∈ r := by simp [e]
     simp only [List.filter_cons, h1]
     split
     . simp only [Gi, h2]; omega
     . simp only [h2]; exact this
 have := key (List.range ops.size) List.nodup_range
 rw [if_pos (XX.2 hi)] at this
 exact this
theorem Ht {ops : Array Oper} {L : Array Bool} (hs : ZG ops) (hsz : L.size = ops.size) (h : Region.ready .any ops L = []) : ∀ i, i < ops.size -> L.getD i false = true := by
 intro i
 induction i using Nat.strongRecOn with
 | _ i ih =>
  intro hi
  cases hL : L.getD i false with
  | true => rfl
  | false =>
   exfalso
   have ho : ops[i]? = some ops[i] := Array.getElem?_eq_getElem hi
   have : i ∈ Region.ready .any ops L := by
    rw [qR]
    refine ⟨?_, _, ho, λ k hk => ih k (hs.topo i _ k ho hk) (Nat.lt_trans (hs.topo i _ k ho hk) hi)⟩
    have hiL : i < L.size := by omega
    simp [Array.getD, hiL] at hL ⊢
    exact hL
   rw [h] at this
   cases this
theorem Ak {ops : Array Oper} {L : Array Bool} (h : ∀ i, i < ops.size -> L.getD i false = true) : Region.ready .any ops L = [] := by
 cases hr : Region.ready .any ops L with
 | nil => rfl
 | cons i r =>
  exfalso
  have : i ∈ Region.ready .any ops L := by rw [hr]; exact Gh
  obtain ⟨h1, o, ho, _⟩ := qR.1 this
  have hi := (CP.1 ho).1
  have := h i hi
  rw [(Ja h1).1] at this
  cases this
theorem MY.eq_of_all {P : Program} {ops : Array Oper} {L Cl : Array Bool} {ar ac : Act} (h : MY P ops L Cl ar ac w) (hall : ∀ i, i < ops.size -> L.getD i false = true) : ar = ac := by
 have ht : ar.tmps = ac.tmps := by
  apply Array.ext_getElem?
  intro t
  refine h.agree t (λ i o ho _ hL => ?_)
  have := hall i (CP.1 ho).1
  rw [hL] at this; cases this
 have hd := h.df
 cases ar; cases ac
 simp at ht hd
 rw [ht, hd]
theorem VS {ops : Array Oper} {R : St -> Prop} {n : Nat} {Cl : Array Bool} (h : zI C ops n Cl σ R) (hr : Region.ready .any ops Cl = []) : R σ := by
 cases n <;> simp only [zI, hr] at h <;> exact h
theorem QQ {ops : Array Oper} {listed : Array Bool} {σ : St} {oj : Oper} {τ : St} {K : Prop} (h : Ga C ops listed σ oj τ K) :
 (S5 C = true -> ∀ (i : Nat) (oi : Oper), ops.toList[i]? = some oi -> listed.getD (0 + i) false = true -> Bx oi.op = true -> waits oj (0 + i) = false -> uR ops σ oi = false -> EL σ oj oi τ True) /\ K := by
 unfold Ga at h
 split at h
 . rename_i e
   obtain ⟨h1, h2⟩ := HG _ 0 h
   exact ⟨λ _ => h2, h1⟩
 . rename_i e
   refine ⟨λ e2 => ?_, h⟩
   rw [e] at e2
   cases e2
theorem MV (hspecs : ∀ g S, assoc C.specs g = some S -> Sound C.P g S) {ops : Array Oper} (hs : ZG ops) {Q : Exit -> Act -> World -> Prop} {R : St -> Prop} (hQ : ∀ ι σ a w, aH B ι σ a w -> R σ -> Q .normal a w)
 (hQp : ∀ c a w, ¬ Q (.panic c) a w) :
 ∀ (n : Nat) (fuel : Nat) (Cl : Array Bool) (ι : Nat -> Value) (σ : St) (ac : Act) (w : World), aH B ι σ ac w -> zI C ops n Cl σ R -> ∀ (L : Array Bool) (ar : Act), MY C.P ops L Cl ar ac w -> pN ops L = fuel ->
  wpAny C.P .any ops Q fuel L ar w := by
 have fin : ∀ (n : Nat) (Cl : Array Bool) (ι : Nat -> Value) (σ : St) (ac : Act) (w : World), aH B ι σ ac w -> zI C ops n Cl σ R -> ∀ (L : Array Bool) (ar : Act), MY C.P ops L Cl ar ac w -> Region.ready .any ops L = [] -> Q .normal ar w := by
  intro n Cl ι σ ac w hM h L ar sim hr
  have hall := Ht hs sim.szL hr
  rw [sim.eq_of_all hall]
  exact hQ ι σ ac w hM (VS h (Ak (λ i hi => sim.sub i (hall i hi))))
 have zero : ∀ (n : Nat) (Cl : Array Bool) (ι : Nat -> Value) (σ : St) (ac : Act) (w : World), aH B ι σ ac w -> zI C ops n Cl σ R -> ∀ (L : Array Bool) (ar : Act), MY C.P ops L Cl ar ac w -> pN ops L = 0 -> wpAny C.P .any ops Q 0 L ar w := by
  intro n Cl ι σ ac w hM h L ar sim hf
  have hall : ∀ i, i < ops.size -> L.getD i false = true := by
   intro i hi
   unfold pN at hf
   have hnil := VY hf
   cases hL : L.getD i false with
   | true => rfl
   | false =>
    have : i ∈ (List.range ops.size).filter λ i => !L.getD i false := List.mem_filter.2 ⟨XX.2 hi, by simp [hL]⟩
    rw [hnil] at this; cases this
  have hr := Ak hall
  exact ⟨hr, fin n Cl ι σ ac w hM h L ar sim hr⟩
 have stepP : ∀ (n fuel : Nat), (∀ (Cl : Array Bool) (ι : Nat -> Value) (σ : St) (ac : Act) (w : World), aH B ι σ ac w -> zI C ops n Cl σ R -> ∀ (L : Array Bool) (ar : Act), MY C.P ops L Cl ar ac w -> pN ops L = fuel -> wpAny C.P .any ops Q fuel L ar w) ->
  ∀ (Cl : Array Bool) (ι : Nat -> Value) (σ : St) (ac : Act) (w : World), aH B ι σ ac w -> zI C ops n Cl σ R -> ∀ (L : Array Bool) (ar : Act), MY C.P ops L Cl ar ac w -> pN ops L = fuel + 1 ->
   ∀ i ∈ Region.ready .any ops L, Cl.getD i false = true -> wpOp C.P ops Q i (wpAny C.P .any ops Q fuel (L.setIfInBounds i true)) ar w := by
  intro n fuel ih Cl ι σ ac w hM h L ar sim hf i hi hC
  obtain ⟨hun, o, ho, hw⟩ := qR.1 hi
  obtain ⟨hL, hlt⟩ := Ja hun
  obtain ⟨v, hv, hlv, hpv⟩ := sim.pend i o ho hC hL
  have hy : Yd C.P ops w o v ar := by
   rcases hs.look i o ho with hst | hlo
   . obtain ⟨he, hwe⟩ := Er (hs.sel i o · · ho) (sim.looks hst hw)
     exact (hv hst w (.inr rfl)).congr he hwe
   . exact hlv hlo w
  have hnext : wpAny C.P .any ops Q fuel (L.setIfInBounds i true) (ar.put o.dst v) w :=
   ih Cl ι σ ac w hM h _ _ (sim.stepA hs ho hC hw hpv) (by have := EF sim.szL (by have := sim.szL; omega) hL; omega)
  unfold wpOp
  simp only [ho]
  rcases hy with ⟨hwt, hrun⟩ | ⟨hwt, rfl⟩
  . rw [if_pos hwt]
    left
    unfold Oper.wp
    rw [hrun, Oper.upon_value]
    exact hnext
  . rw [if_neg (by simp [hwt])]
    exact hnext
 intro n
 induction n with
 | zero =>
  intro fuel
  induction fuel with
  | zero => exact zero 0
  | succ fuel ihf =>
   intro Cl ι σ ac w hM h L ar sim hf
   refine ⟨fin 0 Cl ι σ ac w hM h L ar sim, λ i hi => ?_⟩
   cases hC : Cl.getD i false with
   | true => exact stepP 0 fuel ihf Cl ι σ ac w hM h L ar sim hf i hi hC
   | false =>
    exfalso
    obtain ⟨hun, o, ho, hw⟩ := qR.1 hi
    have hiC : i ∈ Region.ready .any ops Cl := by
     rw [qR]
     refine ⟨?_, o, ho, λ k hk => sim.sub k (hw k hk)⟩
     have : i < Cl.size := by rw [sim.szC]; exact (CP.1 ho).1
     simp [Array.getD, this] at hC ⊢
     exact hC
    simp only [zI] at h
    split at h
    . rename_i hr; rw [hr] at hiC; cases hiC
    . exact h
 | succ n ihn =>
  intro fuel
  induction fuel with
  | zero => exact zero (n + 1)
  | succ fuel ihf =>
   intro Cl ι σ ac w hM h L ar sim hf
   refine ⟨fin (n + 1) Cl ι σ ac w hM h L ar sim, λ i hi => ?_⟩
   cases hC : Cl.getD i false with
   | true => exact stepP (n + 1) fuel ihf Cl ι σ ac w hM h L ar sim hf i hi hC
   | false =>
    obtain ⟨hun, o, ho, hw⟩ := qR.1 hi
    obtain ⟨hLi, hlt⟩ := Ja hun
    have hiC : i ∈ Region.ready .any ops Cl := by
     rw [qR]
     refine ⟨?_, o, ho, λ k hk => sim.sub k (hw k hk)⟩
     have : i < Cl.size := by rw [sim.szC]; exact (CP.1 ho).1
     simp [Array.getD, this] at hC ⊢
     exact hC
    simp only [zI] at h
    split at h
    . rename_i hr; rw [hr] at hiC; cases hiC
    . split at h
      ·
       rename_i k ok hfr
       obtain ⟨hkr, hok, hkrd⟩ := Bz hfr
       obtain ⟨hkun, ok', hok', hkw⟩ := qR.1 hkr
       rw [hok] at hok'
       cases hok'
       obtain ⟨hkC, hklt⟩ := Ja hkun
       obtain ⟨σ1, hM1, hfz, hc⟩ := Cx hM h
       rcases hc with ⟨hwt, h⟩ | ⟨hwt, h⟩
       . obtain ⟨v, x, hrun, hx, hK⟩ := Wn hM1 hkrd h
         have hsim := sim.take hs hok hkC hkw hkrd (v := v) (λ w'' hw'' => .inl ⟨hwt, hrun w'' hw''⟩)
         exact (ihn (fuel + 1) _ ι _ _ w (hM1.put ok.dst hx) hK L ar hsim hf).2 i hi
       . have hsim := sim.take hs hok hkC hkw hkrd (v := undef) (λ w'' _ => .inr ⟨hwt, rfl⟩)
         exact (ihn (fuel + 1) _ ι _ _ w (hM1.put ok.dst (x := .at (.val undef)) rfl) h L ar hsim hf).2 i hi
      ·
       have hg := MW h i hiC
       split at hg
       . rename_i o' ho'
         rw [iG, BU, ho] at ho'
         cases ho'
         obtain ⟨hg, hstab⟩ := Jr _ 0 hg
         obtain ⟨he, hwe⟩ := Er (hs.sel i o · · ho) ((hs.look i o ho).elim (sim.looks · hw) (sim.looks' · hC))
         have hgw := Pv hspecs hM hg (λ a' w' => ∃ ι' σ', aH B ι' σ' a' w' /\ Ga C ops Cl σ o σ' (zI C ops n (Cl.setIfInBounds i true) σ' R) /\ Ex σ ι o w w') Q (λ ι' σ' a' w' h1 h2 h3 => ⟨ι', σ', h1, h2, h3⟩)
         have hB : ∀ (u : Value) (w' : World), (∃ ι' σ', aH B ι' σ' (ac.put o.dst u) w' /\ Ga C ops Cl σ o σ' (zI C ops n (Cl.setIfInBounds i true) σ' R) /\ Ex σ ι o w w') ->
          wpAny C.P .any ops Q fuel (L.setIfInBounds i true) (ar.put o.dst u) w' := by
          rintro u w' ⟨ι', σ', hM', h', hk'⟩
          obtain ⟨hpo, h'⟩ := QQ h'
          refine ihn fuel _ ι' σ' _ w' hM' h' _ _ (sim.stepB hs ho hC hw u w' ?_) (by have := EF sim.szL (by have := sim.szL; omega) hLi; omega)
          intro j oj v hj hCj hLj hy
          cases hun' : uR ops σ oj with
          | true =>
           have := NP hM hun'
           rcases hy with ⟨h1, _⟩ | h1
           . rw [this] at h1; cases h1
           . exact .inl (.inr h1)
          | false =>
           have hnw : waits o j = false := by
            cases hwj : waits o j with
            | false => rfl
            | true => rw [hw j hwj] at hLj; cases hLj
           have hst := hstab j oj (by rw [BU]; exact hj) (by simpa using hCj) (sim.rd j oj hj hCj hLj) (by simpa using hnw) hun'
           exact Ye hM hk' hst (λ e => ⟨σ', hM'.wrel, hpo e j oj (by rw [BU]; exact hj) (by simpa using hCj) (sim.rd j oj hj hCj hLj) (by simpa using hnw) hun'⟩) hy
         unfold GWp at hgw
         unfold wpOp
         simp only [ho]
         rw [hwe]
         split
         . rename_i hwt
           rw [if_pos hwt] at hgw
           left
           refine OH he hgw hB ?_ hQp
           rintro d w' ⟨ι', σ', hM', _⟩
           have := hM'.defers
           rw [<- hM.defers] at this
           cases hd : o.dst <;> simp [Act.put, hd] at this
         . rename_i hwt
           rw [if_neg hwt] at hgw
           exact hB undef w hgw
       . exact hg.elim
end
end Go.Vc
namespace Go.Vc
open Go
section
variable {B : oY} {C : Ctx} {ι : Nat -> Value} {σ : St} {a : Act} {w : World}
theorem uQ : ∀ {xs ys : List SV} {vs : List Value} {K : Prop}, y8 xs ys K -> DenS ι xs vs -> DenS ι ys vs /\ K
 | [], [], vs, K, h, hd => ⟨hd, h⟩
 | x :: xs, y :: ys, [], K, _, hd => hd.elim
 | x :: xs, y :: ys, v :: vs, K, h, hd => by
  unfold y8 at h
  split at h
  . rename_i h1 h2; cases h1
  . rename_i x' xs' ys' h1 h2
    simp only [List.cons.injEq] at h1 h2
    obtain ⟨rfl, rfl⟩ := h1
    obtain ⟨rfl, rfl⟩ := h2
    have := uQ h hd.2
    exact ⟨⟨trivial, this.1⟩, this.2⟩
  . rename_i x' xs' y' ys' _ h1 h2
    simp only [List.cons.injEq] at h1 h2
    obtain ⟨rfl, rfl⟩ := h1
    obtain ⟨rfl, rfl⟩ := h2
    obtain ⟨rfl, h⟩ := h
    have := uQ h hd.2
    exact ⟨⟨hd.1, this.1⟩, this.2⟩
  . exact h.elim
 | [], _ :: _, _, K, h, _ => by simp [y8] at h
 | _ :: _, [], _, K, h, _ => by simp [y8] at h
theorem sI : ∀ {xs ys : List (Option Own)} {K : Prop}, sJ xs ys K -> (∀ k o, nth ys k = some (some o) -> nth xs k = some (some o)) /\ K
 | [], [], K, h => ⟨λ k o hk => by simp [nth] at hk, h⟩
 | x :: xs, none :: ys, K, h => by
  simp only [sJ] at h
  obtain ⟨h1, h2⟩ := sI h
  refine ⟨λ k o hk => ?_, h2⟩
  cases k with
  | zero => simp [nth] at hk
  | succ k => exact h1 k o hk
 | x :: xs, some y :: ys, K, h => by
  simp only [sJ] at h
  obtain ⟨rfl, h⟩ := h
  obtain ⟨h1, h2⟩ := sI h
  refine ⟨λ k o hk => ?_, h2⟩
  cases k with
  | zero => exact hk
  | succ k => exact h1 k o hk
 | [], _ :: _, K, h => by simp [sJ] at h
 | _ :: _, [], K, h => by simp [sJ] at h
theorem aH.setSlot (hM : aH B ι σ a w) {i : Nat} {x : SV} {v : Value} (hv : a.tmps[i]? = some v) (hx : Den ι x v) : aH B ι (σ.put (some i) x) a w := by
 refine ⟨?_, hM.defers, hM.own, hM.dist, hM.fresh, hM.wrel, hM.one⟩
 have := hM.slots.set i hx
 show DenS ι (σ.sl.set i x) a.tmps.toList
 have e : a.tmps.toList.set i v = a.tmps.toList := by
  apply List.ext_getElem?
  intro j
  rw [List.getElem?_set]
  split
  . rename_i hj
    subst hj
    rw [BU, hv]
    split
    . rfl
    . rename_i hlt
      simp at hlt
      rw [Array.getElem?_eq_none hlt] at hv
      cases hv
  . rfl
 rw [e] at this
 exact this
theorem aH.nilList (hM : aH B ι σ a w) (k E sz : Nat) : aH B (upd ι k (.slice none 0 0)) ((σ.kill k).setOwn k (some (.lst E sz []))) a w := by
 refine hM.place k _ _ (Av.refl _ _) ⟨D9 sz, World.ownsRow_nil w 0 E sz⟩ rfl (λ b hb => by simp [blk] at hb)
theorem oW (τ : St) : ∀ (ys : List SV) (i : Nat) (ι : Nat -> Value) (σ : St), aH B ι σ a w -> ∃ ι', aH B ι' (N3 τ ys i σ) a w
 | [], i, ι, σ, hM => ⟨ι, hM⟩
 | y :: ys, i, ι, σ, hM => by
  simp only [N3]
  split
  . rename_i k
    split
    . rename_i hs
      split
      . rename_i E sz xs hτ hσ
        have hv : a.tmps[i]? = some (.slice none 0 0) := by
         rw [iG] at hs
         obtain ⟨v, hv, hd⟩ := hM.slots.get i _ hs
         rw [BU] at hv
         have hd : v = .slice none 0 0 := hd
         rw [hv, hd]
        exact oW τ ys (i + 1) _ _ ((hM.nilList k E sz).setSlot hv (x := .at (.lst k)) (by show _ = _; simp))
      . exact oW τ ys (i + 1) ι σ hM
    . exact oW τ ys (i + 1) ι σ hM
  . exact oW τ ys (i + 1) ι σ hM
theorem kS (τ : St) (q : Nat) : ∀ (ys : List At) (j : Nat) (ι : Nat -> Value) (σ : St), aH B ι σ a w -> ∃ ι', aH B ι' (DJ τ q ys j σ) a w
 | [], j, ι, σ, hM => ⟨ι, hM⟩
 | y :: ys, j, ι, σ, hM => by
  simp only [DJ]
  split
  . rename_i k
    split
    . rename_i p T cs hq
      split
      . rename_i hj
        split
        . rename_i E sz xs hτ hσ
          have hqk : q ≠ k := λ e => by subst e; rw [hσ] at hq; cases hq
          have h1 := hM.nilList k E sz
          have hq1 : nth ((σ.kill k).setOwn k (some (.lst E sz []))).own q = some (some (.cellsP p T (cs.map (At.sub k (λ _ => .junk))))) := by
           simp only [I7, St.setOwn, St.sub, tT, vZ, hqk, false_and, if_false, hq]
           rfl
          obtain ⟨b, vs, hι, hh, hd⟩ := tC h1 hq1
          have hvj : vs.toList[j]? = some (.slice none 0 0) := by
           obtain ⟨b0, vs0, hι0, hh0, hd0⟩ := tC hM hq
           rw [iG] at hj
           obtain ⟨v, hv, hdv⟩ := hd0.get j _ hj
           have hdv : v = .slice none 0 0 := hdv
           rw [lQ _ _ hqk, hι0] at hι
           simp only [Value.pointer.injEq, sW, Addr.mk.injEq] at hι
           obtain ⟨rfl, -, -⟩ := hι
           rw [hh0] at hh
           simp only [sW, Obj.cells.injEq] at hh
           rw [<- hh.1, hv, hdv]
          have hset : vs.toList.set j (.slice none 0 0) = vs.toList := by
           apply List.ext_getElem?
           intro t
           rw [List.getElem?_set]
           split
           . rename_i e
             subst e
             rw [hvj]
             split
             . rfl
             . rename_i hlt
               rw [OF (Nat.le_of_not_lt hlt)] at hvj
               cases hvj
           . rfl
          have h2 : aH B (upd ι k (.slice none 0 0)) (D7 ((σ.kill k).setOwn k (some (.lst E sz []))) q j (.lst k)) a w := by
           unfold D7
           rw [hq1]
           refine h1.rewrite hq1 (Av.refl _ _) ⟨b, vs, hι, hh, ?_, λ q' e => by subst e; have := TC h1 hq1; rw [hι] at this; simpa using this⟩
           have := hd.set j (x := .lst k) (v := .slice none 0 0) (by show _ = _; simp)
           rwa [hset] at this
          exact kS τ q ys (j + 1) _ _ h2
        . exact kS τ q ys (j + 1) ι σ hM
      . exact kS τ q ys (j + 1) ι σ hM
    . exact kS τ q ys (j + 1) ι σ hM
  . exact kS τ q ys (j + 1) ι σ hM
theorem uS (τ : St) : ∀ (ys : List (Option Own)) (q : Nat) (ι : Nat -> Value) (σ : St), aH B ι σ a w -> ∃ ι', aH B ι' (Jc τ ys q σ) a w
 | [], q, ι, σ, hM => ⟨ι, hM⟩
 | y :: ys, q, ι, σ, hM => by
  simp only [Jc]
  split
  . rename_i T cs
    obtain ⟨ι', hM'⟩ := kS τ q cs 0 ι σ hM
    exact uS τ ys (q + 1) ι' _ hM'
  . exact uS τ ys (q + 1) ι σ hM
theorem kX {τ : St} {K : Prop} (hM : aH B ι σ a w) (h : wU σ τ K) : ∃ ι', aH B ι' τ a w /\ K := by
 obtain ⟨ι1, hM1⟩ := oW τ τ.sl 0 ι σ hM
 obtain ⟨ι2, hM2⟩ := uS τ τ.own 0 ι1 _ hM1
 have hM2 : aH B ι2 (conv σ τ) a w := hM2
 unfold wU at h
 obtain ⟨hsl, h⟩ := uQ h hM2.slots
 obtain ⟨hown, hm, hh, hK⟩ := sI h
 refine ⟨ι2, ⟨hsl, hM2.defers, λ k o hk => hM2.own k o (hown k o hk), λ k k' o o' b hk hk' hb hb' => hM2.dist k k' o o' b (hown k o hk) (hown k' o' hk') hb hb', ?_, ?_, hM2.one⟩, hK⟩
 . intro k o b hk hb
   rw [<- hm, <- hh]
   exact hM2.fresh k o b (hown k o hk) hb
 . rw [<- hm, <- hh]
   exact hM2.wrel
theorem aH.froze (hM : aH B ι σ a w) {m2 : MH} {h2 : PH} (hF : CN σ.m σ.h m2 h2) : aH B ι { σ with m := m2, h := h2 } a w := by
 have hw := hM.wrel
 refine ⟨hM.slots, hM.defers, hM.own, hM.dist, λ k o b hk hb => ?_, ?_, hM.one⟩
 . obtain ⟨f1, f2, f3⟩ := hM.fresh k o b hk hb
   refine ⟨f1, ?_, λ i => ?_⟩
   . show m2 b = none
     cases e2 : m2 b with
     | none => rfl
     | some o => rw [hF.sub b o e2] at f2; cases f2
   . show h2 b i = none
     cases e2 : h2 b i with
     | none => rfl
     | some v =>
      rcases hF.new b i v e2 with h3 | ⟨cs, E, fz, h3, _, _⟩
      . rw [f3 i] at h3; cases h3
      . rw [f2] at h3; cases h3
 . refine ⟨hw.tape, hw.os, hw.output, hw.drawn, hw.size, hw.frame, λ b o v e => ?_, λ b o e => hw.msat b o (hF.sub b o e), λ b o e i => ?_, λ b o v e => hF.le.le b o v (hw.hle b o v e), λ b h1 h2' => ?_, λ b o e => hw.mfr b o (hF.sub b o e)⟩
   . rcases hF.new b o v e with h3 | ⟨cs, E, fz, h3, h4, _⟩
     . exact hw.hsat b o v h3
     . rw [cell_of_heap (hw.msat b _ h3), BU]; exact h4
   . show h2 b i = none
     have e : m2 b = some o := e
     cases e2 : h2 b i with
     | none => rfl
     | some v =>
      rcases hF.new b i v e2 with h3 | ⟨cs, E, fz, h3, h4, h5⟩
      . rw [hw.disj b o (hF.sub b o e) i] at h3; cases h3
      . rw [h5] at e; cases e
   . funext i
     have e := congrFun (hw.hold b h1 h2') i
     show h2 b i = B.h0 b i
     cases e2 : B.h0 b i with
     | some v => exact hF.le.le b i v (hw.hle b i v e2)
     | none =>
      cases e3 : h2 b i with
      | none => rfl
      | some v =>
       rcases hF.new b i v e3 with h3 | ⟨cs, E, fz, h3, h4, h5⟩
       . rw [e, e2] at h3; cases h3
       . rcases hw.mfr b _ h3 with h6 | h6
         . omega
         . exact (h2' h6).elim
theorem FH {τ : St} {K : Prop} (hM : aH B ι σ a w) (h : NK σ τ K) : ∃ ι', aH B ι' τ a w /\ K := by
 obtain ⟨ι1, hM1⟩ := oW τ τ.sl 0 ι σ hM
 obtain ⟨ι2, hM2⟩ := uS τ τ.own 0 ι1 _ hM1
 have hM2 : aH B ι2 (conv σ τ) a w := hM2
 unfold NK at h
 obtain ⟨hsl, h⟩ := uQ h hM2.slots
 obtain ⟨hown, hF, hK⟩ := sI h
 have hM3 := hM2.froze hF
 exact ⟨ι2, ⟨hsl, hM2.defers, λ k o hk => hM2.own k o (hown k o hk), λ k k' o o' b hk hk' hb hb' => hM2.dist k k' o o' b (hown k o hk) (hown k' o' hk') hb hb', λ k o b hk hb => hM3.fresh k o b (hown k o hk) hb, hM3.wrel, hM2.one⟩, hK⟩
theorem uW {c : pA} {R : c.A -> Prop} (hM : aH B ι σ a w) (h : ET c R σ) : ∃ x ι', R x /\ aH B ι' (c.st x) a w := by
 unfold ET at h
 split at h
 . obtain ⟨x, hx, hm⟩ := h
   obtain ⟨ι2, hM2, _⟩ := kX hM hm
   exact ⟨x, ι2, hx, hM2⟩
 . obtain ⟨x, hx, hm⟩ := h ⟨hM.wrel.disj⟩
   obtain ⟨ι2, hM2, _⟩ := FH hM hm
   exact ⟨x, ι2, hx, hM2⟩
theorem H9 {c : pA} {I S : c.A -> Prop} (hM : aH B ι σ a w) (h : Ob c I S σ) : ∃ x ι', I x /\ S x /\ aH B ι' (c.st x) a w := by
 unfold Ob at h
 split at h
 . obtain ⟨x, hx, hs, hm⟩ := h
   obtain ⟨ι2, hM2, _⟩ := kX hM hm
   exact ⟨x, ι2, hx, hs, hM2⟩
 . obtain ⟨x, hx, hs, hm⟩ := h ⟨hM.wrel.disj⟩
   obtain ⟨ι2, hM2, _⟩ := FH hM hm
   exact ⟨x, ι2, hx, hs, hM2⟩
def QD (B : oY) (Q : BR -> St -> Prop) : Exit -> Act -> World -> Prop
 | .normal, a, w => ∃ ι σ, aH B ι σ a w /\ Q .normal σ
 | .exit id, a, w => ∃ ι σ, aH B ι σ a w /\ Q (.exit id) σ
 | .ret, a, w => ∃ ι σ, aH B ι σ a w /\ Q .ret σ
 | _, _, _ => False
theorem Gq (hspecs : ∀ g S, assoc C.specs g = some S -> Sound C.P g S) {ops : Array Oper} {Q : BR -> St -> Prop} :
 ∀ (segs : List (Nat × pA)) (l : List Oper) (s : Nat) (ι : Nat -> Value) (σ : St) (a : Act) (w : World), (∀ j, l[j]? = ops.toList[s + j]?) -> aH B ι σ a w -> Wg C ops segs l σ (Q .normal) -> wpOpsIn Fence.wide 0 C.P ops (QD B Q) (List.range' s l.length) a w
 | [], l, s, ι, σ, a, w, hl, hM, h => by
  have := D8 hspecs (ops := ops) (Q := QD B Q) (R := Q .normal) (rest := []) (λ ι σ a w hM h => ⟨ι, σ, hM, h⟩) l s ι σ a w (λ j _ => hl j) hM h
  simpa using this
 | (n, ann) :: segs, l, s, ι, σ, a, w, hl, hM, h => by
  obtain ⟨I, h1, h2⟩ := h
  have := D8 hspecs (ops := ops) (Q := QD B Q) (R := λ τ => ∃ x, I x /\ wU τ (ann.st x) True) (rest := List.range' (s + (l.take n).length) (l.drop n).length) (λ ι' σ' a' w' hM' hx => by
   obtain ⟨x, hx, hm⟩ := hx
   obtain ⟨ι2, hM2, _⟩ := kX hM' hm
   refine Gq hspecs segs (l.drop n) (s + (l.take n).length) ι2 _ a' w' (λ j => ?_) hM2 (h2 x hx)
   rw [List.getElem?_drop, hl]
   by_cases hn : n <= l.length
   . congr 1; simp; omega
   . have e1 : l[n + j]? = none := OF aC
     have e2 : l[l.length + j]? = none := OF aC
     rw [hl] at e1 e2
     rw [e1, show s + (List.take n l).length + j = s + (l.length + j) by simp; omega, e2]) (l.take n) s ι σ a w (λ j hj => by
     rw [<- hl, DT]
     rw [if_pos (by simp at hj; omega)]) hM h1
  rwa [List.range'_append_1, <- BG, List.take_append_drop] at this
theorem OI (hspecs : ∀ g S, assoc C.specs g = some S -> Sound C.P g S) : ∀ (c : Code) (σ : St) (Q : BR -> St -> Prop) (ι : Nat -> Value) (a : Act) (w : World), aH B ι σ a w -> VC C c σ Q -> c.wp C.P (QD B Q) a w := by
 intro c
 induction c with
 | skip => intro σ Q ι a w hM h; exact wp_skip ⟨ι, σ, hM, h⟩
 | label l => intro σ Q ι a w hM h; exact wp_label ⟨ι, σ, hM, h⟩
 | exit id => intro σ Q ι a w hM h; exact wp_exit ⟨ι, σ, hM, h⟩
 | ret => intro σ Q ι a w hM h; exact wp_ret ⟨ι, σ, hM, h⟩
 | goto l => intro σ Q ι a w hM h; exact h.elim
 | refuse why => intro σ Q ι a w hM h; exact h.elim
 | scope body ih => intro σ Q ι a w hM h; exact h.elim
 | rangeFunc f ps x y ihx ihy => intro σ Q ι a w hM h; exact h.elim
 | region id ops draw =>
  intro σ Q ι a w hM h
  cases draw with
  | false =>
   refine (wpIn_wide (n := 0)).1 (wpIn_region ?_)
   have := Gq hspecs (ops := ops) (Q := Q) (Rb C id) ops.toList 0 ι σ a w (λ j => by simp) hM h
   rw [List.range_eq_range']
   simpa using this
  | true =>
   simp only [VC] at h
   split at h
   . rename_i h1 h2 h3
     have hs := Wd h1 h2
     refine wp_region_any h3 ?_
     refine MV hspecs hs (Q := QD B Q) (R := Q .normal) (λ ι σ a w hM h => ⟨ι, σ, hM, h⟩) (λ c a w h => h) ops.size ops.size _ ι σ a _ (hM.drew (w.drawn + 1) (Nat.le_succ _)) h _ a ?_ ?_
     . have hno : ∀ i, (Array.replicate ops.size false).getD i false = true -> False := by
        intro i hi
        by_cases hlt : i < ops.size
        . simp [Array.getD, hlt] at hi
        . simp [Array.getD, hlt] at hi
       exact ⟨by simp, by simp, λ i hi => hi, λ i o _ hi => (hno i hi).elim, λ i o _ hi => (hno i hi).elim, λ i o _ hi => (hno i hi).elim, rfl, rfl, λ t _ => rfl, λ i o _ hi => (hno i hi).elim⟩
     . unfold pN
       rw [List.filter_eq_self.2]
       . simp
       . intro i hi
         by_cases hlt : i < ops.size <;> simp [Array.getD, hlt]
   . exact h.elim
 | seq x y ihx ihy =>
  intro σ Q ι a w hM h
  simp only [VC] at h
  split at h
  . obtain ⟨h, hall⟩ := h
    refine wp_seq (wp_mono (ihx σ _ ι a w hM h) ?_)
    intro e a' w' hq
    cases e with
    | normal =>
     obtain ⟨ι', σ', hM', x, hx, hm⟩ := hq
     show y.wp C.P (QD B Q) a' w'
     obtain ⟨ι2, hM2, _⟩ := kX hM' hm
     exact ihy _ Q ι2 a' w' hM2 (hall x hx)
    | exit id => exact hq
    | ret => exact hq
    | goto l => exact hq
    | panic ch => exact hq
    | outgrown => exact hq
  . split at h
    . obtain ⟨I, h, hall⟩ := h
      refine wp_seq (wp_mono (ihx σ _ ι a w hM h) ?_)
      intro e a' w' hq
      cases e with
      | normal =>
       obtain ⟨ι', σ', hM', hm⟩ := hq
       show y.wp C.P (QD B Q) a' w'
       obtain ⟨x, ι2, hx, hM2⟩ := uW hM' hm
       exact ihy _ Q ι2 a' w' hM2 (hall x hx)
      | exit id => exact hq
      | ret => exact hq
      | goto l => exact hq
      | panic ch => exact hq
      | outgrown => exact hq
    . refine wp_seq (wp_mono (ihx σ _ ι a w hM h) ?_)
      intro e a' w' hq
      cases e with
      | normal =>
       obtain ⟨ι', σ', hM', h'⟩ := hq
       show y.wp C.P (QD B Q) a' w'
       exact ihy σ' Q ι' a' w' hM' h'
      | exit id => exact hq
      | ret => exact hq
      | goto l => exact hq
      | panic ch => exact hq
      | outgrown => exact hq
 | cond c x y ihx ihy =>
  intro σ Q ι a w hM h
  simp only [VC] at h
  split at h
  . rename_i t hc
    have hev := hM.ev c
    rw [hc] at hev
    have hev : a.eval c = .bool t := hev
    rcases qV h with ⟨rfl, h⟩ | ⟨rfl, h⟩
    . exact wp_cond_true hev (ihx _ Q ι a w (hM.setTmp hc) h)
    . exact wp_cond_false hev (ihy _ Q ι a w (hM.setTmp hc) h)
  . exact h.elim
 | block id c ih =>
  intro σ Q ι a w hM h
  refine wp_block (wp_mono (ih σ _ ι a w hM h) ?_)
  intro e a' w' hq
  cases e with
  | normal => exact hq
  | exit i =>
   obtain ⟨ι', σ', hM', h'⟩ := hq
   show if i = id then _ else _
   simp only at h'
   split at h'
   . rename_i hb
     rw [if_pos (Gg hb)]
     exact ⟨ι', σ', hM', h'⟩
   . rename_i hb
     rw [if_neg (λ e => by subst e; simp at hb)]
     exact ⟨ι', σ', hM', h'⟩
  | ret => exact hq
  | goto l => exact hq
  | panic ch => exact hq
  | outgrown => exact hq
 | loop c ih =>
  intro σ Q ι a w hM h
  simp only [VC] at h
  split at h
  . rename_i l hl
    obtain ⟨⟨x, hx, hm⟩, hall⟩ := h
    obtain ⟨ι2, hM2, _⟩ := kX hM hm
    refine wp_loop_ghost (λ n a w => ∃ x ι, l.inv x /\ l.mu x = n /\ aH B ι (l.st x) a w) (l.mu x) ⟨x, ι2, hx, rfl, hM2⟩ ?_
    rintro n a' w' ⟨x', ι', hx', rfl, hM'⟩
    refine wp_mono (ih _ _ ι' a' w' hM' (hall x' hx')) ?_
    intro e a'' w'' hq
    cases e with
    | normal =>
     obtain ⟨ι3, σ3, hM3, y, hy, hlt, hmy⟩ := hq
     obtain ⟨ι4, hM4, _⟩ := kX hM3 hmy
     exact ⟨l.mu y, hlt, y, ι4, hy, rfl, hM4⟩
    | exit id => exact hq
    | ret => exact hq
    | goto l => exact hq
    | panic ch => exact hq
    | outgrown => exact hq
  . split at h
    . rename_i l hl
      obtain ⟨I, mu, hm, hall⟩ := h
      obtain ⟨x, ι2, hx, hM2⟩ := uW hM hm
      refine wp_loop_ghost (λ n a w => ∃ x ι, I x /\ mu x = n /\ aH B ι (l.st x) a w) (mu x) ⟨x, ι2, hx, rfl, hM2⟩ ?_
      rintro n a' w' ⟨x', ι', hx', rfl, hM'⟩
      refine wp_mono (ih _ _ ι' a' w' hM' (hall x' hx')) ?_
      intro e a'' w'' hq
      cases e with
      | normal =>
       obtain ⟨ι3, σ3, hM3, hmy⟩ := hq
       obtain ⟨y, ι4, hy, hlt, hM4⟩ := H9 hM3 hmy
       exact ⟨mu y, hlt, y, ι4, hy, rfl, hM4⟩
      | exit id => exact hq
      | ret => exact hq
      | goto l => exact hq
      | panic ch => exact hq
      | outgrown => exact hq
    . exact h.elim
end
end Go.Vc
namespace Go.Vc
open Go
section
variable {B : oY} {C : Ctx} {ι : Nat -> Value} {σ : St} {a : Act} {w : World}
def GP (tmps : Array Value) : ResultVar -> Sem Value
 | .tmp t => pure (tmps.getD t undef)
 | .cell a t => do loadVar t (<- asAddr (tmps.getD a undef))
theorem Jy (fn : Func) (tmps : Array Value) : results fn tmps = (do let vs <- fn.results.mapM (GP tmps); pure (if h : vs.size = 1 then vs[0] else .tuple vs)) := by
 unfold results
 congr 1
theorem O5 (hM : aH B ι σ a w) {r : ResultVar} {x : SV} (h : Tz C σ r = some x) : ∃ v, (GP a.tmps r).run C.P w = .ok v w /\ Den ι x v := by
 cases r with
 | tmp t =>
  simp only [Tz, sW] at h
  subst h
  exact ⟨_, rfl, hM.ev (.tmp t)⟩
 | cell ad T =>
  have hev := hM.ev (.tmp ad)
  simp only [Tz] at h
  split at h
  . rename_i k off hx
    rw [hx] at hev
    split at h
    . rename_i p T' cs hk
      split at h
      . rename_i hle hT
        have hle := ZA hle
        simp only [sW] at h
        subst h
        obtain ⟨b, vs, hι, hh, hd⟩ := tC hM hk
        obtain ⟨b', hb', hp⟩ := hev
        rw [hι] at hb'
        simp only [Value.pointer.injEq, sW, Addr.mk.injEq] at hb'
        obtain ⟨rfl, -, -⟩ := hb'
        have hd' := (hd.drop off).take (C.P.cellsOf T)
        have hvs : cs.length = vs.toList.length := hd.length
        have hl := uV (w := w) (b := b) (off := off) (cs := (vs.toList.drop off).take (C.P.cellsOf T)) hT (by simp at hvs ⊢; omega) (λ j v hv => by rw [cell_of_heap hh]; exact sY hv)
        refine ⟨_, ?_, Et hd'⟩
        have hp' : a.tmps.getD ad undef = .pointer (some ⟨b, off, none⟩) := hp
        simp only [GP, hp', asAddr, Sem.run_bind, Sem.run_pure, Result.andThen_ok, hl]
      . cases h
    . cases h
  . cases h
theorem ES (hM : aH B ι σ a w) : ∀ (l : List ResultVar) (xs : List SV), Ea C σ l = some xs -> ∃ vs, (l.mapM (GP a.tmps)).run C.P w = .ok vs w /\ DenS ι xs vs
 | [], xs, h => by
  simp [Ea] at h; subst h
  exact ⟨[], by simp, trivial⟩
 | r :: l, xs, h => by
  simp only [Ea] at h
  split at h
  . rename_i x xs' hx hxs
    simp only [sW] at h
    subst h
    obtain ⟨v, hv, hd⟩ := O5 hM hx
    obtain ⟨vs, hvs, hds⟩ := ES hM l xs' hxs
    exact ⟨v :: vs, by simp [List.mapM_cons, hv, hvs], hd, hds⟩
  . cases h
theorem sP (hM : aH B ι σ a w) {mv : Bool} : ∀ (xs : List SV) (ts : List TypeId) (rs : List CV) (vs : List Value), Au C.P σ mv xs ts = some rs -> DenS ι xs vs ->
 rs.length = vs.length /\ (mv = false -> rs = vs.map .val) /\ ∀ (i : Nat) (r : CV) (v : Value), rs[i]? = some r -> vs[i]? = some v -> DS w r v /\ ∀ b, fN r v = some b -> ∃ k ow, nth σ.own k = some (some ow) /\ blk (ι k) = some b
 | [], ts, rs, [], h, _ => by
  simp [Au] at h; subst h
  exact ⟨rfl, λ _ => rfl, λ i r v hr => by simp at hr⟩
 | [], _, _, _ :: _, _, hd => hd.elim
 | x :: xs, _, _, [], _, hd => hd.elim
 | x :: xs, ts, rs, v :: vs, h, hd => by
  simp only [Au] at h
  split at h
  . cases h
  . rename_i l hl
    obtain ⟨ih1, ih2, ih3⟩ := sP hM xs ts.tail l vs hl hd.2
    have fin : ∀ (c0 : CV), rs = c0 :: l -> (mv = false -> c0 = .val v) -> DS w c0 v -> (∀ b, fN c0 v = some b -> ∃ k ow, nth σ.own k = some (some ow) /\ blk (ι k) = some b) ->
     rs.length = (v :: vs).length /\ (mv = false -> rs = (v :: vs).map .val) /\ ∀ (i : Nat) (r : CV) (u : Value), rs[i]? = some r -> (v :: vs)[i]? = some u -> DS w r u /\ ∀ b, fN r u = some b -> ∃ k ow, nth σ.own k = some (some ow) /\ blk (ι k) = some b := by
     intro c0 hrs h1 h2 h3
     subst hrs
     refine ⟨by simp [ih1], λ hm => by rw [h1 hm, ih2 hm]; rfl, λ i r u hr hu => ?_⟩
     cases i with
     | zero => simp at hr hu; subst hr hu; exact ⟨h2, h3⟩
     | succ i => simp only [Tm] at hr hu; exact ih3 i r u hr hu
    split at h
    . split at h
      . rename_i k
        have hv : v = ι k := hd.1
        split at h
        . rename_i E sz ys hk
          simp only [sW] at h
          obtain ⟨hr, ho⟩ := nQ hM hk
          exact fin _ h.symm (λ e => by cases e) ⟨hr, by rw [hv]; exact ho⟩ (λ b hb => ⟨k, _, hk, by rw [<- hv]; exact hb⟩)
        . cases h
      . have hv : v = .slice none 0 0 := hd.1
        split at h
        . rename_i E z hE
          simp only [sW] at h
          refine fin _ h.symm (λ e => by cases e) ⟨D9 _, by rw [hv]; exact World.ownsRow_nil w 0 E _⟩ (λ b hb => ?_)
          rw [hv] at hb
          simp [fN, blk] at hb
        . cases h
      . cases h
    . split at h
      . rename_i u hu
        simp only [sW] at h
        have hv := (hd.1).val? hu
        exact fin _ h.symm (λ _ => by rw [hv]) hv (λ b hb => by simp [fN] at hb)
      . cases h
theorem Lu (hM : aH B ι σ a w) {fn : Func} {K : CV -> MH -> PH -> Prop} (h : Lv C fn K σ) :
 ∃ u, (results fn a.tmps).run C.P w = .ok u w /\ ∃ r m' h', K r m' h' /\ DS w r u /\ Ab B m' h' w /\ ∀ b, fN r u = some b -> (B.w0.heap.size <= b \/ B.E b) /\ m' b = none /\ ∀ i, h' b i = none := by
 unfold Lv at h
 split at h
 . exact h.elim
 . rename_i xs hxs
   obtain ⟨τ', hMτ', h, _⟩ := kZ _ _ hM h
   obtain ⟨τ, hMτ, h, _⟩ := tJ _ _ hMτ' h
   split at h
   . exact h.elim
   . rename_i ys hys
     obtain ⟨vs, hvs, hds⟩ := ES hMτ _ _ hys
     have hres : (results fn a.tmps).run C.P w = .ok (if h : vs.toArray.size = 1 then vs.toArray[0] else .tuple vs.toArray) w := by
      rw [Jy, Array.mapM_eq_mapM_toList]
      simp [hvs]
     have blocks : ∀ (rs : List CV) (r : CV) (v : Value), Au C.P τ C.retMove ys fn.resultTypes.toList = some rs -> (∃ i : Nat, rs[i]? = some r /\ vs[i]? = some v) -> DS w r v /\ ∀ b, fN r v = some b -> (B.w0.heap.size <= b \/ B.E b) /\ τ.m b = none /\ ∀ i, τ.h b i = none := by
      rintro rs r v hrs ⟨i, hr, hv⟩
      obtain ⟨_, _, h3⟩ := sP hMτ _ _ _ _ hrs hds
      obtain ⟨h4, h5⟩ := h3 i r v hr hv
      refine ⟨h4, λ b hb => ?_⟩
      obtain ⟨k, ow, hk, hbk⟩ := h5 b hb
      exact hMτ.fresh k ow b hk hbk
     split at h
     . rename_i r hr
       obtain ⟨hlen, _, _⟩ := sP hMτ _ _ _ _ hr hds
       simp at hlen
       obtain ⟨v, rfl⟩ : ∃ v, vs = [v] := by
        match vs, hlen with
        | [v], _ => exact ⟨v, rfl⟩
       obtain ⟨h4, h5⟩ := blocks _ r v hr ⟨0, rfl, rfl⟩
       refine ⟨v, by simpa using hres, r, τ.m, τ.h, h, h4, hMτ.wrel, h5⟩
     . rename_i rs hne hrs
       split at h
       . exact h.elim
       . rename_i hmv
         obtain ⟨hlen, hval, _⟩ := sP hMτ _ _ _ _ hrs hds
         have hnl : vs.length ≠ 1 := by
          intro e
          rw [e] at hlen
          match rs, hlen with
          | [r], _ => exact hne r rfl
         refine ⟨.tuple vs.toArray, by rw [hres, dif_neg (by simpa using hnl)], .tup rs, τ.m, τ.h, h, ⟨vs.toArray, rfl, by simpa using hval hmv⟩, hMτ.wrel, λ b hb => by simp [fN] at hb⟩
     . exact h.elim
def HT (n : Nat) (cvs : List CV) (vs : List Value) (k : Nat) : Value :=
 match cvs[k - n]?, vs[k - n]? with
 | some (.lst _ _ _), some v => v
 | _, _ => .slice none 0 0
theorem mY {w : World} : ∀ {cvs : List CV} {vs : List Value}, Ac w cvs vs -> cvs.length = vs.length /\ ∀ (i : Nat) (c : CV) (v : Value), cvs[i]? = some c -> vs[i]? = some v -> DS w c v
 | [], [], _ => ⟨rfl, λ i c v h => by simp at h⟩
 | c :: cs, v :: vs, h => by
  obtain ⟨h1, h2⟩ := mY h.2
  refine ⟨by simp [h1], λ i c' v' hc hv => ?_⟩
  cases i with
  | zero => simp at hc hv; subst hc hv; exact h.1
  | succ i => simp at hc hv; exact h2 i c' v' hc hv
 | [], _ :: _, h => h.elim
 | _ :: _, [], h => h.elim
theorem H2 {n : Nat} {all : List CV} {avs : List Value} {w : World} : ∀ (i : Nat) (cvs : List CV) (vs : List Value), Ac w cvs vs -> (∀ j : Nat, cvs[j]? = all[i + j]?) -> (∀ j : Nat, vs[j]? = avs[i + j]?) ->
 DenS (HT n all avs) (DI n i cvs) vs
 | i, [], [], _, _, _ => trivial
 | i, c :: cvs, v :: vs, h, h1, h2 => by
  have ih := H2 (n := n) (all := all) (avs := avs) (i + 1) cvs vs h.2 (λ j => by have := h1 (j + 1); simp only [Tm] at this; rw [this]; congr 1; omega) (λ j => by have := h2 (j + 1); simp only [Tm] at this; rw [this]; congr 1; omega)
  cases c with
  | val u => exact ⟨h.1, ih⟩
  | lst E sz xs =>
   refine ⟨?_, ih⟩
   show v = HT n all avs (n + i)
   have e1 := h1 0
   have e2 := h2 0
   simp at e1 e2
   unfold HT
   rw [show n + i - n = i by omega, <- e1, <- e2]
  | tup rs => exact ⟨trivial, ih⟩
 | i, [], _ :: _, h, _, _ => h.elim
 | i, _ :: _, [], h, _, _ => h.elim
theorem FX : ∀ (cvs : List CV) (k : Nat) (o : Own), nth (uZ cvs) k = some (some o) -> ∃ E sz xs, cvs[k]? = some (.lst E sz xs) /\ o = .lst E sz xs
 | [], k, o, h => by simp [uZ, nth] at h
 | c :: cvs, 0, o, h => by
  cases c <;> simp [uZ, nth] at h
  rename_i E sz xs
  exact ⟨E, sz, xs, rfl, h.symm⟩
 | c :: cvs, k + 1, o, h => by
  have : nth (uZ cvs) k = some (some o) := by cases c <;> simpa [uZ, nth] using h
  obtain ⟨E, sz, xs, h1, h2⟩ := FX cvs k o this
  exact ⟨E, sz, xs, by simpa using h1, h2⟩
theorem MP {ι : Nat -> Value} : ∀ (n : Nat) (vs : List Value), vs.length = n -> DenS ι (List.replicate n (.at .junk)) vs
 | 0, [], _ => trivial
 | n + 1, v :: vs, h => ⟨trivial, MP n vs (by simpa using h)⟩
 | 0, _ :: _, h => by simp at h
 | _ + 1, [], h => by simp at h
theorem DenS.append {ι : Nat -> Value} : ∀ {xs xs' : List SV} {vs vs' : List Value}, DenS ι xs vs -> DenS ι xs' vs' -> DenS ι (xs ++ xs') (vs ++ vs')
 | [], _, [], _, _, h' => by simpa using h'
 | _ :: _, _, _ :: _, _, h, h' => ⟨h.1, DenS.append h.2 h'⟩
 | [], _, _ :: _, _, h, _ => h.elim
 | _ :: _, _, [], _, h, _ => h.elim
theorem FW {w : World} {m : MH} {h : PH} {cvs : List CV} {vs : List Value} (n : Nat) (hp : wZ w m h cvs vs) :
 aH ⟨w, sQ m cvs vs, h, []⟩ (HT n cvs vs) (entry n cvs m h) { tmps := vs.toArray ++ Array.replicate (n - vs.toArray.size) undef, defers := [] } w := by
 obtain ⟨hlen, hget⟩ := mY hp.args
 have hown : ∀ k o, nth (entry n cvs m h).own k = some (some o) -> n <= k /\ ∃ E sz xs, cvs[k - n]? = some (.lst E sz xs) /\ o = .lst E sz xs /\ ∃ v, vs[k - n]? = some v /\ HT n cvs vs k = v /\ DS w (.lst E sz xs) v := by
  intro k o hk
  simp only [entry] at hk
  rw [iG] at hk
  by_cases hkn : k < n
  . rw [Na (by simpa using hkn)] at hk
    simp [hkn] at hk
  . rw [Ji (by simpa using Nat.le_of_not_lt hkn)] at hk
    simp only [XZ] at hk
    rw [<- iG] at hk
    obtain ⟨E, sz, xs, h1, h2⟩ := FX cvs (k - n) o hk
    have hlt : k - n < vs.length := by
     rw [<- hlen]; exact (mG.1 h1).1
    have hv : vs[k - n]? = some vs[k - n] := kP hlt
    refine ⟨aC, E, sz, xs, h1, h2, _, hv, ?_, hget _ _ _ h1 hv⟩
    unfold HT
    rw [h1, hv]
 refine ⟨?_, rfl, ?_, ?_, ?_, ?_, ?_⟩
 . have h1 := H2 (n := n) (all := cvs) (avs := vs) 0 cvs vs hp.args (λ j => by simp) (λ j => by simp)
   show DenS _ (DI n 0 cvs ++ List.replicate (n - cvs.length) (.at .junk)) _
   have : (vs.toArray ++ Array.replicate (n - vs.toArray.size) undef).toList = vs ++ List.replicate (n - vs.length) undef := by simp
   rw [this]
   exact h1.append (MP _ _ (by simp [hlen]))
 . intro k o hk
   obtain ⟨hkn, E, sz, xs, h1, rfl, v, hv, hι, hok⟩ := hown k o hk
   rw [hι]
   exact hok
 . intro k k' o o' b hk hk' hb hb'
   obtain ⟨hkn, E, sz, xs, h1, rfl, v, hv, hι, hok⟩ := hown k o hk
   obtain ⟨hkn', E', sz', xs', h1', rfl, v', hv', hι', hok'⟩ := hown k' o' hk'
   rw [hι] at hb
   rw [hι'] at hb'
   have := hp.sep (k - n) (k' - n) _ _ v v' b h1 hv h1' hv' hb hb'
   omega
 . intro k o b hk hb
   obtain ⟨hkn, E, sz, xs, h1, rfl, v, hv, hι, hok⟩ := hown k o hk
   rw [hι] at hb
   obtain ⟨f1, f2⟩ := hp.free (k - n) _ v b h1 hv hb
   exact ⟨.inr (.inr ⟨k - n, _, v, h1, hv, hb⟩), f1, f2⟩
 . refine ⟨rfl, rfl, rfl, BH _, BH _, λ _ _ _ => rfl, hp.hsat, hp.msat, hp.disj, λ _ _ _ h => h, λ _ _ _ => rfl, λ b ob hb => .inr (.inl (by have hb : m b = some ob := hb; rw [hb]; simp))⟩
 . intro k
   unfold HT
   split
   . rename_i E sz xs v h1 h2
     exact HM (hget _ _ _ h1 h2).2
   . rfl
theorem eK {P : Program} {f : FuncId} {fn : Func} {c : Code} (hf : P.funcs[f]? = some fn) (hb : fn.body = some c) (hname : (fn.name == "runtime.NumGoroutine") = false) {S : Spec}
 (hvc : ∀ cvs m h K, S cvs m h K -> ∃ C : Ctx, C.P = P /\ (∀ g S, assoc C.specs g = some S -> Sound P g S) /\ Ap C fn c (entry fn.ntmps cvs m h) K) : Sound P f S := by
 refine ⟨⟨fn, hf, by rw [hb]; rfl, hname⟩, ?_⟩
 intro cvs vs m h w K hS hp
 obtain ⟨C, rfl, hspecs, hv⟩ := hvc cvs m h K hS
 refine calls_of_wp hf hb ?_
 refine wp_mono (OI hspecs c _ _ _ _ w (FW fn.ntmps hp) hv) ?_
 intro e a' w' hq
 have key : (∃ ι σ, aH ⟨w, sQ m cvs vs, h, []⟩ ι σ a' w' /\ Lv C fn K σ) -> a'.defers = [] /\ ∃ v, (results fn a'.tmps).run C.P w' = .ok v w' /\ ∃ r u m' h', Ending.returned v = .returned u /\ K r m' h' /\ DS w' r u /\ Ab ⟨w, sQ m cvs vs, h, []⟩ m' h' w' /\
  ∀ b, fN r u = some b -> (w.heap.size <= b \/ sQ m cvs vs b) /\ m' b = none /\ ∀ i, h' b i = none := by
  rintro ⟨ι, σ, hM, hr⟩
  obtain ⟨u, hu, r, m', h', h1, h2, h3, h4⟩ := Lu hM hr
  exact ⟨hM.defers, u, hu, r, u, m', h', rfl, h1, h2, h3, h4⟩
 cases e with
 | normal => exact key hq
 | ret => exact key hq
 | exit id => obtain ⟨_, _, _, h⟩ := hq; exact h.elim
 | goto l => exact hq.elim
 | panic ch => exact hq.elim
 | outgrown => exact hq.elim
theorem UX {P : Program} {f : FuncId} {fn : Func} {c : Code} (hf : P.funcs[f]? = some fn) (hb : fn.body = some c) (hname : (fn.name == "runtime.NumGoroutine") = false) {S : Spec}
 (hvc : ∀ cvs m h K, S cvs m h K -> ∃ C : Ctx, C.P = P /\ (∀ g S, assoc C.specs g = some S -> Sound P g S) /\ Ap C fn c (entry fn.ntmps cvs m h) (λ r m' h' => ∃ m2 h2, (∀ b o, m2 b = some o -> m' b = some o) /\ PH.le h h2 /\ PH.le h2 h' /\ K r m2 h2)) : Sound P f S := by
 have h0 := eK hf hb hname (S := λ cvs m h K => ∃ K', S cvs m h K' /\ K = λ r m' h' => ∃ m2 h2, (∀ b o, m2 b = some o -> m' b = some o) /\ PH.le h h2 /\ PH.le h2 h' /\ K' r m2 h2) (by
  rintro cvs m h K ⟨K', hS, rfl⟩
  exact hvc cvs m h K' hS)
 refine ⟨h0.1, λ cvs vs m h w K hS hp => ?_⟩
 refine (h0.2 cvs vs m h w _ ⟨K, hS, rfl⟩ hp).mono ?_
 rintro e w' ⟨r, u, m', h', he, ⟨m2, h2, k1, k2, k3, hK⟩, hok, hw, hfr⟩
 have hnone : ∀ b i, h' b i = none -> h2 b i = none := by
  intro b i e
  cases e2 : h2 b i with
  | none => rfl
  | some v => rw [k3.le b i v e2] at e; cases e
 refine ⟨r, u, m2, h2, he, hK, hok, ?_, λ b hb => ?_⟩
 . refine ⟨hw.tape, hw.os, hw.output, hw.drawn, hw.size, hw.frame, λ b o v e => hw.hsat b o v (k3.le b o v e), λ b o e => hw.msat b o (k1 b o e), λ b o e i => hnone b i (hw.disj b o (k1 b o e) i), k2.le, λ b h1 h2' => ?_, λ b o e => hw.mfr b o (k1 b o e)⟩
   funext i
   have e := congrFun (hw.hold b h1 h2') i
   show h2 b i = h b i
   cases e2 : h b i with
   | some v => exact (k2.le b i v e2)
   | none => exact hnone b i (by rw [e]; exact e2)
 . obtain ⟨f1, f2, f3⟩ := hfr b hb
   refine ⟨f1, ?_, λ i => hnone b i (f3 i)⟩
   cases e2 : m2 b with
   | none => rfl
   | some o => rw [k1 b o e2] at f2; cases f2
def cZ (h : PH) (K : CV -> MH -> PH -> Prop) : CV -> MH -> PH -> Prop := λ r m' h' => (∀ b o, m' b = some o -> ∀ i, h' b i = none) -> ∃ m2 h2, (∀ b o, m2 b = some o -> m' b = some o) /\ PH.le h h2 /\
 (∀ b i v, h2 b i = some v -> h' b i = some v \/ ∃ cs E fz, m' b = some (.cells cs E fz) /\ cs[i]? = some v /\ m2 b = none) /\ K r m2 h2
theorem Sound.strong {P : Program} {f : FuncId} {S : Spec} (h0 : Sound P f (λ cvs m h K => ∃ K', S cvs m h K' /\ K = cZ h K')) : Sound P f S := by
 refine ⟨h0.1, λ cvs vs m h w K hS hp => ?_⟩
 refine (h0.2 cvs vs m h w _ ⟨K, hS, rfl⟩ hp).mono ?_
 rintro e w' ⟨r, u, m', h', he, hStr, hok, hw, hfr⟩
 obtain ⟨m2, h2, k1, k2, k3, hK⟩ := hStr hw.disj
 refine ⟨r, u, m2, h2, he, hK, hok, ?_, λ b hb => ?_⟩
 . refine ⟨hw.tape, hw.os, hw.output, hw.drawn, hw.size, hw.frame, λ b o v e => ?_, λ b o e => hw.msat b o (k1 b o e), λ b o e i => ?_, k2.le, λ b h1 h2' => ?_, λ b o e => hw.mfr b o (k1 b o e)⟩
   . rcases k3 b o v e with h3 | ⟨cs, E, fz, h3, h4, _⟩
     . exact hw.hsat b o v h3
     . rw [cell_of_heap (hw.msat b _ h3), BU]; exact h4
   . cases e2 : h2 b i with
     | none => rfl
     | some v =>
      rcases k3 b i v e2 with h3 | ⟨cs, E, fz, h3, h4, h5⟩
      . rw [hw.disj b o (k1 b o e) i] at h3; cases h3
      . rw [h5] at e; cases e
   . funext i
     have e := congrFun (hw.hold b h1 h2') i
     show h2 b i = h b i
     cases e2 : h b i with
     | some v => exact (k2.le b i v e2)
     | none =>
      cases e3 : h2 b i with
      | none => rfl
      | some v =>
       rcases k3 b i v e3 with h3 | ⟨cs, E, fz, h3, h4, h5⟩
       . rw [e] at h3
         have : h b i = some v := h3
         rw [e2] at this; cases this
       . rcases hw.mfr b _ h3 with h6 | h6
         . have h6 : w.heap.size <= b := h6
           have h1 : b < w.heap.size := h1
           omega
         . exact (h2' h6).elim
 . obtain ⟨f1, f2, f3⟩ := hfr b hb
   refine ⟨f1, ?_, λ i => ?_⟩
   . cases e2 : m2 b with
     | none => rfl
     | some o => rw [k1 b o e2] at f2; cases f2
   . cases e2 : h2 b i with
     | none => rfl
     | some v =>
      rcases k3 b i v e2 with h3 | ⟨cs, E, fz, h3, _, _⟩
      . rw [f3 i] at h3; cases h3
      . rw [f2] at h3; cases h3
theorem UW {P : Program} {f : FuncId} {fn : Func} {c : Code} (hf : P.funcs[f]? = some fn) (hb : fn.body = some c) (hname : (fn.name == "runtime.NumGoroutine") = false) {S : Spec}
 (hvc : ∀ cvs m h K, S cvs m h K -> ∃ C : Ctx, C.P = P /\ (∀ g S, assoc C.specs g = some S -> Sound P g S) /\ Ap C fn c (entry fn.ntmps cvs m h) (cZ h K)) : Sound P f S :=
 .strong (eK hf hb hname (S := λ cvs m h K => ∃ K', S cvs m h K' /\ K = cZ h K') (by
  rintro cvs m h K ⟨K', hS, rfl⟩
  exact hvc cvs m h K' hS))
end
end Go.Vc
namespace Go.Vc
open Go
theorem aB {c : Bool} {A B : Prop} (h1 : c = true -> A) (h2 : c = false -> B) : branch c A B := by
 cases c
 . exact h2 rfl
 . exact h1 rfl
theorem aE {p : Prop} [Decidable p] {A B : Prop} (h1 : p -> A) (h2 : ¬p -> B) : branch (decide p) A B :=
 aB (λ h => h1 (of_decide_eq_true h)) (λ h => h2 (of_decide_eq_false h))
theorem eG {n : Int} (h1 : -9223372036854775808 <= n) (h2 : n < 9223372036854775808) : IntKind.i64.wrap n = n := by
 rw [IntKind.wrap_i64]; omega
theorem aL.of_m {m : MH} {h : PH} {b off : Nat} {cs : Array Value} {E : TypeId} {fz : Nat × Nat} {l : List Value} (hm : m b = some (.cells cs E fz)) (hl : (cs.toList.drop off).take l.length = l) : aL m h b off l := .lent cs E fz hm hl
end Go.Vc
namespace Go.Ps
open Go Go.Vc Go.Proofs
variable {K : CV -> MH -> PH -> Prop} {m : MH} {h : PH} {ps : List Int} {cb : Nat} {l : List Int} {i : Nat} {N : Nat} {m' : MH} {h' : PH} {co : List Int} {gr : List Int} {od : List (Int × Bool)} {ta : Int} {li : Int} {xs : List (List Value)} {sz : Nat} {k : Nat} {ks : List (List Int)} {rs : List Int} {r : Sl} {a : List Int} {b : Nat}
structure VV where
 kind : Int
 int : Int
 text : ByteArray
structure OV where
 kind : Int
 index : Int
 value : VV
structure PV where
 op : Int
 cmp : Int
 left : OV
 right : OV
 args : Sl
structure QV where
 op : Int
 table : Int
 where_ : PV
 columns : Sl
 on : Sl
 group : Sl
 order : Sl
 limit : Int
 args : Sl
variable {v : QV}
structure mF where
 name : ByteArray
 kind : Int
structure BW where
 columns : Sl
 table : Int
structure bR where
 name : ByteArray
 columns : Sl
 key : Int
 references : Sl
 checks : Sl
structure bL where
 version : Int
 tables : Sl
variable {sc : bL}
abbrev dQ (n : Int) : Value := .int .i64 n
abbrev eA (s : Sl) : Value := .slice s.a s.len s.cap
abbrev sR : Value := .slice none 0 0
abbrev Tq : Value := .string ⟨⟨[]⟩⟩
abbrev UC (b o : Nat) : Value := .pointer (some ⟨b, o, none⟩)
abbrev mK (n : Int) : At := .val (.int .i64 n)
abbrev Aa (s : Sl) : At := .val (.slice s.a s.len s.cap)
abbrev KJ : At := .val (.slice none 0 0)
abbrev QR : At := .val (.string ⟨⟨[]⟩⟩)
abbrev fK (n : Int) : SV := .at (.val (.int .i64 n))
abbrev Ya (s : Sl) : SV := .at (.val (.slice s.a s.len s.cap))
abbrev sQn : SV := .at (.val (.slice none 0 0))
abbrev sQp (b o : Nat) : SV := .at (.ptr b o)
abbrev Wi (b o : Nat) : SV := .at (.val (.pointer (some ⟨b, o, none⟩)))
abbrev sQb (b : Bool) : SV := .at (.val (.bool b))
abbrev sQl (k : Nat) : SV := .at (.lst k)
abbrev dH (n : Int) : CV := .val (.int .i64 n)
abbrev AE (b : Bool) : CV := .val (.bool b)
abbrev cK (s : Sl) : CV := .val (.slice s.a s.len s.cap)
abbrev jZ : CV := .val (.slice none 0 0)
abbrev DR (b o : Nat) : CV := .val (.pointer (some ⟨b, o, none⟩))
abbrev kE (l : List Value) : CV := .val (.agg ⟨l⟩)
abbrev oQ (T : TypeId) (l : List At) : Option Own := some (.cells T l)
abbrev eQ {α : Type} (x : α) : Prop := x = x
abbrev eP (k : Nat) : Prop := sQp k 0 = sQp k 0
abbrev eL (k : Nat) : Prop := sQl k = sQl k
abbrev Oc (s : ByteArray) : At := .val (.string s)
abbrev zQ : List At := [mK 0, mK 0, mK 0, mK 0, mK 0, mK 0, mK 0, mK 0, QR, mK 0, mK 0, mK 0, mK 0, QR, KJ, KJ, KJ, KJ, KJ, mK 0, KJ]
abbrev zP : List At := [mK 0, mK 0, mK 0, mK 0, mK 0, mK 0, QR, mK 0, mK 0, mK 0, mK 0, QR, KJ]
def eI (n : Int) : List Value := [.int .i64 n]
def eS (s : Sl) : List Value := [.slice s.a s.len s.cap]
def VV.enc (v : VV) : List Value := [.int .i64 v.kind, .int .i64 v.int, .string v.text]
def OV.enc (o : OV) : List Value := [.int .i64 o.kind, .int .i64 o.index, .int .i64 o.value.kind, .int .i64 o.value.int, .string o.value.text]
def PV.enc (p : PV) : List Value :=
 [.int .i64 p.op, .int .i64 p.cmp,
  .int .i64 p.left.kind, .int .i64 p.left.index, .int .i64 p.left.value.kind, .int .i64 p.left.value.int, .string p.left.value.text,
  .int .i64 p.right.kind, .int .i64 p.right.index, .int .i64 p.right.value.kind, .int .i64 p.right.value.int, .string p.right.value.text,
  .slice p.args.a p.args.len p.args.cap]
def QV.enc (q : QV) : List Value :=
 [.int .i64 q.op, .int .i64 q.table,
  .int .i64 q.where_.op, .int .i64 q.where_.cmp,
  .int .i64 q.where_.left.kind, .int .i64 q.where_.left.index, .int .i64 q.where_.left.value.kind, .int .i64 q.where_.left.value.int, .string q.where_.left.value.text,
  .int .i64 q.where_.right.kind, .int .i64 q.where_.right.index, .int .i64 q.where_.right.value.kind, .int .i64 q.where_.right.value.int, .string q.where_.right.value.text,
  .slice q.where_.args.a q.where_.args.len q.where_.args.cap,
  .slice q.columns.a q.columns.len q.columns.cap, .slice q.on.a q.on.len q.on.cap, .slice q.group.a q.group.len q.group.cap, .slice q.order.a q.order.len q.order.cap,
  .int .i64 q.limit, .slice q.args.a q.args.len q.args.cap]
def mF.enc (c : mF) : List Value := [.string c.name, .int .i64 c.kind]
def BW.enc (r : BW) : List Value := [.slice r.columns.a r.columns.len r.columns.cap, .int .i64 r.table]
def bR.enc (t : bR) : List Value := [.string t.name, .slice t.columns.a t.columns.len t.columns.cap, .int .i64 t.key, .slice t.references.a t.references.len t.references.cap, .slice t.checks.a t.checks.len t.checks.cap]
def bL.enc (s : bL) : List Value := [.int .i64 s.version, .slice s.tables.a s.tables.len s.tables.cap]
abbrev zV : List Value := [dQ 0, dQ 0, dQ 0, dQ 0, dQ 0, dQ 0, dQ 0, dQ 0, Tq, dQ 0, dQ 0, dQ 0, dQ 0, Tq, sR, sR, sR, sR, sR, dQ 0, sR]
abbrev pQ (p : PV) (r : List At) : List At := mK p.op :: mK p.cmp :: mK p.left.kind :: mK p.left.index :: mK p.left.value.kind :: mK p.left.value.int :: Oc p.left.value.text :: mK p.right.kind :: mK p.right.index :: mK p.right.value.kind :: mK p.right.value.int :: Oc p.right.value.text :: Aa p.args :: r
abbrev qQ (q : QV) (x : At) : List At := mK q.op :: mK q.table :: pQ q.where_ [Aa q.columns, Aa q.on, Aa q.group, Aa q.order, mK q.limit, x]
def tR (p : Int × Int) : List Value := [.int .i64 p.1, .int .i64 p.2]
def CR (p : Int × Bool) : List Value := [.int .i64 p.1, .bool p.2]
def dI : Zx := ⟨Int, eI⟩
def dS : Zx := ⟨Sl, eS⟩
def dB : Zx := ⟨Bool, λ b => [.bool b]⟩
def dU8 : Zx := ⟨UInt8, λ b => [.int .u8 b.toNat]⟩
def aiQ : Zx := ⟨ByteArray, λ s => [.string s]⟩
def Xm : Option Nat -> Value
 | none => .nilFunc
 | some f => .func (.func f) #[] #[]
def dF : Zx := ⟨Option Nat, λ f => [Xm f]⟩
structure NV where
 s : bL
 params : Sl
 q : QV
 args : Sl
def NV.enc (n : NV) : List Value := n.s.enc ++ eS n.params ++ n.q.enc ++ eS n.args
def dec : TypeId -> Zx := λ T => match T with
 | 2 => dI
 | 3 => dI
 | 4 => dB
 | 5 => dU8
 | 9 => aiQ
 | 54 => dI
 | 22 => dS
 | 23 => dS
 | 25 => dS
 | 30 => dS
 | 33 => dS
 | 34 => dS
 | 35 => dS
 | 36 => dS
 | 41 => dS
 | 53 => dS
 | 74 => dS
 | 83 => dS
 | 84 => dS
 | 133 => dS
 | 43 => ⟨bL, bL.enc⟩
 | 27 => ⟨VV, VV.enc⟩
 | 29 => ⟨OV, OV.enc⟩
 | 32 => ⟨PV, PV.enc⟩
 | 38 => ⟨QV, QV.enc⟩
 | 86 => ⟨bR, bR.enc⟩
 | 69 => ⟨Int × Int, tR⟩
 | 72 => ⟨Int × Bool, CR⟩
 | 105 => ⟨mF, mF.enc⟩
 | 118 => ⟨BW, BW.enc⟩
 | 152 => ⟨NV, NV.enc⟩
 | 153 => dF
 | 229 => dF
 | 158 => ⟨Nat, λ b => [.func (.func 147) #[] #[.pointer (some ⟨b, 0, none⟩)]]⟩
 | 177 => ⟨Nat, λ b => [.map (some b)]⟩
 | 207 => ⟨Nat, λ b => [.map (some b)]⟩
 | _ => ⟨Unit, λ _ => []⟩
def dK (f : Func) : Code := match f.body with | some c => c | none => .skip
noncomputable def ctx (specs : List (Nat × Vc.Spec)) (loops : List (Nat × Jg)) (cuts : List (Nat × Tf)) (moves : List (Nat × List Nat)) (retMove : Bool) : Ctx :=
 { P := Tryz.prog, loops2 := [], cuts2 := [], rcuts := [], heapT := [], specs := specs, dec := dec, loops := loops, cuts := cuts, moves := moves, retMove := retMove, yield := none }
noncomputable def dM (specs : List (Nat × Vc.Spec)) (loops : List (Nat × pA)) (cuts : List (Nat × pA)) (moves : List (Nat × List Nat)) (retMove : Bool) : Ctx :=
 { P := Tryz.prog, loops2 := loops, cuts2 := cuts, rcuts := [], heapT := [], specs := specs, dec := dec, loops := [], cuts := [], moves := moves, retMove := retMove, yield := none }
noncomputable def aiX (specs : List (Nat × Vc.Spec)) (loops : List (Nat × pA)) (cuts : List (Nat × pA)) (rcuts : List (Nat × List (Nat × pA))) (moves : List (Nat × List Nat)) (retMove : Bool) : Ctx :=
 { P := Tryz.prog, loops2 := loops, cuts2 := cuts, rcuts := rcuts, heapT := [], specs := specs, dec := dec, loops := [], cuts := [], moves := moves, retMove := retMove, yield := none }
noncomputable def vO (specs : List (Nat × Vc.Spec)) (loops : List (Nat × pA)) (cuts : List (Nat × pA)) (rcuts : List (Nat × List (Nat × pA))) (heapT : List TypeId) (moves : List (Nat × List Nat)) (retMove : Bool) : Ctx :=
 { P := Tryz.prog, loops2 := loops, cuts2 := cuts, rcuts := rcuts, heapT := heapT, specs := specs, dec := dec, loops := [], cuts := [], moves := moves, retMove := retMove, yield := none }
theorem aF : ∀ g S, assoc ([] : List (Nat × Vc.Spec)) g = some S -> Sound Tryz.prog g S := λ g S h => by simp [assoc] at h
theorem aD {g0 : Nat} {S0 : Vc.Spec} {r : List (Nat × Vc.Spec)} (h0 : Sound Tryz.prog g0 S0) (hr : ∀ g S, assoc r g = some S -> Sound Tryz.prog g S) : ∀ g S, assoc ((g0, S0) :: r) g = some S -> Sound Tryz.prog g S := by
 intro g S h
 simp only [assoc] at h
 split at h
 . rename_i hb
   have := Gg hb
   subst this
   simp at h
   subst h
   exact h0
 . exact hr g S h
def QJ (n : Int) : List UInt8 -> Int × List UInt8
 | [] => (0, [])
 | b :: r => if n < 1 then (0, b :: r) else ((b.toNat : Int) % n, r)
structure Th (m : MH) (h : PH) (cb : Nat) (r : List UInt8) : Prop where
 ex : ∃ (s : Sl) (cs : List UInt8) (k : Nat), m cb = some (.cells #[.slice s.a s.len s.cap, .int .i64 k] 82 (0, 0)) /\ cN h s 1 (bF cs) /\ k <= cs.length /\ cs.length <= 1000 /\ r = cs.drop k
structure aY (m m' : MH) (cb : Nat) : Prop where
 other : ∀ b, b ≠ cb -> m' b = m b
end Go.Ps
namespace Go.Vc
open Go
theorem PH.le.refl (h : PH) : PH.le h h := ⟨λ _ _ _ e => e⟩
theorem PH.le.trans {h h' h'' : PH} (a : PH.le h h') (b : PH.le h' h'') : PH.le h h'' := ⟨λ x y v e => b.le x y v (a.le x y v e)⟩
theorem aZ.mono {h h' : PH} {b o : Nat} {l : List Value} (r : aZ h b o l) (le : PH.le h h') : aZ h' b o l := ⟨λ i v e => le.le _ _ _ (r.rd i v e)⟩
theorem cN.mono {h h' : PH} {s : Sl} {sz : Nat} {xs : List (List Value)} (r : cN h s sz xs) (le : PH.le h h') : cN h' s sz xs :=
 ⟨r.len, r.row.imp id λ ⟨b, o, e, k⟩ => ⟨b, o, e, λ i x hx => (k i x hx).mono le⟩, r.cap⟩
theorem cN.get {h : PH} {s : Sl} {sz : Nat} {xs : List (List Value)} (r : cN h s sz xs) {i : Nat} {e : List Value} (hi : xs[i]? = some e) :
 ∃ b o, s.a = some ⟨b, o, none⟩ /\ aZ h b (o + i * sz) e := by
 rcases r.row with rfl | ⟨b, o, ha, k⟩
 . simp at hi
 . exact ⟨b, o, ha, k i e hi⟩
theorem dC.blk {m : MH} {s : Sl} {E sz : Nat} {xs : List (List Value)} (h : dC m s E sz xs) {b i : Nat} (e : s.a = some ⟨b, i, none⟩) : ∃ cur, m b = some (.cells cur E (0, 0)) := by
 rcases h.ex with ⟨rfl, _⟩ | ⟨b', cap, cur, rfl, hm, _⟩
 . cases e
 . simp only [sW, Addr.mk.injEq] at e
   rw [<- e.1]; exact ⟨cur, hm⟩
theorem dC.slen {m : MH} {s : Sl} {E sz : Nat} {xs : List (List Value)} (h : dC m s E sz xs) : s.len = xs.length := by
 rcases h.ex with ⟨rfl, rfl⟩ | ⟨b', cap, cur, rfl, hm, _⟩ <;> rfl
theorem dC.keep {m m' : MH} {s : Sl} {E sz : Nat} {xs : List (List Value)} (h : dC m s E sz xs) (hk : ∀ b i, s.a = some ⟨b, i, none⟩ -> m' b = m b) : dC m' s E sz xs := by
 refine ⟨h.rows, ?_⟩
 rcases h.ex with h1 | ⟨b, cap, cur, rfl, hm, h2⟩
 . exact .inl h1
 . exact .inr ⟨b, cap, cur, rfl, by rw [hk b 0 rfl]; exact hm, h2⟩
theorem cN.nil (h : PH) (sz : Nat) : cN h ⟨none, 0, 0⟩ sz [] := ⟨rfl, .inl rfl, BH _⟩
end Go.Vc
namespace Go.Ps
open Go Go.Vc Go.Proofs
variable {K : CV -> MH -> PH -> Prop} {m : MH} {h : PH} {ps : List Int} {cb : Nat} {sc : bL} {v : QV} {l : List Int} {i : Nat} {N : Nat} {m' : MH} {h' : PH} {co : List Int} {gr : List Int} {od : List (Int × Bool)} {ta : Int} {li : Int} {xs : List (List Value)} {sz : Nat} {k : Nat} {ks : List (List Int)} {rs : List Int} {r : Sl} {a : List Int} {b : Nat}
structure Ints (h : PH) (s : Sl) (l : List Int) : Prop where
 row : cN h s 1 (l.map eI)
 len : l.length <= 17592186044416
theorem Ints.mono {s : Sl} (r : Ints h s l) (le : PH.le h h') : Ints h' s l := ⟨r.row.mono le, r.len⟩
theorem Ints.slen {s : Sl} (r : Ints h s l) : s.len = l.length := by have := r.row.len; simpa using this
structure lK (h : PH) (s : Sl) (l : List (Int × Int)) : Prop where
 row : cN h s 2 (l.map tR)
 len : l.length <= 8796093022208
theorem lK.mono {s : Sl} {l : List (Int × Int)} (r : lK h s l) (le : PH.le h h') : lK h' s l := ⟨r.row.mono le, r.len⟩
theorem lK.slen {s : Sl} {l : List (Int × Int)} (r : lK h s l) : s.len = l.length := by have := r.row.len; simpa using this
structure iE (h : PH) (s : Sl) (l : List (Int × Bool)) : Prop where
 row : cN h s 2 (l.map CR)
 len : l.length <= 8796093022208
theorem iE.mono {s : Sl} {l : List (Int × Bool)} (r : iE h s l) (le : PH.le h h') : iE h' s l := ⟨r.row.mono le, r.len⟩
theorem iE.slen {s : Sl} {l : List (Int × Bool)} (r : iE h s l) : s.len = l.length := by have := r.row.len; simpa using this
inductive Pred where
 | mk (op cmp : Int) (left right : OV) (args : List Pred)
variable {p : Pred} {w : Pred}
mutual
def eD (h : PH) : Pred -> PV -> Prop
 | .mk op cmp l r args, v => v.op = op /\ v.cmp = cmp /\ v.left = l /\ v.right = r /\ args.length <= 502633886983 /\ ∃ vs : List PV, cN h v.args 13 (vs.map PV.enc) /\ sV h args vs
def sV (h : PH) : List Pred -> List PV -> Prop
 | [], vs => vs = []
 | p :: ps, vs => ∃ v vs', vs = v :: vs' /\ eD h p v /\ sV h ps vs'
end
mutual
theorem eD.mono {h h' : PH} (le : PH.le h h') : ∀ {p : Pred} {v : PV}, eD h p v -> eD h' p v
 | .mk .., _, ⟨h1, h2, h3, h4, h5, vs, h6, h7⟩ => ⟨h1, h2, h3, h4, h5, vs, h6.mono le, sV.mono le h7⟩
theorem sV.mono {h h' : PH} (le : PH.le h h') : ∀ {ps : List Pred} {vs : List PV}, sV h ps vs -> sV h' ps vs
 | [], _, h => h
 | _ :: _, _, ⟨v, vs', h1, h2, h3⟩ => ⟨v, vs', h1, eD.mono le h2, sV.mono le h3⟩
end
theorem sV.length {h : PH} : ∀ {ps : List Pred} {vs : List PV}, sV h ps vs -> vs.length = ps.length
 | [], _, h => by rw [show _ = [] from h]; rfl
 | _ :: _, _, ⟨_, _, h1, _, h3⟩ => by rw [h1]; simp [sV.length h3]
theorem sV.get {h : PH} : ∀ {ps : List Pred} {vs : List PV}, sV h ps vs -> ∀ {i : Nat} {p : Pred}, ps[i]? = some p -> ∃ v, vs[i]? = some v /\ eD h p v
 | [], _, _, i, p, e => by simp at e
 | p0 :: ps, _, ⟨v, vs', rfl, h2, h3⟩, 0, p, e => by simp at e; subst e; exact ⟨v, rfl, h2⟩
 | p0 :: ps, _, ⟨v, vs', rfl, h2, h3⟩, i + 1, p, e => by simp at e; simpa using sV.get h3 e
inductive Query where
 | mk (op table : Int) (wher : Pred) (columns : List Int) (on : List (Int × Int)) (group : List Int) (order : List (Int × Bool)) (limit : Int) (args : List Query)
variable {q : Query}
mutual
def cR (h : PH) : Query -> QV -> Prop
 | .mk op table w columns on group order limit args, v => v.op = op /\ v.table = table /\ eD h w v.where_ /\ Ints h v.columns columns /\ lK h v.on on /\ Ints h v.group group /\ iE h v.order order /\ v.limit = limit /\
  args.length <= 502633886983 /\ ∃ vs : List QV, cN h v.args 21 (vs.map QV.enc) /\ u9 h args vs
def u9 (h : PH) : List Query -> List QV -> Prop
 | [], vs => vs = []
 | p :: ps, vs => ∃ v vs', vs = v :: vs' /\ cR h p v /\ u9 h ps vs'
end
mutual
theorem cR.mono {h h' : PH} (le : PH.le h h') : ∀ {p : Query} {v : QV}, cR h p v -> cR h' p v
 | .mk .., _, ⟨h1, h2, h3, h4, h5, h6, h7, h8, h9, vs, h10, h11⟩ => ⟨h1, h2, h3.mono le, h4.mono le, h5.mono le, h6.mono le, h7.mono le, h8, h9, vs, h10.mono le, u9.mono le h11⟩
theorem u9.mono {h h' : PH} (le : PH.le h h') : ∀ {ps : List Query} {vs : List QV}, u9 h ps vs -> u9 h' ps vs
 | [], _, h => h
 | _ :: _, _, ⟨v, vs', h1, h2, h3⟩ => ⟨v, vs', h1, cR.mono le h2, u9.mono le h3⟩
end
theorem u9.length {h : PH} : ∀ {ps : List Query} {vs : List QV}, u9 h ps vs -> vs.length = ps.length
 | [], _, h => by rw [show _ = [] from h]; rfl
 | _ :: _, _, ⟨_, _, h1, _, h3⟩ => by rw [h1]; simp [u9.length h3]
theorem u9.get {h : PH} : ∀ {ps : List Query} {vs : List QV}, u9 h ps vs -> ∀ {i : Nat} {p : Query}, ps[i]? = some p -> ∃ v, vs[i]? = some v /\ cR h p v
 | [], _, _, i, p, e => by simp at e
 | p0 :: ps, _, ⟨v, vs', rfl, h2, h3⟩, 0, p, e => by simp at e; subst e; exact ⟨v, rfl, h2⟩
 | p0 :: ps, _, ⟨v, vs', rfl, h2, h3⟩, i + 1, p, e => by simp at e; simpa using u9.get h3 e
def iv (n : Int) : SV := .at (.val (.int .i64 n))
def sv (s : Sl) : SV := .at (.val (.slice s.a s.len s.cap))
def bv (b : Bool) : SV := .at (.val (.bool b))
def vv (v : Value) : SV := .at (.val v)
def cS (s : Sl) : CV := .val (.slice s.a s.len s.cap)
def cI (n : Int) : CV := .val (.int .i64 n)
def cB (b : Bool) : CV := .val (.bool b)
def cP (b : Nat) : CV := .val (.pointer (some ⟨b, 0, none⟩))
def Co (id : Nat) (st : Nat -> St) (inv : Nat -> Prop) (mu : Nat -> Nat) : Nat × Jg := (id, { A := Nat, st := st, inv := inv, mu := mu })
theorem kC (h : i <= 140737488355328) : IntKind.i64.wrap ((i : Int) + 1) = ((i + 1 : Nat) : Int) := by
 rw [eG aC aC]; rfl
theorem Ints.at {s : Sl} (r : Ints h s l) {x : Int} (hi : l[i]? = some x) : ∃ b o, s.a = some ⟨b, o, none⟩ /\ aZ h b (o + i) [.int .i64 x] := by
 obtain ⟨b, o, h1, h2⟩ := r.row.get (i := i) (e := eI x) (by simp [hi])
 exact ⟨b, o, h1, by simpa [eI] using h2⟩
theorem MT {p : Prop} (h : p := by repeat' (first | with_reducible rfl | exact trivial | refine ⟨?_, ?_⟩ | rfl | (rw [kC aC]; done) | (rw [kC aC]))) : p := h
def dO (k : Int) : Bool := k == 3 || k == 4 || k == 5
def Ce (t : ByteArray) : Bool := t.toList == []
def jK (v : VV) : Bool :=
 if v.kind == 1 || v.kind == 2 then v.int == 0 && Ce v.text
 else if v.kind == 3 then (v.int == 0 || v.int == 1) && Ce v.text
 else if v.kind == 4 then Ce v.text
 else if v.kind == 5 then v.int == 0 && (v.text.size : Int) <= 64
 else false
def lI (v : VV) : Bool := jK v && v.kind >= 3
def aV (v : VV) : CV := .val (.agg #[.int .i64 v.kind, .int .i64 v.int, .string v.text])
def XN : Vc.Spec := λ cvs m h K => ∃ k, cvs = [cI k] /\ K (cB (dO k)) m h
def KK : Vc.Spec := λ cvs m h K => ∃ v, cvs = [aV v] /\ K (cB (jK v)) m h
def M1 : Vc.Spec := λ cvs m h K => ∃ v, cvs = [aV v] /\ K (cB (lI v)) m h
def KY : Vc.Spec := λ cvs m h K => ∃ s l, cvs = [cS s] /\ Ints h s l /\ K (cB (l.all dO)) m h
noncomputable def YN (s : Sl) (l : List Int) (m : MH) (h : PH) : Ctx :=
 ctx [(93, XN)] [Co 2 (λ i => cH 15 16 [(5, sv s), (6, iv s.len), (7, iv i)] [] m h) (λ i => i <= l.length /\ (l.take i).all dO = true) (λ i => l.length - i)] [] [] false
noncomputable def W7 (s : Sl) (l : List Int) (m : MH) (h : PH) : Ctx :=
 ctx [] [Co 2 (λ i => cH 22 23 [(5, sv s), (6, iv s.len), (7, iv i)] [] m h) (λ i => i <= l.length /\ (l.take i).all dO = true) (λ i => l.length - i)] [] [] false
abbrev cW (a : Bool) (b : Prop) (c : Bool) (d e : Prop) : Prop := branch a b (branch c d e)
noncomputable abbrev fJ  : CV := AE true
attribute [push_cast] cW fJ
def PG (k : Int) (m : MH) (h : PH) (K : CV -> MH -> PH -> Prop) : Prop :=
  cW (k == 3) (K fJ m h) (k == 4) (K fJ m h) (K (AE (k == 5)) m h)
abbrev dN (a b : Int) (c d : Prop) : Prop := branch (a == b) c d
noncomputable abbrev yZ (a : VV) : List UInt8 := a.text.toList
abbrev Dc (a : CV -> MH -> PH -> Prop) (b : VV) (c : MH) (d : PH) : Prop := a (AE (yZ b == [])) c d
noncomputable abbrev aW  : CV := AE false
attribute [push_cast] dN yZ Dc aW
def DH (v : VV) (m : MH) (h : PH) (K : CV -> MH -> PH -> Prop) : Prop :=
  cW (v.kind == 1) (dN v.int 0 (Dc K v m h) (K aW m h)) (v.kind == 2) (dN v.int 0 (Dc K v m h) (K aW m h)) (cW (v.kind == 3) (cW (v.int == 0) (Dc K v m h) (v.int == 1) (Dc K v m h) (K aW m h)) (v.kind == 4) (Dc K v m h) (dN v.kind 5 (dN v.int 0 (K (AE (decide ((↑v.text.size : Int) <= 64))) m h) (K aW m h)) (K aW m h)))
noncomputable abbrev mR (a : CV) : List CV := [a]
abbrev qB (a b : CV) (c : Prop) : Prop := mR a = mR b /\ c
noncomputable abbrev iQ (a : VV) : CV := kE a.enc
attribute [push_cast] mR qB iQ
def Mu (v : VV) (m : MH) (h : PH) (K : CV -> MH -> PH -> Prop) : Prop :=
  ∃ (v1 : VV), qB (iQ v) (iQ v1) (branch (jK v1) (K (AE (decide (v.kind >= 3))) m h) (K aW m h))
abbrev eE (a b : Int) (c d : Prop) : Prop := branch (a != b) c d
attribute [push_cast] eE
def Mj (v : VV) (m : MH) (h : PH) (K : CV -> MH -> PH -> Prop) : Prop :=
  ∃ (v1 : VV), qB (iQ v) (iQ v1) (branch (jK v1) (eE v.kind 1 (K (AE (v.kind != 2)) m h) (K aW m h)) (K aW m h))
abbrev jT (a : Prop) (b : Nat -> Prop) : Prop := a /\ ∀ (x : Nat), b x
abbrev aA (a b c : Prop) : Prop := a /\ b /\ c
abbrev dX (a : Bool) : Prop := a = true
noncomputable abbrev Ei (a : List Int) : Bool := List.all a dO
abbrev wF (a : Nat) (b : List Int) : Prop := a <= b.length /\ dX (Ei (List.take a b))
abbrev aI (a : Sl) : Prop := eQ (Ya a)
noncomputable abbrev bV (a : Nat) : SV := fK (↑a : Int)
abbrev bI (a : Sl) : Prop := eQ (bV a.len)
abbrev bC (a : Nat) : Prop := fK 0 = bV a
abbrev jG (a b : Prop) : Prop := aA a b True
abbrev dT (a b : MH) (c d : Nat -> Nat -> Option Value) : Prop := jG (a = b) (c = d)
abbrev bA (a b : Int) (c d : Prop) : Prop := branch (decide (a < b)) c d
noncomputable abbrev aG (a : Sl) : Int := (↑a.len : Int)
abbrev aT (a : Nat -> Nat -> Prop) : Prop := ∃ (x x1 : Nat), a x x1
abbrev aU (a : Option Addr) (b c : Nat) : Prop := a = Option.some (Addr.mk b c Option.none)
noncomputable abbrev fM (a : Nat) (b : Int) (c : Nat) : Nat := a + b.toNat * c
noncomputable abbrev bN (a b c : Nat) : Nat := fM a (↑b : Int) c
noncomputable abbrev iK (a : Value) : List Value := [a]
noncomputable abbrev bZ (a : Int) : List Value := iK (dQ a)
abbrev jL (a : Int) (b : Int -> Prop) : Prop := ∃ (x : Int), mR (dH a) = mR (dH x) /\ b x
abbrev hZ (a : Bool) (b : Prop) (c : Nat -> Prop) : Prop := branch a b (∃ (x : Nat), c x)
abbrev bM (a b c : Prop) : Prop := aA a b (c /\ True)
noncomputable abbrev dZ (a : Int) : Int := IntKind.wrap IntKind.i64 a
noncomputable abbrev bE (a : Nat) (b : Int) : Int := dZ ((↑a : Int) + b)
attribute [push_cast] jT aA dX Ei wF aI bV bI bC jG dT bA aG aT aU fM bN iK bZ jL hZ bM dZ bE
def P3 (s : Sl) (l : List Int) (m : MH) (h : PH) (K : CV -> MH -> PH -> Prop) : Prop :=
  jT (∃ (x : Nat), aA (wF x l) (aI s) (aA (bI s) (bC x) (dT m m h h))) (λ x => wF x l -> bA (↑x : Int) (aG s) (aT (λ b o => aA (aU s.a b o) (0 <= (↑x : Int)) ((↑x : Int) < aG s /\ ∃ (y : Int), aL m h b (bN o x 1) (bZ y) /\ jL y (λ k => hZ (!(dO k)) (K aW m h) (λ y1 => aA (wF y1 l) (l.length - y1 < l.length - x) (aA (aI s) (bI s) (bM (fK (bE x 1) = bV y1) (m = m) (h = h)))))))) (K fJ m h))
def My (s : Sl) (l : List Int) (m : MH) (h : PH) (K : CV -> MH -> PH -> Prop) : Prop :=
  jT (∃ (x : Nat), aA (wF x l) (aI s) (aA (bI s) (bC x) (dT m m h h))) (λ x => wF x l -> bA (↑x : Int) (aG s) (aT (λ b o => aA (aU s.a b o) (0 <= (↑x : Int)) ((↑x : Int) < aG s /\ ∃ (y : Int), aL m h b (bN o x 1) (bZ y) /\ hZ (y != 3) (hZ (y != 4) (hZ (y != 5) (K aW m h) (λ y1 => aA (wF y1 l) (l.length - y1 < l.length - x) (aA (aI s) (bI s) (bM (fK (bE x 1) = bV y1) (m = m) (h = h))))) (λ y1 => aA (wF y1 l) (l.length - y1 < l.length - x) (aA (aI s) (bI s) (bM (fK (bE x 1) = bV y1) (m = m) (h = h))))) (λ y1 => aA (wF y1 l) (l.length - y1 < l.length - x) (aA (aI s) (bI s) (bM (fK (bE x 1) = bV y1) (m = m) (h = h))))))) (K fJ m h))
theorem Zk (v : VV) (m : MH) (h : PH) (K : CV -> MH -> PH -> Prop) : DH v m h K = Ap (ctx [] [] [] [] false) Tryz.f105 (dK Tryz.f105) (entry Tryz.f105.ntmps [aV v] m h) K := by kernel_rfl
theorem gI {x y : Bool} (hK : K (cB x) m h) (e : x = y) : K (.val (.bool y)) m h := e ▸ hK
theorem T1 {v : VV} (hK : K (cB (jK v)) m h) : DH v m h K := by
 dsimp only [DH, push_cast]
 repeat' (first | (refine aB (λ _ => ?_) (λ _ => ?_)) | (refine gI hK ?_; simp_all [jK, Ce]))
theorem gX {f : FuncId} {fn : Func} (hf : Tryz.prog.funcs[f]? = some fn) {S : Vc.Spec} (hvc : ∀ cvs m h K, S cvs m h K -> ∃ C : Ctx, C.P = Tryz.prog /\ (∀ g S, assoc C.specs g = some S -> Sound Tryz.prog g S) /\ ∃ N : Prop, N = Ap C fn (dK fn) (entry fn.ntmps cvs m h) K /\ N) (hb : fn.body = some (dK fn) := by rfl) (hname : (fn.name == "runtime.NumGoroutine") = false := by decide) : Sound Tryz.prog f S := eK hf hb hname λ cvs m h K hS => let ⟨C, hC, hs, N, e, hn⟩ := hvc cvs m h K hS; ⟨C, hC, hs, e ▸ hn⟩
theorem LN : Sound Tryz.prog 93 XN := by
 refine gX Tryz.func93 ?_
 rintro cvs m h K ⟨k, rfl, hK⟩
 refine ⟨ctx [] [] [] [] false, rfl, aF, PG k m h K, by kernel_rfl, ?_⟩
 dsimp only [PG, push_cast]
 repeat' (first | (refine aB (λ _ => ?_) (λ _ => ?_)) | (refine gI hK ?_; simp_all [dO]))
theorem SB : Sound Tryz.prog 119 KK := by
 refine gX Tryz.func119 ?_
 rintro cvs m h K ⟨v, rfl, hK⟩
 refine ⟨ctx [] [] [] [] false, rfl, aF, DH v m h K, by kernel_rfl, ?_⟩
 exact T1 hK
theorem Kz : Sound Tryz.prog 105 KK := by
 refine eK (fn := Tryz.f105) (c := dK Tryz.f105) Tryz.func105 rfl (by decide) ?_
 rintro cvs m h K ⟨v, rfl, hK⟩
 refine ⟨ctx [] [] [] [] false, rfl, aF, ?_⟩
 rw [<- Zk v m h K]
 exact T1 hK
theorem R2 : Sound Tryz.prog 164 M1 := by
 refine gX Tryz.func164 ?_
 rintro cvs m h K ⟨v, rfl, hK⟩
 refine ⟨ctx [(119, KK)] [] [] [] false, rfl, aD SB aF, Mu v m h K, by kernel_rfl, ?_⟩
 dsimp only [Mu, push_cast]
 refine ⟨v, rfl, ?_⟩
 repeat' (first | (refine aB (λ _ => ?_) (λ _ => ?_)) | (refine gI hK ?_; simp_all [lI]))
theorem En : Sound Tryz.prog 203 M1 := by
 refine gX Tryz.func203 ?_
 rintro cvs m h K ⟨v, rfl, hK⟩
 refine ⟨ctx [(105, KK)] [] [] [] false, rfl, aD Kz aF, Mj v m h K, by kernel_rfl, ?_⟩
 dsimp only [Mj, push_cast]
 refine ⟨v, rfl, ?_⟩
 refine aB (λ h1 => aB (λ h2 => gI hK ?_) (λ h2 => gI hK ?_)) (λ h1 => gI hK ?_)
 . have h2 : v.kind ≠ 1 := by simpa using h2
   by_cases h3 : v.kind = 2
   . simp [lI, h1, h3]
   . have : 3 <= v.kind := by
      simp only [jK] at h1
      repeat' split at h1
      all_goals first | (simp_all; done) | skip
      all_goals simp_all
     simp [lI, h1, h3, this]
 . have h2 : v.kind = 1 := by simpa using h2
   simp [lI, h2]
 . simp [lI, h1]
theorem xZ {α : Type} {p : α -> Bool} {l : List α} {x : α} (hx : l[i]? = some x) : (l.take (i + 1)).all p = ((l.take i).all p && p x) := by
 rw [EA, List.all_append, hx]; simp
theorem zJ {α : Type} {p : α -> Bool} {l : List α} {x : α} (hx : l[i]? = some x) (hp : p x = false) : l.all p = false := by
 rw [List.all_eq_false]
 exact ⟨x, lP hx, by simp [hp]⟩
theorem LR : Sound Tryz.prog 64 KY := by
 refine gX Tryz.func64 ?_
 rintro cvs m h K ⟨s, l, rfl, hl, hK⟩
 refine ⟨YN s l m h, rfl, aD LN aF, P3 s l m h K, by kernel_rfl, ?_⟩
 dsimp only [P3, push_cast]
 have hs := hl.slen
 have hb := hl.len
 refine ⟨⟨0, ⟨aC, by simp⟩, rfl, rfl, rfl, rfl, rfl, trivial⟩, λ i hi => aE (λ hlt => ?_) (λ hge => ?_)⟩
 . obtain ⟨x, hx⟩ : ∃ x, l[i]? = some x := ⟨l[i]'(by omega), kP _⟩
   obtain ⟨b1, o1, e1, r1⟩ := hl.at hx
   refine ⟨b1, o1, e1, aC, hlt, x, .imm (by simpa using r1), x, rfl, aB (λ hc => gI hK ?_) (λ hc => ?_)⟩
   . exact zJ hx (by simpa using hc)
   . refine ⟨i + 1, ⟨aC, ?_⟩, aC, rfl, rfl, by rw [kC aC], rfl, rfl, trivial⟩
     rw [xZ hx, hi.2]
     simpa using hc
 . refine gI hK ?_
   have := hi.2
   rwa [EC aC] at this
theorem Sn : Sound Tryz.prog 136 KY := by
 refine gX Tryz.func136 ?_
 rintro cvs m h K ⟨s, l, rfl, hl, hK⟩
 refine ⟨W7 s l m h, rfl, aF, My s l m h K, by kernel_rfl, ?_⟩
 dsimp only [My, push_cast]
 have hs := hl.slen
 have hb := hl.len
 refine ⟨⟨0, ⟨aC, by simp⟩, rfl, rfl, rfl, rfl, rfl, trivial⟩, λ i hi => aE (λ hlt => ?_) (λ hge => ?_)⟩
 . obtain ⟨x, hx⟩ : ∃ x, l[i]? = some x := ⟨l[i]'(by omega), kP _⟩
   obtain ⟨b1, o1, e1, r1⟩ := hl.at hx
   have good : dO x = true -> (l.take (i + 1)).all dO = true := λ hc => by rw [xZ hx, hi.2, hc]; rfl
   refine ⟨b1, o1, e1, aC, hlt, x, .imm (by simpa using r1), ?_⟩
   have next : dO x = true -> ∃ (y : Nat), (y <= l.length /\ (l.take y).all dO = true) /\ l.length - y < l.length - i /\ y = i + 1 := λ hc => ⟨i + 1, ⟨aC, good hc⟩, aC, rfl⟩
   repeat' (first | (refine aB (λ _ => ?_) (λ _ => ?_)) | (refine gI hK (zJ hx ?_); simp_all [dO]; done) | (refine ⟨i + 1, ⟨aC, good (by simp_all [dO])⟩, aC, rfl, rfl, by rw [kC aC], rfl, rfl, trivial⟩))
 . refine gI hK ?_
   have := hi.2
   rwa [EC aC] at this
def VI (a b : VV) : Bool := a.kind == b.kind && (a.int == b.int && (a.text.toList == b.text.toList && true))
def VJ (a b : OV) : Bool := a.kind == b.kind && (a.index == b.index && (VI a.value b.value && true))
theorem jV {f : Field} {fs : List Field} {d : Nat} {xs ys : Array Value} {w : World} {x y : Value} {r r' : Bool} (hn : (f.name == "_") = false) (hx : vB Tryz.prog (part f.type xs f.offset) = some x) (hy : vB Tryz.prog (part f.type ys f.offset) = some y)
 (he : (Op.equalIn d f.type x y).run Tryz.prog w = .ok r w) (hr : (Op.eqFields d xs ys fs).run Tryz.prog w = .ok r' w) : (Op.eqFields d xs ys (f :: fs)).run Tryz.prog w = .ok (r && r') w := by
 have hn : f.name ≠ "_" := by simpa using hn
 simp only [Op.eqFields, if_pos hn, Sem.run_bind, xI _ _ _ hx, xI _ _ _ hy, Result.andThen_ok, he]
 cases r
 . simp
 . simpa using hr
noncomputable def K4 (t k : Nat) : Field := (Tryz.prog.fieldsOf t).toList.getD k default
theorem T3 (a b : VV) (d : Nat) (w : World) : (Op.equalIn (d + 2) 27 (.agg #[.int .i64 a.kind, .int .i64 a.int, .string a.text]) (.agg #[.int .i64 b.kind, .int .i64 b.int, .string b.text])).run Tryz.prog w = .ok (VI a b) w := by
 rw [run_equalIn_struct w (d + 1) 27 _ _ (by kernel_rfl) (by kernel_rfl), show (Tryz.prog.fieldsOf 27).toList = [K4 27 0, K4 27 1, K4 27 2] by kernel_rfl]
 refine jV (x := .int .i64 a.kind) (y := .int .i64 b.kind) (by kernel_rfl) (by kernel_rfl) (by kernel_rfl) (run_equalIn_int w d _ .i64 .i64 _ _ (by kernel_rfl)) ?_
 refine jV (x := .int .i64 a.int) (y := .int .i64 b.int) (by kernel_rfl) (by kernel_rfl) (by kernel_rfl) (run_equalIn_int w d _ .i64 .i64 _ _ (by kernel_rfl)) ?_
 refine jV (x := .string a.text) (y := .string b.text) (by kernel_rfl) (by kernel_rfl) (by kernel_rfl) (run_equalIn_string w d _ _ _ (by kernel_rfl)) ?_
 simp [Op.eqFields]
theorem Zl (a b : OV) (d : Nat) (w : World) : (Op.equalIn (d + 3) 29 (.agg #[.int .i64 a.kind, .int .i64 a.index, .int .i64 a.value.kind, .int .i64 a.value.int, .string a.value.text]) (.agg #[.int .i64 b.kind, .int .i64 b.index, .int .i64 b.value.kind, .int .i64 b.value.int, .string b.value.text])).run Tryz.prog w = .ok (VJ a b) w := by
 rw [run_equalIn_struct w (d + 2) 29 _ _ (by kernel_rfl) (by kernel_rfl), show (Tryz.prog.fieldsOf 29).toList = [K4 29 0, K4 29 1, K4 29 2] by kernel_rfl]
 refine jV (x := .int .i64 a.kind) (y := .int .i64 b.kind) (by kernel_rfl) (by kernel_rfl) (by kernel_rfl) (run_equalIn_int w (d + 1) _ .i64 .i64 _ _ (by kernel_rfl)) ?_
 refine jV (x := .int .i64 a.index) (y := .int .i64 b.index) (by kernel_rfl) (by kernel_rfl) (by kernel_rfl) (run_equalIn_int w (d + 1) _ .i64 .i64 _ _ (by kernel_rfl)) ?_
 refine jV (x := .agg #[.int .i64 a.value.kind, .int .i64 a.value.int, .string a.value.text]) (y := .agg #[.int .i64 b.value.kind, .int .i64 b.value.int, .string b.value.text]) (by kernel_rfl) (by kernel_rfl) (by kernel_rfl) ?_ ?_
 . rw [show (K4 29 2).type = 27 by kernel_rfl]; exact T3 a.value b.value d w
 . simp [Op.eqFields]
theorem FU (a b : VV) : StructEq Tryz.prog 27 (.agg #[.int .i64 a.kind, .int .i64 a.int, .string a.text]) (.agg #[.int .i64 b.kind, .int .i64 b.int, .string b.text]) (VI a b) :=
 ⟨by kernel_rfl, λ w => T3 a b 9998 w⟩
theorem zE (a b : OV) : StructEq Tryz.prog 29 (.agg #[.int .i64 a.kind, .int .i64 a.index, .int .i64 a.value.kind, .int .i64 a.value.int, .string a.value.text]) (.agg #[.int .i64 b.kind, .int .i64 b.index, .int .i64 b.value.kind, .int .i64 b.value.int, .string b.value.text]) (VJ a b) :=
 ⟨by kernel_rfl, λ w => Zl a b 9997 w⟩
theorem xE {a b : ByteArray} (h : a.toList = b.toList) : a = b := by
 rw [ByteArray.toList_eq, ByteArray.toList_eq] at h
 cases a; cases b
 simp only [ByteArray.mk.injEq]
 exact Oz.1 h
theorem T4 {a b : VV} : VI a b = true ↔ a = b := by
 obtain ⟨k, i, t⟩ := a
 obtain ⟨k', i', t'⟩ := b
 simp only [VI, Bool.and_true, Gf, beq_iff_eq, VV.mk.injEq]
 exact ⟨λ ⟨h1, h2, h3⟩ => ⟨h1, h2, xE h3⟩, λ ⟨h1, h2, h3⟩ => ⟨h1, h2, by rw [h3]⟩⟩
theorem BC {a b : OV} : VJ a b = true ↔ a = b := by
 obtain ⟨k, i, t⟩ := a
 obtain ⟨k', i', t'⟩ := b
 simp only [VJ, Bool.and_true, Gf, beq_iff_eq, OV.mk.injEq, T4]
def zeroV : VV := ⟨0, 0, ⟨#[]⟩⟩
def dL : OV := ⟨0, 0, zeroV⟩
def pL (l : List Int) (o : OV) : Int := if o.index < 0 || o.index >= l.length || !VI o.value zeroV then 0 else l.getD o.index.toNat 0
def kindOf (cols params : List Int) (o : OV) : Int :=
 if o.kind == 3 then (if o.index != 0 || !lI o.value then 0 else o.value.kind)
 else if o.kind == 2 then pL params o
 else if o.kind == 1 then pL cols o
 else 0
def rC (v : PV) : Bool := v.cmp == 0 && VJ v.left dL && VJ v.right dL
def aO (o : OV) : CV := .val (.agg #[.int .i64 o.kind, .int .i64 o.index, .int .i64 o.value.kind, .int .i64 o.value.int, .string o.value.text])
def aP (p : PV) : CV := .val (.agg #[.int .i64 p.op, .int .i64 p.cmp,
 .int .i64 p.left.kind, .int .i64 p.left.index, .int .i64 p.left.value.kind, .int .i64 p.left.value.int, .string p.left.value.text,
 .int .i64 p.right.kind, .int .i64 p.right.index, .int .i64 p.right.value.kind, .int .i64 p.right.value.int, .string p.right.value.text,
 .slice p.args.a p.args.len p.args.cap])
def a2S (s t : Sl) : CV := .val (.agg #[.slice s.a s.len s.cap, .slice t.a t.len t.cap])
def XJ : Vc.Spec := λ cvs m h K => ∃ v, cvs = [aP v] /\ K (cB (rC v)) m h
def Uo : Vc.Spec := λ cvs m h K => ∃ s t cols params o, cvs = [cS s, cS t, aO o] /\ Ints h s cols /\ Ints h t params /\ K (cI (kindOf cols params o)) m h
def QX : Vc.Spec := λ cvs m h K => ∃ s t cols params o, cvs = [a2S s t, aO o] /\ Ints h s cols /\ Ints h t params /\ K (cI (kindOf cols params o)) m h
abbrev lN (a : Nat) (b c : List Value) (d : Bool -> Prop) : Prop := ∃ (x : Bool), StructEq Proofs.Tryz.prog a (Value.agg (Array.mk b)) (Value.agg (Array.mk c)) x /\ d x
noncomputable abbrev aJ (a b : Value) (c : List Value) : List Value := a :: b :: c
noncomputable abbrev bO  : Value := dQ 0
noncomputable abbrev xP  : List Value := iK Tq
noncomputable abbrev Fm  : List Value := aJ bO bO (aJ bO bO xP)
attribute [push_cast] lN aJ bO xP Fm
def Mz (v : PV) (m : MH) (h : PH) (K : CV -> MH -> PH -> Prop) : Prop :=
  dN v.cmp 0 (lN 29 v.left.enc Fm (λ r => branch r (lN 29 v.right.enc Fm (λ r1 => K (AE r1) m h)) (K aW m h))) (K aW m h)
abbrev gK (a : Bool) (b c : Prop) : Prop := branch (!a) b c
noncomputable abbrev mZ (a : OV) : Int := a.value.kind
abbrev fQ (a b : Int) (c d : Prop) : Prop := branch (decide (a >= b)) c d
noncomputable abbrev uE  : List Value := aJ bO bO xP
attribute [push_cast] gK mZ fQ uE
def DF (s t : Sl) (o : OV) (m : MH) (h : PH) (K : CV -> MH -> PH -> Prop) : Prop :=
  cW (o.kind == 3) (eE o.index 0 (K (dH 0) m h) (∃ (v : VV), qB (iQ o.value) (iQ v) (gK (lI v) (K (dH 0) m h) (K (dH (mZ o)) m h)))) (o.kind == 2) (bA o.index 0 (K (dH 0) m h) (fQ o.index (aG t) (K (dH 0) m h) (lN 27 o.value.enc uE (λ r => gK r (K (dH 0) m h) (aT (λ b o1 => aA (aU t.a b o1) (0 <= o.index) (o.index < aG t /\ ∃ (y : Int), aL m h b (fM o1 o.index 1) (bZ y) /\ K (dH y) m h))))))) (dN o.kind 1 (bA o.index 0 (K (dH 0) m h) (fQ o.index (aG s) (K (dH 0) m h) (lN 27 o.value.enc uE (λ r => gK r (K (dH 0) m h) (aT (λ b o1 => aA (aU s.a b o1) (0 <= o.index) (o.index < aG s /\ ∃ (y : Int), aL m h b (fM o1 o.index 1) (bZ y) /\ K (dH y) m h))))))) (K (dH 0) m h))
theorem vX {x y : Int} (hK : K (cI x) m h) (e : x = y) : K (.val (.int .i64 y)) m h := e ▸ hK
theorem Ints.inb {s : Sl} (r : Ints h s l) {n : Int} (h0 : 0 <= n) (h1 : n < (l.length : Int)) : ∃ b o, s.a = some ⟨b, o, none⟩ /\ aZ h b (o + n.toNat * 1) [.int .i64 (l.getD n.toNat 0)] := by
 have hx : l[n.toNat]? = some (l.getD n.toNat 0) := by
  rw [Hy, kP aC]; simp
 obtain ⟨b, o, e, r⟩ := r.at hx
 exact ⟨b, o, e, by simpa using r⟩
theorem TZ {s t : Sl} {cols params : List Int} {o : OV} (hs : Ints h s cols) (ht : Ints h t params) (hK : K (cI (kindOf cols params o)) m h) : DF s t o m h K := by
 have es := hs.slen
 have et := ht.slen
 dsimp only [DF, push_cast]
 refine aB (λ h1 => aB (λ h2 => vX hK ?_) (λ h2 => ⟨o.value, rfl, aB (λ h3 => vX hK ?_) (λ h3 => vX hK ?_)⟩)) (λ h1 => aB (λ h2 => ?_) (λ h2 => aB (λ h3 => ?_) (λ h3 => vX hK ?_)))
 . simp_all [kindOf]
 . simp_all [kindOf]
 . simp_all [kindOf]
 . have hk : kindOf cols params o = pL params o := by simp_all [kindOf]
   rw [hk] at hK
   refine aE (λ h3 => vX hK ?_) (λ h3 => aE (λ h4 => vX hK ?_) (λ h4 => ⟨VI o.value zeroV, FU o.value zeroV, aB (λ h5 => vX hK ?_) (λ h5 => ?_)⟩))
   . simp [pL, h3]
   . rw [et] at h4; simp [pL, h4]
   . simp only [V5] at h5; simp [pL, h5]
   . obtain ⟨b, off, e, r⟩ := ht.inb (n := o.index) aC aC
     refine ⟨b, off, e, aC, aC, _, .imm r, vX hK ?_⟩
     have h4' : ¬ o.index >= params.length := by omega
     simp only [X4] at h5
     simp [pL, h3, h4', h5]
 . have hk : kindOf cols params o = pL cols o := by simp_all [kindOf]
   rw [hk] at hK
   refine aE (λ h3 => vX hK ?_) (λ h3 => aE (λ h4 => vX hK ?_) (λ h4 => ⟨VI o.value zeroV, FU o.value zeroV, aB (λ h5 => vX hK ?_) (λ h5 => ?_)⟩))
   . simp [pL, h3]
   . rw [es] at h4; simp [pL, h4]
   . simp only [V5] at h5; simp [pL, h5]
   . obtain ⟨b, off, e, r⟩ := hs.inb (n := o.index) aC aC
     refine ⟨b, off, e, aC, aC, _, .imm r, vX hK ?_⟩
     have h4' : ¬ o.index >= cols.length := by omega
     simp only [X4] at h5
     simp [pL, h3, h4', h5]
 . simp_all [kindOf]
theorem Su : Sound Tryz.prog 128 XJ := by
 refine gX Tryz.func128 ?_
 rintro cvs m h K ⟨v, rfl, hK⟩
 refine ⟨ctx [] [] [] [] false, rfl, aF, Mz v m h K, by kernel_rfl, ?_⟩
 dsimp only [Mz, push_cast]
 refine aB (λ h1 => ⟨VJ v.left dL, zE v.left dL, aB (λ h2 => ⟨VJ v.right dL, zE v.right dL, gI hK ?_⟩) (λ h2 => gI hK ?_)⟩) (λ h1 => gI hK ?_)
 all_goals simp_all [rC]
theorem Ss : Sound Tryz.prog 129 Uo := by
 refine gX Tryz.func129 ?_
 rintro cvs m h K ⟨s, t, cols, params, o, rfl, hs, ht, hK⟩
 refine ⟨ctx [(164, M1)] [] [] [] false, rfl, aD R2 aF, DF s t o m h K, by kernel_rfl, ?_⟩
 exact TZ hs ht hK
theorem R1 : Sound Tryz.prog 176 QX := by
 refine gX Tryz.func176 ?_
 rintro cvs m h K ⟨s, t, cols, params, o, rfl, hs, ht, hK⟩
 refine ⟨ctx [(203, M1)] [] [] [] false, rfl, aD En aF, DF s t o m h K, by kernel_rfl, ?_⟩
 exact TZ hs ht hK
def Pred.args : Pred -> List Pred
 | .mk _ _ _ _ l => l
mutual
def lS : Pred -> Int -> Int
 | .mk _ _ _ _ args, n => iV args (n + 1)
def iV : List Pred -> Int -> Int
 | [], n => n
 | p :: ps, n => if n <= 24 then iV ps (lS p n) else n
end
mutual
def j9 : Pred -> Nat -> Bool
 | .mk _ _ _ _ _, 0 => true
 | .mk _ _ _ _ args, n + 1 => pV args n
def pV : List Pred -> Nat -> Bool
 | [], _ => false
 | p :: ps, n => j9 p n || pV ps n
end
mutual
theorem AQ : ∀ (p : Pred) (n : Int), n <= 24 -> n < lS p n /\ lS p n <= 25
 | .mk _ _ _ _ args, n, h => by
  have := DX args (n + 1) aC
  simp only [lS]; omega
theorem DX : ∀ (ps : List Pred) (n : Int), n <= 25 -> n <= iV ps n /\ iV ps n <= 25
 | [], n, h => by simp only [iV]; omega
 | p :: ps, n, h => by
  simp only [iV]
  split
  . rename_i h1
    have h2 := AQ p n h1
    have h3 := DX ps (lS p n) h2.2
    omega
  . omega
end
theorem Nz (ps : List Pred) {n : Int} (h : ¬ n <= 24) : iV ps n = n := by
 cases ps
 . simp [iV]
 . simp only [iV, if_neg h]
theorem F2 (n : Nat) : ∀ ps : List Pred, pV ps n = ps.any (j9 · n)
 | [] => by simp [pV]
 | p :: ps => by simp [pV, F2 n ps]
theorem zH {p : Pred} {q : Pred} (h : q ∈ p.args) : SizeOf.sizeOf q < SizeOf.sizeOf p := by
 cases p with
 | mk op cmp l r args =>
  have := List.sizeOf_lt_of_mem h
  simp only [Pred.args] at this
  simp only [Pred.mk.sizeOf_spec]
  omega
theorem eD.open {v : PV} (r : eD h p v) : p.args.length <= 502633886983 /\ v.args.len = p.args.length /\ ∀ (i : Nat) (q : Pred), p.args[i]? = some q -> ∃ b o u, v.args.a = some ⟨b, o, none⟩ /\ aZ h b (o + i * 13) (PV.enc u) /\ eD h q u := by
 cases p with
 | mk op cmp l r' args =>
  obtain ⟨h1, h2, h3, h4, h5, vs, h6, h7⟩ := r
  have hl := h7.length
  refine ⟨h5, ?_, λ i q hq => ?_⟩
  . have := h6.len; simp at this; simp only [Pred.args]; omega
  . obtain ⟨u, hu, hr⟩ := h7.get hq
    obtain ⟨b, o, e, r⟩ := h6.get (i := i) (e := PV.enc u) (by simp [hu])
    exact ⟨b, o, u, e, r, hr⟩
def Tc (N : Nat) : Vc.Spec := λ cvs m h K => ∃ v p k, cvs = [aP v, cI k] /\ eD h p v /\ SizeOf.sizeOf p < N /\ 0 <= k /\ k <= 24 /\ K (cI (lS p k)) m h
def Ow (N : Nat) : Vc.Spec := λ cvs m h K => ∃ v p, ∃ k : Nat, cvs = [aP v, cI k] /\ eD h p v /\ SizeOf.sizeOf p < N /\ k <= 100 /\ K (cB (j9 p k)) m h
noncomputable def Yv (N : Nat) (v : PV) (p : Pred) (k : Int) (m : MH) (h : PH) : Ctx :=
 ctx [(97, Tc N)] [(3, { A := Nat × Int, st := λ x => cH 27 29 [(1, iv x.2), (2, .at (.ptr 2 0)), (5, iv x.1)] [(2, .cells 32 (v.enc.map .val))] m h, inv := λ x => x.1 <= p.args.length /\ 0 <= x.2 /\ x.2 <= 25 /\ iV (p.args.drop x.1) x.2 = lS p k, mu := λ x => p.args.length - x.1 })] [] [] false
noncomputable def Yu (N : Nat) (v : PV) (p : Pred) (k : Nat) (m : MH) (h : PH) : Ctx :=
 ctx [(98, Ow N)] [Co 4 (λ i => cH 23 25 [(1, iv k), (2, .at (.ptr 2 0)), (10, iv v.args.len), (11, iv i)] [(2, .cells 32 (v.enc.map .val))] m h) (λ i => i <= p.args.length /\ (p.args.take i).any (j9 · (k - 1)) = false) (λ i => p.args.length - i)] [] [] false
abbrev Ix (a : Nat × Int) (b : Pred) (c d : Int) : Prop := aA (a.1 <= b.args.length) (0 <= a.2) (a.2 <= c /\ iV (List.drop a.1 b.args) a.2 = lS b d)
abbrev cL (a b : Int) : Prop := fK a = fK b
noncomputable abbrev oZ (a : Nat) (b : List Value) : Option Own := oQ a (List.map At.val b)
abbrev jN (a : PV) : Prop := eQ (oZ 32 a.enc)
abbrev Cf (a b : Int) (c d : Prop) : Prop := branch (decide (a <= b)) c d
abbrev vK (a : PV -> Pred -> Prop) : Prop := ∃ (x : PV) (x1 : Pred), a x x1
noncomputable abbrev aX (a b : CV) : List CV := a :: mR b
noncomputable abbrev bB (a : CV) (b : Int) : List CV := aX a (dH b)
noncomputable abbrev cX (a : PV) : CV := kE a.enc
abbrev oD (a : Pred) (b : Nat) : Prop := SizeOf.sizeOf a < b
abbrev cA (a : Int) : Prop := 0 <= a
noncomputable abbrev sH (a : Pred) (b : Nat) : Nat := a.args.length - b
attribute [push_cast] Ix cL oZ jN Cf vK aX bB cX oD cA sH
def PD (N : Nat) (v : PV) (p : Pred) (k : Int) (m : MH) (h : PH) (K : CV -> MH -> PH -> Prop) : Prop :=
  (∃ (x : Nat × Int), aA (Ix x p 25 k) (cL (dZ (k + 1)) x.2) (aA (eP 2) (bC x.1) (bM (jN v) (m = m) (h = h)))) /\ ∀ (x : Nat × Int), Ix x p 25 k -> bA (↑x.1 : Int) (aG v.args) (Cf x.2 24 (aT (λ b o => aA (aU v.args.a b o) (0 <= (↑x.1 : Int)) ((↑x.1 : Int) < aG v.args /\ ∃ (y : PV), aL m h b (bN o x.1 13) y.enc /\ vK (λ v1 p1 => ∃ (k1 : Int), aA (bB (cX y) x.2 = bB (cX v1) k1) (eD h p1 v1) (aA (oD p1 N) (cA k1) (k1 <= 24 /\ ∃ (y1 : Nat × Int), aA (Ix y1 p 25 k) (sH p y1.1 < sH p x.1) (aA (cL (lS p1 k1) y1.2) (eP 2) (aA (fK (bE x.1 1) = bV y1.1) (jN v) (aA (m = m) (h = h) True))))))))) (K (dH x.2) m h)) (K (dH x.2) m h)
abbrev Iy (a : Nat) (b : Pred) (c : Pred -> Pred) (d : Nat) : Prop := a <= b.args.length /\ List.any (List.take a b.args) (fun (x : Pred) => j9 (c x) (d - 1)) = false
abbrev E7 (a : List CV) (b : CV) (c d : Prop) (e : Nat -> Prop) : Prop := ∃ (x : Nat), aA (a = bB b (↑x : Int)) c (aA d (x <= 100) (e x))
abbrev cV (a b : PH) : Prop := a = b /\ True
attribute [push_cast] Iy E7 cV
def PC (N : Nat) (v : PV) (p : Pred) (k : Nat) (m : MH) (h : PH) (K : CV -> MH -> PH -> Prop) : Prop :=
  dN (↑k : Int) 0 (K fJ m h) (jT (∃ (x : Nat), aA (Iy x p (λ x1 => x1) k) (eQ (bV k)) (aA (eP 2) (bI v.args) (aA (bC x) (jN v) (aA (m = m) (h = h) True)))) (λ x => Iy x p (λ x1 => x1) k -> bA (↑x : Int) (aG v.args) (aT (λ b o => aA (aU v.args.a b o) (0 <= (↑x : Int)) ((↑x : Int) < aG v.args /\ ∃ (y : PV), aL m h b (bN o x 13) y.enc /\ vK (λ v1 p1 => E7 (bB (cX y) (dZ ((↑k : Int) - 1))) (cX v1) (eD h p1 v1) (oD p1 N) (λ k1 => hZ (j9 p1 k1) (K fJ m h) (λ y1 => aA (Iy y1 p (λ x1 => x1) k) (sH p y1 < sH p x) (aA (eQ (bV k)) (eP 2) (aA (bI v.args) (fK (bE x 1) = bV y1) (aA (jN v) (m = m) (cV h h)))))))))) (K aW m h)))
theorem TQ : ∀ N, Sound Tryz.prog 97 (Tc N)
 | 0 => by
  refine eK (fn := Tryz.f97) (c := dK Tryz.f97) Tryz.func97 rfl (by decide) ?_
  rintro cvs m h K ⟨v, p, k, rfl, hr, hN, _⟩
  omega
 | N + 1 => by
  refine gX Tryz.func97 ?_
  rintro cvs m h K ⟨v, p, k, rfl, hr, hN, h0, h1, hK⟩
  refine ⟨Yv N v p k m h, rfl, aD (TQ N) aF, PD N v p k m h K, by kernel_rfl, ?_⟩
  dsimp only [PD, push_cast]
  obtain ⟨hl, hlen, hget⟩ := hr.open
  refine ⟨⟨(0, k + 1), ⟨by simp, by simp; omega, by simp; omega, ?_⟩, by rw [eG aC aC], rfl, rfl, rfl, rfl, rfl, trivial⟩, ?_⟩
  . cases p; simp [lS, Pred.args]
  rintro ⟨i, n⟩ ⟨hi, hn0, hn1, he⟩
  simp only at hi hn0 hn1 he
  refine aE (λ hlt => aE (λ hn => ?_) (λ hn => vX hK ?_)) (λ hge => vX hK ?_)
  . simp only at hlt hn
    obtain ⟨q, hq⟩ : ∃ q, p.args[i]? = some q := ⟨p.args[i]'(by omega), kP _⟩
    obtain ⟨b, o, u, ea, hrd, hru⟩ := hget i q hq
    have hd : p.args.drop i = q :: p.args.drop (i + 1) := by
     rw [X2 aC]; rw [kP aC] at hq; simp at hq; rw [hq]
    have hb := AQ q n hn
    refine ⟨b, o, ea, by simp, by simpa using hlt, u, .imm (by simpa using hrd), u, q, n, rfl, hru, ?_, hn0, hn, (i + 1, lS q n), ⟨by simp only; omega, by simp only; omega, by simp only; omega, ?_⟩, by simp only; omega, rfl, rfl, by rw [kC aC], rfl, rfl, rfl, trivial⟩
    . have := zH (lP hq); omega
    . rw [hd, iV, if_pos hn] at he; exact he
  . rw [<- he, Nz _ hn]
  . rw [<- he, List.drop_of_length_le (by simp only at hge; omega)]; simp [iV]
theorem TP : ∀ N, Sound Tryz.prog 98 (Ow N)
 | 0 => by
  refine eK (fn := Tryz.f98) (c := dK Tryz.f98) Tryz.func98 rfl (by decide) ?_
  rintro cvs m h K ⟨v, p, k, rfl, hr, hN, _⟩
  omega
 | N + 1 => by
  refine gX Tryz.func98 ?_
  rintro cvs m h K ⟨v, p, k, rfl, hr, hN, h1, hK⟩
  refine ⟨Yu N v p k m h, rfl, aD (TP N) aF, PC N v p k m h K, by kernel_rfl, ?_⟩
  dsimp only [PC, push_cast]
  obtain ⟨hl, hlen, hget⟩ := hr.open
  refine aB (λ hk => gI hK ?_) (λ hk => ?_)
  . have : k = 0 := by have : (k : Int) = 0 := (by simpa using hk); omega
    subst this; cases p; simp [j9]
  . have hk : k ≠ 0 := by intro e; subst e; simp at hk
    have hdk : j9 p k = p.args.any (j9 · (k - 1)) := by
     obtain ⟨k', rfl⟩ : ∃ k', k = k' + 1 := ⟨k - 1, aC⟩
     cases p; simp [j9, F2, Pred.args]
    rw [hdk] at hK
    refine ⟨⟨0, ⟨aC, by simp⟩, rfl, rfl, rfl, rfl, rfl, rfl, rfl, trivial⟩, λ i hi => aE (λ hlt => ?_) (λ hge => gI hK ?_)⟩
    . obtain ⟨q, hq⟩ : ∃ q, p.args[i]? = some q := ⟨p.args[i]'(by omega), kP _⟩
      obtain ⟨b, o, u, ea, hrd, hru⟩ := hget i q hq
      refine ⟨b, o, ea, aC, hlt, u, .imm (by simpa using hrd), u, q, k - 1, ?_, hru, ?_, aC, aB (λ hd => gI hK ?_) (λ hd => ?_)⟩
      . rw [eG aC aC, show ((k - 1 : Nat) : Int) = (k : Int) - 1 by omega]
      . have := zH (lP hq); omega
      . rw [List.any_eq_true]; exact ⟨q, lP hq, hd⟩
      . refine ⟨i + 1, ⟨aC, ?_⟩, aC, rfl, rfl, rfl, by rw [kC aC], rfl, rfl, rfl, trivial⟩
        rw [EA, List.any_append, hi.2, hq]; simpa using hd
    . have := hi.2
      rwa [EC aC] at this
def Nv (cmp : Int) (l r : OV) : Bool := cmp == 0 && VJ l dL && VJ r dL
mutual
def iP (cols params : List Int) : Pred -> Bool
 | .mk op cmp l r args =>
  if op == 1 || op == 2 then Nv cmp l r && args.length == 0
  else if op == 3 then args.length == 0 && cmp >= 1 && cmp <= 6 && kindOf cols params l != 0 && kindOf cols params l == kindOf cols params r
  else if op == 4 || op == 5 || (op == 6 && args.length == 1) then Nv cmp l r && AF cols params args
  else false
def AF (cols params : List Int) : List Pred -> Bool
 | [] => true
 | p :: ps => iP cols params p && AF cols params ps
end
theorem B4 (cols params : List Int) : ∀ ps : List Pred, AF cols params ps = ps.all (iP cols params)
 | [] => by simp [AF]
 | p :: ps => by simp [AF, B4 cols params ps]
structure Io (cols params : List Int) (v : PV) (p : Pred) : Prop where
 eq : iP cols params p = (rC v && p.args.all (iP cols params))
def Oh (N : Nat) : Vc.Spec := λ cvs m h K => ∃ s t cols params v p, cvs = [cS s, cS t, aP v] /\ Ints h s cols /\ Ints h t params /\ eD h p v /\ SizeOf.sizeOf p < N /\ K (cB (iP cols params p)) m h
def KL (N : Nat) : Vc.Spec := λ cvs m h K => ∃ s t cols params v p, cvs = [a2S s t, aP v] /\ Ints h s cols /\ Ints h t params /\ eD h p v /\ SizeOf.sizeOf p < N /\ K (cB (iP cols params p)) m h
noncomputable def Yt (N : Nat) (s t : Sl) (cols params : List Int) (v : PV) (p : Pred) (m : MH) (h : PH) : Ctx :=
 ctx [(99, Oh N), (128, XJ), (129, Uo)] [Co 17 (λ i => cH 84 87 [(0, sv s), (1, sv t), (5, .at (.ptr 5 0)), (70, iv v.args.len), (71, iv i)] [(5, .cells 32 (v.enc.map .val))] m h) (λ i => i <= p.args.length /\ (p.args.take i).all (iP cols params) = true) (λ i => p.args.length - i)] [(14, { A := Unit, st := λ _ => cH 84 87 [(0, sv s), (1, sv t), (5, .at (.ptr 5 0))] [(5, .cells 32 (v.enc.map .val))] m h, inv := λ _ => Io cols params v p })] [] false
noncomputable def W5 (N : Nat) (s t : Sl) (cols params : List Int) (v : PV) (p : Pred) (m : MH) (h : PH) : Ctx :=
 ctx [(138, KL N), (176, QX)] [Co 18 (λ i => cH 87 89 [(2, .at (.ptr 2 0)), (3, .at (.ptr 3 0)), (76, sv v.args), (77, iv v.args.len), (78, iv i)] [(2, .cells 181 [.val (.slice s.a s.len s.cap), .val (.slice t.a t.len t.cap)]), (3, .cells 32 (v.enc.map .val))] m h) (λ i => i <= p.args.length /\ (p.args.take i).all (iP cols params) = true) (λ i => p.args.length - i)] [(15, { A := Unit, st := λ _ => cH 87 89 [(2, .at (.ptr 2 0)), (3, .at (.ptr 3 0))] [(2, .cells 181 [.val (.slice s.a s.len s.cap), .val (.slice t.a t.len t.cap)]), (3, .cells 32 (v.enc.map .val))] m h, inv := λ _ => Io cols params v p })] [] false
noncomputable abbrev p7 (a : PV) : Int := aG a.args
abbrev iW (a : Sl -> Sl -> Prop) : Prop := ∃ (x x1 : Sl), a x x1
abbrev qS (a : (List Int) -> (List Int) -> Prop) : Prop := ∃ (x x1 : List Int), a x x1
abbrev E5 (a : List CV) (b : Sl -> Sl -> OV -> List CV) (c : PH) (d : (List Int) -> (List Int) -> OV -> Prop) : Prop := iW (λ x x1 => qS (λ x2 x3 => ∃ (x4 : OV), aA (a = b x x1 x4) (Ints c x x2) (Ints c x1 x3 /\ d x2 x3 x4)))
abbrev gJ  : Prop := eP 5
abbrev Bg (a : Nat) (b : Pred) (c d : List Int) : Prop := a <= b.args.length /\ dX (List.all (List.take a b.args) (iP c d))
attribute [push_cast] p7 iW qS E5 gJ Bg
def PB (N : Nat) (s t : Sl) (cols params : List Int) (v : PV) (p : Pred) (m : MH) (h : PH) (K : CV -> MH -> PH -> Prop) : Prop :=
  cW (v.op == 1) (∃ (v1 : PV), qB (cX v) (cX v1) (branch (rC v1) (K (AE (p7 v == 0)) m h) (K aW m h))) (v.op == 2) (∃ (v1 : PV), qB (cX v) (cX v1) (branch (rC v1) (K (AE (p7 v == 0)) m h) (K aW m h))) (cW (v.op == 3) (E5 (cK s :: aX (cK t) (kE v.left.enc)) (λ s1 t1 o => cK s1 :: aX (cK t1) (kE o.enc)) h (λ c p1 o => dN (p7 v) 0 (fQ v.cmp 1 (Cf v.cmp 6 (eE (kindOf c p1 o) 0 (E5 (cK s :: aX (cK t) (kE v.right.enc)) (λ s1 t1 o1 => cK s1 :: aX (cK t1) (kE o1.enc)) h (λ c1 p2 o1 => K (AE (kindOf c p1 o == kindOf c1 p2 o1)) m h)) (K aW m h)) (K aW m h)) (K aW m h)) (K aW m h))) (v.op == 4) (∃ (x : Unit), aA (Io cols params v p) (aI s) (aA (aI t) gJ (bM (jN v) (m = m) (h = h)))) (cW (v.op == 5) (∃ (x : Unit), aA (Io cols params v p) (aI
 s) (aA (aI t) gJ (bM (jN v) (m = m) (h = h)))) (v.op == 6) (eE (p7 v) 1 (K aW m h) (∃ (x : Unit), aA (Io cols params v p) (aI s) (aA (aI t) gJ (bM (jN v) (m = m) (h = h))))) (K aW m h))) /\ ∀ (_ : Unit), Io cols params v p -> ∃ (v1 : PV), qB (cX v) (cX v1) (gK (rC v1) (K aW m h) (jT (∃ (x : Nat), aA (Bg x p cols params) (aI s) (aA (aI t) gJ (aA (bI v.args) (bC x) (aA (jN v) (m = m) (cV h h))))) (λ x => Bg x p cols params -> bA (↑x : Int) (aG v.args) (aT (λ b o => aA (aU v.args.a b o) (0 <= (↑x : Int)) ((↑x : Int) < aG v.args /\ ∃ (y : PV), aL m h b (bN o x 13) y.enc /\ iW (λ s1 t1 => qS (λ c p1 => vK (λ v2 p2 => aA (cK s :: aX (cK t) (cX y) = cK s1 :: aX (cK t1) (cX v2)) (Ints h s1 c) (aA (Ints h t1
 p1) (eD h p2 v2) (oD p2 N /\ hZ (!(iP c p1 p2)) (K aW m h) (λ y1 => aA (Bg y1 p cols params) (sH p y1 < sH p x) (aA (aI s) (aI t) (aA gJ (bI v.args) (aA (fK (bE x 1) = bV y1) (jN v) (dT m m h h))))))))))))) (K fJ m h))))
noncomputable abbrev iD (a b : Value) : List Value := aJ a b []
noncomputable abbrev Fl (a b : Sl) (c : OV) : List CV := aX (kE (iD (eA a) (eA b))) (kE c.enc)
noncomputable abbrev mJ (a b : At) (c : List At) : List At := a :: b :: c
noncomputable abbrev pR (a b : At) : List At := mJ a b []
abbrev yN (a b : Sl) : Prop := eQ (oQ 181 (pR (Aa a) (Aa b)))
abbrev fP (a : Prop) (b : Bool) (c d : Prop) : Prop := a -> branch b c d
attribute [push_cast] iD Fl mJ pR yN fP
def Mw (N : Nat) (s t : Sl) (cols params : List Int) (v : PV) (p : Pred) (m : MH) (h : PH) (K : CV -> MH -> PH -> Prop) : Prop :=
  cW (v.op == 3) (E5 (Fl s t v.left) (λ s1 t1 o => Fl s1 t1 o) h (λ c p1 o => E5 (Fl s t v.right) (λ s1 t1 o1 => Fl s1 t1 o1) h (λ c1 p2 o1 => dN (p7 v) 0 (fQ v.cmp 1 (Cf v.cmp 6 (eE (kindOf c p1 o) 0 (K (AE (kindOf c p1 o == kindOf c1 p2 o1)) m h) (K aW m h)) (K aW m h)) (K aW m h)) (K aW m h)))) (v.op == 1) (eE (p7 v) 0 (K aW m h) (∃ (x : Unit), aA (Io cols params v p) (eP 2) (aA (eP 3) (yN s t) (bM (jN v) (m = m) (h = h))))) (cW (v.op == 2) (eE (p7 v) 0 (K aW m h) (∃ (x : Unit), aA (Io cols params v p) (eP 2) (aA (eP 3) (yN s t) (bM (jN v) (m = m) (h = h))))) (v.op == 6) (eE (p7 v) 1 (K aW m h) (∃ (x : Unit), aA (Io cols params v p) (eP 2) (aA (eP 3) (yN s t) (bM (jN v) (m = m) (h = h))))) (cW (v.op == 4) (∃ (x :
 Unit), aA (Io cols params v p) (eP 2) (aA (eP 3) (yN s t) (bM (jN v) (m = m) (h = h)))) (v.op == 5) (∃ (x : Unit), aA (Io cols params v p) (eP 2) (aA (eP 3) (yN s t) (bM (jN v) (m = m) (h = h)))) (K aW m h))) /\ ∀ (_ : Unit), fP (Io cols params v p) (v.cmp != 0) (K aW m h) (lN 29 v.left.enc Fm (λ r => gK r (K aW m h) (lN 29 v.right.enc Fm (λ r1 => gK r1 (K aW m h) (jT (∃ (x : Nat), aA (Bg x p cols params) (eP 2) (aA (eP 3) (aI v.args) (aA (bI v.args) (bC x) (aA (yN s t) (jN v) (dT m m h h))))) (λ x => Bg x p cols params -> bA (↑x : Int) (aG v.args) (aT (λ b o => aA (aU v.args.a b o) (0 <= (↑x : Int)) ((↑x : Int) < aG v.args /\ ∃ (y : PV), aL m h b (bN o x 13) y.enc /\ iW (λ s1 t1 => qS (λ c p1 => vK (λ v1 p2 => aA
 (aX (kE (iD (eA s) (eA t))) (cX y) = aX (kE (iD (eA s1) (eA t1))) (cX v1)) (Ints h s1 c) (aA (Ints h t1 p1) (eD h p2 v1) (oD p2 N /\ hZ (!(iP c p1 p2)) (K aW m h) (λ y1 => aA (Bg y1 p cols params) (sH p y1 < sH p x) (aA (eP 2) (eP 3) (aA (aI v.args) (bI v.args) (aA (fK (bE x 1) = bV y1) (yN s t) (bM (jN v) (m = m) (h = h)))))))))))))) (K fJ m h)))))))
theorem eD.top {v : PV} (r : eD h p v) : p = .mk v.op v.cmp v.left v.right p.args := by
 cases p with
 | mk op cmp l r' args => obtain ⟨h1, h2, h3, h4, _⟩ := r; simp [Pred.args, h1, h2, h3, h4]
theorem HC {cols params : List Int} {h : PH} {p : Pred} {v : PV} (r : eD h p v) : iP cols params p = if v.op == 1 || v.op == 2 then rC v && p.args.length == 0
 else if v.op == 3 then p.args.length == 0 && v.cmp >= 1 && v.cmp <= 6 && kindOf cols params v.left != 0 && kindOf cols params v.left == kindOf cols params v.right
 else if v.op == 4 || v.op == 5 || (v.op == 6 && p.args.length == 1) then rC v && p.args.all (iP cols params)
 else false := by
 have := r.top
 generalize p.args = xs at this ⊢
 subst this
 rw [iP, B4]; rfl
theorem I8 {n : Nat} {k : Nat} : ((n : Int) == (k : Int)) = (n == k) := by
 apply Bool.eq_iff_iff.2; rw [beq_iff_eq, beq_iff_eq]; omega
theorem TO : ∀ N, Sound Tryz.prog 99 (Oh N)
 | 0 => by
  refine eK (fn := Tryz.f99) (c := dK Tryz.f99) Tryz.func99 rfl (by decide) ?_
  rintro cvs m h K ⟨s, t, cols, params, v, p, rfl, _, _, hr, hN, _⟩
  omega
 | N + 1 => by
  refine gX Tryz.func99 ?_
  rintro cvs m h K ⟨s, t, cols, params, v, p, rfl, hs, ht, hr, hN, hK⟩
  refine ⟨Yt N s t cols params v p m h, rfl, aD (TO N) (aD Su (aD Ss aF)), PB N s t cols params v p m h K, by kernel_rfl, ?_⟩
  obtain ⟨hl, hlen, hget⟩ := hr.open
  have hv := HC (cols := cols) (params := params) hr
  have hz : ((v.args.len : Int) == 0) = (p.args.length == 0) := by rw [hlen]; exact I8 (k := 0)
  have h1 : ((v.args.len : Int) != 1) = (p.args.length != 1) := by rw [hlen]; simp only [bne]; rw [show (1 : Int) = ((1 : Nat) : Int) from rfl, I8]
  dsimp only [PB, push_cast]
  refine ⟨?_, ?_⟩
  . refine aB (λ e => ⟨v, rfl, aB (λ e2 => gI hK ?_) (λ e2 => gI hK ?_)⟩) (λ e => aB (λ e1 => ⟨v, rfl, aB (λ e2 => gI hK ?_) (λ e2 => gI hK ?_)⟩) (λ e1 => aB (λ e2 => ⟨s, t, cols, params, v.left, rfl, hs, ht, ?_⟩) (λ e2 => ?_)))
    . rw [hv, hz]; simp [e, e2]
    . rw [hv]; simp [e, e2]
    . rw [hv, hz]; simp [e1, e2]
    . rw [hv]; simp [e1, e2]
    . have hv3 : iP cols params p = (p.args.length == 0 && v.cmp >= 1 && v.cmp <= 6 && kindOf cols params v.left != 0 && kindOf cols params v.left == kindOf cols params v.right) := by rw [hv]; simp [e, e1, e2]
      rw [hv3] at hK
      refine aB (λ e3 => aB (λ e4 => aB (λ e5 => aB (λ e6 => ⟨s, t, cols, params, v.right, rfl, hs, ht, gI hK ?_⟩) (λ e6 => gI hK ?_)) (λ e5 => gI hK ?_)) (λ e4 => gI hK ?_)) (λ e3 => gI hK ?_)
      all_goals (rw [hz] at e3; simp only [beq_iff_eq, decide_eq_true_eq, decide_eq_false_iff_not] at *; simp [*])
    . refine aB (λ e3 => ⟨(), ⟨by rw [hv]; simp [e, e1, e2, e3]⟩, rfl, rfl, rfl, rfl, rfl, rfl, trivial⟩) (λ e3 => aB (λ e4 => ⟨(), ⟨by rw [hv]; simp [e, e1, e2, e4]⟩, rfl, rfl, rfl, rfl, rfl, rfl, trivial⟩) (λ e4 => aB (λ e5 => aB (λ e6 => gI hK ?_) (λ e6 => ⟨(), ⟨?_⟩, rfl, rfl, rfl, rfl, rfl, rfl, trivial⟩)) (λ e5 => gI hK ?_)))
      . rw [h1] at e6; rw [hv]; simp_all
      . rw [h1] at e6; rw [hv]; simp_all
      . rw [hv]; simp_all
  . intro _ htl
    rw [htl.eq] at hK
    refine ⟨v, rfl, aB (λ e => gI hK ?_) (λ e => ?_)⟩
    . simp_all
    . have e : rC v = true := by simpa using e
      rw [e, Q6] at hK
      refine ⟨⟨0, ⟨aC, by simp⟩, rfl, rfl, rfl, rfl, rfl, rfl, rfl, rfl, trivial⟩, λ i hi => aE (λ hlt => ?_) (λ hge => gI hK ?_)⟩
      . obtain ⟨q, hq⟩ : ∃ q, p.args[i]? = some q := ⟨p.args[i]'(by omega), kP _⟩
        obtain ⟨b, o, u, ea, hrd, hru⟩ := hget i q hq
        refine ⟨b, o, ea, aC, hlt, u, .imm (by simpa using hrd), s, t, cols, params, u, q, rfl, hs, ht, hru, ?_, aB (λ hd => gI hK ?_) (λ hd => ?_)⟩
        . have := zH (lP hq); omega
        . exact zJ hq (by simpa using hd)
        . refine ⟨i + 1, ⟨aC, ?_⟩, aC, rfl, rfl, rfl, rfl, by rw [kC aC], rfl, rfl, rfl, trivial⟩
          rw [xZ hq, hi.2]; simpa using hd
      . have := hi.2
        rwa [EC aC] at this
theorem Qr : ∀ N, Sound Tryz.prog 138 (KL N)
 | 0 => by
  refine eK (fn := Tryz.f138) (c := dK Tryz.f138) Tryz.func138 rfl (by decide) ?_
  rintro cvs m h K ⟨s, t, cols, params, v, p, rfl, _, _, hr, hN, _⟩
  omega
 | N + 1 => by
  refine gX Tryz.func138 ?_
  rintro cvs m h K ⟨s, t, cols, params, v, p, rfl, hs, ht, hr, hN, hK⟩
  refine ⟨W5 N s t cols params v p m h, rfl, aD (Qr N) (aD R1 aF), Mw N s t cols params v p m h K, by kernel_rfl, ?_⟩
  obtain ⟨hl, hlen, hget⟩ := hr.open
  have hv := HC (cols := cols) (params := params) hr
  have hz : ((v.args.len : Int) == 0) = (p.args.length == 0) := by rw [hlen]; exact I8 (k := 0)
  have hz' : ((v.args.len : Int) != 0) = (p.args.length != 0) := by simp only [bne]; rw [hz]
  have h1 : ((v.args.len : Int) != 1) = (p.args.length != 1) := by rw [hlen]; simp only [bne]; rw [show (1 : Int) = ((1 : Nat) : Int) from rfl, I8]
  have hnil : p.args.length = 0 -> p.args.all (iP cols params) = true := λ e => by rw [VY e]; rfl
  dsimp only [Mw, push_cast]
  refine ⟨?_, ?_⟩
  . refine aB (λ e2 => ⟨s, t, cols, params, v.left, rfl, hs, ht, s, t, cols, params, v.right, rfl, hs, ht, ?_⟩) (λ e2 => aB (λ e => aB (λ e3 => gI hK ?_) (λ e3 => ⟨(), ⟨?_⟩, rfl, rfl, rfl, rfl, rfl, rfl, trivial⟩)) (λ e => aB (λ e1 => aB (λ e3 => gI hK ?_) (λ e3 => ⟨(), ⟨?_⟩, rfl, rfl, rfl, rfl, rfl, rfl, trivial⟩)) (λ e1 => aB (λ e5 => aB (λ e6 => gI hK ?_) (λ e6 => ⟨(), ⟨?_⟩, rfl, rfl, rfl, rfl, rfl, rfl, trivial⟩)) (λ e5 => aB (λ e3 => ⟨(), ⟨?_⟩, rfl, rfl, rfl, rfl, rfl, rfl, trivial⟩) (λ e3 => aB (λ e4 => ⟨(), ⟨?_⟩, rfl, rfl, rfl, rfl, rfl, rfl, trivial⟩) (λ e4 => gI hK ?_))))))
    . have e2' : v.op = 3 := by simpa using e2
      have hv3 : iP cols params p = (p.args.length == 0 && v.cmp >= 1 && v.cmp <= 6 && kindOf cols params v.left != 0 && kindOf cols params v.left == kindOf cols params v.right) := by rw [hv]; simp [e2']
      rw [hv3] at hK
      refine aB (λ e3 => aB (λ e4 => aB (λ e5 => aB (λ e6 => gI hK ?_) (λ e6 => gI hK ?_)) (λ e5 => gI hK ?_)) (λ e4 => gI hK ?_)) (λ e3 => gI hK ?_)
      all_goals (rw [hz] at e3; simp only [beq_iff_eq, decide_eq_true_eq, decide_eq_false_iff_not] at *; simp [*])
    . rw [hz'] at e3; rw [hv]; simp_all
    . rw [hz'] at e3; rw [hv]
      have e3' : p.args.length = 0 := by simpa using e3
      rw [hnil e3', e3']; simp [e]
    . rw [hz'] at e3; rw [hv]; simp_all
    . rw [hz'] at e3; rw [hv]
      have e3' : p.args.length = 0 := by simpa using e3
      rw [hnil e3', e3']; simp [e1]
    . rw [h1] at e6; rw [hv]; simp_all
    . rw [h1] at e6; rw [hv]; simp_all
    . rw [hv]; simp [e, e1, e2, e3]
    . rw [hv]; simp [e, e1, e2, e4]
    . rw [hv]; simp_all
  . intro _ htl
    rw [htl.eq] at hK
    refine aB (λ e => gI hK ?_) (λ e => ⟨VJ v.left dL, zE v.left dL, aB (λ e1 => gI hK ?_) (λ e1 => ⟨VJ v.right dL, zE v.right dL, aB (λ e2 => gI hK ?_) (λ e2 => ?_)⟩)⟩)
    . simp_all [rC]
    . simp_all [rC]
    . simp_all [rC]
    . have e : rC v = true := by simp_all [rC]
      rw [e, Q6] at hK
      refine ⟨⟨0, ⟨aC, by simp⟩, rfl, rfl, rfl, rfl, rfl, rfl, rfl, rfl, rfl, trivial⟩, λ i hi => aE (λ hlt => ?_) (λ hge => gI hK ?_)⟩
      . obtain ⟨q, hq⟩ : ∃ q, p.args[i]? = some q := ⟨p.args[i]'(by omega), kP _⟩
        obtain ⟨b, o, u, ea, hrd, hru⟩ := hget i q hq
        refine ⟨b, o, ea, aC, hlt, u, .imm (by simpa using hrd), s, t, cols, params, u, q, rfl, hs, ht, hru, ?_, aB (λ hd => gI hK ?_) (λ hd => ?_)⟩
        . have := zH (lP hq); omega
        . exact zJ hq (by simpa using hd)
        . refine ⟨i + 1, ⟨aC, ?_⟩, aC, rfl, rfl, rfl, rfl, by rw [kC aC], rfl, rfl, rfl, rfl, trivial⟩
          rw [xZ hq, hi.2]; simpa using hd
      . have := hi.2
        rwa [EC aC] at this
theorem drop_cons {α : Type} {l : List α} {x : α} (h : l[i]? = some x) : l.drop i = x :: l.drop (i + 1) := by
 have hi : i < l.length := (mG.1 h).1
 rw [X2 hi]
 rw [kP hi] at h
 simp at h
 rw [h]
mutual
def kH : Pred -> Nat -> Int -> Bool × Int
 | .mk _ _ _ _ args, k, b => if b < 1 then (false, b - 1) else match k with | 0 => (false, b - 1) | k + 1 => qZ args k (b - 1)
def qZ : List Pred -> Nat -> Int -> Bool × Int
 | [], _, b => (true, b)
 | p :: ps, k, b => match kH p k b with | (false, b') => (false, b') | (true, b') => qZ ps k b'
end
mutual
def V0 : Pred -> Int
 | .mk _ _ _ _ args => 1 + EH args
def EH : List Pred -> Int
 | [] => 0
 | p :: ps => V0 p + EH ps
end
mutual
theorem Ni : ∀ p : Pred, 1 <= V0 p
 | .mk _ _ _ _ args => by have := B5 args; simp only [V0]; omega
theorem B5 : ∀ ps : List Pred, 0 <= EH ps
 | [] => by simp [EH]
 | p :: ps => by have := Ni p; have := B5 ps; simp only [EH]; omega
end
mutual
theorem Lx : ∀ (p : Pred) (n : Int), n <= 24 -> (n + V0 p <= 24 -> lS p n = n + V0 p) /\ (24 < n + V0 p -> lS p n = 25)
 | .mk _ _ _ _ args, n, h => by
  obtain ⟨h1, h2⟩ := JM args (n + 1) aC
  simp only [lS, V0]
  exact ⟨λ e => by rw [h1 aC]; omega, λ e => h2 aC⟩
theorem JM : ∀ (ps : List Pred) (n : Int), n <= 25 -> (n + EH ps <= 24 -> iV ps n = n + EH ps) /\ (24 < n + EH ps -> iV ps n = 25)
 | [], n, h => by
  simp only [iV, EH]
  omega
 | p :: ps, n, h => by
  have h1 := Ni p
  have h2 := B5 ps
  simp only [iV, EH]
  by_cases h3 : n <= 24
  . rw [if_pos h3]
    have h4 := Lx p n h3
    have h5 := (AQ p n h3).2
    have h6 := JM ps _ h5
    by_cases h7 : n + V0 p <= 24
    . have h8 := h4.1 h7
      rw [h8] at h6 ⊢
      exact ⟨λ e => by rw [h6.1 aC]; omega, λ e => h6.2 aC⟩
    . have h8 := h4.2 aC
      rw [h8] at h6 ⊢
      exact ⟨λ e => by omega, λ e => h6.2 aC⟩
  . rw [if_neg h3]; omega
end
mutual
theorem Gp : ∀ (p : Pred) (k : Nat) (b : Int), 0 <= b -> ((kH p k b).1 = true ↔ V0 p <= b /\ j9 p k = false) /\ ((kH p k b).1 = true -> (kH p k b).2 = b - V0 p)
 | .mk _ _ _ _ args, k, b, h => by
  have hp := B5 args
  simp only [kH, V0]
  by_cases h0 : b < 1
  . rw [if_pos h0]
    exact ⟨⟨λ e => (by cases e), λ e => aC⟩, λ e => (by cases e)⟩
  . rw [if_neg h0]
    cases k with
    | zero => exact ⟨⟨λ e => (by cases e), λ e => (by simp [j9] at e)⟩, λ e => (by cases e)⟩
    | succ k =>
     obtain ⟨h1, h2⟩ := Js args k (b - 1) aC
     simp only [j9]
     refine ⟨⟨λ e => ?_, λ e => h1.2 ⟨aC, e.2⟩⟩, λ e => by have := h2 e; omega⟩
     have := h1.1 e
     exact ⟨aC, this.2⟩
theorem Js : ∀ (ps : List Pred) (k : Nat) (b : Int), 0 <= b -> ((qZ ps k b).1 = true ↔ EH ps <= b /\ pV ps k = false) /\ ((qZ ps k b).1 = true -> (qZ ps k b).2 = b - EH ps)
 | [], k, b, h => by simp [qZ, EH, pV, h]
 | p :: ps, k, b, h => by
  obtain ⟨h1, h2⟩ := Gp p k b h
  have hp := B5 ps
  simp only [qZ, EH, pV]
  cases e : kH p k b with
  | mk r b' =>
   rw [e] at h1 h2
   cases r with
   | false =>
    refine ⟨⟨λ e => (by cases e), λ e => ?_⟩, λ e => (by cases e)⟩
    have := h1.2 ⟨aC, (Zz.1 e.2).1⟩
    cases this
   | true =>
    have h3 := h2 rfl
    have h1 := h1.1 rfl
    simp only at h3
    obtain ⟨h4, h5⟩ := Js ps k b' aC
    refine ⟨⟨λ e => ?_, λ e => ?_⟩, λ e => by have := h5 e; simp only; omega⟩
    . have := h4.1 e
      exact ⟨aC, by rw [h1.2, this.2]; rfl⟩
    . exact h4.2 ⟨aC, (Zz.1 e.2).2⟩
end
def gY (cols params : List Int) (p : Pred) : Int :=
 if !cols.all dO || !params.all dO then 1
 else if lS p 0 > 24 || j9 p 8 then 2
 else if !iP cols params p then 50 else 0
theorem UE (p : Pred) : (kH p 8 24).1 = !(decide (lS p 0 > 24) || j9 p 8) := by
 have h1 := (Gp p 8 24 aC).1
 have h2 := Lx p 0 aC
 rw [Bool.eq_iff_iff, h1]
 simp only [V5, Zz, decide_eq_false_iff_not]
 refine and_congr_left λ _ => ⟨λ e => ?_, λ e => ?_⟩
 . rw [h2.1 aC]; omega
 . by_cases h3 : V0 p <= 24
   . exact h3
   . rw [h2.2 aC] at e; omega
def QH (n : Int) : Obj := .cells #[.int .i64 n] 3 (0, 0)
def S8 (N : Nat) : Vc.Spec := λ cvs m h K => ∃ v p, ∃ k b : Nat, ∃ n, cvs = [aP v, cI (9 - k), cP b] /\ eD h p v /\ SizeOf.sizeOf p < N /\ k <= 9 /\ 0 <= n /\ n <= 24 /\ m b = some (QH n) /\ ∀ m', jH m m' b (QH (kH p k n).2) -> K (cB (kH p k n).1) m' h
noncomputable def W6 (N : Nat) (v : PV) (p : Pred) (k b : Nat) (n : Int) (m : MH) (h : PH) : Ctx :=
 ctx [(137, S8 N)] [(5, { A := Nat × Int × MH, st := λ x => cH 36 39 [(1, iv (9 - k)), (2, vv (.pointer (some ⟨b, 0, none⟩))), (23, sv v.args), (24, iv v.args.len), (25, iv x.1)] [] x.2.2 h, inv := λ x => x.1 <= p.args.length /\ 0 <= x.2.1 /\ x.2.1 <= 24 /\ jH m x.2.2 b (QH x.2.1) /\ 1 <= k /\ qZ (p.args.drop x.1) (k - 1) x.2.1 = kH p k n, mu := λ x => p.args.length - x.1 })] [] [] false
def qP : Vc.Spec := λ cvs m h K => ∃ s t v cols params p, cvs = [cS s, cS t, aP v] /\ Ints h s cols /\ Ints h t params /\ eD h p v /\ K (cI (gY cols params p)) m h
noncomputable def YI (N : Nat) : Ctx := ctx [(64, KY), (97, Tc N), (98, Ow N), (99, Oh N)] [] [] [] false
noncomputable def Xd (N : Nat) : Ctx := ctx [(136, KY), (137, S8 N), (138, KL N)] [] [] [] false
abbrev tV (a : MH) (b : PH) (c d : Nat) (e : Int -> Prop) : Prop := ∃ (x : Int), aL a b c d (bZ x) /\ e x
abbrev gG (a : (Array Value) -> TypeId -> Prop) : Prop := ∃ (x : Array Value) (x1 : TypeId), a x x1
noncomputable abbrev eV (a : Array Value) (b : TypeId) (c : Nat) : Obj := Obj.cells a b (c, c)
abbrev fD (a : Nat) (b : Array Value) : Prop := a < b.size
abbrev bG (a b : MH) (c : Nat) (d : List Value) (e : Nat) : Prop := jH a b c (eV (Array.mk d) e 0)
noncomputable abbrev eU (a : Value) (b : Nat) (c : Array Value) : List Value := a :: List.drop b c.toList
abbrev eJ (a b : Int) (c d : Prop) : Prop := branch (decide (a > b)) c d
abbrev Iz (a : Nat × Int × MH) (b : Pred) (c : Nat) (d : Int) : Prop := qZ (List.drop a.1 b.args) (c - 1) a.2.1 = kH b c d
abbrev dE (a : Nat) : Prop := eQ (Wi a 0)
noncomputable abbrev iH (a : Nat) : CV := DR a 0
attribute [push_cast] tV gG eV fD bG eU eJ Iz dE iH
def Mx (N : Nat) (v : PV) (p : Pred) (k b : Nat) (n : Int) (m : MH) (h : PH) (K : CV -> MH -> PH -> Prop) : Prop :=
  tV m h b 0 (λ y => gG (λ c E => aA (uT m b (eV c E 0)) (fD 0 c) (∀ (m1 : MH), bG m m1 b (eU (dQ (dZ (y - 1))) 1 c) E -> tV m1 h b 0 (λ y1 => bA y1 0 (K aW m1 h) (eJ (9 - (↑k : Int)) 8 (K aW m1 h) ((∃ (x : Nat × Int × MH), aA (aA (x.1 <= p.args.length) (cA x.2.1) (aA (x.2.1 <= 24) (bG m x.2.2 b (bZ x.2.1) 3) (1 <= k /\ Iz x p k n))) (eQ (fK (9 - (↑k : Int)))) (aA (dE b) (aI v.args) (aA (bI v.args) (bC x.1) (aA (m1 = x.2.2) (h = h) True)))) /\ ∀ (x : Nat × Int × MH), aA (x.1 <= p.args.length) (cA x.2.1) (aA (x.2.1 <= 24) (bG m x.2.2 b (bZ x.2.1) 3) (1 <= k /\ Iz x p k n)) -> bA (↑x.1 : Int) (aG v.args) (aT (λ b1 o => aA (aU v.args.a b1 o) (0 <= (↑x.1 : Int)) ((↑x.1 : Int) < aG v.args /\ ∃ (y2 : PV), aL x.2.2 h b1 (bN o x.1 13) y2.enc /\ vK (fun
 v1 p1 => aT (λ k1 b2 => ∃ (n1 : Int), aA (cX y2 :: aX (dH (dZ (9 - (↑k : Int) + 1))) (iH b) = cX v1 :: aX (dH (9 - (↑k1 : Int))) (iH b2)) (eD h p1 v1) (aA (oD p1 N) (k1 <= 9) (aA (cA n1) (n1 <= 24) (x.2.2 b2 = Option.some (eV (Array.mk (bZ n1)) 3 0) /\ ∀ (m2 : MH), fP (bG x.2.2 m2 b2 (bZ (kH p1 k1 n1).2) 3) (!(kH p1 k1 n1).1) (K aW m2 h) (∃ (y3 : Nat × Int × MH), aA (aA (y3.1 <= p.args.length) (cA y3.2.1) (aA (y3.2.1 <= 24) (bG m y3.2.2 b (bZ y3.2.1) 3) (1 <= k /\ Iz y3 p k n))) (sH p y3.1 < sH p x.1) (aA (eQ (fK (9 - (↑k : Int)))) (dE b) (aA (aI v.args) (bI v.args) (aA (fK (bE x.1 1) = bV y3.1) (m2 = y3.2.2) (cV h h))))))))))))) (K fJ x.2.2 h)))))))
abbrev A8 (a : Sl -> (List Int) -> Prop) : Prop := ∃ (x : Sl) (x1 : List Int), a x x1
noncomputable abbrev fU (a : Sl) : List CV := mR (cK a)
abbrev E6 (a : Sl) (b : PH) (c : CV -> MH -> PH -> Prop) (d : MH) (e : Prop) : Prop := A8 (λ x x1 => aA (fU a = fU x) (Ints b x x1) (gK (Ei x1) (c (dH 1) d b) e))
attribute [push_cast] A8 fU E6
def PY (N : Nat) (s t : Sl) (v : PV) (m : MH) (h : PH) (K : CV -> MH -> PH -> Prop) : Prop :=
  E6 s h K m (E6 t h K m (vK (λ v1 p => ∃ (k : Int), aA (bB (cX v) 0 = bB (cX v1) k) (eD h p v1) (aA (oD p N) (cA k) (k <= 24 /\ eJ (lS p k) 24 (K (dH 2) m h) (vK (λ v2 p1 => E7 (bB (cX v) 8) (cX v2) (eD h p1 v2) (oD p1 N) (λ k1 => branch (j9 p1 k1) (K (dH 2) m h) (iW (λ s1 t1 => qS (λ c p2 => vK (λ v3 p3 => aA (cK s :: aX (cK t) (cX v) = cK s1 :: aX (cK t1) (cX v3)) (Ints h s1 c) (aA (Ints h t1 p2) (eD h p3 v3) (oD p3 N /\ gK (iP c p2 p3) (K (dH 50) m h) (K (dH 0) m h)))))))))))))))
abbrev bK (a b c : Prop) : Prop := a -> b -> c
attribute [push_cast] bK
def MG (N : Nat) (s t : Sl) (v : PV) (m : MH) (h : PH) (K : CV -> MH -> PH -> Prop) : Prop :=
  E6 s h K m (E6 t h K m (∀ (b : Nat) (m1 : MH), bK (cD m h b) (bG m m1 b (bZ 24) 3) (vK (λ v1 p => aT (λ k b1 => ∃ (n : Int), aA (cX v :: aX (dH 1) (iH b) = cX v1 :: aX (dH (9 - (↑k : Int))) (iH b1)) (eD h p v1) (aA (oD p N) (k <= 9) (aA (cA n) (n <= 24) (m1 b1 = Option.some (eV (Array.mk (bZ n)) 3 0) /\ ∀ (m2 : MH), fP (bG m1 m2 b1 (bZ (kH p k n).2) 3) (!(kH p k n).1) (K (dH 2) m2 h) (iW (λ s1 t1 => qS (λ c p1 => vK (λ v2 p2 => aA (aX (kE (iD (eA s) (eA t))) (cX v) = aX (kE (iD (eA s1) (eA t1))) (cX v2)) (Ints h s1 c) (aA (Ints h t1 p1) (eD h p2 v2) (oD p2 N /\ gK (iP c p1 p2) (K (dH 50) m2 h) (K (dH 0) m2 h)))))))))))))))
end Go.Ps
namespace Go.Vc
open Go.Ps Go.Proofs
theorem jH.trans {m m' m'' : MH} {b : Nat} {o o' : Obj} (h1 : jH m m' b o) (h2 : jH m' m'' b o') : jH m m'' b o' := ⟨h2.at_, λ b' hb => (h2.other b' hb).trans (h1.other b' hb)⟩
end Go.Vc
namespace Go.Ps
open Go Go.Vc Go.Proofs
variable {K : CV -> MH -> PH -> Prop} {m : MH} {h : PH} {ps : List Int} {cb : Nat} {sc : bL} {v : QV} {q : Query} {p : Pred} {l : List Int} {i : Nat} {N : Nat} {m' : MH} {h' : PH} {co : List Int} {gr : List Int} {od : List (Int × Bool)} {w : Pred} {ta : Int} {li : Int} {xs : List (List Value)} {sz : Nat} {k : Nat} {ks : List (List Int)} {rs : List Int} {r : Sl} {a : List Int} {b : Nat}
theorem Qs : ∀ N, Sound Tryz.prog 137 (S8 N)
 | 0 => by
  refine eK (fn := Tryz.f137) (c := dK Tryz.f137) Tryz.func137 rfl (by decide) ?_
  rintro cvs m h K ⟨v, p, k, b, n, rfl, hr, hN, _⟩
  omega
 | N + 1 => by
  refine gX Tryz.func137 ?_
  rintro cvs m h K ⟨v, p, k, b, n, rfl, hr, hN, hk, h0, h1, hm, hK⟩
  refine ⟨W6 N v p k b n m h, rfl, aD (Qs N) aF, Mx N v p k b n m h K, by kernel_rfl, ?_⟩
  dsimp only [Mx, push_cast]
  obtain ⟨hl, hlen, hget⟩ := hr.open
  have hw : IntKind.i64.wrap (n - 1) = n - 1 := eG aC aC
  refine ⟨n, .of_m hm rfl, _, _, ⟨hm⟩, by simp, λ m' hu => ?_⟩
  rw [hw] at hu
  have hu' : jH m m' b (QH (n - 1)) := hu
  refine ⟨n - 1, .of_m hu'.at_ rfl, aE (λ h2 => ?_) (λ h2 => aE (λ h3 => ?_) (λ h3 => ?_))⟩
  . have e : kH p k n = (false, n - 1) := by cases p; simp only [kH]; rw [if_pos aC]
    rw [e] at hK
    exact hK m' hu'
  . have hk0 : k = 0 := by omega
    subst hk0
    have e : kH p 0 n = (false, n - 1) := by cases p; simp only [kH]; rw [if_neg aC]
    rw [e] at hK
    exact hK m' hu'
  . refine ⟨⟨(0, n - 1, m'), ⟨by simp, by simp only; omega, by simp only; omega, hu', aC, ?_⟩, MT⟩, ?_⟩
    . obtain ⟨k', rfl⟩ : ∃ k', k = k' + 1 := ⟨k - 1, aC⟩
      cases p
      simp only [kH, List.drop_zero, Pred.args]
      rw [if_neg aC]
      rfl
    . rintro ⟨i, x, mx⟩ ⟨hi, hx0, hx1, hmx, hk1, he⟩
      simp only at hi hx0 hx1 hmx he
      refine aE (λ hlt => ?_) (λ hge => ?_)
      . obtain ⟨q, hq⟩ : ∃ q, p.args[i]? = some q := ⟨p.args[i]'(by simp only at hlt; omega), kP _⟩
        obtain ⟨b1, o, u, ea, hrd, hru⟩ := hget i q hq
        have hd : p.args.drop i = q :: p.args.drop (i + 1) := drop_cons hq
        refine ⟨b1, o, ea, by simp, by simpa using hlt, u, .imm (by simpa using hrd), u, q, k - 1, b, x, ?_, hru, ?_, aC, hx0, hx1, hmx.at_, λ m2 hm2 => ?_⟩
        . rw [eG aC aC, show (9 - ((k - 1 : Nat) : Int)) = 9 - (k : Int) + 1 by omega]
        . have := zH (lP hq); omega
        . have hmt : jH m m2 b (QH (kH q (k - 1) x).2) := hmx.trans hm2
          rw [hd, qZ] at he
          obtain ⟨hs1, hs2⟩ := Gp q (k - 1) x hx0
          cases e : kH q (k - 1) x with
          | mk r x' =>
           rw [e] at he hmt hs1 hs2
           cases r with
           | false =>
            simp only at he
            rw [<- he] at hK
            exact hK m2 hmt
           | true =>
            have hs3 := hs1.1 rfl
            have hs4 := hs2 rfl
            have hq1 := Ni q
            simp only at hs4 he
            exact ⟨(i + 1, x', m2), ⟨by simp only at hlt ⊢; omega, by simp only; omega, by simp only; omega, hmt, hk1, he⟩, by simp only at hlt ⊢; omega, MT⟩
      . rw [List.drop_of_length_le (by simp only at hge; omega)] at he
        simp only [qZ] at he
        rw [<- he] at hK
        exact hK mx hmx
theorem GV : Sound Tryz.prog 69 qP := by
 refine gX Tryz.func69 ?_
 rintro cvs m h K ⟨s, t, v, cols, params, p, rfl, hs, ht, hr, hK⟩
 refine ⟨YI (SizeOf.sizeOf p + 1), rfl, aD LR (aD (TQ _) (aD (TP _) (aD (TO _) aF))), PY (SizeOf.sizeOf p + 1) s t v m h K, by kernel_rfl, ?_⟩
 dsimp only [PY, push_cast]
 refine ⟨s, cols, rfl, hs, aB (λ e1 => vX hK ?_) (λ e1 => ⟨t, params, rfl, ht, aB (λ e2 => vX hK ?_) (λ e2 => ⟨v, p, 0, rfl, hr, aC, aC, aC, aB (λ e3 => vX hK ?_) (λ e3 => ⟨v, p, 8, rfl, hr, aC, aC, aB (λ e4 => vX hK ?_) (λ e4 => ⟨s, t, cols, params, v, p, rfl, hs, ht, hr, aC, aB (λ e5 => vX hK ?_) (λ e5 => vX hK ?_)⟩)⟩)⟩)⟩)⟩
 all_goals (simp only [gY]; simp only [*, VX, Bool.false_or, Bool.or_true, Bool.true_or, Bool.and_true, Q6, XY, Tk, V4, X3, Tl, if_true, if_false, ↓reduceIte])
theorem FN {f : FuncId} {fn : Func} (hf : Tryz.prog.funcs[f]? = some fn) {S : Vc.Spec} (hvc : ∀ cvs m h K, S cvs m h K -> ∃ C : Ctx, C.P = Tryz.prog /\ (∀ g S, assoc C.specs g = some S -> Sound Tryz.prog g S) /\ ∃ N : Prop, N = Ap C fn (dK fn) (entry fn.ntmps cvs m h) (λ r m' h' => ∃ m2 h2, (∀ b o, m2 b = some o -> m' b = some o) /\ PH.le h h2 /\ PH.le h2 h' /\ K r m2 h2) /\ N) (hb : fn.body = some (dK fn) := by rfl) (hname : (fn.name == "runtime.NumGoroutine") = false := by decide) : Sound Tryz.prog f S := UX hf hb hname λ cvs m h K hS => let ⟨C, hC, hs, N, e, hn⟩ := hvc cvs m h K hS; ⟨C, hC, hs, e ▸ hn⟩
theorem Kw : Sound Tryz.prog 113 qP := by
 refine FN Tryz.func113 ?_
 rintro cvs m h K ⟨s, t, v, cols, params, p, rfl, hs, ht, hr, hK⟩
 refine ⟨Xd (SizeOf.sizeOf p + 1), rfl, aD Sn (aD (Qs _) (aD (Qr _) aF)), MG (SizeOf.sizeOf p + 1) s t v m h (λ r m' h' => ∃ m2 h2, (∀ b o, m2 b = some o -> m' b = some o) /\ PH.le h h2 /\ PH.le h2 h' /\ K r m2 h2), by kernel_rfl, ?_⟩
 dsimp only [MG, push_cast]
 have hK2 : ∀ (m' : MH), (∀ b o, m b = some o -> m' b = some o) -> ∀ x, gY cols params p = x -> ∃ m2 h2, (∀ b o, m2 b = some o -> m' b = some o) /\ PH.le h h2 /\ PH.le h2 h /\ K (.val (.int .i64 x)) m2 h2 := λ m' hm x e => ⟨m, h, hm, .refl _, .refl _, e ▸ hK⟩
 refine ⟨s, cols, rfl, hs, aB (λ e1 => hK2 m (λ _ _ e => e) _ ?_) (λ e1 => ⟨t, params, rfl, ht, aB (λ e2 => hK2 m (λ _ _ e => e) _ ?_) (λ e2 b m1 hb hm1 => ⟨v, p, 8, b, 24, rfl, hr, aC, aC, aC, aC, hm1.at_, λ m2 hm2 => ?_⟩)⟩)⟩
 . simp only [gY]; simp only [*, VX, Bool.false_or, Bool.or_true, Bool.true_or, Bool.and_true, Q6, XY, Tk, V4, X3, Tl, if_true, if_false, ↓reduceIte]
 . simp only [gY]; simp only [*, VX, Bool.false_or, Bool.or_true, Bool.true_or, Bool.and_true, Q6, XY, Tk, V4, X3, Tl, if_true, if_false, ↓reduceIte]
 . have hsub : ∀ b o, m b = some o -> m2 b = some o := λ b' o e => by
    have hne : b' ≠ b := λ e' => by rw [e', hb.m_] at e; cases e
    rw [hm2.other b' hne, hm1.other b' hne, e]
   have hsb := UE p
   refine aB (λ e3 => hK2 m2 hsub _ ?_) (λ e3 => ⟨s, t, cols, params, v, p, rfl, hs, ht, hr, aC, aB (λ e5 => hK2 m2 hsub _ ?_) (λ e5 => hK2 m2 hsub _ ?_)⟩)
   all_goals (rw [hsb, Bool.not_not] at e3; clear hsb; simp only [gY]; simp only [*, VX, Bool.false_or, Bool.or_true, Bool.true_or, Bool.and_true, Q6, XY, Tk, V4, X3, Tl, if_true, if_false, ↓reduceIte])
structure bW {α β : Type} (h : PH) (sz : Nat) (enc : β -> List Value) (R : α -> β -> Prop) (s : Sl) (l : List α) : Prop where
 ex : ∃ vs : List β, cN h s sz (vs.map enc) /\ l.length = vs.length /\ ∀ (i : Nat) (x : α), l[i]? = some x -> ∃ v, vs[i]? = some v /\ R x v
 len : l.length <= 502633886983
theorem bW.slen {α β : Type} {enc : β -> List Value} {R : α -> β -> Prop} {s : Sl} {l : List α} (r : bW h sz enc R s l) : s.len = l.length := by
 obtain ⟨vs, h1, h2, _⟩ := r.ex
 have := h1.len
 simp at this
 omega
theorem bW.at {α β : Type} {enc : β -> List Value} {R : α -> β -> Prop} {s : Sl} {l : List α} (r : bW h sz enc R s l) {x : α} (hi : l[i]? = some x) :
 ∃ b o v, s.a = some ⟨b, o, none⟩ /\ aZ h b (o + i * sz) (enc v) /\ R x v := by
 obtain ⟨vs, h1, _, h3⟩ := r.ex
 obtain ⟨v, hv, hr⟩ := h3 i x hi
 obtain ⟨b, o, e, k⟩ := h1.get (i := i) (e := enc v) (by simp [hv])
 exact ⟨b, o, v, e, k, hr⟩
theorem bW.mono {α β : Type} {enc : β -> List Value} {R R' : α -> β -> Prop} {s : Sl} {l : List α} (r : bW h sz enc R s l) (le : PH.le h h') (hR : ∀ x v, R x v -> R' x v) : bW h' sz enc R' s l := by
 obtain ⟨vs, h1, h2, h3⟩ := r.ex
 exact ⟨⟨vs, h1.mono le, h2, λ i x hx => (h3 i x hx).imp λ v hv => ⟨hv.1, hR _ _ hv.2⟩⟩, r.len⟩
theorem bW.nil {α β : Type} (h : PH) (sz : Nat) (enc : β -> List Value) (R : α -> β -> Prop) : bW h sz enc R ⟨none, 0, 0⟩ ([] : List α) :=
 ⟨⟨[], .nil h sz, rfl, λ i x hx => by simp at hx⟩, by simp⟩
theorem fE {α : Type} {l : List α} {i n : Nat} (hn : n = l.length) (hi : (i : Int) < (n : Int)) : ∃ x, l[i]? = some x := ⟨l[i]'(by omega), kP _⟩
def CI (h : PH) (s : Sl) (ps : List Pred) : Prop := bW h 13 PV.enc (eD h) s ps
theorem CI.mono {s : Sl} {ps : List Pred} (r : CI h s ps) (le : PH.le h h') : CI h' s ps := bW.mono r le λ _ _ => eD.mono le
theorem sV.toL {s : Sl} {ps : List Pred} {vs : List PV} (h1 : cN h s 13 (vs.map PV.enc)) (h2 : sV h ps vs) (hl : ps.length <= 502633886983) : CI h s ps :=
 ⟨⟨vs, h1, h2.length.symm, λ _ _ hx => h2.get hx⟩, hl⟩
theorem sV.ofL {h : PH} : ∀ {ps : List Pred} {vs : List PV}, ps.length = vs.length -> (∀ (i : Nat) (x : Pred), ps[i]? = some x -> ∃ v, vs[i]? = some v /\ eD h x v) -> sV h ps vs
 | [], [], _, _ => rfl
 | p :: ps, v :: vs, hl, hx => by
  obtain ⟨v', h1, h2⟩ := hx 0 p rfl
  simp at h1
  subst h1
  exact ⟨v, vs, rfl, h2, sV.ofL (by simpa using hl) λ i x e => by simpa using hx (i + 1) x (by simpa using e)⟩
 | [], _ :: _, hl, _ => by simp at hl
 | _ :: _, [], hl, _ => by simp at hl
theorem eD.parts {op cmp : Int} {l r : OV} {args : List Pred} {v : PV} (x : eD h (.mk op cmp l r args) v) : v.op = op /\ v.cmp = cmp /\ v.left = l /\ v.right = r /\ CI h v.args args := by
 obtain ⟨h1, h2, h3, h4, h5, vs, h6, h7⟩ := x
 exact ⟨h1, h2, h3, h4, h7.toL h6 h5⟩
theorem eD.mk {h : PH} {args : List Pred} {v : PV} (hl : CI h v.args args) : eD h (.mk v.op v.cmp v.left v.right args) v := by
 obtain ⟨vs, h1, h2, h3⟩ := hl.ex
 exact ⟨rfl, rfl, rfl, rfl, hl.len, vs, h1, .ofL h2 h3⟩
def Zv (N : Nat) : Vc.Spec := λ cvs m h K => ∃ v w p q, cvs = [aP v, aP w] /\ eD h p v /\ eD h q w /\ SizeOf.sizeOf p < N /\ ∀ r : Bool, (r = true ↔ p = q) -> K (cB r) m h
def ZR (N : Nat) : Vc.Spec := λ cvs m h K => ∃ s t ps qs, cvs = [cS s, cS t, .val (.func (.func 213) #[] #[])] /\ CI h s ps /\ CI h t qs /\ (∀ p ∈ ps, SizeOf.sizeOf p < N) /\ ∀ r : Bool, (r = true ↔ ps = qs) -> K (cB r) m h
noncomputable def WJ (N : Nat) : Ctx := ctx [(224, ZR N)] [] [] [] false
noncomputable def WH (N : Nat) (s t : Sl) (ps qs : List Pred) (m : MH) (h : PH) : Ctx :=
 ctx [(213, Zv N)] [Co 4 (λ i => cH 32 35 [(1, sv t), (2, vv (.func (.func 213) #[] #[])), (15, sv s), (16, iv s.len), (17, iv i)] [] m h) (λ i => i <= ps.length /\ ∀ j : Nat, j < i -> ps[j]? = qs[j]?) (λ i => ps.length - i)] [] [] false
noncomputable def WX (N : Nat) (v w : PV) (ps qs : List Pred) (m : MH) (h : PH) : Ctx :=
 ctx [(163, Zv N)] [Co 4 (λ i => cH 60 62 [(2, .at (.ptr 2 0)), (3, .at (.ptr 3 0)), (43, iv v.args.len), (44, iv i)] [(2, .cells 32 (v.enc.map .val)), (3, .cells 32 (w.enc.map .val))] m h) (λ i => i <= ps.length /\ ∀ j : Nat, j < i -> ps[j]? = qs[j]?) (λ i => ps.length - i)] [] [] false
noncomputable abbrev JW  : Array Value := Array.mk []
noncomputable abbrev Cm (a : Nat) (b : Array Value) : Value := Value.func (Fn.func a) JW b
noncomputable abbrev kM (a : Nat) : Value := Cm a JW
noncomputable abbrev Bm (a b : Sl) (c : Nat) : List CV := cK a :: aX (cK b) (CV.val (kM c))
attribute [push_cast] JW Cm kM Bm
def GZ (N : Nat) (v w : PV) (m : MH) (h : PH) (K : CV -> MH -> PH -> Prop) : Prop :=
  dN v.op w.op (dN v.cmp w.cmp (lN 29 v.left.enc w.left.enc (λ r => branch r (lN 29 v.right.enc w.right.enc (λ r1 => branch r1 (iW (λ s t => ∃ (p q : List Pred), aA (Bm v.args w.args 213 = Bm s t 213) (CI h s p) (aA (CI h t q) (∀ (p1 : Pred), List.Mem p1 p -> oD p1 N) (∀ (r2 : Bool), (dX r2 ↔ p = q) -> K (AE r2) m h)))) (K aW m h))) (K aW m h))) (K aW m h)) (K aW m h)
abbrev A9 (a : Nat) (b c : List Pred) : Prop := jT (a <= b.length) (λ x => x < a -> b[x]? = c[x]?)
abbrev Bl (a : Nat) : Prop := eQ (SV.at (At.val (kM a)))
abbrev Fo (a : PV -> PV -> Pred -> Pred -> Prop) : Prop := ∃ (x : PV), vK (λ x1 x2 => ∃ (x3 : Pred), a x x1 x2 x3)
attribute [push_cast] A9 Bl Fo
def L0 (N : Nat) (s t : Sl) (ps qs : List Pred) (m : MH) (h : PH) (K : CV -> MH -> PH -> Prop) : Prop :=
  eE (aG s) (aG t) (K aW m h) (jT (∃ (x : Nat), aA (A9 x ps qs) (aI t) (aA (Bl 213) (aI s) (aA (bI s) (bC x) (aA (m = m) (h = h) True)))) (λ x => A9 x ps qs -> bA (↑x : Int) (aG s) (aT (λ b o => aA (aU s.a b o) (0 <= (↑x : Int)) ((↑x : Int) < aG s /\ ∃ (y : PV), aL m h b (bN o x 13) y.enc /\ aT (λ b1 o1 => aA (aU t.a b1 o1) (0 <= (↑x : Int)) ((↑x : Int) < aG t /\ ∃ (y1 : PV), aL m h b1 (bN o1 x 13) y1.enc /\ Fo (λ v w p q => aA (aX (cX y) (cX y1) = aX (cX v) (cX w)) (eD h p v) (aA (eD h q w) (oD p N) (∀ (r : Bool), (dX r ↔ p = q) -> hZ (!r) (K aW m h) (λ y2 => aA (A9 y2 ps qs) (ps.length - y2 < ps.length - x) (aA (aI t) (Bl 213) (aA (aI s) (bI s) (aA (fK (bE x 1) = bV y2) (m = m) (cV h h))))))))))))) (K
 fJ m h)))
def G7 (N : Nat) (v w : PV) (ps qs : List Pred) (m : MH) (h : PH) (K : CV -> MH -> PH -> Prop) : Prop :=
  cW (v.op != w.op) (K aW m h) (v.cmp != w.cmp) (K aW m h) (lN 29 v.left.enc w.left.enc (λ r => gK r (K aW m h) (lN 29 v.right.enc w.right.enc (λ r1 => cW (!r1) (K aW m h) (p7 v != p7 w) (K aW m h) (jT (∃ (x : Nat), aA (A9 x ps qs) (eP 2) (aA (eP 3) (bI v.args) (aA (bC x) (jN v) (aA (jN w) (m = m) (cV h h))))) (λ x => A9 x ps qs -> bA (↑x : Int) (aG v.args) (aT (λ b o => aA (aU v.args.a b o) (0 <= (↑x : Int)) ((↑x : Int) < aG v.args /\ ∃ (y : PV), aL m h b (bN o x 13) y.enc /\ aT (λ b1 o1 => aA (aU w.args.a b1 o1) (0 <= (↑x : Int)) ((↑x : Int) < aG w.args /\ ∃ (y1 : PV), aL m h b1 (bN o1 x 13) y1.enc /\ Fo (λ v1 w1 p q => aA (aX (cX y) (cX y1) = aX (cX v1) (cX w1)) (eD h p v1) (aA (eD h q w1) (oD p N) (∀ (r2 : Bool),
 (dX r2 ↔ p = q) -> hZ (!r2) (K aW m h) (λ y2 => aA (A9 y2 ps qs) (ps.length - y2 < ps.length - x) (aA (eP 2) (eP 3) (aA (bI v.args) (fK (bE x 1) = bV y2) (aA (jN v) (jN w) (dT m m h h))))))))))))) (K fJ m h)))))))
theorem xF {α : Type} {a b : List α} (hl : a.length = b.length) (hi : a.length <= i) (h : ∀ j : Nat, j < i -> a[j]? = b[j]?) : a = b := by
 apply List.ext_getElem?
 intro j
 by_cases hj : j < i
 . exact h j hj
 . rw [OF aC, OF aC]
theorem tL {α : Type} {a b : List α} {x y : α} (hx : a[i]? = some x) (hy : b[i]? = some y) (e : x = y) (h : ∀ j : Nat, j < i -> a[j]? = b[j]?) : ∀ j : Nat, j < i + 1 -> a[j]? = b[j]? := by
 intro j hj
 by_cases e' : j = i
 . subst e'; rw [hx, hy, e]
 . exact h j aC
theorem Ly {α : Type} {a b : List α} {x y : α} (hx : a[i]? = some x) (hy : b[i]? = some y) (e : x ≠ y) : a ≠ b := λ h => by
 subst h; rw [hx] at hy; simp at hy; exact e hy
theorem GH {α β : Type} {s t : Sl} {a : List α} {b : List β} (hs : s.len = a.length) (ht : t.len = b.length) (e : ((s.len : Int) != (t.len : Int)) = true) : a.length ≠ b.length := λ h => by
 rw [hs, ht, h] at e; simp at e
theorem GI {α β : Type} {s t : Sl} {a : List α} {b : List β} (hs : s.len = a.length) (ht : t.len = b.length) (e : ((s.len : Int) != (t.len : Int)) = false) : a.length = b.length := by
 have : (s.len : Int) = t.len := by simpa using e
 omega
theorem Y1 {v w : PV} {q : Pred} (hv : eD h p v) (hw : eD h q w) (hN : SizeOf.sizeOf p < N + 1) (hK : ∀ r : Bool, (r = true ↔ p = q) -> K (cB r) m h) : GZ N v w m h K := by
 dsimp only [GZ, push_cast]
 have hf : p ≠ q -> K (cB false) m h := λ h => hK false ⟨λ e => (by cases e), λ e => (h e).elim⟩
 have hargs := @zH p
 obtain ⟨op, cmp, l, r, ps⟩ := p
 obtain ⟨op', cmp', l', r', qs⟩ := q
 obtain ⟨rfl, rfl, rfl, rfl, hps⟩ := hv.parts
 obtain ⟨rfl, rfl, rfl, rfl, hqs⟩ := hw.parts
 refine aB (λ h1 => aB (λ h2 => ⟨_, zE _ _, aB (λ h3 => ⟨_, zE _ _, aB (λ h4 => ⟨v.args, w.args, ps, qs, rfl, hps, hqs, λ p hp => ?_, λ r hr => hK r (hr.trans ?_)⟩) (λ h4 => hf λ e => ?_)⟩) (λ h3 => hf λ e => ?_)⟩) (λ h2 => hf λ e => ?_)) (λ h1 => hf λ e => ?_)
 . have := hargs (q := p) hp
   omega
 . rw [BC] at h3 h4
   simp only [beq_iff_eq] at h1 h2
   rw [h1, h2, h3, h4]
   exact ⟨λ e => by rw [e], λ e => by injection e⟩
 . injection e with _ _ _ e _; rw [BC.2 e] at h4; cases h4
 . injection e with _ _ e _ _; rw [BC.2 e] at h3; cases h3
 . injection e with _ e _ _ _; rw [e] at h2; simp at h2
 . injection e with e _ _ _ _; rw [e] at h1; simp at h1
theorem Qk : ∀ N, Sound Tryz.prog 213 (Zv N)
 | 0 => by
  refine eK (fn := Tryz.f213) (c := dK Tryz.f213) Tryz.func213 rfl (by decide) ?_
  rintro cvs m h K ⟨v, w, p, q, rfl, hr, _, hN, _⟩
  omega
 | N + 1 => by
  have h144 : Sound Tryz.prog 224 (ZR N) := by
   refine gX Tryz.func224 ?_
   rintro cvs m h K ⟨s, t, ps, qs, rfl, ha, hb, hN, hK⟩
   refine ⟨WH N s t ps qs m h, rfl, aD (Qk N) aF, L0 N s t ps qs m h K, by kernel_rfl, ?_⟩
   dsimp only [L0, push_cast]
   have hsa := ha.slen
   have htb := hb.slen
   have hla := ha.len
   have hf : ps ≠ qs -> K (cB false) m h := λ h => hK false ⟨λ e => (by cases e), λ e => (h e).elim⟩
   refine aB (λ h1 => hf (λ e => GH hsa htb h1 (by rw [e]))) (λ h1 => ?_)
   have hl := GI hsa htb h1
   refine ⟨⟨0, ⟨aC, λ j hj => by omega⟩, MT⟩, λ i hi => aE (λ hlt => ?_) (λ hge => ?_)⟩
   . obtain ⟨x, hx⟩ := fE hsa hlt
     obtain ⟨y, hy⟩ : ∃ y, qs[i]? = some y := fE (n := s.len) aC hlt
     obtain ⟨b1, o1, u, e1, r1, ru⟩ := ha.at hx
     obtain ⟨b2, o2, w, e2, r2, rw'⟩ := hb.at hy
     refine ⟨b1, o1, e1, aC, hlt, u, .imm r1, b2, o2, e2, aC, aC, w, .imm r2, u, w, x, y, rfl, ru, rw', hN x (lP hx), λ r hr => aB (λ hne => hf (Ly hx hy (λ e => ?_))) (λ he => ?_)⟩
     . have := hr.2 e; subst this; cases hne
     . have hr' : r = true := by simpa using he
       exact ⟨i + 1, ⟨aC, tL hx hy (hr.1 hr') hi.2⟩, aC, MT⟩
   . exact hK true ⟨λ _ => xF hl aC hi.2, λ _ => rfl⟩
  refine gX Tryz.func213 ?_
  rintro cvs m h K ⟨v, w, p, q, rfl, hr, hq, hN, hK⟩
  refine ⟨WJ N, rfl, aD h144 aF, GZ N v w m h K, by kernel_rfl, ?_⟩
  exact Y1 hr hq hN hK
theorem Y6 {v w : PV} {q : Pred} (hv : eD h p v) (hw : eD h q w) (hN : SizeOf.sizeOf p < N + 1) (hK : ∀ r : Bool, (r = true ↔ p = q) -> K (cB r) m h) : G7 N v w p.args q.args m h K := by
 dsimp only [G7, push_cast]
 have hf : p ≠ q -> K (cB false) m h := λ h => hK false ⟨λ e => (by cases e), λ e => (h e).elim⟩
 have hargs := @zH p
 obtain ⟨op, cmp, l, r, ps⟩ := p
 obtain ⟨op', cmp', l', r', qs⟩ := q
 obtain ⟨rfl, rfl, rfl, rfl, ha⟩ := hv.parts
 obtain ⟨rfl, rfl, rfl, rfl, hb⟩ := hw.parts
 simp only [Pred.args] at hargs ⊢
 have hsa := ha.slen
 have htb := hb.slen
 have hla := ha.len
 refine aB (λ h1 => hf λ e => ?_) (λ h1 => aB (λ h2 => hf λ e => ?_) (λ h2 => ⟨_, zE _ _, aB (λ h3 => hf λ e => ?_) (λ h3 => ⟨_, zE _ _, aB (λ h4 => hf λ e => ?_) (λ h4 => aB (λ h5 => hf λ e => ?_) (λ h5 => ?_))⟩)⟩))
 . injection e with e _ _ _ _; rw [e] at h1; simp at h1
 . injection e with _ e _ _ _; rw [e] at h2; simp at h2
 . injection e with _ _ e _ _; rw [BC.2 e] at h3; cases h3
 . injection e with _ _ _ e _; rw [BC.2 e] at h4; cases h4
 . injection e with _ _ _ _ e; exact GH hsa htb h5 (by rw [e])
 . have hl := GI hsa htb h5
   have h3 : v.left = w.left := BC.1 (by simpa using h3)
   have h4 : v.right = w.right := BC.1 (by simpa using h4)
   have h1 : v.op = w.op := by simpa using h1
   have h2 : v.cmp = w.cmp := by simpa using h2
   rw [h1, h2, h3, h4] at hK hf
   have hf : ps ≠ qs -> K (cB false) m h := λ hne => hf λ e => hne (by injection e)
   refine ⟨⟨0, ⟨aC, λ j hj => by omega⟩, MT⟩, λ i hi => aE (λ hlt => ?_) (λ hge => ?_)⟩
   . obtain ⟨x, hx⟩ := fE hsa hlt
     obtain ⟨y, hy⟩ : ∃ y, qs[i]? = some y := fE (n := v.args.len) aC hlt
     obtain ⟨b1, o1, u, e1, r1, ru⟩ := ha.at hx
     obtain ⟨b2, o2, z, e2, r2, rz⟩ := hb.at hy
     refine ⟨b1, o1, e1, aC, hlt, u, .imm r1, b2, o2, e2, aC, aC, z, .imm r2, u, z, x, y, rfl, ru, rz, ?_, λ r hr => aB (λ hne => hf (Ly hx hy (λ e => ?_))) (λ he => ?_)⟩
     . have := hargs (lP hx); omega
     . have := hr.2 e; subst this; cases hne
     . have hr' : r = true := by simpa using he
       exact ⟨i + 1, ⟨aC, tL hx hy (hr.1 hr') hi.2⟩, aC, MT⟩
   . exact hK true ⟨λ _ => by rw [xF hl aC hi.2], λ _ => rfl⟩
theorem Qo : ∀ N, Sound Tryz.prog 163 (Zv N)
 | 0 => by
  refine eK (fn := Tryz.f163) (c := dK Tryz.f163) Tryz.func163 rfl (by decide) ?_
  rintro cvs m h K ⟨v, w, p, q, rfl, hr, _, hN, _⟩
  omega
 | N + 1 => by
  refine gX Tryz.func163 ?_
  rintro cvs m h K ⟨v, w, p, q, rfl, hr, hq, hN, hK⟩
  refine ⟨WX N v w p.args q.args m h, rfl, aD (Qo N) aF, G7 N v w p.args q.args m h K, by kernel_rfl, ?_⟩
  exact Y6 hr hq hN hK
def Zw : Vc.Spec := λ cvs m h K => ∃ v w p q, cvs = [aP v, aP w] /\ eD h p v /\ eD h q w /\ ∀ r : Bool, (r = true ↔ p = q) -> K (cB r) m h
theorem vW {f : FuncId} {S : Nat -> Vc.Spec} {S' : Vc.Spec} (h : ∀ N, Sound Tryz.prog f (S N)) (hs : ∀ cvs m h K, S' cvs m h K -> ∃ N, S N cvs m h K) : Sound Tryz.prog f S' := by
 refine ⟨(h 0).1, λ cvs vs m hh w K hS hp => ?_⟩
 obtain ⟨N, hN⟩ := hs cvs m hh K hS
 exact (h N).2 cvs vs m hh w K hN hp
theorem RM : Sound Tryz.prog 213 Zw := vW Qk λ _ _ _ _ ⟨v, w, p, q, e, h1, h2, h3⟩ => ⟨SizeOf.sizeOf p + 1, v, w, p, q, e, h1, h2, aC, h3⟩
theorem R3 : Sound Tryz.prog 163 Zw := vW Qo λ _ _ _ _ ⟨v, w, p, q, e, h1, h2, h3⟩ => ⟨SizeOf.sizeOf p + 1, v, w, p, q, e, h1, h2, aC, h3⟩
theorem FV {d e c i : Nat} {is : List Nat} {xs ys : Array Value} {w : World} {x y : Value} {r r' : Bool} (hx : vB Tryz.prog (part e xs (i * c)) = some x) (hy : vB Tryz.prog (part e ys (i * c)) = some y)
 (he : (Op.equalIn d e x y).run Tryz.prog w = .ok r w) (hr : (Op.eqItems d e c xs ys is).run Tryz.prog w = .ok r' w) : (Op.eqItems d e c xs ys (i :: is)).run Tryz.prog w = .ok (r && r') w := by
 simp only [Op.eqItems, Sem.run_bind, xI _ _ _ hx, xI _ _ _ hy, Result.andThen_ok, he]
 cases r
 . simp
 . simpa using hr
def acZ (a b : Int × Int) : Bool := a.1 == b.1 && (a.2 == b.2 && true)
def acX (a b : Int × Bool) : Bool := a.1 == b.1 && (a.2 == b.2 && true)
theorem Xl (a b : Int × Int) : StructEq Tryz.prog 69 (.agg #[.int .i64 a.1, .int .i64 a.2]) (.agg #[.int .i64 b.1, .int .i64 b.2]) (acZ a b) := by
 refine ⟨by kernel_rfl, λ w => ?_⟩
 obtain ⟨i, hi⟩ := Option.isSome_iff_exists.1 (show (Tryz.prog.info? 3).isSome = true by kernel_rfl)
 rw [run_equalIn_array w 9999 (e := 3) (n := 2) _ _ (by kernel_rfl) hi, show Tryz.prog.cellsOf 3 = 1 by kernel_rfl, show List.range 2 = [0, 1] from rfl]
 refine FV (x := .int .i64 a.1) (y := .int .i64 b.1) (by kernel_rfl) (by kernel_rfl) (run_equalIn_int w 9998 _ .i64 .i64 _ _ (by kernel_rfl)) ?_
 refine FV (x := .int .i64 a.2) (y := .int .i64 b.2) (by kernel_rfl) (by kernel_rfl) (run_equalIn_int w 9998 _ .i64 .i64 _ _ (by kernel_rfl)) ?_
 simp [Op.eqItems]
theorem Xk (a b : Int × Bool) : StructEq Tryz.prog 72 (.agg #[.int .i64 a.1, .bool a.2]) (.agg #[.int .i64 b.1, .bool b.2]) (acX a b) := by
 refine ⟨by kernel_rfl, λ w => ?_⟩
 rw [run_equalIn_struct w 9999 72 _ _ (by kernel_rfl) (by kernel_rfl), show (Tryz.prog.fieldsOf 72).toList = [K4 72 0, K4 72 1] by kernel_rfl]
 refine jV (x := .int .i64 a.1) (y := .int .i64 b.1) (by kernel_rfl) (by kernel_rfl) (by kernel_rfl) (run_equalIn_int w 9998 _ .i64 .i64 _ _ (by kernel_rfl)) ?_
 refine jV (x := .bool a.2) (y := .bool b.2) (by kernel_rfl) (by kernel_rfl) (by kernel_rfl) (run_equalIn_bool w 9998 _ _ _ (by kernel_rfl)) ?_
 simp [Op.eqFields]
theorem QB {a b : Int × Int} : acZ a b = true ↔ a = b := by
 obtain ⟨a1, a2⟩ := a; obtain ⟨b1, b2⟩ := b; simp [acZ]
theorem Qz {a b : Int × Bool} : acX a b = true ↔ a = b := by
 obtain ⟨a1, a2⟩ := a; obtain ⟨b1, b2⟩ := b; simp [acX]
theorem lK.at {s : Sl} {l : List (Int × Int)} (r : lK h s l) {x : Int × Int} (hi : l[i]? = some x) : ∃ b o, s.a = some ⟨b, o, none⟩ /\ aZ h b (o + i * 2) (tR x) := r.row.get (by simp [hi])
theorem iE.at {s : Sl} {l : List (Int × Bool)} (r : iE h s l) {x : Int × Bool} (hi : l[i]? = some x) : ∃ b o, s.a = some ⟨b, o, none⟩ /\ aZ h b (o + i * 2) (CR x) := r.row.get (by simp [hi])
def M0 : Vc.Spec := λ cvs m h K => ∃ (s t : Sl) (a b : List (Int × Int)), cvs = [cS s, cS t] /\ lK h s a /\ lK h t b /\ ∀ r : Bool, (r = true ↔ a = b) -> K (cB r) m h
def MZ : Vc.Spec := λ cvs m h K => ∃ (s t : Sl) (a b : List (Int × Bool)), cvs = [cS s, cS t] /\ iE h s a /\ iE h t b /\ ∀ r : Bool, (r = true ↔ a = b) -> K (cB r) m h
noncomputable def Qj {α : Type} (s t : Sl) (a b : List α) (m : MH) (h : PH) : Ctx :=
 ctx [] [Co 4 (λ i => cH 26 28 [(0, sv s), (1, sv t), (12, iv s.len), (13, iv i)] [] m h) (λ i => i <= a.length /\ ∀ j : Nat, j < i -> a[j]? = b[j]?) (λ i => a.length - i)] [] [] false
noncomputable abbrev uD (a : Int × Int) : List Value := iD (dQ a.1) (dQ a.2)
attribute [push_cast] uD
def Md (s t : Sl) (a b : List (Int × Int)) (m : MH) (h : PH) (K : CV -> MH -> PH -> Prop) : Prop :=
  eE (aG s) (aG t) (K aW m h) (jT (∃ (x : Nat), aA (jT (x <= a.length) (λ j => j < x -> a[j]? = b[j]?)) (aI s) (aA (aI t) (bI s) (bM (bC x) (m = m) (h = h)))) (λ x => jT (x <= a.length) (λ j => j < x -> a[j]? = b[j]?) -> bA (↑x : Int) (aG s) (aT (λ b1 o => aA (aU s.a b1 o) (0 <= (↑x : Int)) ((↑x : Int) < aG s /\ ∃ (y : Int × Int), aL m h b1 (bN o x 2) (uD y) /\ aT (λ b2 o1 => aA (aU t.a b2 o1) (0 <= (↑x : Int)) ((↑x : Int) < aG t /\ ∃ (y1 : Int × Int), aL m h b2 (bN o1 x 2) (uD y1) /\ lN 69 (uD y) (uD y1) (λ r => hZ (!r) (K aW m h) (λ y2 => aA (jT (y2 <= a.length) (λ j => j < y2 -> a[j]? = b[j]?)) (a.length - y2 < a.length - x) (aA (aI s) (aI t) (aA (bI s) (fK (bE x 1) = bV y2) (aA (m = m) (h = h) True)))))))))) (K fJ m h)))
noncomputable abbrev yR (a : Int × Bool) : List Value := iD (dQ a.1) (Value.bool a.2)
attribute [push_cast] yR
def Mc (s t : Sl) (a b : List (Int × Bool)) (m : MH) (h : PH) (K : CV -> MH -> PH -> Prop) : Prop :=
  eE (aG s) (aG t) (K aW m h) (jT (∃ (x : Nat), aA (jT (x <= a.length) (λ j => j < x -> a[j]? = b[j]?)) (aI s) (aA (aI t) (bI s) (bM (bC x) (m = m) (h = h)))) (λ x => jT (x <= a.length) (λ j => j < x -> a[j]? = b[j]?) -> bA (↑x : Int) (aG s) (aT (λ b1 o => aA (aU s.a b1 o) (0 <= (↑x : Int)) ((↑x : Int) < aG s /\ ∃ (y : Int × Bool), aL m h b1 (bN o x 2) (yR y) /\ aT (λ b2 o1 => aA (aU t.a b2 o1) (0 <= (↑x : Int)) ((↑x : Int) < aG t /\ ∃ (y1 : Int × Bool), aL m h b2 (bN o1 x 2) (yR y1) /\ lN 72 (yR y) (yR y1) (λ r => hZ (!r) (K aW m h) (λ y2 => aA (jT (y2 <= a.length) (λ j => j < y2 -> a[j]? = b[j]?)) (a.length - y2 < a.length - x) (aA (aI s) (aI t) (aA (bI s) (fK (bE x 1) = bV y2) (aA (m = m) (h = h) True)))))))))) (K fJ m h)))
theorem RL : Sound Tryz.prog 214 M0 := by
 refine gX Tryz.func214 ?_
 rintro cvs m h K ⟨s, t, a, b, rfl, ha, hb, hK⟩
 refine ⟨Qj s t a b m h, rfl, aF, Md s t a b m h K, by kernel_rfl, ?_⟩
 dsimp only [Md, push_cast]
 have hsa := ha.slen
 have htb := hb.slen
 have hla := ha.len
 have hf : a ≠ b -> K (cB false) m h := λ h => hK false ⟨λ e => (by cases e), λ e => (h e).elim⟩
 refine aB (λ h1 => hf (λ e => GH hsa htb h1 (by rw [e]))) (λ h1 => ?_)
 have hl := GI hsa htb h1
 refine ⟨⟨0, ⟨aC, λ j hj => by omega⟩, MT⟩, λ i hi => aE (λ hlt => ?_) (λ hge => ?_)⟩
 . obtain ⟨x, hx⟩ := fE hsa hlt
   obtain ⟨y, hy⟩ : ∃ y, b[i]? = some y := fE (n := s.len) aC hlt
   obtain ⟨b1, o1, e1, r1⟩ := ha.at hx
   obtain ⟨b2, o2, e2, r2⟩ := hb.at hy
   refine ⟨b1, o1, e1, aC, hlt, x, .imm r1, b2, o2, e2, aC, aC, y, .imm r2, _, Xl x y, aB (λ hne => hf (Ly hx hy (λ e => ?_))) (λ he => ?_)⟩
   . rw [QB.2 e] at hne; cases hne
   . exact ⟨i + 1, ⟨aC, tL hx hy (QB.1 (by simpa using he)) hi.2⟩, aC, MT⟩
 . exact hK true ⟨λ _ => xF hl aC hi.2, λ _ => rfl⟩
theorem RJ : Sound Tryz.prog 215 MZ := by
 refine gX Tryz.func215 ?_
 rintro cvs m h K ⟨s, t, a, b, rfl, ha, hb, hK⟩
 refine ⟨Qj s t a b m h, rfl, aF, Mc s t a b m h K, by kernel_rfl, ?_⟩
 dsimp only [Mc, push_cast]
 have hsa := ha.slen
 have htb := hb.slen
 have hla := ha.len
 have hf : a ≠ b -> K (cB false) m h := λ h => hK false ⟨λ e => (by cases e), λ e => (h e).elim⟩
 refine aB (λ h1 => hf (λ e => GH hsa htb h1 (by rw [e]))) (λ h1 => ?_)
 have hl := GI hsa htb h1
 refine ⟨⟨0, ⟨aC, λ j hj => by omega⟩, MT⟩, λ i hi => aE (λ hlt => ?_) (λ hge => ?_)⟩
 . obtain ⟨x, hx⟩ := fE hsa hlt
   obtain ⟨y, hy⟩ : ∃ y, b[i]? = some y := fE (n := s.len) aC hlt
   obtain ⟨b1, o1, e1, r1⟩ := ha.at hx
   obtain ⟨b2, o2, e2, r2⟩ := hb.at hy
   refine ⟨b1, o1, e1, aC, hlt, x, .imm r1, b2, o2, e2, aC, aC, y, .imm r2, _, Xk x y, aB (λ hne => hf (Ly hx hy (λ e => ?_))) (λ he => ?_)⟩
   . rw [Qz.2 e] at hne; cases hne
   . exact ⟨i + 1, ⟨aC, tL hx hy (Qz.1 (by simpa using he)) hi.2⟩, aC, MT⟩
 . exact hK true ⟨λ _ => xF hl aC hi.2, λ _ => rfl⟩
noncomputable def FR (s t : Sl) (a b : List Int) (m : MH) (h : PH) : Ctx :=
 ctx [] [Co 4 (λ i => cH 26 28 [(0, sv s), (1, sv t), (12, iv s.len), (13, iv i)] [] m h) (λ i => i <= a.length /\ ∀ j : Nat, j < i -> a[j]? = b[j]?) (λ i => a.length - i)] [] [] false
def DG (s t : Sl) (a b : List Int) (m : MH) (h : PH) (K : CV -> MH -> PH -> Prop) : Prop :=
  eE (aG s) (aG t) (K aW m h) (jT (∃ (x : Nat), aA (jT (x <= a.length) (λ j => j < x -> a[j]? = b[j]?)) (aI s) (aA (aI t) (bI s) (bM (bC x) (m = m) (h = h)))) (λ x => jT (x <= a.length) (λ j => j < x -> a[j]? = b[j]?) -> bA (↑x : Int) (aG s) (aT (λ b1 o => aA (aU s.a b1 o) (0 <= (↑x : Int)) ((↑x : Int) < aG s /\ ∃ (y : Int), aL m h b1 (bN o x 1) (bZ y) /\ aT (λ b2 o1 => aA (aU t.a b2 o1) (0 <= (↑x : Int)) ((↑x : Int) < aG t /\ ∃ (y1 : Int), aL m h b2 (bN o1 x 1) (bZ y1) /\ hZ (y != y1) (K aW m h) (λ y2 => aA (jT (y2 <= a.length) (λ j => j < y2 -> a[j]? = b[j]?)) (a.length - y2 < a.length - x) (aA (aI s) (aI t) (aA (bI s) (fK (bE x 1) = bV y2) (aA (m = m) (h = h) True))))))))) (K fJ m h)))
theorem Zi (s t : Sl) (a b : List Int) (m : MH) (h : PH) (K : CV -> MH -> PH -> Prop) : DG s t a b m h K = (Ap (FR s t a b m h) Tryz.f127 (dK Tryz.f127) (entry 26 [cS s, cS t] m h) K) := by kernel_rfl
theorem Y5 (s t : Sl) (a b : List Int) (m : MH) (h : PH) (K : CV -> MH -> PH -> Prop) : DG s t a b m h K = (Ap (FR s t a b m h) Tryz.f180 (dK Tryz.f180) (entry 26 [cS s, cS t] m h) K) := by kernel_rfl
def Az : Vc.Spec := λ cvs m h K => ∃ (s t : Sl) (a b : List Int), cvs = [cS s, cS t] /\ Ints h s a /\ Ints h t b /\ ∀ r : Bool, (r = true ↔ a = b) -> K (cB r) m h
theorem T0 {s t : Sl} {b : List Int} (ha : Ints h s a) (hb : Ints h t b) (hK : ∀ r : Bool, (r = true ↔ a = b) -> K (cB r) m h) : DG s t a b m h K := by
 dsimp only [DG, push_cast]
 have hsa := ha.slen
 have htb := hb.slen
 have hla := ha.len
 have hf : a ≠ b -> K (cB false) m h := λ h => hK false ⟨λ e => by (cases e), λ e => (h e).elim⟩
 refine aB (λ h1 => hf (λ e => ?_)) (λ h1 => ?_)
 . subst e; rw [hsa, htb] at h1; simp at h1
 . have hl : a.length = b.length := by rw [hsa, htb] at h1; have : (a.length : Int) = b.length := (by simpa using h1); omega
   refine ⟨⟨0, ⟨aC, λ j hj => by omega⟩, rfl, rfl, rfl, rfl, rfl, rfl, trivial⟩, λ i hi => aE (λ hlt => ?_) (λ hge => ?_)⟩
   . obtain ⟨x, hx⟩ : ∃ x, a[i]? = some x := ⟨a[i]'(by omega), kP _⟩
     obtain ⟨y, hy⟩ : ∃ y, b[i]? = some y := ⟨b[i]'(by omega), kP _⟩
     obtain ⟨b1, o1, e1, r1⟩ := ha.at hx
     obtain ⟨b2, o2, e2, r2⟩ := hb.at hy
     refine ⟨b1, o1, e1, aC, hlt, x, .imm (by simpa using r1), b2, o2, e2, aC, aC, y, .imm (by simpa using r2), aB (λ hne => hf (λ e => ?_)) (λ he => ?_)⟩
     . subst e; rw [hx] at hy; simp at hy; subst hy; simp at hne
     . have : x = y := by simpa using he
       refine ⟨i + 1, ⟨aC, λ j hj => ?_⟩, aC, rfl, rfl, rfl, by rw [kC aC], rfl, rfl, trivial⟩
       by_cases e : j = i
       . subst e; rw [hx, hy, this]
       . exact hi.2 j aC
   . refine hK true ⟨λ _ => ?_, λ _ => rfl⟩
     apply List.ext_getElem?
     intro j
     by_cases hj : j < i
     . exact hi.2 j hj
     . rw [OF aC, OF aC]
theorem Sv : Sound Tryz.prog 127 Az := by
 refine eK (fn := Tryz.f127) (c := dK Tryz.f127) Tryz.func127 rfl (by decide) ?_
 rintro cvs m h K ⟨s, t, a, b, rfl, ha, hb, hK⟩
 exact ⟨FR s t a b m h, rfl, aF, (Zi s t a b m h K) ▸ T0 ha hb hK⟩
theorem Eo : Sound Tryz.prog 180 Az := by
 refine eK (fn := Tryz.f180) (c := dK Tryz.f180) Tryz.func180 rfl (by decide) ?_
 rintro cvs m h K ⟨s, t, a, b, rfl, ha, hb, hK⟩
 exact ⟨FR s t a b m h, rfl, aF, (Y5 s t a b m h K) ▸ T0 ha hb hK⟩
def aQ (v : QV) : CV := .val (.agg ⟨v.enc⟩)
def Query.args : Query -> List Query
 | .mk _ _ _ _ _ _ _ _ l => l
theorem Ca {p : Query} {q : Query} (h : q ∈ p.args) : SizeOf.sizeOf q < SizeOf.sizeOf p := by
 cases p with
 | mk op t w c o g s l args =>
  have := List.sizeOf_lt_of_mem h
  simp only [Query.args] at this
  simp only [Query.mk.sizeOf_spec]
  omega
def zL (h : PH) (s : Sl) (ps : List Query) : Prop := bW h 21 QV.enc (cR h) s ps
theorem zL.mono {s : Sl} {ps : List Query} (r : zL h s ps) (le : PH.le h h') : zL h' s ps := bW.mono r le λ _ _ => cR.mono le
theorem u9.ofL {h : PH} : ∀ {ps : List Query} {vs : List QV}, ps.length = vs.length -> (∀ (i : Nat) (x : Query), ps[i]? = some x -> ∃ v, vs[i]? = some v /\ cR h x v) -> u9 h ps vs
 | [], [], _, _ => rfl
 | p :: ps, v :: vs, hl, hx => by
  obtain ⟨v', h1, h2⟩ := hx 0 p rfl
  simp at h1
  subst h1
  exact ⟨v, vs, rfl, h2, u9.ofL (by simpa using hl) λ i x e => by simpa using hx (i + 1) x (by simpa using e)⟩
 | [], _ :: _, hl, _ => by simp at hl
 | _ :: _, [], hl, _ => by simp at hl
structure oJ (h : PH) (op table : Int) (w : Pred) (c : List Int) (o : List (Int × Int)) (g : List Int) (s : List (Int × Bool)) (l : Int) (args : List Query) (v : QV) : Prop where
 op_ : v.op = op
 table_ : v.table = table
 where_ : eD h w v.where_
 columns_ : Ints h v.columns c
 on_ : lK h v.on o
 group_ : Ints h v.group g
 order_ : iE h v.order s
 limit_ : v.limit = l
 args_ : zL h v.args args
theorem cR.parts {op table : Int} {c : List Int} {o : List (Int × Int)} {g : List Int} {s : List (Int × Bool)} {l : Int} {args : List Query} (x : cR h (.mk op table w c o g s l args) v) : oJ h op table w c o g s l args v := by
 obtain ⟨h1, h2, h3, h4, h5, h6, h7, h8, h9, vs, h10, h11⟩ := x
 exact ⟨h1, h2, h3, h4, h5, h6, h7, h8, ⟨⟨vs, h10, h11.length.symm, λ _ _ hx => h11.get hx⟩, h9⟩⟩
theorem oJ.rep {op table : Int} {c : List Int} {o : List (Int × Int)} {g : List Int} {s : List (Int × Bool)} {l : Int} {args : List Query} (x : oJ h op table w c o g s l args v) : cR h (.mk op table w c o g s l args) v := by
 obtain ⟨vs, h1, h2, h3⟩ := x.args_.ex
 exact ⟨x.op_, x.table_, x.where_, x.columns_, x.on_, x.group_, x.order_, x.limit_, x.args_.len, vs, h1, .ofL h2 h3⟩
def ahQ (N : Nat) : Vc.Spec := λ cvs m h K => ∃ v w p q, cvs = [aQ v, aQ w] /\ cR h p v /\ cR h q w /\ SizeOf.sizeOf p < N /\ ∀ r : Bool, (r = true ↔ p = q) -> K (cB r) m h
def ahX : Vc.Spec := λ cvs m h K => ∃ v w p q, cvs = [aQ v, aQ w] /\ cR h p v /\ cR h q w /\ ∀ r : Bool, (r = true ↔ p = q) -> K (cB r) m h
def ZQ (N : Nat) : Vc.Spec := λ cvs m h K => ∃ s t ps qs, cvs = [cS s, cS t, .val (.func (.func 204) #[] #[])] /\ zL h s ps /\ zL h t qs /\ (∀ p ∈ ps, SizeOf.sizeOf p < N) /\ ∀ r : Bool, (r = true ↔ ps = qs) -> K (cB r) m h
noncomputable def WM (N : Nat) : Ctx := ctx [(213, Zw), (180, Az), (214, M0), (215, MZ), (216, ZQ N)] [] [] [] false
noncomputable def WI (N : Nat) (s t : Sl) (ps qs : List Query) (m : MH) (h : PH) : Ctx :=
 ctx [(204, ahQ N)] [Co 4 (λ i => cH 32 35 [(1, sv t), (2, vv (.func (.func 204) #[] #[])), (15, sv s), (16, iv s.len), (17, iv i)] [] m h) (λ i => i <= ps.length /\ ∀ j : Nat, j < i -> ps[j]? = qs[j]?) (λ i => ps.length - i)] [] [] false
abbrev j2 (a b : List CV) (c d : Prop) (e : Bool -> Prop) : Prop := aA (a = b) c (d /\ ∀ (x : Bool), e x)
noncomputable abbrev jP (a b : Sl) : List CV := aX (cK a) (cK b)
abbrev qE (a : Query) (b : Nat) : Prop := SizeOf.sizeOf a < b
attribute [push_cast] j2 jP qE
def G4 (N : Nat) (v w : QV) (m : MH) (h : PH) (K : CV -> MH -> PH -> Prop) : Prop :=
  dN v.op w.op (dN v.table w.table (dN v.limit w.limit (Fo (λ v1 w1 p q => j2 (aX (cX v.where_) (cX w.where_)) (aX (cX v1) (cX w1)) (eD h p v1) (eD h q w1) (λ r => fP (dX r ↔ p = q) r (iW (λ s t => qS (λ a b => j2 (jP v.columns w.columns) (jP s t) (Ints h s a) (Ints h t b) (λ r1 => fP (dX r1 ↔ a = b) r1 (iW (λ s1 t1 => ∃ (a1 b1 : List (Int × Int)), j2 (jP v.on w.on) (jP s1 t1) (lK h s1 a1) (lK h t1 b1) (λ r2 => fP (dX r2 ↔ a1 = b1) r2 (iW (λ s2 t2 => qS (λ a2 b2 => j2 (jP v.group w.group) (jP s2 t2) (Ints h s2 a2) (Ints h t2 b2) (λ r3 => fP (dX r3 ↔ a2 = b2) r3 (iW (λ s3 t3 => ∃ (a3 b3 : List (Int × Bool)), j2 (jP v.order w.order) (jP s3 t3) (iE h s3 a3) (iE h t3 b3) (λ r4 => fP (dX r4 ↔ a3 = b3) r4 (iW
 (λ s4 t4 => ∃ (p1 q1 : List Query), aA (Bm v.args w.args 204 = Bm s4 t4 204) (zL h s4 p1) (aA (zL h t4 q1) (∀ (p2 : Query), List.Mem p2 p1 -> qE p2 N) (∀ (r5 : Bool), (dX r5 ↔ p1 = q1) -> K (AE r5) m h)))) (K aW m h)))) (K aW m h))))) (K aW m h)))) (K aW m h))))) (K aW m h)))) (K aW m h)) (K aW m h)) (K aW m h)
abbrev oF (a : QV -> Query -> Prop) : Prop := ∃ (x : QV) (x1 : Query), a x x1
noncomputable abbrev aR (a : QV) : CV := kE a.enc
attribute [push_cast] oF aR
def Mb (N : Nat) (s t : Sl) (ps qs : List Query) (m : MH) (h : PH) (K : CV -> MH -> PH -> Prop) : Prop :=
  eE (aG s) (aG t) (K aW m h) (jT (∃ (x : Nat), aA (jT (x <= ps.length) (λ j => j < x -> ps[j]? = qs[j]?)) (aI t) (aA (Bl 204) (aI s) (aA (bI s) (bC x) (aA (m = m) (h = h) True)))) (λ x => jT (x <= ps.length) (λ j => j < x -> ps[j]? = qs[j]?) -> bA (↑x : Int) (aG s) (aT (λ b o => aA (aU s.a b o) (0 <= (↑x : Int)) ((↑x : Int) < aG s /\ ∃ (y : QV), aL m h b (bN o x 21) y.enc /\ aT (λ b1 o1 => aA (aU t.a b1 o1) (0 <= (↑x : Int)) ((↑x : Int) < aG t /\ ∃ (y1 : QV), aL m h b1 (bN o1 x 21) y1.enc /\ ∃ (v : QV), oF (λ w p => ∃ (q : Query), aA (aX (aR y) (aR y1) = aX (aR v) (aR w)) (cR h p v) (aA (cR h q w) (qE p N) (∀ (r : Bool), (dX r ↔ p = q) -> hZ (!r) (K aW m h) (λ y2 => aA (jT (y2 <= ps.length) (λ j => j < y2 -> ps[j]? = qs[j]?)) (ps.length - y2
 < ps.length - x) (aA (aI t) (Bl 204) (aA (aI s) (bI s) (aA (fK (bE x 1) = bV y2) (m = m) (cV h h))))))))))))) (K fJ m h)))
theorem Y2 {w : QV} {p : Query} (hv : cR h p v) (hw : cR h q w) (hN : SizeOf.sizeOf p < N + 1) (hK : ∀ r : Bool, (r = true ↔ p = q) -> K (cB r) m h) : G4 N v w m h K := by
 dsimp only [G4, push_cast]
 have hf : p ≠ q -> K (cB false) m h := λ h => hK false ⟨λ e => (by cases e), λ e => (h e).elim⟩
 have hargs := @Ca p
 obtain ⟨op, ta, wh, co, on, gr, od, li, ps⟩ := p
 obtain ⟨op', ta', wh', co', on', gr', od', li', qs⟩ := q
 have a := hv.parts
 have b := hw.parts
 refine aB (λ h1 => aB (λ h2 => aB (λ h3 => ⟨_, _, _, _, rfl, a.where_, b.where_, λ r4 h4 => aB (λ g4 => ⟨_, _, _, _, rfl, a.columns_, b.columns_, λ r5 h5 => aB (λ g5 => ⟨_, _, _, _, rfl, a.on_, b.on_, λ r6 h6 => aB (λ g6 => ⟨_, _, _, _, rfl, a.group_, b.group_, λ r7 h7 => aB (λ g7 => ⟨_, _, _, _, rfl, a.order_, b.order_, λ r8 h8 => aB (λ g8 => ⟨_, _, _, _, rfl, a.args_, b.args_, λ p hp => ?_, λ r hr => hK r (hr.trans ?_)⟩)
  (λ g8 => hf λ e => ?_)⟩) (λ g7 => hf λ e => ?_)⟩) (λ g6 => hf λ e => ?_)⟩) (λ g5 => hf λ e => ?_)⟩) (λ g4 => hf λ e => ?_)⟩) (λ h3 => hf λ e => ?_)) (λ h2 => hf λ e => ?_)) (λ h1 => hf λ e => ?_)
 . have := hargs (q := p) hp
   omega
 . rw [a.op_, b.op_, beq_iff_eq] at h1
   rw [a.table_, b.table_, beq_iff_eq] at h2
   rw [a.limit_, b.limit_, beq_iff_eq] at h3
   rw [h1, h2, h3, h4.1 g4, h5.1 g5, h6.1 g6, h7.1 g7, h8.1 g8]
   exact ⟨λ e => by rw [e], λ e => by injection e⟩
 . injection e with _ _ _ _ _ _ e _ _; rw [h8.2 e] at g8; cases g8
 . injection e with _ _ _ _ _ e _ _ _; rw [h7.2 e] at g7; cases g7
 . injection e with _ _ _ _ e _ _ _ _; rw [h6.2 e] at g6; cases g6
 . injection e with _ _ _ e _ _ _ _ _; rw [h5.2 e] at g5; cases g5
 . injection e with _ _ e _ _ _ _ _ _; rw [h4.2 e] at g4; cases g4
 . injection e with _ _ _ _ _ _ _ e _; rw [a.limit_, b.limit_, e] at h3; simp at h3
 . injection e with _ e _ _ _ _ _ _ _; rw [a.table_, b.table_, e] at h2; simp at h2
 . injection e with e _ _ _ _ _ _ _ _; rw [a.op_, b.op_, e] at h1; simp at h1
theorem Ql : ∀ N, Sound Tryz.prog 204 (ahQ N)
 | 0 => by
  refine eK (fn := Tryz.f204) (c := dK Tryz.f204) Tryz.func204 rfl (by decide) ?_
  rintro cvs m h K ⟨v, w, p, q, rfl, hr, _, hN, _⟩
  omega
 | N + 1 => by
  have h139 : Sound Tryz.prog 216 (ZQ N) := by
   refine gX Tryz.func216 ?_
   rintro cvs m h K ⟨s, t, ps, qs, rfl, ha, hb, hN, hK⟩
   refine ⟨WI N s t ps qs m h, rfl, aD (Ql N) aF, Mb N s t ps qs m h K, by kernel_rfl, ?_⟩
   dsimp only [Mb, push_cast]
   have hsa := ha.slen
   have htb := hb.slen
   have hla := ha.len
   have hf : ps ≠ qs -> K (cB false) m h := λ h => hK false ⟨λ e => (by cases e), λ e => (h e).elim⟩
   refine aB (λ h1 => hf (λ e => GH hsa htb h1 (by rw [e]))) (λ h1 => ?_)
   have hl := GI hsa htb h1
   refine ⟨⟨0, ⟨aC, λ j hj => by omega⟩, MT⟩, λ i hi => aE (λ hlt => ?_) (λ hge => ?_)⟩
   . obtain ⟨x, hx⟩ := fE hsa hlt
     obtain ⟨y, hy⟩ : ∃ y, qs[i]? = some y := fE (n := s.len) aC hlt
     obtain ⟨b1, o1, u, e1, r1, ru⟩ := ha.at hx
     obtain ⟨b2, o2, w, e2, r2, rw'⟩ := hb.at hy
     refine ⟨b1, o1, e1, aC, hlt, u, .imm r1, b2, o2, e2, aC, aC, w, .imm r2, u, w, x, y, rfl, ru, rw', hN x (lP hx), λ r hr => aB (λ hne => hf (Ly hx hy (λ e => ?_))) (λ he => ?_)⟩
     . have := hr.2 e; subst this; cases hne
     . have hr' : r = true := by simpa using he
       exact ⟨i + 1, ⟨aC, tL hx hy (hr.1 hr') hi.2⟩, aC, MT⟩
   . exact hK true ⟨λ _ => xF hl aC hi.2, λ _ => rfl⟩
  refine gX Tryz.func204 ?_
  rintro cvs m h K ⟨v, w, p, q, rfl, hr, hq, hN, hK⟩
  refine ⟨WM N, rfl, aD RM (aD Eo (aD RL (aD RJ (aD h139 aF)))), G4 N v w m h K, by kernel_rfl, ?_⟩
  exact Y2 hr hq hN hK
theorem RT : Sound Tryz.prog 204 ahX := vW Ql λ _ _ _ _ ⟨v, w, p, q, e, h1, h2, h3⟩ => ⟨SizeOf.sizeOf p + 1, v, w, p, q, e, h1, h2, aC, h3⟩
end Go.Ps
