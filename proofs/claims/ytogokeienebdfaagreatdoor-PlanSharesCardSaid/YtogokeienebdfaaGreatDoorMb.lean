/-
  Part 2 of a proof that a law of the given program returns true: a condition generator that is proved sound, and contracts of functions. No condition of its own. Own work, joined by program (pack.py).
-/
import Derived.MapKept
import Derived.Test.YtogokeienebdfaaGreatDoorMa
namespace Go.Vc
open Go
section
variable {B : Base} {C : Ctx} {ι : Nat → Value} {σ : St} {a : Act} {w : World} {o : Oper} {K : St → Prop}
theorem flatten_inv {sz : Nat} : ∀ {xs : List (List Value)} (_ : ∀ e ∈ xs, e.length = sz) {j : Nat} {v : Value}, xs.flatten[j]? = some v → ∃ (i : Nat) (e : List Value) (q : Nat), xs[i]? = some e ∧ e[q]? = some v ∧ j = i * sz + q
  | [], _, j, v, h => by simp at h
  | x :: xs, hl, j, v, h => by
    have hx := hl x (by simp)
    rw [List.flatten_cons] at h
    by_cases hj : j < x.length
    · rw [List.getElem?_append_left hj] at h
      exact ⟨0, x, j, rfl, h, by simp⟩
    · rw [List.getElem?_append_right (by omega)] at h
      obtain ⟨i, e, q, h1, h2, h3⟩ := flatten_inv (fun e he => hl e (by simp [he])) h
      exact ⟨i + 1, e, q, by simpa using h1, h2, by rw [Nat.succ_mul]; omega⟩
theorem src_own {P : Program} {tx e' E sz : Nat} {v : Value} {ys : List (List Value)} (hk : P.underlying tx = some (.slice e')) (hr : RowsOk sz ys) (ho : w.ownsRow 0 E sz v ys.length ys.flatten) :
    Src P sz tx v ys.length ys.flatten w := by
  have h1 : ∀ u ∈ ys.flatten, u.oneCell' = true := fun u hu => by
    obtain ⟨e, he, hue⟩ := List.mem_flatten.1 hu
    exact hr.one e he u hue
  rcases ho.2 with ⟨rfl, hn⟩ | ⟨g, cap, cur, rfl, _⟩
  · have : ys = [] := List.eq_nil_of_length_eq_zero hn
    subst this
    exact Src.ofNil w hk 0
  · exact Src.ofSlice w hk ⟨g, 0, none⟩ _ cap _ (flatten_length hr.len) (ho.cells (g := g) rfl) h1
theorem src_imm {P : Program} {tx e' sz : Nat} {h : PH} (hk : P.underlying tx = some (.slice e')) {ad : Option Addr} {n c : Nat} {ys : List (List Value)} (hr : RowsOk sz ys) (hrow : RowIn h ⟨ad, n, c⟩ sz ys)
    (hsat : ∀ b o v, h b o = some v → w.cell? ⟨b, o, none⟩ = some v) : Src P sz tx (.slice ad n c) ys.length ys.flatten w := by
  have h1 : ∀ u ∈ ys.flatten, u.oneCell' = true := fun u hu => by
    obtain ⟨e, he, hue⟩ := List.mem_flatten.1 hu
    exact hr.one e he u hue
  have hlen : n = ys.length := hrow.len
  subst hlen
  rcases hrow.row with rfl | ⟨b, off, hab, hcell⟩
  · refine ⟨.inl ⟨e', hk⟩, fun _ => rfl, ?_, ?_, by simp, fun u hu => by simp at hu⟩
    · cases ad <;> simp [Builtin.firstCells, loadCells, loadCellsFrom]
    · cases ad <;> simp [Builtin.firstCells, loadCells, loadCellsFrom]
  · have hab : ad = some ⟨b, off, none⟩ := hab
    subst hab
    refine Src.ofSlice w hk ⟨b, off, none⟩ _ c _ (flatten_length hr.len) ?_ h1
    intro j u hj
    obtain ⟨i, e, q, hi, hq, rfl⟩ := flatten_inv hr.len hj
    rw [Addr.add_none]
    have := hsat _ _ _ ((hcell i e hi).rd q u hq)
    rw [← Nat.add_assoc]
    exact this
theorem bytesOfStr_flatten (s : ByteArray) : (bytesOfStr s).flatten = byteCells s := by
  unfold bytesOfStr byteCells
  induction s.data.toList with
  | nil => rfl
  | cons b r ih => simp [ih]
theorem src_of (hM : Models B ι σ a w) {sz tx : Nat} {y : Operand} {R : List (List Value) → Prop} {lent : Bool} (h : srcVC C.P lent σ sz tx (σ.ev y) R) :
    ∃ ys, RowsOk sz ys ∧ Src C.P sz tx (a.eval y) ys.length ys.flatten w ∧ R ys := by
  have hev := hM.ev y
  unfold srcVC at h
  split at h
  · rename_i k e' hk hu
    rw [hk] at hev
    have hev : a.eval y = ι k := hev
    split at h
    · rename_i E s ys hown
      split at h
      · rename_i hs
        have hs := Nat.eq_of_beq_eq_true hs
        subst hs
        obtain ⟨hr, ho⟩ := own_lst hM hown
        exact ⟨ys, hr, by rw [hev]; exact src_own hu hr ho, h⟩
      · exact h.elim
    · exact h.elim
  · rename_i ad n c e' hk hu
    rw [hk] at hev
    have hev : a.eval y = .slice ad n c := hev
    obtain ⟨ys, hr, hrow, h⟩ := h
    refine ⟨ys, hr, ?_, h⟩
    rw [hev]
    cases lent with
    | false => exact src_imm hu hr hrow hM.wrel.hsat
    | true =>
      cases hrow with
      | imm hrow => exact src_imm hu hr hrow hM.wrel.hsat
      | lent b o cs E fz hs hn hm hl =>
        have hs : ad = some ⟨b, o, none⟩ := hs
        have hn : n = ys.length := hn
        subst hs hn
        have h1 : ∀ u ∈ ys.flatten, u.oneCell' = true := fun u hu => by
          obtain ⟨e, he, hue⟩ := List.mem_flatten.1 hu
          exact hr.one e he u hue
        refine Src.ofSlice w hu ⟨b, o, none⟩ _ c _ (flatten_length hr.len) ?_ h1
        intro j u hj
        rw [Addr.add_none, cell_of_heap (hM.wrel.msat b _ hm)]
        rw [← hl] at hj
        have hlt := (List.getElem?_eq_some_iff.1 hj).1
        rw [List.getElem?_take, if_pos (by rw [List.length_take] at hlt; omega), List.getElem?_drop] at hj
        exact hj
  · rename_i s hk hu
    rw [hk] at hev
    have hev : a.eval y = .string s := hev
    split at h
    · rename_i hs
      have hs := Nat.eq_of_beq_eq_true hs
      subst hs
      refine ⟨bytesOfStr s, ⟨fun e he => by obtain ⟨b, _, rfl⟩ := List.mem_map.1 he; rfl, fun e he u hu' => by obtain ⟨b, _, rfl⟩ := List.mem_map.1 he; simp at hu'; subst hu'; rfl⟩, ?_, h⟩
      rw [hev, bytesOfStr_flatten]
      have hl : (bytesOfStr s).length = s.size := by simp [bytesOfStr]
      rw [hl]
      exact Src.ofString w hu s
    · exact h.elim
  · exact h.elim
theorem WExt.mono {S S' : Nat → Prop} {w w' : World} (h : WExt S w w') (hs : ∀ b, S b → S' b) : WExt S' w w' := ⟨h.tape, h.os, h.output, h.size, fun b hb hn => h.block b hb (fun hs' => hn (hs b hs'))⟩
theorem ownBlock_blk {v : Value} {b : Nat} (h : v.ownBlock = some b) : blk v = some b := by
  cases v <;> simp [Value.ownBlock] at h
  case slice ad n c => cases ad <;> simp at h; simpa [blk] using h
theorem rowsOk_append {sz : Nat} {xs ys : List (List Value)} (hx : RowsOk sz xs) (hy : RowsOk sz ys) : RowsOk sz (xs ++ ys) :=
  ⟨fun e he => (List.mem_append.1 he).elim (hx.len e) (hy.len e), fun e he => (List.mem_append.1 he).elim (hx.one e) (hy.one e)⟩
theorem ownsRow_slice {E sz n : Nat} {v : Value} {l : List Value} (h : w.ownsRow 0 E sz v n l) {b : Nat} (hb : blk v = some b) : v.ownBlock = some b := by
  rcases h.2 with ⟨rfl, _⟩ | ⟨g, cap, cur, rfl, _⟩
  · simp [blk] at hb
  · simpa [blk, Value.ownBlock] using hb
/-- A change of m. -/
theorem m_change (hM : Models B ι σ a w) {w' : World} {m' : MH} {S : Nat → Prop} (he : WExt S w w') (hS : ∀ b, S b → σ.m b ≠ none) (hm' : ∀ b o, m' b = some o → w'.heap[b]? = some o ∧ (σ.m b ≠ none ∨ w.heap.size ≤ b)) :
    Models B ι { σ with m := m' } a w' ∧ ∀ o, grows o.op = false → Keep σ ι o w w' := by
  have hw := hM.wrel
  have hnone : ∀ b, w.heap.size ≤ b → ∀ i, σ.h b i = none := by
    intro b hb i
    cases e : σ.h b i with
    | none => rfl
    | some v => have := World.block_lt_of_cell? w ⟨b, i, none⟩ (hw.hsat _ _ _ e); simp at this; omega
  have hSh : ∀ b, S b → ∀ i, σ.h b i = none := by
    intro b hb i
    cases e : σ.m b with
    | none => exact absurd e (hS b hb)
    | some x => exact hw.disj b x e i
  have hnb : ∀ k o' b, nth σ.own k = some (some o') → blk (ι k) = some b → ¬ S b := by
    intro k o' b hk hb hs
    exact hS b hs (hM.fresh k o' b hk hb).2.1
  have hcell : ∀ b i v, σ.h b i = some v → w'.cell? ⟨b, i, none⟩ = some v := by
    intro b i v hv
    have h2 := hw.hsat b i v hv
    rw [← h2]
    exact World.cell?_of_block (w := w) (w' := w') (a := ⟨b, i, none⟩) (he.block b (World.block_lt_of_cell? w ⟨b, i, none⟩ h2) (fun hs => by rw [hSh b hs i] at hv; cases hv))
  refine ⟨⟨hM.slots, hM.defers, fun k o' hk => (hM.own k o' hk).world (fun b hb => he.block b (blk_lt (hM.own k o' hk) hb) (hnb k o' b hk hb)), hM.dist, ?_, ?_, hM.one⟩, fun o hg => ⟨?_, hcell, fun h => (by rw [hg] at h; cases h), fun l b _ h1 h2 _ => he.block b h1 (fun hs => hS b hs h2)⟩⟩
  · intro k o' b hk hb
    obtain ⟨f1, f2, f3⟩ := hM.fresh k o' b hk hb
    refine ⟨f1, ?_, f3⟩
    show m' b = none
    cases e : m' b with
    | none => rfl
    | some x =>
      rcases (hm' b x e).2 with h1 | h1
      · exact absurd f2 h1
      · have := blk_lt (hM.own k o' hk) hb; omega
  · refine ⟨he.tape.trans hw.tape, he.os.trans hw.os, he.output.trans hw.output, Nat.le_trans hw.size he.size, ?_, hcell, fun b o e => (hm' b o e).1, ?_, hw.hle, hw.hold, ?_⟩
    · intro b hb hE
      rw [he.block b (Nat.lt_of_lt_of_le hb hw.size) (fun hs => ?_)]
      · exact hw.frame b hb hE
      · cases e : σ.m b with
        | none => exact hS b hs e
        | some x =>
          rcases hw.mfr b x e with h1 | h1
          · omega
          · exact hE h1
    · intro b o e i
      rcases (hm' b o e).2 with h1 | h1
      · cases e2 : σ.m b with
        | none => exact absurd e2 h1
        | some x => exact hw.disj b x e2 i
      · exact hnone b h1 i
    · intro b o e
      rcases (hm' b o e).2 with h1 | h1
      · cases e2 : σ.m b with
        | none => exact absurd e2 h1
        | some x => exact hw.mfr b x e2
      · exact .inl (Nat.le_trans hw.size h1)
  · intro k T cs b hk _ hι
    have hb : blk (ι k) = some b := by rw [hι]; rfl
    exact he.block b (blk_lt (hM.own k _ hk) hb) (hnb k _ b hk hb)
theorem append_sound (hM : Models B ι σ a w) {T tx : Nat} {x y : Operand} {c : Call} (ho : o.op = .call c) (hc : c.callee = .builtin .append) (hx : c.args.toList = [x, y]) (ht : c.argTypes.toList = [T, tx])
    (h : appendVC C o T tx x y σ K) : Stp B C ι o σ K a w := by
  intro next Q hnext
  have hargs : c.args = #[x, y] := by apply Array.toList_inj.1; simpa using hx
  have htys : c.argTypes = #[T, tx] := by apply Array.toList_inj.1; simpa using ht
  unfold appendVC at h
  split at h
  · rename_i d E z hd hE
    obtain ⟨it, zv, hu, hi, hv, rfl, hsz, hcs, hpos, hone⟩ := elemOf_spec hE
    have hby : C.P.bytesOf E = it.bytes := by simp [Program.bytesOf, hi]
    have hrun : ∀ v' w', (Builtin.append_ #[T, tx] o.type #[a.eval x, a.eval y]).run C.P w = .ok v' w' → (execOp a.eval o).run C.P w = .ok (.value v') w' := by
      intro v' w' hr
      unfold execOp
      simp only [ho, resolve, hc, hargs, htys, invoke, builtin, Sem.run_bind, Sem.run_pure, Result.andThen_ok, List.map_toArray, List.map_cons, List.map_nil]
      rw [hr]
      rfl
    have mcase : ∀ (ad : Option Addr) (n cp : Nat), σ.ev x = .at (.val (.slice ad n cp)) → (∃ xs : List (List Value), MRow σ.m ⟨ad, n, cp⟩ E (C.P.cellsOf E) xs ∧
        srcVC C.P (lentB C) σ (C.P.cellsOf E) tx (σ.ev y) fun ys =>
          (xs.length + ys.length) * C.P.bytesOf E ≤ 140737488355328 ∧ xs.length + ys.length ≤ 140737488355328 ∧
          ∀ (s' : Sl) (m' : MH), MGrown σ.m m' ⟨ad, n, cp⟩ s' E (C.P.cellsOf E) (xs ++ ys) → K ({ σ with m := m' }.put (some d) (.at (.val s'.val)))) → o.wp C.P a w next Q := by
      intro ad n cp hxx h
      have hev := hM.ev x
      rw [hxx] at hev
      have hev : a.eval x = .slice ad n cp := hev
      obtain ⟨xs, hrow, h⟩ := h
      obtain ⟨ys, hr, hsrc, hb1, hb2, h⟩ := src_of hM h
      rw [hcs] at hr hsrc h
      rw [hby] at hb1
      have hrows := hrow.rows
      rw [hcs] at hrows
      have hox : w.ownsRow 0 E it.size (.slice ad n cp) xs.length xs.flatten := by
        refine ⟨flatten_length hrows.len, ?_⟩
        rcases hrow.ex with ⟨e1, e2⟩ | ⟨b, cap, cur, e1, hm, h1, h2, h3, h4⟩
        · simp only [Sl.mk.injEq] at e1
          obtain ⟨rfl, rfl, rfl⟩ := e1
          exact .inl ⟨rfl, by rw [e2]; rfl⟩
        · simp only [Sl.mk.injEq] at e1
          obtain ⟨rfl, rfl, rfl⟩ := e1
          exact .inr ⟨b, _, cur, rfl, Nat.zero_le _, hM.wrel.msat b _ hm, h1, h2, by rw [← hcs]; exact h3, by rw [← hcs]; exact h4⟩
      have hblkm : ∀ b, Value.ownBlock (.slice ad n cp) = some b → σ.m b ≠ none := by
        intro b hb
        rcases hrow.ex with ⟨e1, e2⟩ | ⟨b', cap, cur, e1, hm, _⟩
        · simp only [Sl.mk.injEq] at e1
          obtain ⟨rfl, rfl, rfl⟩ := e1
          simp [Value.ownBlock] at hb
        · simp only [Sl.mk.injEq] at e1
          obtain ⟨rfl, rfl, rfl⟩ := e1
          simp [Value.ownBlock] at hb
          subst hb
          rw [hm]; simp
      obtain ⟨v', w', hrr, hown', hext, hblk, hone'⟩ := run_append_lst (P := C.P) w T tx o.type E it zv hu hi hv hsz (.slice ad n cp) xs.length xs.flatten hox (a.eval y) ys.length ys.flatten hsrc (by unfold maxLen; omega) hb1
      rw [← List.flatten_append, ← List.length_append] at hown'
      obtain ⟨ad', n', cp', rfl⟩ : ∃ ad' n' cp', v' = .slice ad' n' cp' := by
        rcases hown'.2 with ⟨e, _⟩ | ⟨g, cap, cur, e, _⟩
        · exact ⟨_, _, _, e⟩
        · exact ⟨_, _, _, e⟩
      let m' : MH := fun b => if Value.ownBlock (.slice ad' n' cp') = some b then w'.heap[b]? else if Value.ownBlock (.slice ad n cp) = some b then none else σ.m b
      have hm'b : ∀ b, Value.ownBlock (.slice ad' n' cp') = some b → m' b = w'.heap[b]? := fun b hb => by simp only [m', if_pos hb]
      obtain ⟨hM1, hk⟩ := m_change (m' := m') hM hext hblkm (by
        intro b ob hb
        by_cases e1 : Value.ownBlock (.slice ad' n' cp') = some b
        · rw [hm'b b e1] at hb
          refine ⟨hb, ?_⟩
          rcases hblk b e1 with h1 | h1
          · exact .inr h1
          · exact .inl (hblkm b h1)
        · by_cases e2 : Value.ownBlock (.slice ad n cp) = some b
          · simp only [m', if_neg e1, if_pos e2] at hb; cases hb
          · simp only [m', if_neg e1, if_neg e2] at hb
            refine ⟨?_, .inl (by rw [hb]; simp)⟩
            have h1 := hM.wrel.msat b ob hb
            rw [hext.block b (Array.getElem?_eq_some_iff.1 h1).1 e2]; exact h1)
      unfold Oper.wp
      rw [hrun _ w' (by rw [hev]; exact hrr), Oper.upon_value, hd]
      refine hnext ι _ _ _ (hM1.put (some d) (x := .at (.val (.slice ad' n' cp'))) rfl) (h ⟨ad', n', cp'⟩ m' ⟨⟨?_, ?_⟩, ?_, ?_⟩) (hk o (by rw [ho]; rfl))
      · exact rowsOk_append hrows hr
      · rcases hown'.2 with ⟨e1, e2⟩ | ⟨b, cap, cur, e1, _, hh, h1, h2, h3, h4⟩
        · simp only [Value.slice.injEq] at e1
          obtain ⟨rfl, rfl, rfl⟩ := e1
          exact .inl ⟨rfl, List.eq_nil_of_length_eq_zero e2⟩
        · simp only [Value.slice.injEq] at e1
          obtain ⟨rfl, rfl, rfl⟩ := e1
          exact .inr ⟨b, _, cur, rfl, by rw [hm'b b rfl]; exact hh, h1, h2, h3, h4⟩
      · intro b ob hb hne
        have e2 : Value.ownBlock (.slice ad n cp) ≠ some b := by
          intro e
          rcases hrow.ex with ⟨e1, _⟩ | ⟨b', cap, cur, e1, hm, _⟩
          · simp only [Sl.mk.injEq] at e1
            obtain ⟨rfl, rfl, rfl⟩ := e1
            simp [Value.ownBlock] at e
          · simp only [Sl.mk.injEq] at e1
            obtain ⟨rfl, rfl, rfl⟩ := e1
            simp [Value.ownBlock] at e
            subst e
            exact hne 0 rfl
        have e1 : Value.ownBlock (.slice ad' n' cp') ≠ some b := by
          intro e
          rcases hblk b e with h1 | h1
          · have := (Array.getElem?_eq_some_iff.1 (hM.wrel.msat b ob hb)).1; omega
          · exact e2 h1
        simp only [m', if_neg e1, if_neg e2]; exact hb
      · intro b i e
        have e : ad' = some ⟨b, i, none⟩ := e
        rcases hblk b (by rw [e]; rfl) with h1 | h1
        · left
          cases e2 : σ.m b with
          | none => rfl
          | some x => have := (Array.getElem?_eq_some_iff.1 (hM.wrel.msat b x e2)).1; omega
        · right
          rcases hrow.ex with ⟨e1, _⟩ | ⟨b', cap, cur, e1, hm, _⟩
          · simp only [Sl.mk.injEq] at e1
            obtain ⟨rfl, rfl, rfl⟩ := e1
            simp [Value.ownBlock] at h1
          · simp only [Sl.mk.injEq] at e1
            obtain ⟨rfl, rfl, rfl⟩ := e1
            simp [Value.ownBlock] at h1
            exact ⟨0, by rw [h1]⟩
    split at h
    · rename_i ad n cp hin hxx
      exact mcase ad n cp hxx h
    rename_i hnin
    clear hnin
    split at h
    · rename_i hxx
      have hev := hM.ev x
      rw [hxx] at hev
      have hev : a.eval x = .slice none 0 0 := hev
      split at h
      · rename_i n hz0
        obtain ⟨kn, kq, htn, hyy⟩ : ∃ kn kq, C.P.underlying tx = some (.int kn) ∧ σ.ev y = .at (.val (.int kq n)) := by
          unfold zerosOf at hz0
          split at hz0
          · rename_i kn htn
            split at hz0
            · rename_i kq n' hyy
              simp only [Option.some.injEq] at hz0
              subst hz0
              exact ⟨kn, kq, htn, hyy⟩
            · cases hz0
          · cases hz0
        have hy := hM.ev y
        rw [hyy] at hy
        have hy : a.eval y = .int kq n := hy
        obtain ⟨h0, hb1, hb2, h⟩ := h
        rw [hcs] at h
        rw [hby] at hb1
        obtain ⟨k, rfl⟩ : ∃ k : Nat, n = k := ⟨n.toNat, by omega⟩
        have hb1' : k * it.bytes ≤ 140737488355328 := by rw [← Int.natCast_mul] at hb1; omega
        obtain ⟨v', w', hrr, hown, hext, hblk, hone'⟩ := run_append_zeros (P := C.P) w T tx o.type E it zv kq kn hu htn hi hv hsz (by omega) k (by omega) hb1' (by omega)
        unfold Oper.wp
        rw [hrun v' w' (by rw [hev, hy]; exact hrr), Oper.upon_value, hd]
        refine hnext (upd ι d v') _ _ _ ?_ h ?_
        · refine Models.put ?_ (some d) (by show _ = _; simp)
          refine hM.place d _ v' (hext.mono (fun b hb => hb.elim)) ⟨?_, ?_⟩ hone' (fun b hb => .inl (hblk b (ownsRow_slice hown hb)))
          · exact rowsOk_replicate (by simpa using hsz) hone _
          · simpa using hown
        · exact keep_of hM d (fun _ => touches_dst hd) (fun b hb _ => hext.block b hb (fun h1 => h1.elim)) (fun hg => by rw [ho] at hg; simp [grows] at hg) (fun l e => by simp_all [callArgs])
      · obtain ⟨ys, hr, hsrc, hb1, hb2, h⟩ := src_of hM h
        rw [hcs] at hr hsrc h
        rw [hby] at hb1
        obtain ⟨v', w', hrr, hown, hext, hblk, hone'⟩ := run_append_lst (P := C.P) w T tx o.type E it zv hu hi hv hsz (.slice none 0 0) 0 [] (World.ownsRow_nil w 0 E it.size) (a.eval y) ys.length ys.flatten hsrc (by unfold maxLen; omega) (by simpa using hb1)
        simp only [Nat.zero_add, List.nil_append] at hown
        unfold Oper.wp
        rw [hrun v' w' (by rw [hev]; exact hrr), Oper.upon_value, hd]
        refine hnext (upd ι d v') _ _ _ ?_ h ?_
        · refine Models.put ?_ (some d) (by show _ = _; simp)
          refine hM.place d _ v' (hext.mono (fun b hb => by simp [Value.ownBlock] at hb)) ⟨hr, hown⟩ hone' (fun b hb => ?_)
          rcases hblk b (ownsRow_slice hown hb) with h1 | h1
          · exact .inl h1
          · simp [Value.ownBlock] at h1
        · exact keep_of hM d (fun _ => touches_dst hd) (fun b hb _ => hext.block b hb (fun h1 => by simp [Value.ownBlock] at h1)) (fun hg => by rw [ho] at hg; simp [grows] at hg) (fun l e => by simp_all [callArgs])
    · rename_i k hxx
      have hev := hM.ev x
      rw [hxx] at hev
      have hev : a.eval x = ι k := hev
      split at h
      · rename_i E' sz xs hown hsame
        split at h
        · rename_i hE' hs'
          have hE' := Nat.eq_of_beq_eq_true hE'
          have hs' := Nat.eq_of_beq_eq_true hs'
          subst hE'
          rw [hcs] at hs'
          subst hs'
          obtain ⟨ys, hr, hsrc, hb1, hb2, h⟩ := src_of hM h
          rw [hby] at hb1
          obtain ⟨hrx, hox⟩ := own_lst hM hown
          obtain ⟨v', w', hrr, hown', hext, hblk, hone'⟩ := run_append_lst (P := C.P) w T tx o.type E' it zv hu hi hv hsz (ι k) xs.length xs.flatten hox (a.eval y) ys.length ys.flatten hsrc (by unfold maxLen; omega) hb1
          rw [← List.flatten_append, ← List.length_append] at hown'
          unfold Oper.wp
          rw [hrun v' w' (by rw [hev]; exact hrr), Oper.upon_value, hd]
          refine hnext (upd ι k v') _ _ _ ?_ h ?_
          · refine Models.put ?_ (some d) (by show _ = _; simp)
            refine hM.place k _ v' (hext.mono (fun b hb => ⟨⟨_, hown⟩, ownBlock_blk hb⟩)) ⟨rowsOk_append hrx hr, hown'⟩ hone' (fun b hb => ?_)
            rcases hblk b (ownsRow_slice hown' hb) with h1 | h1
            · exact .inl h1
            · exact .inr ⟨⟨_, hown⟩, ownBlock_blk h1⟩
          · refine keep_of hM k (fun ⟨T', cs', e⟩ => by rw [hown] at e; cases e) (fun b hb hn => hext.block b hb (fun h1 => hn ⟨⟨_, hown⟩, ownBlock_blk h1⟩)) (fun hg => by rw [ho] at hg; simp [grows] at hg) (fun l e => by simp_all [callArgs])
        · exact h.elim
      · exact h.elim
    · rename_i ad n cp _ hxx
      exact mcase ad n cp hxx h
    · exact h.elim
  · exact h.elim
/-- The own object k is rewritten where it lies. -/
theorem Models.rewrite (hM : Models B ι σ a w) {k : Nat} {ow ow' : Own} {w' : World} (hk : nth σ.own k = some (some ow)) (he : WExt (fun b => blk (ι k) = some b) w w') (ho : OwnOk ι w' (ι k) ow') :
    Models B ι (σ.setOwn k (some ow')) a w' := by
  have hcases : ∀ j o', nth (σ.setOwn k (some ow')).own j = some (some o') → (j = k ∧ o' = ow') ∨ (j ≠ k ∧ nth σ.own j = some (some o')) := by
    intro j o' hj
    simp only [St.setOwn, nth_set] at hj
    by_cases e : j = k
    · subst e
      by_cases hl : j < σ.own.length
      · simp [hl] at hj; exact .inl ⟨rfl, hj.symm⟩
      · simp [hl, nth_eq] at hj
    · simp only [e, false_and, if_false] at hj
      exact .inr ⟨e, hj⟩
  refine ⟨hM.slots, hM.defers, ?_, ?_, ?_, ?_, hM.one⟩
  · intro j o' hj
    rcases hcases j o' hj with ⟨rfl, rfl⟩ | ⟨hne, hj'⟩
    · exact ho
    · have hok := hM.own j o' hj'
      refine hok.world (fun b hb => he.block b (blk_lt hok hb) (fun hb' => hne (hM.dist j k _ _ b hj' hk hb hb')))
  · intro j j' o1 o2 b hj hj' hb hb'
    rcases hcases j o1 hj with ⟨rfl, rfl⟩ | ⟨hne, h1⟩ <;> rcases hcases j' o2 hj' with ⟨rfl, rfl⟩ | ⟨hne', h2⟩
    · rfl
    · exact hM.dist _ _ _ _ b hk h2 hb hb'
    · exact hM.dist _ _ _ _ b h1 hk hb hb'
    · exact hM.dist _ _ _ _ b h1 h2 hb hb'
  · intro j o1 b hj hb
    rcases hcases j o1 hj with ⟨rfl, rfl⟩ | ⟨hne, h1⟩
    · exact hM.fresh _ _ b hk hb
    · exact hM.fresh _ _ b h1 hb
  · exact hM.wrel.ext he (fun b hb => hM.fresh k ow b hk hb)
theorem storable_one (hone : ∀ k, (ι k).oneCell' = true) : ∀ {cs : List At} {vs : List Value}, allStorable cs = true → DenL ι cs vs → ∀ v ∈ vs, v.oneCell' = true
  | [], [], _, _, v, hv => by cases hv
  | x :: cs, u :: vs, hs, hd, v, hv => by
    simp only [allStorable] at hs
    split at hs
    · rename_i hx
      rcases List.mem_cons.1 hv with rfl | hv
      · have hd1 := hd.1
        cases x with
        | val u' =>
          have : v = u' := hd1
          subst this
          cases v <;> first | rfl | (simp [At.storable] at hx)
        | ptr k off => obtain ⟨b, _, rfl⟩ := hd1; rfl
        | lst k => have : v = ι k := hd1; rw [this]; exact hone k
        | el k i sz off => obtain ⟨b, n, c, _, rfl⟩ := hd1; rfl
        | junk => simp [At.storable] at hx
      · exact storable_one hone hs hd.2 v hv
    · cases hs
  | [], _ :: _, _, h, _, _ => h.elim
  | _ :: _, [], _, h, _, _ => h.elim
theorem run_storeVar {P : Program} {T : TypeId} {w : World} {g off : Nat} {cur : Array Value} {E : TypeId} {v : Value} (hT : hasCells P T = true) (hsz : v.cells.size = P.cellsOf T) (hg : w.heap[g]? = some (.cells cur E (0, 0)))
    (hle : off + v.cells.size ≤ cur.size) (h1 : ∀ u ∈ v.cells.toList, u.oneCell' = true) :
    (storeVar T ⟨g, off, none⟩ v).run P w = .ok () (w.setRow g (splice cur.toList off v.cells.toList).toArray) := by
  obtain ⟨i, d, hi, hd, hc, hpos⟩ := info_of_hasCells hT
  have hst := run_storeCells_at P g off E v.cells.toList 0 cur w hg (by simpa using hle) h1
  simp only [Nat.add_zero] at hst
  unfold storeVar
  rw [hc] at hsz
  simp only [Sem.run_bind, run_sizeOf hi, Result.andThen_ok]
  rw [if_neg (by omega)]
  simp only [hst, splice]
theorem wext_setRow (w : World) (g : Nat) (cs : Array Value) : WExt (fun b => b = g) w (w.setRow g cs) :=
  ⟨rfl, rfl, rfl, by simp, fun b _ hb => setRow_other w g b cs hb⟩
theorem vals_of_den {cs : List At} {l vs : List Value} (hl : vals? cs = some l) (hd : DenL ι cs vs) : vs = l := by
  rw [vals?_eq hl, DenL.vals] at hd; exact hd
theorem flatten_set {sz : Nat} {l : List Value} : ∀ {xs : List (List Value)} {i : Nat} {e : List Value} {off : Nat}, (∀ e ∈ xs, e.length = sz) → xs[i]? = some e → off + l.length ≤ e.length →
    splice xs.flatten (i * sz + off) l = (xs.set i (splice e off l)).flatten
  | [], i, e, off, _, hi, _ => by simp at hi
  | x :: xs, 0, e, off, hl, hi, hle => by
    simp at hi
    subst hi
    simp only [splice, Nat.zero_mul, Nat.zero_add, List.flatten_cons, List.set_cons_zero, List.append_assoc]
    rw [List.take_append_of_le_length (by omega), List.drop_append_of_le_length (by omega)]
  | x :: xs, i + 1, e, off, hl, hi, hle => by
    simp only [List.getElem?_cons_succ] at hi
    have hx : x.length = sz := hl x (by simp)
    have ih := flatten_set (fun e he => hl e (by simp [he])) hi hle
    rw [List.set_cons_succ, List.flatten_cons, List.flatten_cons, ← ih]
    simp only [splice]
    have e1 : (i + 1) * sz + off = x.length + (i * sz + off) := by rw [hx, Nat.succ_mul]; omega
    rw [e1, List.take_length_add_append, show x.length + (i * sz + off) + l.length = x.length + (i * sz + off + l.length) by omega, List.drop_length_add_append]
    simp
theorem splice_rowsOk {sz : Nat} {xs : List (List Value)} {i off : Nat} {e l : List Value} (hr : RowsOk sz xs) (hi : xs[i]? = some e) (hle : off + l.length ≤ e.length) (h1 : ∀ u ∈ l, u.oneCell' = true) :
    RowsOk sz (xs.set i (splice e off l)) := by
  have hmem : e ∈ xs := List.mem_of_getElem? hi
  constructor
  · intro e' he
    rcases List.mem_or_eq_of_mem_set he with h | h
    · exact hr.len e' h
    · rw [h, splice_length _ _ _ hle]; exact hr.len e hmem
  · intro e' he u hu
    rcases List.mem_or_eq_of_mem_set he with h | h
    · exact hr.one e' h u hu
    · rw [h] at hu
      unfold splice at hu
      rcases List.mem_append.1 hu with h2 | h2
      · rcases List.mem_append.1 h2 with h3 | h3
        · exact hr.one e hmem u (List.mem_of_mem_take h3)
        · exact h1 u h3
      · exact hr.one e hmem u (List.mem_of_mem_drop h2)
theorem take_splice (u l : List Value) (p N : Nat) (h1 : p + l.length ≤ N) (h2 : N ≤ u.length) : (splice u p l).take N = splice (u.take N) p l := by
  apply List.ext_getElem?
  intro j
  simp only [splice, List.getElem?_take, List.getElem?_append, List.length_append, List.length_take, List.getElem?_drop]
  have e1 : min p u.length = p := by omega
  have e2 : min N u.length = N := by omega
  have e3 : min p N = p := by omega
  simp only [e1, e2, e3]
  by_cases hN : j < N
  · by_cases hp : j < p
    · simp [hN, hp, show j < p + l.length by omega]
    · by_cases hl : j < p + l.length
      · simp [hN, hp, hl]
      · simp [hN, hl, show p + l.length + (j - (p + l.length)) < N by omega]
  · simp [hN, show ¬ j < p + l.length by omega, show ¬ p + l.length + (j - (p + l.length)) < N by omega]
theorem store_sound (hM : Models B ι σ a w) {T : Nat} {x v : Operand} (ho : o.op = .store T x v) (hdst : o.dst = none) (h : storeVC C T x v σ K) : Stp B C ι o σ K a w := by
  intro next Q hnext
  have hev := hM.ev x
  unfold storeVC at h
  split at h
  · exact h.elim
  · rename_i new hnew
    split at h
    · rename_i hlen hst hT
      have hlen := Nat.eq_of_beq_eq_true hlen
      have hd := den_cells hM.one (hM.ev v) hnew
      have h1 := storable_one hM.one hst hd
      have hdl : new.length = (a.eval v).cells.size := by have := hd.length; simpa using this
      have hrun : ∀ g off cur E, a.eval x = .pointer (some ⟨g, off, none⟩) → w.heap[g]? = some (.cells cur E (0, 0)) → off + (a.eval v).cells.size ≤ cur.size →
          (execOp a.eval o).run C.P w = .ok .skip (w.setRow g (splice cur.toList off (a.eval v).cells.toList).toArray) := by
        intro g off cur E hx hg hle
        unfold execOp
        simp only [ho, hx, Instr.storeAt, Instr.sureAddr, Sem.run_bind, Sem.run_pure, Result.andThen_ok, run_storeVar hT (by omega) hg hle h1]
      have hput : a.put o.dst undef = a := by rw [hdst]; rfl
      split at h
      · rename_i k off hx
        rw [hx] at hev
        split at h
        · rename_i E cs hk
          split at h
          · rename_i hle
            have hle := Nat.le_of_ble_eq_true hle
            obtain ⟨b, vs, hι, hh, hdc⟩ := own_cells hM hk
            obtain ⟨b', hb', hp⟩ := hev
            rw [hι] at hb'
            simp only [Value.pointer.injEq, Option.some.injEq, Addr.mk.injEq] at hb'
            obtain ⟨rfl, -, -⟩ := hb'
            have hvs : cs.length = vs.size := by have := hdc.length; simpa using this
            unfold Oper.wp
            rw [hrun b off vs E hp hh (by omega), Oper.upon_skip, hput]
            have hbk : blk (ι k) = some b := by rw [hι]; rfl
            have hext := wext_setRow w b (splice vs.toList off (a.eval v).cells.toList).toArray
            refine hnext ι _ _ _ (hM.rewrite hk (hext.mono (fun b' hb' => by rw [hb']; exact hbk)) ?_) h ?_
            · exact ⟨b, _, hι, setRow_heap w b vs _ E _ hh, by simpa using hdc.splice off hd⟩
            · refine keep_of hM k (fun _ => ?_) (fun b' hb' hn => hext.block b' hb' (fun e => hn ⟨⟨_, hk⟩, by rw [e]; exact hbk⟩)) (fun hg => by rw [ho] at hg; simp [grows] at hg) (fun l e => by simp_all [callArgs])
              unfold touches
              simp [ho, hx]
          · exact h.elim
        · exact h.elim
      · rename_i k i sz off hx
        rw [hx] at hev
        split at h
        · rename_i E s xs l hk hl
          split at h
          · rename_i hs
            have hs := Nat.eq_of_beq_eq_true hs
            subst hs
            obtain ⟨e, he, hle, h⟩ := h
            obtain ⟨hr, hown⟩ := own_lst hM hk
            obtain ⟨b, n, c, hι, hp⟩ := hev
            have hvl : (a.eval v).cells.toList = l := vals_of_den hl hd
            rcases hown.2 with ⟨hv, hn⟩ | ⟨g, cap, cur, hv, _, hg, hnc, hcm, hcs, htake⟩
            · rw [hι] at hv; cases hv
            · rw [hι] at hv
              simp only [Value.slice.injEq, Option.some.injEq, Addr.mk.injEq] at hv
              obtain ⟨⟨rfl, -, -⟩, rfl, rfl⟩ := hv
              have hil : i < xs.length := (List.getElem?_eq_some_iff.1 he).1
              have hel : e.length = s := hr.len e (List.mem_of_getElem? he)
              have hll : (a.eval v).cells.size = l.length := by rw [← hvl]; simp
              have hflat := flatten_length hr.len
              have hin : i * s + off + l.length ≤ xs.length * s := by
                have : (i + 1) * s ≤ xs.length * s := Nat.mul_le_mul_right _ hil
                rw [Nat.succ_mul] at this
                omega
              have hcap : xs.length * s ≤ c * s := Nat.mul_le_mul_right _ hnc
              unfold Oper.wp
              rw [hrun b (i * s + off) cur E hp hg (by omega), Oper.upon_skip, hput]
              have hbk : blk (ι k) = some b := by rw [hι]; rfl
              have hext := wext_setRow w b (splice cur.toList (i * s + off) (a.eval v).cells.toList).toArray
              have hone : ∀ u ∈ l, u.oneCell' = true := by rw [← hvl]; exact h1
              refine hnext ι _ _ _ (hM.rewrite hk (hext.mono (fun b' hb' => by rw [hb']; exact hbk)) ?_) h ?_
              · have hr' := splice_rowsOk hr he hle hone
                refine ⟨hr', flatten_length hr'.len, .inr ⟨b, c, _, by rw [hι, List.length_set], Nat.zero_le _, setRow_heap w b cur _ E _ hg, by rw [List.length_set]; exact hnc, hcm, ?_, ?_⟩⟩
                · simp only [List.size_toArray, hvl]
                  rw [splice_length]
                  · simpa using hcs
                  · simp; omega
                · rw [List.length_set]
                  rw [← flatten_set hr.len he hle, hvl, ← htake]
                  have hcl : cur.toList.length = c * s := by simpa using hcs
                  exact take_splice cur.toList l (i * s + off) (xs.length * s) hin (by omega)
              · refine keep_of hM k (fun ⟨T', cs', e'⟩ => by rw [hk] at e'; cases e') (fun b' hb' hn' => hext.block b' hb' (fun e' => hn' ⟨⟨_, hk⟩, by rw [e']; exact hbk⟩)) (fun hg => by rw [ho] at hg; simp [grows] at hg) (fun l e => by simp_all [callArgs])
          · exact h.elim
        · exact h.elim
      · rename_i b off hx
        rw [hx] at hev
        have hev : a.eval x = .pointer (some ⟨b, off, none⟩) := hev
        split at h
        · rename_i l hl
          obtain ⟨cs, E, hm, hle, h⟩ := h
          have hvl : (a.eval v).cells.toList = l := vals_of_den hl hd
          have hll : (a.eval v).cells.size = l.length := by rw [← hvl]; simp
          have hg := hM.wrel.msat b _ hm.at_
          let m' : MH := fun b' => if b' = b then some (.cells (splice cs.toList off l).toArray E (0, 0)) else σ.m b'
          unfold Oper.wp
          rw [hrun b off cs E hev hg (by omega), Oper.upon_skip, hput, hvl]
          have hext := wext_setRow w b (splice cs.toList off l).toArray
          have hnb : ∀ k o', nth σ.own k = some (some o') → blk (ι k) ≠ some b := by
            intro k o' hk hb
            have := (hM.fresh k o' b hk hb).2.1
            rw [hm.at_] at this; cases this
          refine hnext ι { σ with m := m' } _ _ ?_ (h m' ⟨by simp [m'], fun b' hb' => by simp [m', hb']⟩) ?_
          · refine ⟨hM.slots, hM.defers, ?_, hM.dist, ?_, ?_, hM.one⟩
            · intro k o' hk
              exact (hM.own k o' hk).world (fun b' hb' => hext.block b' (blk_lt (hM.own k o' hk) hb') (fun e => hnb k o' hk (e ▸ hb')))
            · intro k o' b' hk hb'
              obtain ⟨f1, f2, f3⟩ := hM.fresh k o' b' hk hb'
              refine ⟨f1, ?_, f3⟩
              have hne : b' ≠ b := fun e => hnb k o' hk (e ▸ hb')
              simp [m', hne, f2]
            · have hw := hM.wrel
              refine ⟨hw.tape, hw.os, hw.output, Nat.le_trans hw.size hext.size, ?_, ?_, ?_, ?_, hw.hle, hw.hold, ?_⟩
              · intro b' hb' hE
                have hne : b' ≠ b := fun e => by
                  subst e
                  rcases hw.mfr b' _ hm.at_ with h2 | h2
                  · omega
                  · exact hE h2
                rw [hext.block b' (Nat.lt_of_lt_of_le hb' hw.size) hne]
                exact hw.frame b' hb' hE
              · intro b' off' u hu
                have hne : b' ≠ b := fun e => by subst e; rw [hw.disj b' _ hm.at_ off'] at hu; cases hu
                have h2 := hw.hsat b' off' u hu
                rw [← h2]
                exact World.cell?_of_block (w := w) (a := ⟨b', off', none⟩) (hext.block b' (World.block_lt_of_cell? w ⟨b', off', none⟩ h2) hne)
              · intro b' ob hb'
                have hb'' : (if b' = b then some (Obj.cells (splice cs.toList off l).toArray E (0, 0)) else σ.m b') = some ob := hb'
                by_cases e : b' = b
                · subst e
                  rw [if_pos rfl] at hb''
                  rw [setRow_heap w b' cs _ E _ hg]
                  exact hb''
                · rw [if_neg e] at hb''
                  have h2 := hw.msat b' ob hb''
                  rw [hext.block b' (Array.getElem?_eq_some_iff.1 h2).1 e]
                  exact h2
              · intro b' ob hb' i
                have hb'' : (if b' = b then some (Obj.cells (splice cs.toList off l).toArray E (0, 0)) else σ.m b') = some ob := hb'
                by_cases e : b' = b
                · subst e; exact hw.disj b' _ hm.at_ i
                · rw [if_neg e] at hb''; exact hw.disj b' _ hb'' i
              · intro b' ob hb'
                have hb'' : (if b' = b then some (Obj.cells (splice cs.toList off l).toArray E (0, 0)) else σ.m b') = some ob := hb'
                by_cases e : b' = b
                · subst e; exact hw.mfr b' _ hm.at_
                · rw [if_neg e] at hb''; exact hw.mfr b' _ hb''
          · constructor
            · intro k T' cs' b' hk ht hι
              exact hext.block b' (blk_lt (hM.own k _ hk) (by rw [hι]; rfl)) (fun e => hnb k _ hk (by rw [hι, ← e]; rfl))
            · intro b' off' u hu
              have hne : b' ≠ b := fun e => by subst e; rw [hM.wrel.disj b' _ hm.at_ off'] at hu; cases hu
              have h2 := hM.wrel.hsat b' off' u hu
              rw [← h2]
              exact World.cell?_of_block (w := w) (a := ⟨b', off', none⟩) (hext.block b' (World.block_lt_of_cell? w ⟨b', off', none⟩ h2) hne)
            · intro hg; rw [ho] at hg; simp [grows] at hg
            · intro l' b' hl'; simp [callArgs, ho] at hl'
        · exact h.elim
      · exact h.elim
    · exact h.elim
end
end Go.Vc
namespace Go.Vc
open Go
section
variable {B : Base} {C : Ctx} {ι : Nat → Value} {σ : St} {a : Act} {w : World} {o : Oper} {K : St → Prop}
theorem keep_same (hM : Models B ι σ a w) : Keep σ ι o w w :=
  ⟨fun _ _ _ _ _ _ _ => rfl, fun b off v hv => hM.wrel.hsat b off v hv, fun _ _ _ => rfl, fun _ _ _ _ _ _ => rfl⟩
theorem slice_sound (hM : Models B ι σ a w) {T : Nat} {x : Operand} {lo hi mx : Option Operand} (ho : o.op = .slice T x lo hi mx) (h : sliceVC C o T x lo hi mx σ K) : Stp B C ι o σ K a w := by
  intro next Q hnext
  have hev := hM.ev x
  unfold sliceVC at h
  split at h
  · rename_i k n hx
    rw [hx] at hev
    have hev : a.eval x = ι k := hev
    have hevn := hM.ev n
    split at h
    · rename_i E sz xs kk i E' hk hn hu
      rw [hn] at hevn
      have hevn : a.eval n = .int kk i := hevn
      split at h
      case h_2 => exact h.elim
      rename_i hE'
      obtain ⟨h0, h1, h⟩ := h
      obtain ⟨hr, hown⟩ := own_lst hM hk
      have hrt : RowsOk sz (xs.take i.toNat) := ⟨fun e he => hr.len e (List.mem_of_mem_take he), fun e he => hr.one e (List.mem_of_mem_take he)⟩
      have hlen : (xs.take i.toNat).length = i.toNat := by rw [List.length_take]; omega
      obtain ⟨it, _, hit, _⟩ := info_of_hasCells hE'
      rcases hown.2 with ⟨hv, hnl⟩ | ⟨g, cap, cur, hv, hb0, hg, hnc, hcm, hcs, htake⟩
      · have hi0 : i = 0 := by omega
        subst hi0
        have hrun : (execOp a.eval o).run C.P w = .ok (.value (.slice none 0 0)) w := by
          unfold execOp
          simp [ho, hev, hv, hevn, Instr.sliceAt, run_underlying hu, Instr.slice, Instr.sliceBounds, Instr.sliceBound, asIntOf, run_sizeOf hit]
        unfold Oper.wp
        rw [hrun, Oper.upon_value]
        refine hnext (upd ι k (.slice none 0 0)) _ _ _ ?_ h (keep_same hM)
        refine Models.put ?_ o.dst (by show _ = _; simp)
        refine hM.place k _ _ (WExt.refl _ _) ⟨hrt, ?_⟩ rfl (fun b hb => by simp [blk] at hb)
        simp only [Int.toNat_zero, List.take_zero, List.flatten_nil, List.length_nil]
        exact World.ownsRow_nil w 0 E sz
      · have hrun : (execOp a.eval o).run C.P w = .ok (.value (.slice (some ⟨g, 0, none⟩) i.toNat cap)) w := by
          have hic : i ≤ (cap : Int) := by omega
          unfold execOp
          simp [ho, hev, hv, hevn, Instr.sliceAt, run_underlying hu, Instr.slice, Instr.sliceBounds, Instr.sliceBound, asIntOf, run_sizeOf hit, h0, hic, Addr.add_none]
        unfold Oper.wp
        rw [hrun, Oper.upon_value]
        refine hnext (upd ι k (.slice (some ⟨g, 0, none⟩) i.toNat cap)) _ _ _ ?_ h (keep_same hM)
        refine Models.put ?_ o.dst (by show _ = _; simp)
        refine hM.place k _ _ (WExt.refl _ _) ⟨hrt, flatten_length hrt.len, .inr ⟨g, cap, cur, by rw [hlen], Nat.zero_le _, hg, by omega, hcm, hcs, ?_⟩⟩ rfl (fun b hb => .inr ⟨⟨_, hk⟩, by rw [hv]; exact hb⟩)
        rw [hlen]
        have hsub : (xs.take i.toNat).flatten = xs.flatten.take (i.toNat * sz) := by
          have : xs = xs.take i.toNat ++ xs.drop i.toNat := (List.take_append_drop _ _).symm
          rw [show xs.flatten = (xs.take i.toNat).flatten ++ (xs.drop i.toNat).flatten by rw [← List.flatten_append, List.take_append_drop]]
          rw [List.take_left']
          rw [flatten_length hrt.len, hlen]
        rw [hsub, ← htake, List.take_take]
        congr 1
        have : i.toNat * sz ≤ xs.length * sz := Nat.mul_le_mul_right _ (by omega)
        omega
    · exact h.elim
  · rename_i ad len cap n hx
    rw [hx] at hev
    have hev : a.eval x = .slice ad len cap := hev
    have hevn := hM.ev n
    split at h
    · rename_i kk i E' hn hu
      rw [hn] at hevn
      have hevn : a.eval n = .int kk i := hevn
      split at h
      case h_2 => exact h.elim
      rename_i hE'
      obtain ⟨h0, h1, h⟩ := h
      obtain ⟨it, _, hit, _⟩ := info_of_hasCells hE'
      have hrun : (execOp a.eval o).run C.P w = .ok (.value (.slice ad i.toNat cap)) w := by
        unfold execOp
        simp [ho, hev, hevn, Instr.sliceAt, run_underlying hu, Instr.slice, Instr.sliceBounds, Instr.sliceBound, asIntOf, run_sizeOf hit, h0, h1]
        cases ad <;> simp [Addr.add]
      unfold Oper.wp
      rw [hrun, Oper.upon_value]
      exact hnext ι _ _ _ (hM.put o.dst (x := .at (.val _)) rfl) h (keep_same hM)
    · exact h.elim
  · rename_i b off n hx
    rw [hx] at hev
    have hev : a.eval x = .pointer (some ⟨b, off, none⟩) := hev
    have hevn := hM.ev n
    split at h
    · rename_i kk i len E' hn hu
      rw [hn] at hevn
      have hevn : a.eval n = .int kk i := hevn
      split at h
      case h_2 => exact h.elim
      rename_i hE'
      obtain ⟨h0, h1, h⟩ := h
      obtain ⟨it, _, hit, _⟩ := info_of_hasCells hE'
      have hrun : (execOp a.eval o).run C.P w = .ok (.value (.slice (some ⟨b, off, none⟩) i.toNat len)) w := by
        unfold execOp
        simp [ho, hev, hevn, Instr.sliceAt, run_underlying hu, Instr.sliceBounds, Instr.sliceBound, asIntOf, run_sizeOf hit, h0, h1, Instr.sureAddr, asAddr, Addr.add]
      unfold Oper.wp
      rw [hrun, Oper.upon_value]
      exact hnext ι _ _ _ (hM.put o.dst (x := .at (.val _)) rfl) h (keep_same hM)
    · exact h.elim
  · exact h.elim
/-! ### Lending -/
structure Ld (ι : Nat → Value) (σ σ' : St) (ks : List Nat) : Prop where
  cells : ∀ k T cs, nth σ.own k = some (some (.cells T cs)) → k ∉ ks → ∃ cs', nth σ'.own k = some (some (.cells T cs'))
  imm : σ'.h = σ.h
  lst : ∀ x k, σ'.ev x = .at (.lst k) → σ.ev x = .at (.lst k)
  m_ : ∀ b, σ.m b = none → σ'.m b ≠ none → ∃ k ∈ ks, blk (ι k) = some b
theorem ev_sub_lst {σ : St} {k : Nat} {f : At → At} {m : MH} {h : PH} {own : List (Option Own)} (hf : ∀ x j, f x ≠ .lst j) {x : Operand} {j : Nat} (hx : St.ev { sl := σ.sl.map (SV.sub k f), own := own, m := m, h := h } x = .at (.lst j)) : σ.ev x = .at (.lst j) := by
  rcases ev_sub σ k f m h own x with he | ⟨v, he⟩
  · exact sub_lst hf (he ▸ hx)
  · rcases he with rfl | ⟨g, rfl⟩ | ⟨g, rfl⟩ <;> exact hx
theorem lend1 (hM : Models B ι σ a w) {k T : Nat} {cs : List At} {l : List Value} (hk : nth σ.own k = some (some (.cells T cs))) (hl : vals? cs = some l) :
    ∃ (b : Nat) (m' : MH), Unheld σ.m σ.h b ∧ MUpd σ.m m' b (.cells l.toArray T (0, 0)) ∧
      Models B ι { (σ.sub k (fun | .ptr _ o => .val (.pointer (some ⟨b, o, none⟩)) | _ => .junk)).setOwn k none with m := m' } a w ∧
      Ld ι σ { (σ.sub k (fun | .ptr _ o => .val (.pointer (some ⟨b, o, none⟩)) | _ => .junk)).setOwn k none with m := m' } [k] := by
  obtain ⟨b, vs, hι, hh, hd⟩ := own_cells hM hk
  have hvs : vs.toList = l := vals_of_den hl hd
  have hbk : blk (ι k) = some b := by rw [hι]; rfl
  obtain ⟨f1, f2, f3⟩ := hM.fresh k _ b hk hbk
  let m' : MH := fun b' => if b' = b then some (.cells l.toArray T (0, 0)) else σ.m b'
  have hM1 : Models B ι ((σ.sub k (fun | .ptr _ o => .val (.pointer (some ⟨b, o, none⟩)) | _ => .junk)).setOwn k none) a w := by
    have := hM.drop k (ι k) (hM.one k) (fun | .ptr _ o => .val (.pointer (some ⟨b, o, none⟩)) | _ => .junk) (by
      intro x v hx hd
      cases x <;> simp only [At.key, Option.some.injEq, reduceCtorEq] at hx
      case lst => trivial
      case el => trivial
      case ptr j off =>
        subst hx
        obtain ⟨b', hb', hv⟩ := hd
        rw [hι] at hb'
        simp only [Value.pointer.injEq, Option.some.injEq, Addr.mk.injEq] at hb'
        obtain ⟨rfl, -, -⟩ := hb'
        exact hv)
    rwa [upd_self] at this
  have hne : ∀ j o', nth ((σ.sub k (fun | .ptr _ o => .val (.pointer (some ⟨b, o, none⟩)) | _ => .junk)).setOwn k none).own j = some (some o') → blk (ι j) ≠ some b := by
    intro j o' hj hb
    obtain ⟨hne, o1, ho1, _⟩ := nth_sub_own hj
    exact hne (hM.dist j k _ _ b ho1 hk hb hbk)
  refine ⟨b, m', ⟨f2, f3⟩, ⟨by simp [m'], fun b' hb' => by simp [m', hb']⟩, ⟨hM1.slots, hM1.defers, hM1.own, hM1.dist, ?_, ?_, hM1.one⟩, ?_⟩
  · intro j o' b' hj hb'
    obtain ⟨g1, g2, g3⟩ := hM1.fresh j o' b' hj hb'
    refine ⟨g1, ?_, g3⟩
    have : b' ≠ b := fun e => hne j o' hj (e ▸ hb')
    show (if b' = b then _ else σ.m b') = none
    rw [if_neg this]
    exact g2
  · have hw := hM.wrel
    refine ⟨hw.tape, hw.os, hw.output, hw.size, hw.frame, hw.hsat, ?_, ?_, hw.hle, hw.hold, ?_⟩
    · intro b' ob hb'
      have hb'' : (if b' = b then some (Obj.cells l.toArray T (0, 0)) else σ.m b') = some ob := hb'
      by_cases e : b' = b
      · subst e
        rw [if_pos rfl] at hb''
        rw [hh, ← hb'']
        congr 2
        apply Array.toList_inj.1
        simpa using hvs
      · rw [if_neg e] at hb''; exact hw.msat b' ob hb''
    · intro b' ob hb' i
      have hb'' : (if b' = b then some (Obj.cells l.toArray T (0, 0)) else σ.m b') = some ob := hb'
      by_cases e : b' = b
      · subst e; exact f3 i
      · rw [if_neg e] at hb''; exact hw.disj b' ob hb'' i
    · intro b' ob hb'
      have hb'' : (if b' = b then some (Obj.cells l.toArray T (0, 0)) else σ.m b') = some ob := hb'
      by_cases e : b' = b
      · subst e; exact f1
      · rw [if_neg e] at hb''; exact hw.mfr b' ob hb''
  · refine ⟨?_, rfl, fun x j hx => ev_sub_lst (fun x j => by cases x <;> simp) hx, fun b' h1 h2 => ⟨k, by simp, ?_⟩⟩
    case refine_2 =>
      have h2 : (if b' = b then some (Obj.cells l.toArray T (0, 0)) else σ.m b') ≠ none := h2
      by_cases e : b' = b
      · rw [e]; exact hbk
      · rw [if_neg e] at h2; exact (h2 h1).elim
    intro j T' cs' hj hnk
    simp only [List.mem_singleton] at hnk
    refine ⟨cs'.map (At.sub k (fun | .ptr _ o => .val (.pointer (some ⟨b, o, none⟩)) | _ => .junk)), ?_⟩
    · simp only [St.setOwn, St.sub, nth_set, nth_map, hnk, false_and, if_false, hj]
      rfl
theorem ld_m {σ τ υ : St} {k : Nat} {ks : List Nat} (h : Ld ι σ τ [k]) (h' : Ld ι τ υ ks) {b : Nat} (h1 : σ.m b = none) (h2 : υ.m b ≠ none) : ∃ j ∈ k :: ks, blk (ι j) = some b := by
  cases e : τ.m b with
  | none =>
    obtain ⟨j, hj, hb⟩ := h'.m_ b e h2
    exact ⟨j, List.mem_cons_of_mem _ hj, hb⟩
  | some o =>
    obtain ⟨j, hj, hb⟩ := h.m_ b h1 (by rw [e]; simp)
    exact ⟨j, by simp at hj; simp [hj], hb⟩
theorem lend_sound : ∀ (ks : List Nat) (σ : St), Models B ι σ a w → lendVC σ K ks → ∃ σ', Models B ι σ' a w ∧ K σ' ∧ Ld ι σ σ' ks
  | [], σ, hM, h => ⟨σ, hM, h, ⟨fun _ _ cs h _ => ⟨cs, h⟩, rfl, fun _ _ h => h, fun _ h1 h2 => (h2 h1).elim⟩⟩
  | k :: ks, σ, hM, h => by
    simp only [lendVC] at h
    split at h
    · rename_i T cs hk
      split at h
      · rename_i l hl
        obtain ⟨b, m', hun, hup, hM1, hld⟩ := lend1 hM hk hl
        obtain ⟨σ', hM', hK, hld'⟩ := lend_sound ks _ hM1 (h b m' hun hup)
        refine ⟨σ', hM', hK, ⟨fun j T' cs' hj hn => ?_, hld'.imm.trans hld.imm, fun x j hx => hld.lst x j (hld'.lst x j hx), fun b h1 h2 => ld_m hld hld' h1 h2⟩⟩
        simp only [List.mem_cons, not_or] at hn
        obtain ⟨cs'', hj'⟩ := hld.cells j T' cs' hj (by simpa using hn.1)
        exact hld'.cells j T' cs'' hj' hn.2
      · exact h.elim
    · exact h.elim
/-! ### Lending a list -/
theorem lendRow1 (hM : Models B ι σ a w) {k E sz : Nat} {xs : List (List Value)} (hk : nth σ.own k = some (some (.lst E sz xs))) :
    ∃ (s : Sl) (m' : MH), MNew σ.m m' σ.h s E sz xs ∧ Models B ι { (σ.sub k (fun | .lst _ => .val s.val | _ => .junk)).setOwn k none with m := m' } a w ∧
      Ld ι σ { (σ.sub k (fun | .lst _ => .val s.val | _ => .junk)).setOwn k none with m := m' } [k] := by
  obtain ⟨hr, hown⟩ := own_lst hM hk
  obtain ⟨s, hs⟩ : ∃ s : Sl, ι k = s.val := by
    rcases hown.2 with ⟨hv, _⟩ | ⟨g, cap, cur, hv, _⟩
    · exact ⟨⟨none, 0, 0⟩, hv⟩
    · exact ⟨⟨some ⟨g, 0, none⟩, xs.length, cap⟩, hv⟩
  have hM1 : Models B ι ((σ.sub k (fun | .lst _ => .val s.val | _ => .junk)).setOwn k none) a w := by
    have := hM.drop k (ι k) (hM.one k) (fun | .lst _ => .val s.val | _ => .junk) (by
      intro x v hx hd
      cases x <;> simp only [At.key, Option.some.injEq, reduceCtorEq] at hx
      case ptr => trivial
      case el => trivial
      case lst j =>
        subst hx
        have hd : v = ι j := hd
        show v = s.val
        rw [hd, hs])
    rwa [upd_self] at this
  have hld : ∀ m' : MH, (∀ b, σ.m b = none → m' b ≠ none → blk (ι k) = some b) → Ld ι σ { (σ.sub k (fun | .lst _ => .val s.val | _ => .junk)).setOwn k none with m := m' } [k] := by
    intro m' hmm
    refine ⟨?_, rfl, fun x j hx => ev_sub_lst (fun x j => by cases x <;> simp) hx, fun b' h1 h2 => ⟨k, by simp, hmm b' h1 h2⟩⟩
    intro j T' cs' hj hnk
    simp only [List.mem_singleton] at hnk
    refine ⟨cs'.map (At.sub k (fun | .lst _ => .val s.val | _ => .junk)), ?_⟩
    simp only [St.setOwn, St.sub, nth_set, nth_map, hnk, false_and, if_false, hj]
    rfl
  rcases hown.2 with ⟨hv, hnl⟩ | ⟨g, cap, cur, hv, hb0, hg, hnc, hcm, hcs, htake⟩
  · have hsn : s = ⟨none, 0, 0⟩ := by
      rw [hs] at hv
      obtain ⟨x, y, z⟩ := s
      simp only [Sl.val, Value.slice.injEq] at hv
      obtain ⟨rfl, rfl, rfl⟩ := hv
      rfl
    subst hsn
    exact ⟨⟨none, 0, 0⟩, σ.m, ⟨⟨hr, .inl ⟨rfl, List.eq_nil_of_length_eq_zero hnl⟩⟩, fun _ _ => rfl, fun b i e => by cases e⟩, hM1, hld σ.m (fun b h1 h2 => (h2 h1).elim)⟩
  · have hbk : blk (ι k) = some g := by rw [hv]; rfl
    obtain ⟨f1, f2, f3⟩ := hM.fresh k _ g hk hbk
    have hsn : s = ⟨some ⟨g, 0, none⟩, xs.length, cap⟩ := by
      rw [hs] at hv
      obtain ⟨x, y, z⟩ := s
      simp only [Sl.val, Value.slice.injEq] at hv
      obtain ⟨rfl, rfl, rfl⟩ := hv
      rfl
    subst hsn
    let m' : MH := fun b' => if b' = g then some (.cells cur E (0, 0)) else σ.m b'
    have hne : ∀ j o', nth ((σ.sub k (fun | .lst _ => .val (Sl.mk (some ⟨g, 0, none⟩) xs.length cap).val | _ => .junk)).setOwn k none).own j = some (some o') → blk (ι j) ≠ some g := by
      intro j o' hj hb
      obtain ⟨hne, o1, ho1, _⟩ := nth_sub_own hj
      exact hne (hM.dist j k _ _ g ho1 hk hb hbk)
    refine ⟨⟨some ⟨g, 0, none⟩, xs.length, cap⟩, m', ⟨⟨hr, .inr ⟨g, cap, cur, rfl, by simp [m'], hnc, hcm, hcs, htake⟩⟩, fun b' hb' => ?_, fun b i e => ?_⟩, ⟨hM1.slots, hM1.defers, hM1.own, hM1.dist, ?_, ?_, hM1.one⟩, hld m' (fun b h1 h2 => ?_)⟩
    · have : b' ≠ g := fun e => hb' 0 (by rw [e])
      simp [m', this]
    · simp only [Option.some.injEq, Addr.mk.injEq] at e
      obtain ⟨rfl, _, _⟩ := e
      exact ⟨f2, f3⟩
    · intro j o' b' hj hb'
      obtain ⟨g1, g2, g3⟩ := hM1.fresh j o' b' hj hb'
      refine ⟨g1, ?_, g3⟩
      have : b' ≠ g := fun e => hne j o' hj (e ▸ hb')
      show (if b' = g then _ else σ.m b') = none
      rw [if_neg this]
      exact g2
    · have hw := hM.wrel
      refine ⟨hw.tape, hw.os, hw.output, hw.size, hw.frame, hw.hsat, ?_, ?_, hw.hle, hw.hold, ?_⟩
      · intro b' ob hb'
        have hb'' : (if b' = g then some (Obj.cells cur E (0, 0)) else σ.m b') = some ob := hb'
        by_cases e : b' = g
        · subst e
          rw [if_pos rfl] at hb''
          rw [hg, ← hb'']
        · rw [if_neg e] at hb''; exact hw.msat b' ob hb''
      · intro b' ob hb' i
        have hb'' : (if b' = g then some (Obj.cells cur E (0, 0)) else σ.m b') = some ob := hb'
        by_cases e : b' = g
        · subst e; exact f3 i
        · rw [if_neg e] at hb''; exact hw.disj b' ob hb'' i
      · intro b' ob hb'
        have hb'' : (if b' = g then some (Obj.cells cur E (0, 0)) else σ.m b') = some ob := hb'
        by_cases e : b' = g
        · subst e; exact f1
        · rw [if_neg e] at hb''; exact hw.mfr b' ob hb''
    · have h2 : (if b = g then some (Obj.cells cur E (0, 0)) else σ.m b) ≠ none := h2
      by_cases e : b = g
      · rw [e, hv]; rfl
      · rw [if_neg e] at h2; exact (h2 h1).elim
theorem lendRow_sound : ∀ (ks : List Nat) (σ : St), Models B ι σ a w → lendRowVC σ K ks → ∃ σ', Models B ι σ' a w ∧ K σ' ∧ Ld ι σ σ' ks
  | [], σ, hM, h => ⟨σ, hM, h, ⟨fun _ _ cs h _ => ⟨cs, h⟩, rfl, fun _ _ h => h, fun _ h1 h2 => (h2 h1).elim⟩⟩
  | k :: ks, σ, hM, h => by
    simp only [lendRowVC] at h
    split at h
    · rename_i E sz xs hk
      obtain ⟨s, m', hnew, hM1, hld⟩ := lendRow1 hM hk
      obtain ⟨σ', hM', hK, hld'⟩ := lendRow_sound ks _ hM1 (h s m' hnew)
      refine ⟨σ', hM', hK, ⟨fun j T' cs' hj hn => ?_, hld'.imm.trans hld.imm, fun x j hx => hld.lst x j (hld'.lst x j hx), fun b h1 h2 => ld_m hld hld' h1 h2⟩⟩
      simp only [List.mem_cons, not_or] at hn
      obtain ⟨cs'', hj'⟩ := hld.cells j T' cs' hj (by simpa using hn.1)
      exact hld'.cells j T' cs'' hj' hn.2
    · exact h.elim
end
end Go.Vc
namespace Go.Vc
open Go
/-- A value that a call takes or gives. -/
def CVOk (w : World) : CV → Value → Prop
  | .val v, u => u = v
  | .lst E sz xs, u => RowsOk sz xs ∧ w.ownsRow 0 E sz u xs.length xs.flatten
  | .tup rs, u => ∃ us : Array Value, u = .tuple us ∧ rs = us.toList.map .val
def cvBlk : CV → Value → Option Nat
  | .lst _ _ _, u => blk u
  | _, _ => none
def ArgsOk (w : World) : List CV → List Value → Prop
  | [], [] => True
  | c :: cs, v :: vs => CVOk w c v ∧ ArgsOk w cs vs
  | _, _ => False
/-- The blocks that a call may write. -/
def Moved (m : MH) (cvs : List CV) (vs : List Value) (b : Nat) : Prop := m b ≠ none ∨ ∃ (i : Nat) (c : CV) (u : Value), cvs[i]? = some c ∧ vs[i]? = some u ∧ cvBlk c u = some b
structure CallPre (w : World) (m : MH) (h : PH) (cvs : List CV) (vs : List Value) : Prop where
  args : ArgsOk w cvs vs
  hsat : ∀ b o v, h b o = some v → w.cell? ⟨b, o, none⟩ = some v
  msat : ∀ b o, m b = some o → w.heap[b]? = some o
  disj : ∀ b o, m b = some o → ∀ i, h b i = none
  sep : ∀ (i j : Nat) (c d : CV) (u v : Value) (b : Nat), cvs[i]? = some c → vs[i]? = some u → cvs[j]? = some d → vs[j]? = some v → cvBlk c u = some b → cvBlk d v = some b → i = j
  free : ∀ (i : Nat) (c : CV) (u : Value) (b : Nat), cvs[i]? = some c → vs[i]? = some u → cvBlk c u = some b → m b = none ∧ ∀ o, h b o = none
def Sound (P : Program) (f : FuncId) (S : Spec) : Prop :=
  (∃ fn, P.funcs[f]? = some fn ∧ fn.body.isSome = true ∧ (fn.name == "runtime.NumGoroutine") = false) ∧
  ∀ cvs vs m h w K, S cvs m h K → CallPre w m h cvs vs →
    Calls P f vs.toArray w fun e w' => ∃ r u m' h', e = .returned u ∧ K r m' h' ∧ CVOk w' r u ∧ WRel ⟨w, Moved m cvs vs, h, []⟩ m' h' w' ∧
      (∀ b, cvBlk r u = some b → (w.heap.size ≤ b ∨ Moved m cvs vs b) ∧ m' b = none ∧ ∀ i, h' b i = none)
section
variable {B : Base} {C : Ctx} {ι : Nat → Value} {σ : St} {a : Act} {w : World} {o : Oper} {K : St → Prop}
theorem rowsOk_nil (sz : Nat) : RowsOk sz [] := ⟨(fun e he => by cases he), (fun e he => by cases he)⟩
theorem closeArgs_sound (hM : Models B ι σ a w) {mv : List Nat} : ∀ (i : Nat) (l : List Operand) (ts : List TypeId) (cvs : List CV), closeArgs C.P σ mv i l ts = some cvs →
    ArgsOk w cvs (l.map a.eval) ∧ ∀ (j : Nat) (c : CV) (u : Value) (b : Nat), cvs[j]? = some c → (l.map a.eval)[j]? = some u → cvBlk c u = some b →
      ∃ x k ow, l[j]? = some x ∧ mv.contains (i + j) = true ∧ σ.ev x = .at (.lst k) ∧ nth σ.own k = some (some ow) ∧ u = ι k
  | i, [], ts, cvs, h => by
    simp [closeArgs] at h; subst h
    exact ⟨trivial, fun j c u b hj => by simp at hj⟩
  | i, x :: r, ts, cvs, h => by
    simp only [closeArgs] at h
    split at h
    · cases h
    · rename_i rest hrest
      obtain ⟨ih1, ih2⟩ := closeArgs_sound hM (i + 1) r ts.tail rest hrest
      have tailcase : ∀ (c0 : CV), (∀ (u : Value) (b : Nat), (a.eval x) = u → cvBlk c0 u = some b → ∃ k ow, mv.contains i = true ∧ σ.ev x = .at (.lst k) ∧ nth σ.own k = some (some ow) ∧ u = ι k) →
          ∀ (j : Nat) (c : CV) (u : Value) (b : Nat), (c0 :: rest)[j]? = some c → ((x :: r).map a.eval)[j]? = some u → cvBlk c u = some b →
            ∃ x' k ow, (x :: r)[j]? = some x' ∧ mv.contains (i + j) = true ∧ σ.ev x' = .at (.lst k) ∧ nth σ.own k = some (some ow) ∧ u = ι k := by
        intro c0 h0 j c u b hj hu hb
        cases j with
        | zero =>
          simp at hj hu
          subst hj
          obtain ⟨k, ow, h1, h2, h3, h4⟩ := h0 u b hu hb
          exact ⟨x, k, ow, rfl, by simpa using h1, h2, h3, h4⟩
        | succ j =>
          simp only [List.getElem?_cons_succ, List.map_cons] at hj hu ⊢
          obtain ⟨x', k, ow, h1, h2, h3⟩ := ih2 j c u b hj hu hb
          exact ⟨x', k, ow, h1, by rw [show i + (j + 1) = i + 1 + j by omega]; exact h2, h3⟩
      split at h
      · rename_i hmv
        split at h
        · rename_i k hx
          have hev := hM.ev x
          rw [hx] at hev
          have hev : a.eval x = ι k := hev
          split at h
          · rename_i E sz xs hk
            simp only [Option.some.injEq] at h
            subst h
            obtain ⟨hr, ho⟩ := own_lst hM hk
            refine ⟨⟨⟨hr, by rw [hev]; exact ho⟩, ih1⟩, tailcase _ (fun u b hu _ => ⟨k, _, hmv, hx, hk, by rw [← hu, hev]⟩)⟩
          · cases h
        · rename_i hx
          have hev := hM.ev x
          rw [hx] at hev
          have hev : a.eval x = .slice none 0 0 := hev
          split at h
          · rename_i E z hE
            simp only [Option.some.injEq] at h
            subst h
            refine ⟨⟨⟨rowsOk_nil _, by rw [hev]; exact World.ownsRow_nil w 0 E _⟩, ih1⟩, tailcase _ (fun u b hu hb => ?_)⟩
            rw [hev] at hu
            subst hu
            simp [cvBlk, blk] at hb
          · cases h
        · cases h
      · split at h
        · rename_i u hu
          simp only [Option.some.injEq] at h
          subst h
          exact ⟨⟨hM.rho hu, ih1⟩, tailcase _ (fun u b _ hb => by simp [cvBlk] at hb)⟩
        · cases h
theorem movedKeys_mem {mv : List Nat} : ∀ (i : Nat) (l : List Operand) (j : Nat) (x : Operand) (k : Nat), l[j]? = some x → mv.contains (i + j) = true → σ.ev x = .at (.lst k) → k ∈ movedKeys σ mv i l
  | i, [], j, x, k, h, _, _ => by simp at h
  | i, y :: r, 0, x, k, h, hm, hx => by
    simp at h; subst h
    simp only [Nat.add_zero] at hm
    simp only [movedKeys, hm, hx]
    exact List.mem_cons_self
  | i, y :: r, j + 1, x, k, h, hm, hx => by
    simp only [List.getElem?_cons_succ] at h
    have := movedKeys_mem (i + 1) r j x k h (by rw [show i + 1 + j = i + (j + 1) by omega]; exact hm) hx
    simp only [movedKeys]
    split
    · exact List.mem_cons_of_mem _ this
    · exact this
theorem movedKeys_inj {mv : List Nat} : ∀ (i : Nat) (l : List Operand), nodupB (movedKeys σ mv i l) = true → ∀ (j j' : Nat) (x x' : Operand) (k : Nat), l[j]? = some x → l[j']? = some x' →
    mv.contains (i + j) = true → mv.contains (i + j') = true → σ.ev x = .at (.lst k) → σ.ev x' = .at (.lst k) → j = j'
  | i, [], _, j, _, _, _, _, h, _, _, _, _, _ => by simp at h
  | i, y :: r, hnd, j, j', x, x', k, h, h', hm, hm', hx, hx' => by
    have key : ∀ j x, r[j]? = some x → mv.contains (i + (j + 1)) = true → σ.ev x = .at (.lst k) → ∀ x0, y = x0 → mv.contains i = true → σ.ev x0 = .at (.lst k) → False := by
      intro j x hj hmj hxj x0 hy hm0 hx0
      subst hy
      simp only [movedKeys, hm0, hx0] at hnd
      have hmem := movedKeys_mem (σ := σ) (mv := mv) (i + 1) r j x k hj (by rw [show i + 1 + j = i + (j + 1) by omega]; exact hmj) hxj
      simp only [nodupB] at hnd
      rw [List.contains_eq_mem] at hnd
      simp [hmem] at hnd
    have hnd' : nodupB (movedKeys σ mv (i + 1) r) = true := by
      simp only [movedKeys] at hnd
      split at hnd
      · simp only [nodupB] at hnd
        split at hnd
        · cases hnd
        · exact hnd
      · exact hnd
    cases j with
    | zero =>
      cases j' with
      | zero => rfl
      | succ j' =>
        simp at h
        simp only [List.getElem?_cons_succ] at h'
        exact (key j' x' h' hm' hx' x h (by simpa using hm) hx).elim
    | succ j =>
      cases j' with
      | zero =>
        simp at h'
        simp only [List.getElem?_cons_succ] at h
        exact (key j x h hm hx x' h' (by simpa using hm') hx').elim
      | succ j' =>
        simp only [List.getElem?_cons_succ] at h h'
        have := movedKeys_inj (i + 1) r hnd' j j' x x' k h h' (by rw [show i + 1 + j = i + (j + 1) by omega]; exact hm) (by rw [show i + 1 + j' = i + (j' + 1) by omega]; exact hm') hx hx'
        rw [this]
theorem killAll_sound : ∀ (ks : List Nat) (σ : St), Models B ι σ a w → Models B ι (killAll σ ks) a w ∧ (killAll σ ks).m = σ.m ∧ (killAll σ ks).h = σ.h ∧
    (∀ j o', nth (killAll σ ks).own j = some (some o') → j ∉ ks ∧ ∃ o1, nth σ.own j = some (some o1))
  | [], σ, hM => ⟨hM, rfl, rfl, fun j o' h => ⟨by simp, o', h⟩⟩
  | k :: ks, σ, hM => by
    have h1 := hM.kill k (ι k) (hM.one k)
    rw [upd_self] at h1
    obtain ⟨g1, g2, g3, g4⟩ := killAll_sound ks (σ.kill k) h1
    refine ⟨g1, g2, g3, fun j o' hj => ?_⟩
    obtain ⟨hn, o1, ho1⟩ := g4 j o' hj
    rw [kill_eq] at ho1
    obtain ⟨hne, o2, ho2, _⟩ := nth_sub_own ho1
    exact ⟨by simp [hne, hn], o2, ho2⟩
theorem WRel.trans {m m' : MH} {h h' : PH} {w w' : World} {E : Nat → Prop} (h1 : WRel B m h w) (h2 : WRel ⟨w, E, h, []⟩ m' h' w') (hE : ∀ b, E b → B.w0.heap.size ≤ b ∨ B.E b) : WRel B m' h' w' := by
  refine ⟨h2.tape.trans h1.tape, h2.os.trans h1.os, h2.output.trans h1.output, Nat.le_trans h1.size h2.size, ?_, h2.hsat, h2.msat, h2.disj, fun b o v hv => h2.hle b o v (h1.hle b o v hv), ?_, ?_⟩
  · intro b hb hn
    have hnE : ¬ E b := fun e => by
      rcases hE b e with h3 | h3
      · omega
      · exact hn h3
    rw [h2.frame b (Nat.lt_of_lt_of_le hb h1.size) hnE]
    exact h1.frame b hb hn
  · intro b hb hn
    have hnE : ¬ E b := fun e => by
      rcases hE b e with h3 | h3
      · omega
      · exact hn h3
    rw [h2.hold b (Nat.lt_of_lt_of_le hb h1.size) hnE]
    exact h1.hold b hb hn
  · intro b ob hb
    rcases h2.mfr b ob hb with h3 | h3
    · exact .inl (Nat.le_trans h1.size h3)
    · exact hE b h3
/-- Behind a call. -/
theorem Models.called {m' : MH} {h' : PH} {w' : World} {E : Nat → Prop} (hM : Models B ι σ a w) (h2 : WRel ⟨w, E, σ.h, []⟩ m' h' w') (hE : ∀ b, E b → B.w0.heap.size ≤ b ∨ B.E b)
    (hown : ∀ j o' b, nth σ.own j = some (some o') → blk (ι j) = some b → ¬ E b) : Models B ι { σ with m := m', h := h' } a w' := by
  refine ⟨hM.slots, hM.defers, ?_, hM.dist, ?_, hM.wrel.trans h2 hE, hM.one⟩
  · intro j o' hj
    have hok := hM.own j o' hj
    exact hok.world (fun b hb => h2.frame b (blk_lt hok hb) (hown j o' b hj hb))
  · intro j o' b hj hb
    have hok := hM.own j o' hj
    obtain ⟨f1, f2, f3⟩ := hM.fresh j o' b hj hb
    have hlt := blk_lt hok hb
    have hn := hown j o' b hj hb
    refine ⟨f1, ?_, fun i => ?_⟩
    · show m' b = none
      cases hm : m' b with
      | none => rfl
      | some ob =>
        rcases h2.mfr b ob hm with h3 | h3
        · have h3 : w.heap.size ≤ b := h3
          omega
        · exact (hn h3).elim
    · have : h' b = σ.h b := h2.hold b hlt hn
      show h' b i = none
      rw [this]; exact f3 i
theorem tupVals_spec : ∀ {rs : List CV} {l : List (Sum At (List At))} {us : List Value}, tupVals rs = some l → rs = us.map .val → DenT ι l us
  | [], l, us, h, hr => by
    simp [tupVals] at h; subst h
    cases us with
    | nil => trivial
    | cons u us => simp at hr
  | .val v :: r, l, us, h, hr => by
    cases us with
    | nil => simp at hr
    | cons u us =>
      simp only [List.map_cons, List.cons.injEq, CV.val.injEq] at hr
      simp only [tupVals] at h
      split at h
      · rename_i l' hl'
        simp only [Option.some.injEq] at h
        subst h
        exact ⟨hr.1.symm, tupVals_spec hl' hr.2⟩
      · cases h
  | .lst _ _ _ :: _, l, us, h, _ => by simp [tupVals] at h
  | .tup _ :: _, l, us, h, _ => by simp [tupVals] at h
theorem ownsRow_one {E sz n : Nat} {v : Value} {l : List Value} (h : w.ownsRow 0 E sz v n l) : v.oneCell' = true := by
  rcases h.2 with ⟨rfl, _⟩ | ⟨g, cap, cur, rfl, _⟩ <;> rfl
theorem ptrKeys_mem {σ : St} {k : Nat} : ∀ {l : List Operand}, k ∈ ptrKeys σ l → ∃ x ∈ l, ∃ off, σ.ev x = .at (.ptr k off)
  | [], h => by cases h
  | x :: r, h => by
    have ih := fun h => ptrKeys_mem (σ := σ) (k := k) (l := r) h
    have ih' : k ∈ ptrKeys σ r → ∃ y ∈ x :: r, ∃ off, σ.ev y = .at (.ptr k off) := fun h => let ⟨y, hy, off, e⟩ := ih h; ⟨y, List.mem_cons_of_mem _ hy, off, e⟩
    simp only [ptrKeys] at h
    split at h
    · rename_i k' off hx
      split at h
      · exact ih' h
      · rcases List.mem_cons.1 h with rfl | h
        · exact ⟨x, List.mem_cons_self, off, hx⟩
        · exact ih' h
    · exact ih' h
theorem call_sound (hspecs : ∀ g S, assoc C.specs g = some S → Sound C.P g S) (hM : Models B ι σ a w) {c : Call} {g : Operand} {f : FuncId} {fs cs : Array Value} (ho : o.op = .call c) (hc : c.callee = .value g)
    (hg : σ.ev g = .at (.val (.func (.func f) fs cs))) (hfs : fs.toList = []) (hcs : cs.toList = []) (h : callVC C o f c.args.toList c.argTypes.toList σ K) : Stp B C ι o σ K a w := by
  intro next Q hnext
  unfold callVC at h
  split at h
  · exact h.elim
  · rename_i S hS
    obtain ⟨⟨fn, hfn, hbody, hname⟩, hsound⟩ := hspecs f S hS
    obtain ⟨τ, hMτ, h, hfz⟩ := freeze_sound _ _ hM h
    obtain ⟨υ, hMυ, h, hld⟩ := lend_sound _ _ hMτ h
    split at h
    · rename_i cvs hcvs hnd
      generalize movesOf C f = mv at *
      obtain ⟨hargs, hblk⟩ := closeArgs_sound hMυ 0 _ _ _ hcvs
      have hpre : CallPre w υ.m υ.h cvs (c.args.toList.map a.eval) := by
        refine ⟨hargs, hMυ.wrel.hsat, hMυ.wrel.msat, hMυ.wrel.disj, ?_, ?_⟩
        · intro i j c1 d1 u v b hi hu hj hv hb hb'
          obtain ⟨x, k, ow, hx, hm, hk, hown, rfl⟩ := hblk i c1 u b hi hu hb
          obtain ⟨x', k', ow', hx', hm', hk', hown', rfl⟩ := hblk j d1 v b hj hv hb'
          have hbk : blk (ι k) = some b := by cases c1 <;> simp [cvBlk] at hb; exact hb
          have hbk' : blk (ι k') = some b := by cases d1 <;> simp [cvBlk] at hb'; exact hb'
          have hkk := hMυ.dist k k' _ _ b hown hown' hbk hbk'
          subst hkk
          exact movedKeys_inj (σ := υ) (mv := mv) 0 c.args.toList hnd i j x x' k hx hx' hm hm' hk hk'
        · intro i c1 u b hi hu hb
          obtain ⟨x, k, ow, hx, hm, hk, hown, rfl⟩ := hblk i c1 u b hi hu hb
          have hbk : blk (ι k) = some b := by cases c1 <;> simp [cvBlk] at hb; exact hb
          exact (hMυ.fresh k ow b hown hbk).2
      have hcall := hsound cvs _ υ.m υ.h w _ h hpre
      have hev : a.eval g = .func (.func f) fs cs := by have := hM.ev g; rw [hg] at this; exact this
      have hfs' : fs = #[] := by apply Array.toList_inj.1; simpa using hfs
      have hcs' : cs = #[] := by apply Array.toList_inj.1; simpa using hcs
      subst hfs' hcs'
      have hargsA : c.args.map a.eval = (c.args.toList.map a.eval).toArray := by apply Array.toList_inj.1; simp
      have hbn : ¬ fn.body = none := by intro e; rw [e] at hbody; cases hbody
      have hnm : ¬ fn.name = "runtime.NumGoroutine" := by simpa using hname
      have hrun : (execOp a.eval o).run C.P w = .ok (.enter f (c.args.toList.map a.eval).toArray) w := by
        unfold execOp
        simp only [ho, resolve, hc, hev, Deferred.ofValue, Sem.run_bind, Sem.run_pure, Result.andThen_ok, invoke, callFunc]
        simp [program, Sem.run, hfn, hnm, hbn, hargsA]
      unfold Oper.wp
      rw [hrun, Oper.upon_enter]
      refine Calls.mono hcall ?_
      rintro e w' ⟨r, u, m', h', rfl, hK, hr, hw, hb⟩
      show next (a.put o.dst u) w'
      obtain ⟨hM1, hm1, hh1, hgone⟩ := killAll_sound (movedKeys υ mv 0 c.args.toList) υ hMυ
      have hEfr : ∀ b, Moved υ.m cvs (c.args.toList.map a.eval) b → B.w0.heap.size ≤ b ∨ B.E b := by
        rintro b (hmb | ⟨i, c1, u1, hi, hu1, hb1⟩)
        · cases hm2 : υ.m b with
          | none => exact (hmb hm2).elim
          | some ob => exact hMυ.wrel.mfr b ob hm2
        · obtain ⟨x, k, ow, hx, hm2, hk, hown, rfl⟩ := hblk i c1 u1 b hi hu1 hb1
          have hbk : blk (ι k) = some b := by cases c1 <;> simp [cvBlk] at hb1; exact hb1
          exact (hMυ.fresh k ow b hown hbk).1
      have hnotE : ∀ j o' b, nth (killAll υ (movedKeys υ mv 0 c.args.toList)).own j = some (some o') → blk (ι j) = some b → ¬ Moved υ.m cvs (c.args.toList.map a.eval) b := by
        intro j o' b hj hbj hmov
        obtain ⟨hnin, o1, ho1⟩ := hgone j o' hj
        rcases hmov with hmb | ⟨i, c1, u1, hi, hu1, hb1⟩
        · exact hmb (hMυ.fresh j o1 b ho1 hbj).2.1
        · obtain ⟨x, k, ow, hx, hm2, hk, hown, rfl⟩ := hblk i c1 u1 b hi hu1 hb1
          have hbk : blk (ι k) = some b := by cases c1 <;> simp [cvBlk] at hb1; exact hb1
          have := hMυ.dist j k _ _ b ho1 hown hbj hbk
          subst this
          exact hnin (movedKeys_mem 0 _ i x j hx (by simpa using hm2) hk)
      have hM2 : Models B ι { killAll υ (movedKeys υ mv 0 c.args.toList) with m := m', h := h' } a w' := by
        refine hM1.called (E := Moved υ.m cvs (c.args.toList.map a.eval)) ?_ hEfr hnotE
        rw [hh1]; exact hw
      have hkeep : Keep σ ι o w w' := by
        constructor
        · intro k T cs' b hk ht hι
          obtain ⟨cs1, hk1⟩ := hfz.cells k T cs' hk
          have htτ := touches_fz hfz ht
          have hnp : k ∉ ptrKeys τ c.args.toList := by
            unfold touches at htτ
            rw [Bool.or_eq_false_iff] at htτ
            have := htτ.2
            simp only [ho, hc] at this
            simpa using this
          obtain ⟨cs2, hk2⟩ := hld.cells k T cs1 hk1 hnp
          have hbk : blk (ι k) = some b := by rw [hι]; rfl
          refine hw.frame b (blk_lt (hMυ.own k _ hk2) hbk) ?_
          rintro (hmb | ⟨i, c1, u1, hi, hu1, hb1⟩)
          · exact hmb (hMυ.fresh k _ b hk2 hbk).2.1
          · obtain ⟨x, k', ow, hx, hm2, hk', hown, rfl⟩ := hblk i c1 u1 b hi hu1 hb1
            have hbk' : blk (ι k') = some b := by cases c1 <;> simp [cvBlk] at hb1; exact hb1
            have := hMυ.dist k k' _ _ b hk2 hown hbk hbk'
            subst this
            cases c1 <;> simp [cvBlk] at hb1
            rename_i E1 sz1 xs1
            have hcell := hMυ.own k _ hk2
            obtain ⟨b2, vs2, e2, _, _⟩ := hcell
            -- an argument that is handed over is a list
            have hlst : ∃ ad n cp, ι k = .slice ad n cp := by
              have harg : ∀ (l : List CV) (vs : List Value), ArgsOk w l vs → ∀ (i : Nat) (c1 : CV) (u1 : Value), l[i]? = some c1 → vs[i]? = some u1 → CVOk w c1 u1 := by
                intro l
                induction l with
                | nil => intro vs _ i c1 u1 h1; simp at h1
                | cons x0 r0 ih0 =>
                  intro vs hv i c1 u1 h1 h2
                  cases vs with
                  | nil => exact hv.elim
                  | cons v0 vs0 =>
                    cases i with
                    | zero => simp at h1 h2; subst h1 h2; exact hv.1
                    | succ i => simp at h1 h2; exact ih0 vs0 hv.2 i c1 u1 h1 h2
              have := harg _ _ hargs i _ _ hi hu1
              rcases this.2.2 with ⟨e3, _⟩ | ⟨g3, cap3, cur3, e3, _⟩
              · exact ⟨_, _, _, e3⟩
              · exact ⟨_, _, _, e3⟩
            obtain ⟨ad, n, cp, e3⟩ := hlst
            rw [e2] at e3
            cases e3
        · intro b off v hv
          have h1 := hfz.imm b off v hv
          rw [← hld.imm] at h1
          exact hw.hsat b off v (hw.hle b off v h1)
        · intro hg; rw [ho] at hg; simp [grows] at hg
        · intro l b hl hb hmb hx
          have hl : c.args.toList = l := by simpa [callArgs, ho, hc] using hl
          refine hw.frame b hb ?_
          rintro (hm2 | ⟨i, c1, u1, hi, hu1, hb1⟩)
          · obtain ⟨k, hk, hbk⟩ := hld.m_ b (by rw [hfz.m_]; exact hmb) hm2
            obtain ⟨x, hxm, off, hxe⟩ := ptrKeys_mem hk
            exact hx x (hl ▸ hxm) k (.inr ⟨off, hfz.ptr x k off hxe⟩) hbk
          · obtain ⟨x, k', ow, hx', hm2, hk', hown, rfl⟩ := hblk i c1 u1 b hi hu1 hb1
            have hbk' : blk (ι k') = some b := by cases c1 <;> simp [cvBlk] at hb1; exact hb1
            exact hx x (hl ▸ List.mem_of_getElem? hx') k' (.inl (hfz.lst x k' (hld.lst x k' hk'))) hbk'
      unfold gotVC at hK
      split at hK
      · rename_i v
        exact hnext ι _ _ _ (hM2.put o.dst (x := .at (.val v)) hr) hK hkeep
      · rename_i E sz xs
        split at hK
        · rename_i d hd
          rw [hd]
          generalize (movedKeys υ mv 0 c.args.toList).headD d = kd at hK
          refine hnext (upd ι kd u) _ _ _ (Models.put ?_ (some d) (x := .at (.lst kd)) (by show _ = _; simp)) hK hkeep
          refine hM2.adopt kd _ u ⟨hr.1, hr.2⟩ (ownsRow_one hr.2) (fun b hbu => ?_)
          obtain ⟨f1, f2, f3⟩ := hb b hbu
          refine ⟨⟨?_, f2, f3⟩, ?_⟩
          · rcases f1 with f1 | f1
            · exact .inl (Nat.le_trans hMυ.wrel.size f1)
            · exact hEfr b f1
          · intro j o' _ hj hbj
            have hj' : nth (killAll υ (movedKeys υ mv 0 c.args.toList)).own j = some (some o') := hj
            rcases f1 with f1 | f1
            · have := blk_lt (hM1.own j o' hj') hbj
              omega
            · exact hnotE j o' b hj' hbj f1
        · exact hK.elim
      · rename_i rs
        split at hK
        · rename_i l hl
          obtain ⟨us, rfl, hrs⟩ := hr
          exact hnext ι _ _ _ (hM2.put o.dst (x := .tup l) ⟨us, rfl, tupVals_spec hl hrs⟩) hK hkeep
        · exact hK.elim
    · exact h.elim
end
end Go.Vc
namespace Go.Vc
open Go
section
variable {B : Base} {C : Ctx} {ι : Nat → Value} {σ : St} {a : Act} {w : World} {o : Oper} {K : St → Prop}
theorem new_m (hM : Models B ι σ a w) (ob : Obj) :
    Models B ι { σ with m := fun b => if b = w.heap.size then some ob else σ.m b } a (w.alloc ob) ∧ Unheld σ.m σ.h w.heap.size ∧ ∀ o, Keep σ ι o w (w.alloc ob) := by
  have hw := hM.wrel
  have hun : Unheld σ.m σ.h w.heap.size := by
    constructor
    · cases e : σ.m w.heap.size with
      | none => rfl
      | some x => have := (Array.getElem?_eq_some_iff.1 (hw.msat _ _ e)).1; omega
    · intro i
      cases e : σ.h w.heap.size i with
      | none => rfl
      | some x => have := World.block_lt_of_cell? w ⟨w.heap.size, i, none⟩ (hw.hsat _ _ _ e); simp at this
  have hsz : (w.alloc ob).heap.size = w.heap.size + 1 := by show (w.heap.push ob).size = _; simp
  refine ⟨⟨hM.slots, hM.defers, fun k o' hk => (hM.own k o' hk).world (fun b hb => heap_alloc_lt w ob (blk_lt (hM.own k o' hk) hb)), hM.dist, ?_, ?_, hM.one⟩, hun, fun o => ⟨?_, ?_, fun _ b hb => heap_alloc_lt w ob hb, fun _ b _ hb _ _ => heap_alloc_lt w ob hb⟩⟩
  · intro k o' b hk hb
    obtain ⟨f1, f2, f3⟩ := hM.fresh k o' b hk hb
    have hlt := blk_lt (hM.own k o' hk) hb
    refine ⟨f1, ?_, f3⟩
    show (if b = w.heap.size then some ob else σ.m b) = none
    rw [if_neg (by omega)]; exact f2
  · refine ⟨hw.tape, hw.os, hw.output, by rw [hsz]; exact Nat.le_succ_of_le hw.size, ?_, ?_, ?_, ?_, hw.hle, hw.hold, ?_⟩
    · intro b hb hE
      rw [heap_alloc_lt w ob (Nat.lt_of_lt_of_le hb hw.size)]
      exact hw.frame b hb hE
    · intro b i v hv
      have h1 := hw.hsat b i v hv
      rw [← h1]
      exact World.cell?_of_block (w := w) (w' := w.alloc ob) (a := ⟨b, i, none⟩) (heap_alloc_lt w ob (World.block_lt_of_cell? w ⟨b, i, none⟩ h1))
    · intro b x hb
      have hb : (if b = w.heap.size then some ob else σ.m b) = some x := hb
      by_cases e : b = w.heap.size
      · rw [if_pos e] at hb; rw [e, heap_alloc_size]; exact hb
      · rw [if_neg e] at hb
        have h1 := hw.msat b x hb
        rw [heap_alloc_lt w ob (Array.getElem?_eq_some_iff.1 h1).1]; exact h1
    · intro b x hb i
      have hb : (if b = w.heap.size then some ob else σ.m b) = some x := hb
      by_cases e : b = w.heap.size
      · rw [e]; exact hun.h_ i
      · rw [if_neg e] at hb; exact hw.disj b x hb i
    · intro b x hb
      have hb : (if b = w.heap.size then some ob else σ.m b) = some x := hb
      by_cases e : b = w.heap.size
      · left; rw [e]; exact hw.size
      · rw [if_neg e] at hb; exact hw.mfr b x hb
  · intro k T cs b hk _ hι
    exact heap_alloc_lt w ob (blk_lt (hM.own k _ hk) (by rw [hι]; rfl))
  · intro b i v hv
    have h1 := hw.hsat b i v hv
    rw [← h1]
    exact World.cell?_of_block (w := w) (w' := w.alloc ob) (a := ⟨b, i, none⟩) (heap_alloc_lt w ob (World.block_lt_of_cell? w ⟨b, i, none⟩ h1))
theorem set_m (hM : Models B ι σ a w) {b : Nat} {ob0 ob : Obj} (hm : σ.m b = some ob0) :
    Models B ι { σ with m := fun b' => if b' = b then some ob else σ.m b' } a { w with heap := w.heap.setIfInBounds b ob } ∧ ∀ o, grows o.op = false → Keep σ ι o w { w with heap := w.heap.setIfInBounds b ob } := by
  have hw := hM.wrel
  have hlt : b < w.heap.size := (Array.getElem?_eq_some_iff.1 (hw.msat _ _ hm)).1
  have hblock : ∀ b', b' ≠ b → (w.heap.setIfInBounds b ob)[b']? = w.heap[b']? := fun b' hne => by
    rw [Array.getElem?_setIfInBounds_ne (Ne.symm hne)]
  have hself : (w.heap.setIfInBounds b ob)[b]? = some ob := by simp [hlt]
  have hnb : ∀ k o', nth σ.own k = some (some o') → blk (ι k) ≠ some b := by
    intro k o' hk hb
    have := (hM.fresh k o' b hk hb).2.1
    rw [hm] at this; cases this
  have hcell : ∀ b' i v, σ.h b' i = some v → ({ w with heap := w.heap.setIfInBounds b ob } : World).cell? ⟨b', i, none⟩ = some v := by
    intro b' i v hv
    have hne : b' ≠ b := fun e => by subst e; rw [hw.disj b' _ hm i] at hv; cases hv
    have h2 := hw.hsat b' i v hv
    rw [← h2]
    exact World.cell?_of_block (w := w) (w' := { w with heap := w.heap.setIfInBounds b ob }) (a := ⟨b', i, none⟩) (hblock b' hne)
  refine ⟨⟨hM.slots, hM.defers, fun k o' hk => (hM.own k o' hk).world (fun b' hb' => hblock b' (fun e => hnb k o' hk (e ▸ hb'))), hM.dist, ?_, ?_, hM.one⟩, fun o hg => ⟨?_, hcell, fun h => (by rw [hg] at h; cases h), fun _ b' _ _ hn _ => hblock b' (fun e => by rw [e, hm] at hn; cases hn)⟩⟩
  · intro k o' b' hk hb'
    obtain ⟨f1, f2, f3⟩ := hM.fresh k o' b' hk hb'
    refine ⟨f1, ?_, f3⟩
    show (if b' = b then some ob else σ.m b') = none
    rw [if_neg (fun (e : b' = b) => hnb k o' hk (e ▸ hb'))]; exact f2
  · refine ⟨hw.tape, hw.os, hw.output, by simpa using hw.size, ?_, hcell, ?_, ?_, hw.hle, hw.hold, ?_⟩
    · intro b' hb' hE
      have hne : b' ≠ b := fun e => by
        subst e
        rcases hw.mfr b' _ hm with h2 | h2
        · omega
        · exact hE h2
      rw [hblock b' hne]
      exact hw.frame b' hb' hE
    · intro b' x hb'
      have hb' : (if b' = b then some ob else σ.m b') = some x := hb'
      by_cases e : b' = b
      · rw [if_pos e] at hb'; rw [e, ← hb']; exact hself
      · rw [if_neg e] at hb'; rw [hblock b' e]; exact hw.msat b' x hb'
    · intro b' x hb' i
      have hb' : (if b' = b then some ob else σ.m b') = some x := hb'
      by_cases e : b' = b
      · rw [e]; exact hw.disj b _ hm i
      · rw [if_neg e] at hb'; exact hw.disj b' _ hb' i
    · intro b' x hb'
      have hb' : (if b' = b then some ob else σ.m b') = some x := hb'
      by_cases e : b' = b
      · rw [e]; exact hw.mfr b _ hm
      · rw [if_neg e] at hb'; exact hw.mfr b' _ hb'
  · intro k T cs b' hk _ hι
    exact hblock b' (fun e => hnb k _ hk (by rw [hι, e]; rfl))
theorem makeMap_sound (hM : Models B ι σ a w) {t : Nat} {r : Option Operand} (ho : o.op = .makeMap t r) (h : makeMapVC o r σ K) : Stp B C ι o σ K a w := by
  intro next Q hnext
  unfold makeMapVC at h
  split at h
  · obtain ⟨hM1, hun, hk⟩ := new_m hM (.map #[] 0)
    have hrun : (execOp a.eval o).run C.P w = .ok (.value (.map (some w.heap.size))) (w.alloc (.map #[] 0)) := by
      unfold execOp
      simp [ho, Instr.makeMap]
    unfold Oper.wp
    rw [hrun, Oper.upon_value]
    exact hnext ι _ _ _ (hM1.put o.dst (x := .at (.val (.map (some w.heap.size)))) rfl) (h w.heap.size _ hun ⟨by simp, fun b' hb' => by simp [hb']⟩) (hk o)
  · exact h.elim
theorem range_sound (hM : Models B ι σ a w) {t : Nat} {x : Operand} (ho : o.op = .range t x) (h : rangeVC C o t x σ K) : Stp B C ι o σ K a w := by
  intro next Q hnext
  have hev := hM.ev x
  unfold rangeVC at h
  split at h
  · rename_i s hu hx
    rw [hx] at hev
    have hev : a.eval x = .string s := hev
    obtain ⟨hM1, hun, hk⟩ := new_m hM (.stringIter s 0)
    have hrun : (execOp a.eval o).run C.P w = .ok (.value (.pointer (some ⟨w.heap.size, 0, none⟩))) (w.alloc (.stringIter s 0)) := by
      unfold execOp
      simp [ho, hev, Instr.range, run_underlying hu]
    unfold Oper.wp
    rw [hrun, Oper.upon_value]
    exact hnext ι _ _ _ (hM1.put o.dst (x := .at (.val (.pointer (some ⟨w.heap.size, 0, none⟩)))) rfl) (h w.heap.size _ hun ⟨by simp, fun b' hb' => by simp [hb']⟩) (hk o)
  · exact h.elim
theorem next_sound (hM : Models B ι σ a w) {x : Operand} {st : Bool} (ho : o.op = .next x st) (h : nextVC o x st σ K) : Stp B C ι o σ K a w := by
  intro next Q hnext
  have hev := hM.ev x
  unfold nextVC at h
  split at h
  · rename_i b hx
    rw [hx] at hev
    have hev : a.eval x = .pointer (some ⟨b, 0, none⟩) := hev
    obtain ⟨s, pos, hm, h1, h2⟩ := h
    have hg := hM.wrel.msat b _ hm.at_
    by_cases hlt : pos < s.size
    · obtain ⟨hM1, hk⟩ := set_m (ob := .stringIter s (pos + (Utf8.decode s pos).2)) hM hm.at_
      have hrun : (execOp a.eval o).run C.P w = .ok (.value (.tuple #[.bool true, .int .i64 pos, .int .i32 (Utf8.decode s pos).1])) { w with heap := w.heap.setIfInBounds b (.stringIter s (pos + (Utf8.decode s pos).2)) } := by
        unfold execOp
        simp [ho, hev, Instr.next, getObj, setObj, Sem.run, hg, hlt, goInt, Result.andThen]
      unfold Oper.wp
      rw [hrun, Oper.upon_value]
      refine hnext ι _ _ _ (hM1.put o.dst (x := .tup _) ?_) (h2 hlt _ ⟨by simp, fun b' hb' => by simp [hb']⟩) (hk o (by rw [ho]; rfl))
      exact ⟨_, rfl, rfl, rfl, rfl, trivial⟩
    · have hrun : (execOp a.eval o).run C.P w = .ok (.value (.tuple #[.bool false])) w := by
        unfold execOp
        simp [ho, hev, Instr.next, getObj, Sem.run, hg, hlt, Result.andThen]
      unfold Oper.wp
      rw [hrun, Oper.upon_value]
      refine hnext ι _ _ _ (hM.put o.dst (x := .tup _) ?_) (h1 (by omega)) (keep_same hM)
      exact ⟨_, rfl, rfl, trivial⟩
  · exact h.elim
/-! ### Finding a key -/
theorem run_findAsking {P : Program} {kt : TypeId} {Ok : Value → Prop} (L : KeyLaw P kt Ok) {k : Value} (hk : Ok k) (w : World) : ∀ (es : List MapEntry) (i : Nat), (∀ e ∈ es, Ok e.key) →
    ((∀ e ∈ es, e.key ≠ k) ∧ (Instr.findAsking kt k es i).run P w = .ok none w) ∨ ∃ j e, es[j]? = some e ∧ e.key = k ∧ (Instr.findAsking kt k es i).run P w = .ok (some (i + j, e.val)) w
  | [], i, _ => .inl ⟨fun e he => (by cases he), by simp [Instr.findAsking]⟩
  | e :: es, i, hes => by
    obtain ⟨r, hr, hrk⟩ := L.eq k e.key w hk (hes e (by simp))
    cases r with
    | true => exact .inr ⟨0, e, rfl, (hrk.1 rfl).symm, by simp [Instr.findAsking, hr]⟩
    | false =>
      have hne : e.key ≠ k := fun h => by have := hrk.2 h.symm; cases this
      rcases run_findAsking L hk w es (i + 1) (fun e' he' => hes e' (by simp [he'])) with ⟨h1, h2⟩ | ⟨j, e', h1, h2, h3⟩
      · refine .inl ⟨fun e' he' => ?_, by simp [Instr.findAsking, hr, h2]⟩
        rcases List.mem_cons.1 he' with rfl | h
        · exact hne
        · exact h1 e' h
      · exact .inr ⟨j + 1, e', by simpa using h1, h2, by simp [Instr.findAsking, hr, h3]; omega⟩
theorem findNow_spec {P : Program} {kt : TypeId} {Ok : Value → Prop} (L : KeyLaw P kt Ok) {d : TypeDesc} (hd : P.underlying kt = some d) {k : Value} (hk : Ok k) : ∀ (es : List MapEntry) (i : Nat) (r : Option (Nat × Value)), (∀ e ∈ es, Ok e.key) →
    Instr.findNow d k es i = some r → ((∀ e ∈ es, e.key ≠ k) ∧ r = none) ∨ ∃ j e, es[j]? = some e ∧ e.key = k ∧ r = some (i + j, e.val)
  | [], i, r, _, h => by
    simp [Instr.findNow] at h
    exact .inl ⟨fun e he => (by cases he), h.symm⟩
  | e :: es, i, r, hes, h => by
    simp only [Instr.findNow] at h
    split at h
    · rename_i hs
      simp only [Option.some.injEq] at h
      exact .inr ⟨0, e, rfl, ((L.now d k e.key true hd hk (hes e (by simp)) hs).1 rfl).symm, by simpa using h.symm⟩
    · rename_i hs
      have hne : e.key ≠ k := fun h' => by have := (L.now d k e.key false hd hk (hes e (by simp)) hs).2 h'.symm; cases this
      rcases findNow_spec L hd hk es (i + 1) r (fun e' he' => hes e' (by simp [he'])) h with ⟨h1, h2⟩ | ⟨j, e', h1, h2, h3⟩
      · refine .inl ⟨fun e' he' => ?_, h2⟩
        rcases List.mem_cons.1 he' with rfl | h
        · exact hne
        · exact h1 e' h
      · exact .inr ⟨j + 1, e', by simpa using h1, h2, by rw [h3]; congr 2; omega⟩
    · cases h
theorem run_findKey {P : Program} {kt : TypeId} {Ok : Value → Prop} (L : KeyLaw P kt Ok) {k : Value} (hk : Ok k) (w : World) (es : List MapEntry) (hes : ∀ e ∈ es, Ok e.key) :
    ((∀ e ∈ es, e.key ≠ k) ∧ (Instr.findKey kt k es).run P w = .ok none w) ∨ ∃ j e, es[j]? = some e ∧ e.key = k ∧ (Instr.findKey kt k es).run P w = .ok (some (j, e.val)) w := by
  obtain ⟨d, hd⟩ := L.under
  cases hn : Instr.findNow d k es 0 with
  | some r =>
    have hrun : (Instr.findKey kt k es).run P w = .ok r w := by simp [Instr.findKey, run_underlying hd, hn]
    rcases findNow_spec L hd hk es 0 r hes hn with ⟨h1, rfl⟩ | ⟨j, e, h1, h2, rfl⟩
    · exact .inl ⟨h1, hrun⟩
    · exact .inr ⟨j, e, h1, h2, by rw [hrun]; simp⟩
  | none =>
    have hrun : (Instr.findKey kt k es).run P w = (Instr.findAsking kt k es).run P w := by simp [Instr.findKey, run_underlying hd, hn]
    rw [hrun]
    rcases run_findAsking L hk w es 0 hes with ⟨h1, h2⟩ | ⟨j, e, h1, h2, h3⟩
    · exact .inl ⟨h1, h2⟩
    · exact .inr ⟨j, e, h1, h2, by rw [h3]; simp⟩
theorem zeroOne_run {P : Program} {T : TypeId} {z : Value} (h : zeroOne P T = some z) (w : World) : (zeroValue T).run P w = .ok z w := by
  unfold zeroOne at h
  split at h
  · rename_i i hi
    split at h
    · rename_i k n hz
      simp only [Option.some.injEq] at h; subst h
      simp [zeroValue, typeInfo, hi, hz]
    · rename_i b hz
      simp only [Option.some.injEq] at h; subst h
      simp [zeroValue, typeInfo, hi, hz]
    · cases h
  · cases h
theorem lookup_sound (hM : Models B ι σ a w) {t : Nat} {x k : Operand} {ok : Bool} (ho : o.op = .lookup t x k ok) (h : lookupVC C o t x k ok σ K) : Stp B C ι o σ K a w := by
  intro next Q hnext
  have hev := hM.ev x
  unfold lookupVC at h
  split at h
  · rename_i kt et b kv hu hx hkv
    rw [hx] at hev
    have hev : a.eval x = .map (some b) := hev
    have hke : a.eval k = kv := (hM.ev k).val? hkv
    split at h
    · rename_i z hz
      obtain ⟨kvs, Ok, ⟨es, clock, hm, hes⟩, L, hok, hoks, hmiss, hhit⟩ := h
      have hg := hM.wrel.msat b _ hm
      have hmem : ∀ e ∈ es.toList, ∃ p ∈ kvs, e.key = p.1 ∧ e.val = only ((C.dec et).enc p.2) := by
        intro e he
        have : (e.key, e.val) ∈ kvs.map fun p => (p.1, only ((C.dec et).enc p.2)) := by
          rw [← hes]; exact List.mem_map.2 ⟨e, he, rfl⟩
        obtain ⟨p, hp, e2⟩ := List.mem_map.1 this
        simp only [Prod.mk.injEq] at e2
        exact ⟨p, hp, e2.1.symm, e2.2.symm⟩
      have hall : ∀ e ∈ es.toList, Ok e.key := fun e he => by
        obtain ⟨p, hp, e1, _⟩ := hmem e he
        rw [e1]; exact hoks p hp
      have hchk := L.check kv w es.isEmpty hok
      unfold Oper.wp
      rcases run_findKey L hok w es.toList hall with ⟨h1, h2⟩ | ⟨j, e, h1, h2, h3⟩
      · have hrun : (execOp a.eval o).run C.P w = .ok (.value (if ok then .tuple #[z, .bool false] else z)) w := by
          unfold execOp
          simp [ho, hev, hke, Instr.lookup, run_underlying hu, MapKept.run_getObj_map hg, hchk, h2, zeroOne_run hz, Result.andThen]
        rw [hrun, Oper.upon_value]
        refine hnext ι _ _ _ (hM.put o.dst ?_) (hmiss ?_) (keep_same hM)
        · cases ok
          · rfl
          · exact ⟨_, rfl, rfl, rfl, trivial⟩
        · intro p hp e1
          have : (p.1, only ((C.dec et).enc p.2)) ∈ es.toList.map fun e => (e.key, e.val) := by
            rw [hes]; exact List.mem_map.2 ⟨p, hp, rfl⟩
          obtain ⟨e, he, e2⟩ := List.mem_map.1 this
          simp only [Prod.mk.injEq] at e2
          exact h1 e he (e2.1.trans e1)
      · have he : e ∈ es.toList := List.mem_of_getElem? h1
        obtain ⟨p, hp, e1, e2⟩ := hmem e he
        have hrun : (execOp a.eval o).run C.P w = .ok (.value (if ok then .tuple #[e.val, .bool true] else e.val)) w := by
          unfold execOp
          simp [ho, hev, hke, Instr.lookup, run_underlying hu, MapKept.run_getObj_map hg, hchk, h3, Result.andThen]
        have hh := hhit p.2 (by rw [← h2, e1]; exact hp)
        rw [hrun, Oper.upon_value]
        split at hh
        · rename_i u hu2
          rw [hu2] at e2
          refine hnext ι _ _ _ (hM.put o.dst ?_) hh (keep_same hM)
          cases ok
          · exact e2
          · exact ⟨_, rfl, e2, rfl, trivial⟩
        · exact hh.elim
    · exact h.elim
  · exact h.elim
theorem mapUpdate_sound (hM : Models B ι σ a w) {t : Nat} {x k v : Operand} (ho : o.op = .mapUpdate t x k v) (hdst : o.dst = none) (h : mapUpdateVC C t x k v σ K) : Stp B C ι o σ K a w := by
  intro next Q hnext
  have hev := hM.ev x
  unfold mapUpdateVC at h
  split at h
  · rename_i kt et b kv u hu hx hkv hv
    rw [hx] at hev
    have hev : a.eval x = .map (some b) := hev
    have hke : a.eval k = kv := (hM.ev k).val? hkv
    have hve : a.eval v = u := (hM.ev v).val? hv
    obtain ⟨kvs, Ok, ⟨es, clock, hm, hes⟩, L, hok, hoks, hnew, hK⟩ := h
    have hg := hM.wrel.msat b _ hm
    have hmem : ∀ e ∈ es.toList, (e.key, e.val) ∈ kvs := fun e he => by rw [← hes]; exact List.mem_map.2 ⟨e, he, rfl⟩
    have hall : ∀ e ∈ es.toList, Ok e.key := fun e he => hoks _ (hmem e he)
    have hchk := L.check kv w false hok
    rcases run_findKey L hok w es.toList hall with ⟨h1, h2⟩ | ⟨j, e, h1, h2, h3⟩
    · obtain ⟨hM1, hk⟩ := set_m (ob := .map (es.push { key := kv, val := u, born := clock }) (clock + 1)) hM hm
      have hrun : (execOp a.eval o).run C.P w = .ok .skip { w with heap := w.heap.setIfInBounds b (.map (es.push { key := kv, val := u, born := clock }) (clock + 1)) } := by
        unfold execOp
        simp [ho, hev, hke, hve, Instr.mapUpdate, run_underlying hu, MapKept.run_getObj_map hg, MapKept.run_setObj_map _ hg, hchk, h2, Result.andThen]
      unfold Oper.wp
      rw [hrun, Oper.upon_skip, show a.put o.dst undef = a by rw [hdst]; rfl]
      refine hnext ι _ _ _ hM1 (hK _ ⟨fun b' hb' => by simp [hb']⟩ ⟨es.push { key := kv, val := u, born := clock }, clock + 1, by simp, ?_⟩) (hk o (by rw [ho]; rfl))
      simp [hes]
    · exact (hnew _ (hmem e (List.mem_of_getElem? h1)) h2).elim
  · exact h.elim
end
end Go.Vc
namespace Go.Vc
open Go
section
variable {B : Base} {C : Ctx} {ι : Nat → Value} {σ : St} {a : Act} {w : World} {o : Oper} {K : St → Prop}
theorem op_rdr (hM : Models B ι σ a w) (hr : isRd o.op = true) (h : opVC C o σ K) : Rdr C ι o σ K a w := by
  unfold opVC at h
  cases ho : o.op <;> simp only [ho] at h hr
  case move x => exact move_sound hM (.inl ho) h
  case assign x => exact move_sound hM (.inr ho) h
  case pick c x y => exact pick_sound hM ho h
  case build T ps => exact build_sound hM ho h
  case load T x => exact load_sound hM ho h
  case nilCheck x => exact nilCheck_sound hM ho h
  case binOp op tx x y ty =>
    cases op
    case eql =>
      simp only at h
      split at h
      · exact structEq_sound (neg := false) hM ho h
      · exact pure_sound hM (fun cs b => by rw [ho]; intro e; cases e) h
    case neq =>
      simp only at h
      split at h
      · exact structEq_sound (neg := true) hM ho h
      · exact pure_sound hM (fun cs b => by rw [ho]; intro e; cases e) h
    case add => exact concat_sound hM ho h
    all_goals first
      | exact pure_sound hM (fun cs b => by rw [ho]; intro e; cases e) h
      | exact div_sound hM ho h
  case unOp op t x => exact pure_sound hM (fun cs b => by rw [ho]; intro e; cases e) h
  case convert s d x => exact convert_sound hM ho h
  case fieldAddr T x f => exact fieldAddr_sound hM ho h
  case field T x f => exact field_sound hM ho h
  case indexAddr T x i => exact indexAddr_sound hM ho h
  case index T x i => exact index_sound hM ho h
  case extract x i => exact extract_sound hM ho h
  case call c =>
    obtain ⟨callee, args, argTypes⟩ := c
    cases callee with
    | builtin b =>
      cases b <;> simp only [isRd, Bool.false_eq_true] at hr
      case len =>
        simp only at h
        split at h
        · rename_i x hx
          exact len_sound hM ho rfl hx h
        · exact h.elim
      case min => exact pure_sound hM (fun cs b => by rw [ho]; intro e; cases e) h
      case max => exact pure_sound hM (fun cs b => by rw [ho]; intro e; cases e) h
    | value f => simp [isRd] at hr
    | invoke r n => simp [isRd] at hr
  all_goals (first | exact h.elim | (simp [isRd] at hr))
theorem Rdr.stp (hM : Models B ι σ a w) (h : Rdr C ι o σ K a w) : Stp B C ι o σ K a w := by
  intro next Q hnext
  obtain ⟨v, x, hrun, hx, hK⟩ := h
  unfold Oper.wp
  rw [hrun w (.inr rfl), Oper.upon_value]
  exact hnext ι _ _ _ (hM.put o.dst hx) hK (keep_same hM)
theorem op_sound (hspecs : ∀ g S, assoc C.specs g = some S → Sound C.P g S) (hM : Models B ι σ a w) (h : opVC C o σ K) : Stp B C ι o σ K a w := by
  cases hr : isRd o.op with
  | true => exact (op_rdr hM hr h).stp hM
  | false =>
    unfold opVC at h
    cases ho : o.op <;> simp only [ho] at h hr
    case alloc T =>
      intro next Q hn
      refine alloc_sound hM ho h next Q (fun ι' σ' a' w' hM' h' hk => ?_)
      obtain ⟨σ2, hM2, hK2, _⟩ := lend_sound _ _ hM' h'
      exact hn ι' σ2 a' w' hM2 hK2 hk
    case box T x =>
      split at h
      · intro next Q hn
        obtain ⟨τ, hMτ, hK, hfz⟩ := freeze_sound _ _ hM h
        refine box_sound hMτ ho hK next Q (fun ι' σ' a' w' hM' h' hk => ?_)
        obtain ⟨σ2, hM2, hK2, _⟩ := lend_sound _ _ hM' h'
        exact hn ι' σ2 a' w' hM2 hK2 (hk.of_fz hfz)
      · exact box_sound hM ho h
    case buildSlice T n ps =>
      intro next Q hn
      refine buildSlice_sound hM ho h next Q (fun ι' σ' a' w' hM' h' hk => ?_)
      obtain ⟨σ2, hM2, hK2, _⟩ := lendRow_sound _ _ hM' h'
      exact hn ι' σ2 a' w' hM2 hK2 hk
    case makeFunc f x cs =>
      intro next Q hn
      obtain ⟨τ, hMτ, hK, hld⟩ := lend_sound _ _ hM h
      obtain ⟨v, x, hrun, hx, hK⟩ := pure_sound hMτ (fun cs b => by rw [ho]; intro e; cases e) hK
      unfold Oper.wp
      rw [hrun w (.inr rfl), Oper.upon_value]
      exact hn ι _ _ _ (hMτ.put o.dst hx) hK (keep_same hM)
    case store T x v =>
      cases hd : o.dst with
      | none =>
        rw [hd] at h
        intro next Q hn
        obtain ⟨τ, hMτ, hK, hfz⟩ := freeze_sound _ _ hM h
        exact store_sound hMτ ho hd hK next Q (fun ι' σ' a' w' hM' h' hk => hn ι' σ' a' w' hM' h' (hk.of_fz hfz))
      | some d => rw [hd] at h; exact h.elim
    case makeSlice T l c => exact makeSlice_sound hM ho h
    case slice T x lo hi mx => exact slice_sound hM ho h
    case makeMap T r => exact makeMap_sound hM ho h
    case lookup T x k ok => exact lookup_sound hM ho h
    case mapUpdate T x k v =>
      cases hd : o.dst with
      | none => rw [hd] at h; exact mapUpdate_sound hM ho hd h
      | some d => rw [hd] at h; exact h.elim
    case range T x => exact range_sound hM ho h
    case next x b => exact next_sound hM ho h
    case call c =>
      obtain ⟨callee, args, argTypes⟩ := c
      cases callee with
      | builtin b =>
        cases b <;> simp only [isRd, Bool.true_eq_false] at hr <;> simp only at h
        case append =>
          split at h
          · rename_i x y T tx hx ht
            exact append_sound hM ho rfl hx ht h
          · exact h.elim
        case cap => exact (pure_sound hM (fun cs b => by rw [ho]; intro e; cases e) h).stp hM
        all_goals exact h.elim
      | value g =>
        simp only at h
        split at h
        · rename_i f fs cs hg
          split at h
          · rename_i hfs hcs
            exact call_sound hspecs hM ho rfl hg hfs hcs h
          · exact h.elim
        · exact h.elim
      | invoke r n => exact h.elim
    all_goals (first | exact h.elim | (simp [isRd] at hr))
/-! ### Guards -/
theorem tmps_undef (hM : Models B ι σ a w) {d : Nat} {xs : Array Value} (h : σ.ev (.tmp d) = .at (.val (.tuple xs))) : a.tmps[d]? = none ∨ ∃ xs, a.tmps[d]? = some (.tuple xs) := by
  have hev := hM.ev (.tmp d)
  rw [h] at hev
  have hev : a.eval (.tmp d) = .tuple xs := hev
  simp only [Act.eval, Array.getD_eq_getD_getElem?] at hev
  cases hd : a.tmps[d]? with
  | none => exact .inl rfl
  | some v => rw [hd] at hev; simp at hev; exact .inr ⟨xs, by rw [hev]⟩
theorem tmps_of_ev (hM : Models B ι σ a w) {d : Nat} {t : Bool} (h : σ.ev (.tmp d) = .at (.val (.bool t))) : a.tmps[d]? = some (.bool t) := by
  have hev := hM.ev (.tmp d)
  rw [h] at hev
  have hev : a.eval (.tmp d) = .bool t := hev
  simp only [Act.eval, Array.getD_eq_getD_getElem?] at hev
  cases hd : a.tmps[d]? with
  | none => rw [hd] at hev; simp [undef] at hev
  | some v => rw [hd] at hev; simp at hev; rw [hev]
theorem Models.setTmp (hM : Models B ι σ a w) {c : Operand} {t : Bool} (h : σ.ev c = .at (.val (.bool t))) : Models B ι (setTmp σ c t) a w := by
  cases c with
  | tmp d =>
    refine ⟨?_, hM.defers, hM.own, hM.dist, hM.fresh, hM.wrel, hM.one⟩
    have ht := tmps_of_ev hM h
    have := hM.slots.set d (x := .at (.val (.bool t))) (v := .bool t) rfl
    show DenS ι (σ.sl.set d _) a.tmps.toList
    have e : a.tmps.toList.set d (.bool t) = a.tmps.toList := by
      apply List.ext_getElem?
      intro j
      rw [List.getElem?_set]
      split
      · rename_i hj
        subst hj
        rw [Array.getElem?_toList, ht]
        split
        · rfl
        · rename_i hlt
          simp at hlt
          rw [Array.getElem?_eq_none hlt] at ht
          cases ht
      · rfl
    rw [e] at this
    exact this
  | const v => exact hM
  | global g => exact hM
  | func f => exact hM
theorem fz_setTmp {c : Operand} {t : Bool} (h : σ.ev c = .at (.val (.bool t))) : Fz σ (setTmp σ c t) := by
  cases c with
  | tmp d =>
    refine ⟨fun _ _ cs h => ⟨cs, h⟩, fun _ _ _ h => h, ?_, ?_, rfl⟩
    · intro x k off hx
      cases x with
      | tmp e =>
        simp only [Vc.setTmp, St.ev, nth_set] at hx
        simp only [St.ev]
        by_cases he : e = d ∧ d < σ.sl.length
        · rw [if_pos he] at hx
          cases hx
        · rw [if_neg he] at hx
          exact hx
      | const v => exact hx
      | global g => exact hx
      | func f => exact hx
    · intro x k hx
      cases x with
      | tmp e =>
        simp only [Vc.setTmp, St.ev, nth_set] at hx
        simp only [St.ev]
        by_cases he : e = d ∧ d < σ.sl.length
        · rw [if_pos he] at hx
          cases hx
        · rw [if_neg he] at hx
          exact hx
      | const v => exact hx
      | global g => exact hx
      | func f => exact hx
  | const v => exact Fz.refl σ
  | global g => exact Fz.refl σ
  | func f => exact Fz.refl σ
/-- An operation with its guard, carried out or passed over. -/
def GWp (C : Ctx) (ops : Array Oper) (o : Oper) (a : Act) (w : World) (next : Act → World → Prop) (Q : Exit → Act → World → Prop) : Prop :=
  if Region.wanted o (yielded ops a.tmps) then o.wp C.P a w next Q else next (a.put o.dst undef) w
theorem wanted_of {ops : Array Oper} {j d : Nat} {want t : Bool} {g : Oper} (hg : o.guard = some (j, want)) (hj : nth ops.toList j = some g) (hd : g.dst = some d) (ht : a.tmps[d]? = some (.bool t)) :
    Region.wanted o (yielded ops a.tmps) = (t == want) := by
  unfold Region.wanted
  rw [hg]
  rw [nth_eq, Array.getElem?_toList] at hj
  simp [yielded, hj, hd, ht]
theorem wanted_undef {ops : Array Oper} {j d : Nat} {want : Bool} {g : Oper} (hg : o.guard = some (j, want)) (hj : nth ops.toList j = some g) (hd : g.dst = some d) (ht : a.tmps[d]? = none ∨ ∃ xs, a.tmps[d]? = some (.tuple xs)) :
    Region.wanted o (yielded ops a.tmps) = false := by
  unfold Region.wanted
  rw [hg]
  rw [nth_eq, Array.getElem?_toList] at hj
  rcases ht with ht | ⟨xs, ht⟩ <;> simp [yielded, hj, hd, ht]
/-- What a guard's condition comes to. -/
theorem guard_cases {f : Oper → St → (St → Prop) → Prop} {ops : Array Oper} (hM : Models B ι σ a w) (h : guardG f ops o σ K) :
    ∃ σ1, Models B ι σ1 a w ∧ Fz σ σ1 ∧ ((Region.wanted o (yielded ops a.tmps) = true ∧ f o σ1 K) ∨ (Region.wanted o (yielded ops a.tmps) = false ∧ K (σ1.put o.dst (.at (.val undef))))) := by
  unfold guardG at h
  split at h
  · rename_i hg
    exact ⟨σ, hM, Fz.refl σ, .inl ⟨by simp [Region.wanted, hg], h⟩⟩
  · rename_i j want hg
    split at h
    · exact h.elim
    · rename_i g hj
      split at h
      · exact h.elim
      · rename_i d hd
        split at h
        · rename_i t ht
          have htm := tmps_of_ev hM ht
          have hw := wanted_of (o := o) (a := a) hg hj hd htm
          rcases branch_elim h with ⟨rfl, h⟩ | ⟨rfl, h⟩
          · refine ⟨setTmp σ (.tmp d) true, hM.setTmp ht, fz_setTmp ht, ?_⟩
            cases want with
            | true => exact .inl ⟨by simpa using hw, h⟩
            | false => exact .inr ⟨by simpa using hw, h⟩
          · refine ⟨setTmp σ (.tmp d) false, hM.setTmp ht, fz_setTmp ht, ?_⟩
            cases want with
            | true => exact .inr ⟨by simpa using hw, h⟩
            | false => exact .inl ⟨by simpa using hw, h⟩
        · rename_i xs ht
          exact ⟨σ, hM, Fz.refl σ, .inr ⟨wanted_undef hg hj hd (tmps_undef hM ht), h⟩⟩
        · exact h.elim
theorem guard_sound (hspecs : ∀ g S, assoc C.specs g = some S → Sound C.P g S) {ops : Array Oper} (hM : Models B ι σ a w) (h : guardVC C ops o σ K)
    (next : Act → World → Prop) (Q : Exit → Act → World → Prop) (hnext : ∀ ι' σ' a' w', Models B ι' σ' a' w' → K σ' → Keep σ ι o w w' → next a' w') : GWp C ops o a w next Q := by
  obtain ⟨σ1, hM1, hfz, hc⟩ := guard_cases hM h
  unfold GWp
  rcases hc with ⟨hw, h⟩ | ⟨hw, h⟩
  · rw [if_pos hw]
    exact op_sound hspecs hM1 h next Q (fun ι' σ' a' w' h1 h2 h3 => hnext ι' σ' a' w' h1 h2 (h3.of_fz hfz))
  · rw [if_neg (by simp [hw])]
    exact hnext ι _ _ _ (hM1.put o.dst (x := .at (.val undef)) rfl) h (keep_same hM)
/-! ### Calls of yield -/
theorem wpIn_of_wp {P : Program} {next : Act → World → Prop} {Q : Exit → Act → World → Prop} (h : o.wp P a w next Q) : o.wpIn Fence.wide 0 P a w next Q := by
  refine ⟨fun _ _ => trivial, ?_⟩
  show o.uponIn Fence.wide 0 P a next Q ((execOp a.eval o).run P w)
  unfold Oper.wp at h
  cases hr : (execOp a.eval o).run P w with
  | ok x w' =>
    rw [hr] at h
    cases x with
    | value v => exact h
    | skip => exact h
    | defer d => exact h
    | enter f args => exact ⟨fun e => by simp [Fence.wide] at e, callsIn_wide.2 h⟩
    | row r args =>
      refine ⟨fun e => by simp [Fence.wide] at e, fun c cs _ => ?_⟩
      obtain ⟨v, w2, hv, hs⟩ := h c cs
      exact ⟨v, w2, hv, stepsIn_wide.2 hs⟩
    | _ => exact h.elim
  | halt x w' =>
    rw [hr] at h
    cases x with
    | panic v => exact h
    | _ => exact h.elim
/-- A step, where yield may be called. -/
def StpIn (B : Base) (C : Ctx) (o : Oper) (K : St → Prop) (a : Act) (w : World) : Prop :=
  ∀ (next : Act → World → Prop) (Q : Exit → Act → World → Prop), (∀ ι' σ' a' w', Models B ι' σ' a' w' → K σ' → next a' w') → o.wpIn Fence.wide 0 C.P a w next Q
theorem closeArgs_vals (hM : Models B ι σ a w) : ∀ (i : Nat) (l : List Operand) (ts : List TypeId) (cvs : List CV), closeArgs C.P σ [] i l ts = some cvs → cvs = (l.map a.eval).map .val
  | i, [], ts, cvs, h => by simp [closeArgs] at h; subst h; rfl
  | i, x :: r, ts, cvs, h => by
    simp only [closeArgs] at h
    split at h
    · cases h
    · rename_i rest hrest
      have ih := closeArgs_vals hM (i + 1) r ts.tail rest hrest
      simp only [List.contains_nil] at h
      split at h
      · rename_i u hu
        simp only [Option.some.injEq] at h
        subst h
        simp only [List.map_cons, (hM.ev x).val? hu, ih]
      · cases h
theorem yield_sound (hM : Models B ι σ a w) {c : Call} {g : Operand} {l : Nat} {fs cs : Array Value} (ho : o.op = .call c) (hc : c.callee = .value g)
    (hg : σ.ev g = .at (.val (.func (.yield l) fs cs))) (hfs : fs.toList = []) (hcs : cs.toList = []) (h : yieldVC C o (.func (.yield l) #[] #[]) c.args.toList σ K) : StpIn B C o K a w := by
  intro next Q hnext
  unfold yieldVC at h
  split at h
  · exact h.elim
  · rename_i S hS
    split at h
    · rename_i cvs hcvs
      obtain ⟨hY, h⟩ := h
      have hv := closeArgs_vals hM 0 _ _ _ hcvs
      subst hv
      have hw := hM.wrel
      obtain ⟨fn, tmps, assign, body, hrun, hround⟩ := hY.go l _ σ.m σ.h w _ h ⟨hw.hsat, hw.msat, hw.disj⟩
      have hev : a.eval g = .func (.yield l) fs cs := by have := hM.ev g; rw [hg] at this; exact this
      have hfs' : fs = #[] := by apply Array.toList_inj.1; simpa using hfs
      have hcs' : cs = #[] := by apply Array.toList_inj.1; simpa using hcs
      subst hfs' hcs'
      have hargsA : c.args.map a.eval = (c.args.toList.map a.eval).toArray := by apply Array.toList_inj.1; simp
      have hrun2 : (execOp a.eval o).run C.P w = .ok (.round l fn tmps assign body) w := by
        unfold execOp
        simp only [ho, resolve, hc, hev, Deferred.ofValue, Sem.run_bind, Sem.run_pure, Result.andThen_ok, invoke]
        simp [hargsA, hrun]
      refine ⟨fun _ _ => trivial, ?_⟩
      show o.uponIn Fence.wide 0 C.P a next Q ((execOp a.eval o).run C.P w)
      rw [hrun2, Oper.uponIn_round]
      refine ⟨fun e => by simp [Fence.wide] at e, hround.mono ?_⟩
      rintro e w' ⟨u, m', h', rfl, hK, hf⟩
      show next (a.put o.dst u) w'
      have hwr : WRel ⟨w, fun b => σ.m b ≠ none, σ.h, []⟩ m' h' w' :=
        ⟨hf.tape, hf.os, hf.output, hf.size, fun b hb hn => hf.frame b hb (Classical.byContradiction hn), hf.heapy.hsat, hf.heapy.msat, hf.heapy.disj, hf.hle.le, fun b hb hn => hf.hold b hb (Classical.byContradiction hn), fun b ob hb => hf.mfr b ob hb⟩
      have hM2 := hM.called hwr (fun b hb => by
        cases hm : σ.m b with
        | none => exact (hb hm).elim
        | some ob => exact hw.mfr b ob hm) (fun j o' b hj hb hn => hn (hM.fresh j o' b hj hb).2.1)
      exact hnext ι _ _ _ (hM2.put o.dst (x := .at (.val u)) rfl) hK
    · exact h.elim
theorem op_sound' (hspecs : ∀ g S, assoc C.specs g = some S → Sound C.P g S) (hM : Models B ι σ a w) (h : opVC' C o σ K) : StpIn B C o K a w := by
  have old : opVC C o σ K → StpIn B C o K a w := fun h next Q hn => wpIn_of_wp (op_sound hspecs hM h next Q (fun ι' σ' a' w' h1 h2 _ => hn ι' σ' a' w' h1 h2))
  unfold opVC' at h
  split at h
  · rename_i c ho
    split at h
    · rename_i g hc
      split at h
      · rename_i l fs cs hg
        split at h
        · rename_i hfs hcs
          exact yield_sound hM ho hc hg hfs hcs h
        · exact h.elim
      · exact old h
    · exact old h
  · exact old h
/-! ### Regions whose order is fixed -/
theorem guard_soundIn (hspecs : ∀ g S, assoc C.specs g = some S → Sound C.P g S) {ops : Array Oper} (hM : Models B ι σ a w) (h : guardG (opVC' C) ops o σ K)
    (next : Act → World → Prop) (Q : Exit → Act → World → Prop) (hnext : ∀ ι' σ' a' w', Models B ι' σ' a' w' → K σ' → next a' w') :
    if Region.wanted o (yielded ops a.tmps) then o.wpIn Fence.wide 0 C.P a w next Q else (∀ f, o.about C.P w a.eval = some f → Fence.wide.fn f) ∧ next (a.put o.dst undef) w := by
  obtain ⟨σ1, hM1, hfz, hc⟩ := guard_cases hM h
  rcases hc with ⟨hw, h⟩ | ⟨hw, h⟩
  · rw [if_pos hw]
    exact op_sound' hspecs hM1 h next Q hnext
  · rw [if_neg (by simp [hw])]
    exact ⟨fun _ _ => trivial, hnext ι _ _ _ (hM1.put o.dst (x := .at (.val undef)) rfl) h⟩
theorem seq_sound' (hspecs : ∀ g S, assoc C.specs g = some S → Sound C.P g S) {ops : Array Oper} {Q : Exit → Act → World → Prop} {R : St → Prop} {rest : List Nat} (hQ : ∀ ι σ a w, Models B ι σ a w → R σ → wpOpsIn Fence.wide 0 C.P ops Q rest a w) :
    ∀ (l : List Oper) (s : Nat) (ι : Nat → Value) (σ : St) (a : Act) (w : World), (∀ j, j < l.length → l[j]? = ops.toList[s + j]?) → Models B ι σ a w → seqVC C ops l σ R → wpOpsIn Fence.wide 0 C.P ops Q (List.range' s l.length ++ rest) a w
  | [], s, ι, σ, a, w, _, hM, h => hQ ι σ a w hM h
  | o :: l, s, ι, σ, a, w, hl, hM, h => by
    have ho : ops[s]? = some o := by have := hl 0 (by simp); simp at this; exact this.symm
    simp only [List.length_cons, List.range'_succ, List.cons_append, wpOpsIn, ho]
    exact guard_soundIn hspecs hM h (wpOpsIn Fence.wide 0 C.P ops Q (List.range' (s + 1) l.length ++ rest)) Q (fun ι' σ' a' w' h1 h2 =>
      seq_sound' hspecs hQ l (s + 1) ι' σ' a' w' (fun j hj => by have := hl (j + 1) (by simp; omega); simp only [List.getElem?_cons_succ] at this; rw [this]; congr 1; omega) h1 h2)
end
end Go.Vc
namespace Go.Vc
open Go
def Yd (P : Program) (ops : Array Oper) (w : World) (o : Oper) (v : Value) (a : Act) : Prop :=
  (Region.wanted o (yielded ops a.tmps) = true ∧ (execOp a.eval o).run P w = .ok (.value v) w) ∨ (Region.wanted o (yielded ops a.tmps) = false ∧ v = undef)
/-- What ssaB says. -/
structure Ssa (ops : Array Oper) : Prop where
  look : ∀ (i k : Nat) (oi ok : Oper) (d : Nat), ops[i]? = some oi → ops[k]? = some ok → ok.dst = some d → d ∈ oi.looksAt ops → waits oi k = true
  dst : ∀ (i k : Nat) (oi ok : Oper) (d : Nat), ops[i]? = some oi → ops[k]? = some ok → ok.dst = some d → i ≠ k → oi.dst ≠ some d
  topo : ∀ (i : Nat) (oi : Oper) (k : Nat), ops[i]? = some oi → waits oi k = true → k < i
  sel : ∀ (j : Nat) (o : Oper) cs b, ops[j]? = some o → o.op ≠ .select cs b
theorem waits_iff {o : Oper} {k : Nat} : waits o k = true ↔ ∃ e ∈ o.after, Region.binds .any e = true ∧ e.on = k := by
  unfold waits
  rw [List.any_eq_true]
  constructor
  · rintro ⟨e, he, h⟩
    simp only [Bool.and_eq_true] at h
    exact ⟨e, by simpa using he, h.1, Nat.eq_of_beq_eq_true h.2⟩
  · rintro ⟨e, he, h1, h2⟩
    exact ⟨e, by simpa using he, by simp [h1, h2]⟩
theorem ssa_of {ops : Array Oper} (h : ssaB ops = true) (hs : Region.noSelect ops = true) : Ssa ops := by
  unfold ssaB at h
  simp only [List.all_eq_true, List.mem_range] at h
  have key : ∀ (i k : Nat) (oi ok : Oper) (d : Nat), ops[i]? = some oi → ops[k]? = some ok → ok.dst = some d →
      ((!(oi.looksAt ops).contains d || waits oi k) && (Nat.beq i k || !(oi.dst == some d))) = true := by
    intro i k oi ok d hi hk hd
    have hil : i < ops.toList.length := by have := (Array.getElem?_eq_some_iff.1 hi).1; simpa using this
    have hkl : k < ops.toList.length := by have := (Array.getElem?_eq_some_iff.1 hk).1; simpa using this
    have h1 := h i hil
    rw [nth_eq, Array.getElem?_toList, hi] at h1
    simp only [Bool.and_eq_true, List.all_eq_true, List.mem_range] at h1
    have h2 := h1.2 k hkl
    rw [nth_eq, Array.getElem?_toList, hk] at h2
    simp only [hd] at h2
    simpa using h2
  refine ⟨?_, ?_, ?_, Region.noSelect_spec hs⟩
  · intro i k oi ok d hi hk hd hl
    have := key i k oi ok d hi hk hd
    simp only [Bool.and_eq_true, Bool.or_eq_true, Bool.not_eq_true', List.contains_eq_mem, decide_eq_false_iff_not] at this
    rcases this.1 with h1 | h1
    · exact (h1 hl).elim
    · exact h1
  · intro i k oi ok d hi hk hd hne
    have := key i k oi ok d hi hk hd
    simp only [Bool.and_eq_true, Bool.or_eq_true] at this
    rcases this.2 with h1 | h1
    · exact (hne (Nat.eq_of_beq_eq_true h1)).elim
    · simpa using h1
  · intro i oi k hi hw
    have hil : i < ops.toList.length := by have := (Array.getElem?_eq_some_iff.1 hi).1; simpa using this
    have h1 := h i hil
    rw [nth_eq, Array.getElem?_toList, hi] at h1
    simp only [Bool.and_eq_true, List.all_eq_true] at h1
    obtain ⟨e, he, hb, rfl⟩ := waits_iff.1 hw
    have := h1.1 e (by simpa using he)
    simp only [hb, Bool.not_true, Bool.false_or] at this
    rw [← Nat.blt_eq]; exact this
theorem ready_iff {ops : Array Oper} {listed : Array Bool} {j : Nat} : j ∈ Region.ready .any ops listed ↔ listed.getD j true = false ∧ ∃ o, ops[j]? = some o ∧ ∀ k, waits o k = true → listed.getD k false = true := by
  rw [mem_ready]
  constructor
  · rintro ⟨h1, o, ho, h2⟩
    refine ⟨h1, o, ho, fun k hk => ?_⟩
    obtain ⟨e, he, hb, rfl⟩ := waits_iff.1 hk
    exact h2 e he hb
  · rintro ⟨h1, o, ho, h2⟩
    exact ⟨h1, o, ho, fun e he hb => h2 e.on (waits_iff.2 ⟨e, he, hb, rfl⟩)⟩
theorem getD_ft {l : Array Bool} {i : Nat} (h : l.getD i true = false) : l.getD i false = false ∧ i < l.size := by
  by_cases hi : i < l.size
  · simp [Array.getD, hi] at h ⊢; exact h
  · simp [Array.getD, hi] at h
theorem getD_set_same {l : Array Bool} {i : Nat} (h : i < l.size) : (l.setIfInBounds i true).getD i false = true := by
  simp [Array.getD, h]
theorem exec_agree {ops : Array Oper} {o : Oper} {ar ac : Act} (hs : ∀ cs b, o.op ≠ .select cs b) (h : ∀ t ∈ o.looksAt ops, ar.tmps[t]? = ac.tmps[t]?) :
    execOp ar.eval o = execOp ac.eval o ∧ Region.wanted o (yielded ops ar.tmps) = Region.wanted o (yielded ops ac.tmps) := by
  constructor
  · refine execOp_congr o hs fun x hx => ?_
    cases x with
    | tmp t =>
      have : t ∈ o.looksAt ops := List.mem_append_left _ (List.mem_filterMap.2 ⟨.tmp t, by simpa using hx, rfl⟩)
      simp only [Act.eval, Array.getD_eq_getD_getElem?, h t this]
    | const v => rfl
    | global g => rfl
    | func f => rfl
  · unfold Region.wanted
    split
    · rfl
    · rename_i j want hg
      have : yielded ops ar.tmps j = yielded ops ac.tmps j := by
        unfold yielded
        cases hd : (ops[j]?).bind (·.dst) with
        | none => rfl
        | some d =>
          have hm : d ∈ o.looksAt ops := by
            unfold Oper.looksAt
            refine List.mem_append_right _ ?_
            simp [hg, hd]
          simp only [Option.bind_some, h d hm]
      rw [this]
theorem put_get {a : Act} {d : Option Tmp} {v : Value} {t : Nat} (h : d ≠ some t) : (a.put d v).tmps[t]? = a.tmps[t]? := by
  cases d with
  | none => rfl
  | some e =>
    have : e ≠ t := fun x => h (by rw [x])
    simp [Act.put, Array.getElem?_setIfInBounds_ne this]
theorem put_put (a : Act) (d : Option Tmp) (u v : Value) : (a.put d u).put d v = a.put d v := by
  cases d with
  | none => rfl
  | some e => simp [Act.put]
structure Sim (P : Program) (ops : Array Oper) (L Cl : Array Bool) (ar ac : Act) (w : World) : Prop where
  szL : L.size = ops.size
  szC : Cl.size = ops.size
  sub : ∀ i, L.getD i false = true → Cl.getD i false = true
  rd : ∀ (i : Nat) (o : Oper), ops[i]? = some o → Cl.getD i false = true → L.getD i false = false → isRd o.op = true
  clC : ∀ (i : Nat) (o : Oper), ops[i]? = some o → Cl.getD i false = true → ∀ k, waits o k = true → Cl.getD k false = true
  tsz : ar.tmps.size = ac.tmps.size
  df : ar.defers = ac.defers
  agree : ∀ t, (∀ (i : Nat) (o : Oper), ops[i]? = some o → Cl.getD i false = true → L.getD i false = false → o.dst ≠ some t) → ar.tmps[t]? = ac.tmps[t]?
  pend : ∀ (i : Nat) (o : Oper), ops[i]? = some o → Cl.getD i false = true → L.getD i false = false → ∃ v, (∀ w'', (memOp P o = false ∨ w'' = w) → Yd P ops w'' o v ac) ∧ ac.put o.dst v = ac
section
variable {P : Program} {ops : Array Oper} {L Cl : Array Bool} {ar ac : Act} {w : World}
theorem Yd.congr {o : Oper} {v : Value} {a a' : Act} {w : World} (h : Yd P ops w o v a) (he : execOp a'.eval o = execOp a.eval o) (hw : Region.wanted o (yielded ops a'.tmps) = Region.wanted o (yielded ops a.tmps)) : Yd P ops w o v a' := by
  unfold Yd at *
  rw [he, hw]
  exact h
/-- What an operation that is ready looks at is the same in both frames. -/
theorem Sim.looks (hs : Ssa ops) (h : Sim P ops L Cl ar ac w) {i : Nat} {o : Oper} (ho : ops[i]? = some o) (hr : ∀ k, waits o k = true → L.getD k false = true) : ∀ t ∈ o.looksAt ops, ar.tmps[t]? = ac.tmps[t]? := by
  intro t ht
  refine h.agree t (fun k ok hk _ hL hd => ?_)
  have := hr k (hs.look i k o ok t ho hk hd ht)
  rw [this] at hL
  cases hL
/-- A reader that the canonical run has taken is carried out. -/
theorem Sim.stepA (h : Sim P ops L Cl ar ac w) {i : Nat} {o : Oper} (ho : ops[i]? = some o) (hC : Cl.getD i false = true) {v : Value} (hv : ac.put o.dst v = ac) :
    Sim P ops (L.setIfInBounds i true) Cl (ar.put o.dst v) ac w := by
  have hsz : i < L.size := by rw [h.szL]; exact (Array.getElem?_eq_some_iff.1 ho).1
  have hsub : ∀ k, (L.setIfInBounds i true).getD k false = false → L.getD k false = false ∧ k ≠ i := by
    intro k hk
    by_cases e : i = k
    · subst e; rw [getD_set_same hsz] at hk; cases hk
    · rw [getD_set_ne false e] at hk; exact ⟨hk, fun x => e x.symm⟩
  refine ⟨by simpa using h.szL, h.szC, ?_, fun k ok hk hCk hLk => h.rd k ok hk hCk (hsub k hLk).1, h.clC, ?_, ?_, ?_, fun k ok hk hCk hLk => h.pend k ok hk hCk (hsub k hLk).1⟩
  · intro k hk
    by_cases e : i = k
    · subst e; exact hC
    · rw [getD_set_ne false e] at hk; exact h.sub k hk
  · rw [← h.tsz]; cases o.dst <;> simp [Act.put]
  · rw [← h.df]; cases o.dst <;> rfl
  · intro t ht
    by_cases e : o.dst = some t
    · rw [e] at hv ⊢
      rw [← hv]
      simp only [Act.put, Array.getElem?_setIfInBounds_self, h.tsz]
    · rw [put_get e]
      refine h.agree t (fun k ok hk hCk hLk => ?_)
      by_cases ek : i = k
      · subst ek; rw [ho] at hk; cases hk; exact e
      · exact ht k ok hk hCk (by rw [getD_set_ne false ek]; exact hLk)
/-- The canonical run takes a reader that is ready. -/
theorem Sim.take (hs : Ssa ops) (h : Sim P ops L Cl ar ac w) {k : Nat} {o : Oper} (ho : ops[k]? = some o) (hC : Cl.getD k false = false) (hr : ∀ j, waits o j = true → Cl.getD j false = true) (hrd : isRd o.op = true) {v : Value}
    (hv : ∀ w'', (memOp P o = false ∨ w'' = w) → Yd P ops w'' o v ac) : Sim P ops L (Cl.setIfInBounds k true) ar (ac.put o.dst v) w := by
  have hsz : k < Cl.size := by rw [h.szC]; exact (Array.getElem?_eq_some_iff.1 ho).1
  have hcase : ∀ j, (Cl.setIfInBounds k true).getD j false = true → j = k ∨ Cl.getD j false = true := by
    intro j hj
    by_cases e : k = j
    · exact .inl e.symm
    · rw [getD_set_ne false e] at hj; exact .inr hj
  have hLk : L.getD k false = false := by
    cases hl : L.getD k false with
    | false => rfl
    | true => rw [h.sub k hl] at hC; cases hC
  have hup : ∀ j, Cl.getD j false = true → (Cl.setIfInBounds k true).getD j false = true := by
    intro j hj
    exact getD_set_true hj
  have hnl : ∀ d, o.dst = some d → d ∉ o.looksAt ops := fun d hd hm => by
    have := hs.topo k o k ho (hs.look k k o o d ho ho hd hm)
    omega
  refine ⟨h.szL, by simpa using h.szC, fun i hi => hup i (h.sub i hi), ?_, ?_, ?_, ?_, ?_, ?_⟩
  · intro i oi hi hCi hLi
    rcases hcase i hCi with rfl | hCi
    · rw [ho] at hi; cases hi; exact hrd
    · exact h.rd i oi hi hCi hLi
  · intro i oi hi hCi j hj
    rcases hcase i hCi with rfl | hCi
    · rw [ho] at hi; cases hi; exact hup j (hr j hj)
    · exact hup j (h.clC i oi hi hCi j hj)
  · rw [h.tsz]; cases o.dst <;> simp [Act.put]
  · rw [h.df]; cases o.dst <;> rfl
  · intro t ht
    have e : o.dst ≠ some t := ht k o ho (getD_set_same hsz) hLk
    rw [put_get e]
    exact h.agree t (fun i oi hi hCi hLi => ht i oi hi (hup i hCi) hLi)
  · intro i oi hi hCi hLi
    by_cases e : i = k
    · subst e
      rw [ho] at hi
      cases hi
      refine ⟨v, fun w'' hw => (hv w'' hw).congr (execOp_put o (hs.sel i o · · ho) ac o.dst v hnl) (wanted_put o ac o.dst v hnl), put_put _ _ _ _⟩
    · have hCi' := (hcase i hCi).resolve_left e
      obtain ⟨u, hu, hpu⟩ := h.pend i oi hi hCi' hLi
      have hnl' : ∀ d, o.dst = some d → d ∉ oi.looksAt ops := fun d hd hm => by
        have := h.clC i oi hi hCi' k (hs.look i k oi o d hi ho hd hm)
        rw [this] at hC
        cases hC
      refine ⟨u, fun w'' hw => (hu w'' hw).congr (execOp_put oi (hs.sel i oi · · hi) ac o.dst v hnl') (wanted_put oi ac o.dst v hnl'), ?_⟩
      rw [Act.put_comm ac v u (fun d hd => hs.dst i k oi o d hi ho hd e), hpu]
theorem wp_transfer {o : Oper} {a1 a2 : Act} {w : World} {next1 next2 : Act → World → Prop} {Q : Exit → Act → World → Prop} (he : execOp a2.eval o = execOp a1.eval o) (h : o.wp P a1 w next1 Q)
    (hv : ∀ v w', next1 (a1.put o.dst v) w' → next2 (a2.put o.dst v) w') (hd : ∀ d w', ¬ next1 (({ a1 with defers := d :: a1.defers } : Act).put o.dst undef) w') (hQ : ∀ c a w, ¬ Q (.panic c) a w) : o.wp P a2 w next2 Q := by
  unfold Oper.wp at *
  rw [he]
  generalize (execOp a1.eval o).run P w = r at *
  cases r with
  | ok n w' =>
    cases n <;> simp only [Oper.upon] at h ⊢
    case value u => exact hv u w' h
    case skip => exact hv undef w' h
    case defer d => exact (hd d w' h).elim
    case enter f args =>
      refine Calls.mono h fun e w'' he' => ?_
      cases e with
      | returned u => exact hv u w'' he'
      | panicked c => exact (hQ _ _ _ he').elim
      | outgrown => exact he'
    case row row args => exact Rows.mono h fun u w'' he' => hv u w'' he'
  | halt x w' =>
    cases x <;> simp only [Oper.upon] at h ⊢
    case panic u => exact (hQ _ _ _ h).elim
/-- An operation that is no reader is carried out in both runs. -/
theorem Sim.stepB (hs : Ssa ops) (h : Sim P ops L Cl ar ac w) {j : Nat} {o : Oper} (ho : ops[j]? = some o) (hC : Cl.getD j false = false) (hr : ∀ k, waits o k = true → L.getD k false = true) (u : Value) (w' : World)
    (hpend : ∀ (i : Nat) (oi : Oper) (v : Value), ops[i]? = some oi → Cl.getD i false = true → L.getD i false = false → Yd P ops w oi v ac → Yd P ops w' oi v ac ∨ memOp P oi = false) :
    Sim P ops (L.setIfInBounds j true) (Cl.setIfInBounds j true) (ar.put o.dst u) (ac.put o.dst u) w' := by
  have hszC : j < Cl.size := by rw [h.szC]; exact (Array.getElem?_eq_some_iff.1 ho).1
  have hszL : j < L.size := by rw [h.szL]; exact (Array.getElem?_eq_some_iff.1 ho).1
  have hcase : ∀ i, (Cl.setIfInBounds j true).getD i false = true → i = j ∨ Cl.getD i false = true := by
    intro i hi
    by_cases e : j = i
    · exact .inl e.symm
    · rw [getD_set_ne false e] at hi; exact .inr hi
  have hLcase : ∀ i, (L.setIfInBounds j true).getD i false = false → i ≠ j ∧ L.getD i false = false := by
    intro i hi
    by_cases e : j = i
    · subst e; rw [getD_set_same hszL] at hi; cases hi
    · rw [getD_set_ne false e] at hi; exact ⟨fun x => e x.symm, hi⟩
  have hup : ∀ i, Cl.getD i false = true → (Cl.setIfInBounds j true).getD i false = true := fun i hi => getD_set_true hi
  refine ⟨by simpa using h.szL, by simpa using h.szC, ?_, ?_, ?_, ?_, ?_, ?_, ?_⟩
  · intro i hi
    by_cases e : j = i
    · subst e; exact getD_set_same hszC
    · rw [getD_set_ne false e] at hi; exact hup i (h.sub i hi)
  · intro i oi hi hCi hLi
    obtain ⟨hne, hLi'⟩ := hLcase i hLi
    exact h.rd i oi hi ((hcase i hCi).resolve_left hne) hLi'
  · intro i oi hi hCi k hk
    rcases hcase i hCi with rfl | hCi
    · rw [ho] at hi; cases hi; exact hup k (h.sub k (hr k hk))
    · exact hup k (h.clC i oi hi hCi k hk)
  · cases o.dst <;> simp [Act.put, h.tsz]
  · have := h.df
    cases o.dst <;> exact this
  · intro t ht
    by_cases e : o.dst = some t
    · rw [e]
      simp only [Act.put, Array.getElem?_setIfInBounds_self, h.tsz]
    · rw [put_get e, put_get e]
      refine h.agree t (fun i oi hi hCi hLi => ht i oi hi (hup i hCi) ?_)
      have hne : j ≠ i := fun x => by subst x; rw [hC] at hCi; cases hCi
      rw [getD_set_ne false hne]; exact hLi
  · intro i oi hi hCi hLi
    obtain ⟨hne, hLi'⟩ := hLcase i hLi
    have hCi' := (hcase i hCi).resolve_left hne
    obtain ⟨v, hv, hpv⟩ := h.pend i oi hi hCi' hLi'
    have hnl : ∀ d, o.dst = some d → d ∉ oi.looksAt ops := fun d hd hm => by
      have := h.clC i oi hi hCi' j (hs.look i j oi o d hi ho hd hm)
      rw [this] at hC
      cases hC
    refine ⟨v, fun w'' hw => ?_, ?_⟩
    · have hy : Yd P ops w'' oi v ac := by
        rcases hw with hw | hw
        · exact hv w'' (.inl hw)
        · rw [hw]
          rcases hpend i oi v hi hCi' hLi' (hv w (.inr rfl)) with h1 | h1
          · exact h1
          · exact hv w' (.inl h1)
      exact hy.congr (execOp_put oi (hs.sel i oi · · hi) ac o.dst u hnl) (wanted_put oi ac o.dst u hnl)
    · rw [Act.put_comm ac u v (fun d hd => hs.dst i j oi o d hi ho hd hne), hpv]
end
section
variable {B : Base} {C : Ctx} {ι : Nat → Value} {σ : St} {a : Act} {w : World}
theorem stab1_split {P : Program} {σ : St} {oj oi : Oper} {K : Prop} (h : stab1 P σ oj oi K) : stab1 P σ oj oi True ∧ K := by
  unfold stab1 at h ⊢
  repeat' split at h
  all_goals first | exact h.elim | skip
  all_goals simp_all
theorem stabVC_get {P : Program} {ops : Array Oper} {listed : Array Bool} {σ : St} {oj : Oper} : ∀ (l : List Oper) (s : Nat) {K : Prop}, stabVC P ops listed σ oj s l K →
    K ∧ ∀ (i : Nat) (oi : Oper), l[i]? = some oi → listed.getD (s + i) false = true → isRd oi.op = true → waits oj (s + i) = false → isUndef ops σ oi = false → stab1 P σ oj oi True
  | [], s, K, h => ⟨h, fun i oi hi => by simp at hi⟩
  | o :: l, s, K, h => by
    have key : (stabVC P ops listed σ oj (s + 1) l K) ∧ (listed.getD s false = true → isRd o.op = true → waits oj s = false → isUndef ops σ o = false → stab1 P σ oj o True) := by
      simp only [stabVC] at h
      split at h
      · obtain ⟨h1, h2⟩ := stab1_split h
        exact ⟨h2, fun _ _ _ _ => h1⟩
      · rename_i hn
        refine ⟨h, fun h1 h2 h3 h4 => ?_⟩
        exact (hn h1 h2 h3 h4).elim
    obtain ⟨hK, ih⟩ := stabVC_get l (s + 1) key.1
    refine ⟨hK, fun i oi hi h1 h2 h3 h4 => ?_⟩
    cases i with
    | zero => simp at hi; subst hi; exact key.2 (by simpa using h1) h2 (by simpa using h3) h4
    | succ i =>
      simp only [List.getElem?_cons_succ] at hi
      exact ih i oi hi (by rw [show s + 1 + i = s + (i + 1) by omega]; exact h1) h2 (by rw [show s + 1 + i = s + (i + 1) by omega]; exact h3) h4
theorem isUndef_spec {ops : Array Oper} {oi : Oper} (hM : Models B ι σ a w) (h : isUndef ops σ oi = true) : Region.wanted oi (yielded ops a.tmps) = false := by
  unfold isUndef at h
  split at h
  · cases h
  · rename_i j want hg
    split at h
    · cases h
    · rename_i g hj
      split at h
      · cases h
      · rename_i d hd
        split at h
        · rename_i t ht
          rw [wanted_of hg hj hd (tmps_of_ev hM ht)]
          split at h
          · rfl
          · rfl
          · cases h
        · rename_i xs ht
          exact wanted_undef hg hj hd (tmps_undef hM ht)
        · cases h
theorem argsApart_spec (hM : Models B ι σ a w) {k : Nat} {ow : Own} (hown : nth σ.own k = some (some ow)) {b : Nat} (hb : blk (ι k) = some b) : ∀ {l : List Operand}, argsApart σ k l = true → ∀ x ∈ l, ∀ j, (σ.ev x = .at (.lst j) ∨ ∃ off, σ.ev x = .at (.ptr j off)) → blk (ι j) ≠ some b
  | [], _, x, hx => by cases hx
  | y :: r, h, x, hx => by
    simp only [argsApart, Bool.and_eq_true] at h
    rcases List.mem_cons.1 hx with rfl | hx
    · intro j hj hbj
      have h1 := h.1
      rcases hj with hj | ⟨off, hj⟩
      all_goals
        simp only [hj] at h1
        split at h1
        · rename_i o' ho'
          have := hM.dist j k _ _ b ho' hown hbj hb
          subst this
          simp at h1
        · cases h1
    · exact argsApart_spec hM hown hb h.2 x hx
/-- What a reader has read is still there. -/
theorem persist {ops : Array Oper} {oj oi : Oper} {v : Value} {w' : World} (hM : Models B ι σ a w) (hk : Keep σ ι oj w w') (hst : stab1 C.P σ oj oi True) (hy : Yd C.P ops w oi v a) : Yd C.P ops w' oi v a ∨ memOp C.P oi = false := by
  unfold stab1 at hst
  split at hst
  · rename_i hm; exact .inr hm
  · left
    rcases hy with ⟨hw, hrun⟩ | hy
    · left
      refine ⟨hw, ?_⟩
      split at hst
      · rename_i T x hop
        split at hst
        · exact hst.elim
        · rename_i hT
          have hev := hM.ev x
          have gen : ∀ (b off : Nat) (cs : List Value), a.eval x = .pointer (some ⟨b, off, none⟩) → cs.length = C.P.cellsOf T → (∀ j u, cs[j]? = some u → w.cell? ⟨b, off + j, none⟩ = some u) → (∀ j u, cs[j]? = some u → w'.cell? ⟨b, off + j, none⟩ = some u) →
              (execOp a.eval oi).run C.P w' = .ok (.value v) w' := by
            intro b off cs hx hl hc hc'
            have h1 := run_loadVar hT hl hc
            have h2 := run_loadVar hT hl hc'
            have e1 : (execOp a.eval oi).run C.P w = .ok (.value (mkV C.P T cs)) w := by
              unfold execOp
              simp only [hop, hx, Instr.loadAt, Instr.sureAddr, Sem.run_bind, Sem.run_pure, Result.andThen_ok, h1]
            have e2 : (execOp a.eval oi).run C.P w' = .ok (.value (mkV C.P T cs)) w' := by
              unfold execOp
              simp only [hop, hx, Instr.loadAt, Instr.sureAddr, Sem.run_bind, Sem.run_pure, Result.andThen_ok, h2]
            rw [e1] at hrun
            simp only [Result.ok.injEq, Next.value.injEq, and_true] at hrun
            rw [e2, hrun]
          split at hst
          · rename_i k off hx
            rw [hx] at hev
            split at hst
            · rename_i T' cs hown
              split at hst
              · rename_i ht hle
                have hle := Nat.le_of_ble_eq_true hle
                obtain ⟨b, vs, hι, hh, hdc⟩ := own_cells hM hown
                obtain ⟨b', hb', hpt⟩ := hev
                rw [hι] at hb'
                simp only [Value.pointer.injEq, Option.some.injEq, Addr.mk.injEq] at hb'
                obtain ⟨rfl, -, -⟩ := hb'
                have hh' := hk.cells k T' cs b hown ht hι
                rw [hh] at hh'
                have hvs : cs.length = vs.toList.length := hdc.length
                refine gen b off ((vs.toList.drop off).take (C.P.cellsOf T)) hpt (by simp at hvs ⊢; omega) (fun j u hu => ?_) (fun j u hu => ?_)
                · rw [cell_of_heap hh]; exact sub_cells hu
                · rw [cell_of_heap hh']; exact sub_cells hu
              · exact hst.elim
            · exact hst.elim
          · rename_i b off d hx hd
            rw [hx] at hev
            have hev : a.eval x = .pointer (some ⟨b, off, none⟩) := hev
            split at hst
            · rename_i cs hcs
              split at hst
              · rename_i l hl
                split at hst
                · rename_i hlen
                  split at hst
                  · rename_i hgr
                    have hc := rdAt_cells hM.wrel hst.1
                    refine gen b off l hev (Nat.eq_of_beq_eq_true hlen) hc (fun j u hu => ?_)
                    have h1 := hc j u hu
                    rw [← h1]
                    exact World.cell?_of_block (w := w) (w' := w') (a := ⟨b, off + j, none⟩) (hk.ext hgr b (World.block_lt_of_cell? w ⟨b, off + j, none⟩ h1))
                  · refine gen b off l hev (Nat.eq_of_beq_eq_true hlen) (fun j u hu => hM.wrel.hsat _ _ _ (hst.1.rd j u hu)) (fun j u hu => hk.imm _ _ _ (hst.1.rd j u hu))
                · exact hst.elim
              · exact hst.elim
            · exact hst.elim
          · exact hst.elim
      · rename_i src dst x hop
        have hev := hM.ev x
        split at hst
        · rename_i k d hx hd
          rw [hx] at hev
          have hev : a.eval x = ι k := hev
          split at hst
          · rename_i E' sz xs s hown hs
            split at hst
            · rename_i E hsrc hdst
              split at hst
              · rename_i hE
                split at hst
                · rename_i hap
                  have hxs := hst.1
                  obtain ⟨hrows, hrow⟩ := own_lst hM hown
                  have hbl : xs = bytesVal s.data.toList := hxs
                  have blkSame : ∀ b, blk (ι k) = some b → w'.heap[b]? = w.heap[b]? := by
                    intro b hb
                    have hlt := blk_lt (hM.own k _ hown) hb
                    unfold apartB at hap
                    rw [Bool.or_eq_true] at hap
                    rcases hap with hap | hap
                    · exact hk.ext hap b hlt
                    · split at hap
                      · rename_i l hl
                        refine hk.args l b hl hlt (hM.fresh k _ b hown hb).2.1 ?_
                        exact argsApart_spec hM hown hb hap
                      · cases hap
                  have hrow' : w'.ownsRow 0 E' sz (ι k) xs.length xs.flatten := ((hM.own k _ hown).world (fun b hb => blkSame b hb)).2
                  have go : ∀ w1 : World, w1.ownsRow 0 E' sz (ι k) xs.length xs.flatten → (execOp a.eval oi).run C.P w1 = .ok (.value (.string ⟨s.data.toList.toArray⟩)) w1 := by
                    intro w1 h1
                    subst hbl
                    exact run_convert_own hop hsrc hE hdst hev h1
                  rw [go w hrow] at hrun
                  rw [go w' hrow']
                  simp only [Result.ok.injEq, Next.value.injEq, and_true] at hrun
                  rw [hrun]
                · exact hst.elim
              · exact hst.elim
            · exact hst.elim
          · exact hst.elim
        · exact hst.elim
      · exact hst.elim
    · exact .inr hy
theorem allVC_get {g : Nat → Prop} : ∀ {l : List Nat}, allVC g l → ∀ j ∈ l, g j
  | [], _, j, hj => by cases hj
  | [i], h, j, hj => by simp at hj; subst hj; exact h
  | i :: k :: r, h, j, hj => by
    rcases List.mem_cons.1 hj with rfl | hj
    · exact h.1
    · exact allVC_get h.2 j hj
theorem firstRd_some {ops : Array Oper} : ∀ {l : List Nat} {i : Nat} {o : Oper}, firstRd ops l = some (i, o) → i ∈ l ∧ ops[i]? = some o ∧ isRd o.op = true
  | [], i, o, h => by simp [firstRd] at h
  | k :: r, i, o, h => by
    simp only [firstRd] at h
    split at h
    · rename_i ok hok
      split at h
      · rename_i hr
        simp only [Option.some.injEq, Prod.mk.injEq] at h
        obtain ⟨rfl, rfl⟩ := h
        rw [nth_eq, Array.getElem?_toList] at hok
        exact ⟨List.mem_cons_self, hok, hr⟩
      · obtain ⟨h1, h2⟩ := firstRd_some h
        exact ⟨List.mem_cons_of_mem _ h1, h2⟩
    · obtain ⟨h1, h2⟩ := firstRd_some h
      exact ⟨List.mem_cons_of_mem _ h1, h2⟩
def unlisted (ops : Array Oper) (L : Array Bool) : Nat := ((List.range ops.size).filter fun i => !L.getD i false).length
theorem unlisted_set {ops : Array Oper} {L : Array Bool} {i : Nat} (hsz : L.size = ops.size) (hi : i < ops.size) (hL : L.getD i false = false) : unlisted ops (L.setIfInBounds i true) + 1 = unlisted ops L := by
  unfold unlisted
  have key : ∀ (l : List Nat), l.Nodup → (l.filter fun j => !(L.setIfInBounds i true).getD j false).length + (if i ∈ l then 1 else 0) = (l.filter fun j => !L.getD j false).length := by
    intro l
    induction l with
    | nil => intro _; simp
    | cons j r ih =>
      intro hnd
      have hnd' := List.nodup_cons.1 hnd
      have := ih hnd'.2
      by_cases e : i = j
      · subst e
        have h1 : (L.setIfInBounds i true).getD i false = true := getD_set_same (by omega)
        have h2 : i ∉ r := hnd'.1
        simp only [List.filter_cons, h1, hL, Bool.not_true, Bool.not_false, if_true, Bool.false_eq_true, if_false, List.length_cons, List.mem_cons_self]
        simp only [h2, if_false] at this
        omega
      · have h1 : (L.setIfInBounds i true).getD j false = L.getD j false := getD_set_ne false e
        have h2 : (i ∈ j :: r) ↔ i ∈ r := by simp [e]
        simp only [List.filter_cons, h1]
        split
        · simp only [List.length_cons, h2]; omega
        · simp only [h2]; exact this
  have := key (List.range ops.size) List.nodup_range
  rw [if_pos (List.mem_range.2 hi)] at this
  exact this
theorem all_of_ready_nil {ops : Array Oper} {L : Array Bool} (hs : Ssa ops) (hsz : L.size = ops.size) (h : Region.ready .any ops L = []) : ∀ i, i < ops.size → L.getD i false = true := by
  intro i
  induction i using Nat.strongRecOn with
  | _ i ih =>
    intro hi
    cases hL : L.getD i false with
    | true => rfl
    | false =>
      exfalso
      have ho : ops[i]? = some ops[i] := Array.getElem?_eq_getElem hi
      have : i ∈ Region.ready .any ops L := by
        rw [ready_iff]
        refine ⟨?_, _, ho, fun k hk => ih k (hs.topo i _ k ho hk) (Nat.lt_trans (hs.topo i _ k ho hk) hi)⟩
        have hiL : i < L.size := by omega
        simp [Array.getD, hiL] at hL ⊢
        exact hL
      rw [h] at this
      cases this
theorem ready_nil_of_all {ops : Array Oper} {L : Array Bool} (h : ∀ i, i < ops.size → L.getD i false = true) : Region.ready .any ops L = [] := by
  cases hr : Region.ready .any ops L with
  | nil => rfl
  | cons i r =>
    exfalso
    have : i ∈ Region.ready .any ops L := by rw [hr]; exact List.mem_cons_self
    obtain ⟨h1, o, ho, _⟩ := ready_iff.1 this
    have hi := (Array.getElem?_eq_some_iff.1 ho).1
    have := h i hi
    rw [(getD_ft h1).1] at this
    cases this
theorem Sim.eq_of_all {P : Program} {ops : Array Oper} {L Cl : Array Bool} {ar ac : Act} (h : Sim P ops L Cl ar ac w) (hall : ∀ i, i < ops.size → L.getD i false = true) : ar = ac := by
  have ht : ar.tmps = ac.tmps := by
    apply Array.ext_getElem?
    intro t
    refine h.agree t (fun i o ho _ hL => ?_)
    have := hall i (Array.getElem?_eq_some_iff.1 ho).1
    rw [hL] at this; cases this
  have hd := h.df
  cases ar; cases ac
  simp at ht hd
  rw [ht, hd]
theorem anyVC_nil {ops : Array Oper} {R : St → Prop} {n : Nat} {Cl : Array Bool} (h : anyVC C ops n Cl σ R) (hr : Region.ready .any ops Cl = []) : R σ := by
  cases n <;> simp only [anyVC, hr] at h <;> exact h
theorem any_sound (hspecs : ∀ g S, assoc C.specs g = some S → Sound C.P g S) {ops : Array Oper} (hs : Ssa ops) {Q : Exit → Act → World → Prop} {R : St → Prop} (hQ : ∀ ι σ a w, Models B ι σ a w → R σ → Q .normal a w)
    (hQp : ∀ c a w, ¬ Q (.panic c) a w) :
    ∀ (n : Nat) (fuel : Nat) (Cl : Array Bool) (ι : Nat → Value) (σ : St) (ac : Act) (w : World), Models B ι σ ac w → anyVC C ops n Cl σ R → ∀ (L : Array Bool) (ar : Act), Sim C.P ops L Cl ar ac w → unlisted ops L = fuel →
      wpAny C.P .any ops Q fuel L ar w := by
  have fin : ∀ (n : Nat) (Cl : Array Bool) (ι : Nat → Value) (σ : St) (ac : Act) (w : World), Models B ι σ ac w → anyVC C ops n Cl σ R → ∀ (L : Array Bool) (ar : Act), Sim C.P ops L Cl ar ac w → Region.ready .any ops L = [] → Q .normal ar w := by
    intro n Cl ι σ ac w hM h L ar sim hr
    have hall := all_of_ready_nil hs sim.szL hr
    rw [sim.eq_of_all hall]
    exact hQ ι σ ac w hM (anyVC_nil h (ready_nil_of_all (fun i hi => sim.sub i (hall i hi))))
  have zero : ∀ (n : Nat) (Cl : Array Bool) (ι : Nat → Value) (σ : St) (ac : Act) (w : World), Models B ι σ ac w → anyVC C ops n Cl σ R → ∀ (L : Array Bool) (ar : Act), Sim C.P ops L Cl ar ac w → unlisted ops L = 0 → wpAny C.P .any ops Q 0 L ar w := by
    intro n Cl ι σ ac w hM h L ar sim hf
    have hall : ∀ i, i < ops.size → L.getD i false = true := by
      intro i hi
      unfold unlisted at hf
      have hnil := List.eq_nil_of_length_eq_zero hf
      cases hL : L.getD i false with
      | true => rfl
      | false =>
        have : i ∈ (List.range ops.size).filter fun i => !L.getD i false := List.mem_filter.2 ⟨List.mem_range.2 hi, by simp [hL]⟩
        rw [hnil] at this; cases this
    have hr := ready_nil_of_all hall
    exact ⟨hr, fin n Cl ι σ ac w hM h L ar sim hr⟩
  -- a reader that was taken already
  have stepP : ∀ (n fuel : Nat), (∀ (Cl : Array Bool) (ι : Nat → Value) (σ : St) (ac : Act) (w : World), Models B ι σ ac w → anyVC C ops n Cl σ R → ∀ (L : Array Bool) (ar : Act), Sim C.P ops L Cl ar ac w → unlisted ops L = fuel → wpAny C.P .any ops Q fuel L ar w) →
      ∀ (Cl : Array Bool) (ι : Nat → Value) (σ : St) (ac : Act) (w : World), Models B ι σ ac w → anyVC C ops n Cl σ R → ∀ (L : Array Bool) (ar : Act), Sim C.P ops L Cl ar ac w → unlisted ops L = fuel + 1 →
        ∀ i ∈ Region.ready .any ops L, Cl.getD i false = true → wpOp C.P ops Q i (wpAny C.P .any ops Q fuel (L.setIfInBounds i true)) ar w := by
    intro n fuel ih Cl ι σ ac w hM h L ar sim hf i hi hC
    obtain ⟨hun, o, ho, hw⟩ := ready_iff.1 hi
    obtain ⟨hL, hlt⟩ := getD_ft hun
    obtain ⟨v, hv, hpv⟩ := sim.pend i o ho hC hL
    obtain ⟨he, hwe⟩ := exec_agree (hs.sel i o · · ho) (sim.looks hs ho hw)
    have hy : Yd C.P ops w o v ar := (hv w (.inr rfl)).congr he hwe
    have hnext : wpAny C.P .any ops Q fuel (L.setIfInBounds i true) (ar.put o.dst v) w :=
      ih Cl ι σ ac w hM h _ _ (sim.stepA ho hC hpv) (by have := unlisted_set sim.szL (by have := sim.szL; omega) hL; omega)
    unfold wpOp
    simp only [ho]
    rcases hy with ⟨hwt, hrun⟩ | ⟨hwt, rfl⟩
    · rw [if_pos hwt]
      left
      unfold Oper.wp
      rw [hrun, Oper.upon_value]
      exact hnext
    · rw [if_neg (by simp [hwt])]
      exact hnext
  intro n
  induction n with
  | zero =>
    intro fuel
    induction fuel with
    | zero => exact zero 0
    | succ fuel ihf =>
      intro Cl ι σ ac w hM h L ar sim hf
      refine ⟨fin 0 Cl ι σ ac w hM h L ar sim, fun i hi => ?_⟩
      cases hC : Cl.getD i false with
      | true => exact stepP 0 fuel ihf Cl ι σ ac w hM h L ar sim hf i hi hC
      | false =>
        exfalso
        obtain ⟨hun, o, ho, hw⟩ := ready_iff.1 hi
        have hiC : i ∈ Region.ready .any ops Cl := by
          rw [ready_iff]
          refine ⟨?_, o, ho, fun k hk => sim.sub k (hw k hk)⟩
          have : i < Cl.size := by rw [sim.szC]; exact (Array.getElem?_eq_some_iff.1 ho).1
          simp [Array.getD, this] at hC ⊢
          exact hC
        simp only [anyVC] at h
        split at h
        · rename_i hr; rw [hr] at hiC; cases hiC
        · exact h
  | succ n ihn =>
    intro fuel
    induction fuel with
    | zero => exact zero (n + 1)
    | succ fuel ihf =>
      intro Cl ι σ ac w hM h L ar sim hf
      refine ⟨fin (n + 1) Cl ι σ ac w hM h L ar sim, fun i hi => ?_⟩
      cases hC : Cl.getD i false with
      | true => exact stepP (n + 1) fuel ihf Cl ι σ ac w hM h L ar sim hf i hi hC
      | false =>
        obtain ⟨hun, o, ho, hw⟩ := ready_iff.1 hi
        obtain ⟨hLi, hlt⟩ := getD_ft hun
        have hiC : i ∈ Region.ready .any ops Cl := by
          rw [ready_iff]
          refine ⟨?_, o, ho, fun k hk => sim.sub k (hw k hk)⟩
          have : i < Cl.size := by rw [sim.szC]; exact (Array.getElem?_eq_some_iff.1 ho).1
          simp [Array.getD, this] at hC ⊢
          exact hC
        simp only [anyVC] at h
        split at h
        · rename_i hr; rw [hr] at hiC; cases hiC
        · split at h
          · -- the canonical run takes a reader first
            rename_i k ok hfr
            obtain ⟨hkr, hok, hkrd⟩ := firstRd_some hfr
            obtain ⟨hkun, ok', hok', hkw⟩ := ready_iff.1 hkr
            rw [hok] at hok'
            cases hok'
            obtain ⟨hkC, hklt⟩ := getD_ft hkun
            obtain ⟨σ1, hM1, hfz, hc⟩ := guard_cases hM h
            rcases hc with ⟨hwt, h⟩ | ⟨hwt, h⟩
            · obtain ⟨v, x, hrun, hx, hK⟩ := op_rdr hM1 hkrd h
              have hsim := sim.take hs hok hkC hkw hkrd (v := v) (fun w'' hw'' => .inl ⟨hwt, hrun w'' hw''⟩)
              exact (ihn (fuel + 1) _ ι _ _ w (hM1.put ok.dst hx) hK L ar hsim hf).2 i hi
            · have hsim := sim.take hs hok hkC hkw hkrd (v := undef) (fun w'' _ => .inr ⟨hwt, rfl⟩)
              exact (ihn (fuel + 1) _ ι _ _ w (hM1.put ok.dst (x := .at (.val undef)) rfl) h L ar hsim hf).2 i hi
          · -- no reader is ready: the operation i is carried out in both runs
            have hg := allVC_get h i hiC
            split at hg
            · rename_i o' ho'
              rw [nth_eq, Array.getElem?_toList, ho] at ho'
              cases ho'
              obtain ⟨hg, hstab⟩ := stabVC_get _ 0 hg
              obtain ⟨he, hwe⟩ := exec_agree (hs.sel i o · · ho) (sim.looks hs ho hw)
              have hgw := guard_sound hspecs hM hg (fun a' w' => ∃ ι' σ', Models B ι' σ' a' w' ∧ anyVC C ops n (Cl.setIfInBounds i true) σ' R ∧ Keep σ ι o w w') Q (fun ι' σ' a' w' h1 h2 h3 => ⟨ι', σ', h1, h2, h3⟩)
              have hB : ∀ (u : Value) (w' : World), (∃ ι' σ', Models B ι' σ' (ac.put o.dst u) w' ∧ anyVC C ops n (Cl.setIfInBounds i true) σ' R ∧ Keep σ ι o w w') →
                  wpAny C.P .any ops Q fuel (L.setIfInBounds i true) (ar.put o.dst u) w' := by
                rintro u w' ⟨ι', σ', hM', h', hk'⟩
                refine ihn fuel _ ι' σ' _ w' hM' h' _ _ (sim.stepB hs ho hC hw u w' ?_) (by have := unlisted_set sim.szL (by have := sim.szL; omega) hLi; omega)
                intro j oj v hj hCj hLj hy
                cases hun' : isUndef ops σ oj with
                | true =>
                  have := isUndef_spec hM hun'
                  rcases hy with ⟨h1, _⟩ | h1
                  · rw [this] at h1; cases h1
                  · exact .inl (.inr h1)
                | false =>
                  have hnw : waits o j = false := by
                    cases hwj : waits o j with
                    | false => rfl
                    | true => rw [hw j hwj] at hLj; cases hLj
                  have hst := hstab j oj (by rw [Array.getElem?_toList]; exact hj) (by simpa using hCj) (sim.rd j oj hj hCj hLj) (by simpa using hnw) hun'
                  exact persist hM hk' hst hy
              unfold GWp at hgw
              unfold wpOp
              simp only [ho]
              rw [hwe]
              split
              · rename_i hwt
                rw [if_pos hwt] at hgw
                left
                refine wp_transfer he hgw hB ?_ hQp
                rintro d w' ⟨ι', σ', hM', _⟩
                have := hM'.defers
                rw [← hM.defers] at this
                cases hd : o.dst <;> simp [Act.put, hd] at this
              · rename_i hwt
                rw [if_neg hwt] at hgw
                exact hB undef w hgw
            · exact hg.elim
theorem Models.drew {B : Base} {ι : Nat → Value} {σ : St} {a : Act} {w : World} (h : Models B ι σ a w) (k : Nat) : Models B ι σ a { w with drawn := k } := by
  refine ⟨h.slots, h.defers, fun j o hj => (h.own j o hj).world (fun _ _ => rfl), h.dist, h.fresh, ?_, h.one⟩
  have hw := h.wrel
  exact ⟨hw.tape, hw.os, hw.output, hw.size, hw.frame, hw.hsat, hw.msat, hw.disj, hw.hle, hw.hold, hw.mfr⟩
end
end Go.Vc
namespace Go.Vc
open Go
section
variable {B : Base} {C : Ctx} {ι : Nat → Value} {σ : St} {a : Act} {w : World}
/-! ### Matching states -/
theorem matchSl_sound : ∀ {xs ys : List SV} {vs : List Value} {K : Prop}, matchSl xs ys K → DenS ι xs vs → DenS ι ys vs ∧ K
  | [], [], vs, K, h, hd => ⟨hd, h⟩
  | x :: xs, y :: ys, [], K, _, hd => hd.elim
  | x :: xs, y :: ys, v :: vs, K, h, hd => by
    unfold matchSl at h
    split at h
    · rename_i h1 h2; cases h1
    · rename_i x' xs' ys' h1 h2
      simp only [List.cons.injEq] at h1 h2
      obtain ⟨rfl, rfl⟩ := h1
      obtain ⟨rfl, rfl⟩ := h2
      have := matchSl_sound h hd.2
      exact ⟨⟨trivial, this.1⟩, this.2⟩
    · rename_i x' xs' y' ys' _ h1 h2
      simp only [List.cons.injEq] at h1 h2
      obtain ⟨rfl, rfl⟩ := h1
      obtain ⟨rfl, rfl⟩ := h2
      obtain ⟨rfl, h⟩ := h
      have := matchSl_sound h hd.2
      exact ⟨⟨hd.1, this.1⟩, this.2⟩
    · exact h.elim
  | [], _ :: _, _, K, h, _ => by simp [matchSl] at h
  | _ :: _, [], _, K, h, _ => by simp [matchSl] at h
theorem matchOwn_sound : ∀ {xs ys : List (Option Own)} {K : Prop}, matchOwn xs ys K → (∀ k o, nth ys k = some (some o) → nth xs k = some (some o)) ∧ K
  | [], [], K, h => ⟨fun k o hk => by simp [nth] at hk, h⟩
  | x :: xs, none :: ys, K, h => by
    simp only [matchOwn] at h
    obtain ⟨h1, h2⟩ := matchOwn_sound h
    refine ⟨fun k o hk => ?_, h2⟩
    cases k with
    | zero => simp [nth] at hk
    | succ k => exact h1 k o hk
  | x :: xs, some y :: ys, K, h => by
    simp only [matchOwn] at h
    obtain ⟨rfl, h⟩ := h
    obtain ⟨h1, h2⟩ := matchOwn_sound h
    refine ⟨fun k o hk => ?_, h2⟩
    cases k with
    | zero => exact hk
    | succ k => exact h1 k o hk
  | [], _ :: _, K, h => by simp [matchOwn] at h
  | _ :: _, [], K, h => by simp [matchOwn] at h
theorem Models.setSlot (hM : Models B ι σ a w) {i : Nat} {x : SV} {v : Value} (hv : a.tmps[i]? = some v) (hx : Den ι x v) : Models B ι (σ.put (some i) x) a w := by
  refine ⟨?_, hM.defers, hM.own, hM.dist, hM.fresh, hM.wrel, hM.one⟩
  have := hM.slots.set i hx
  show DenS ι (σ.sl.set i x) a.tmps.toList
  have e : a.tmps.toList.set i v = a.tmps.toList := by
    apply List.ext_getElem?
    intro j
    rw [List.getElem?_set]
    split
    · rename_i hj
      subst hj
      rw [Array.getElem?_toList, hv]
      split
      · rfl
      · rename_i hlt
        simp at hlt
        rw [Array.getElem?_eq_none hlt] at hv
        cases hv
    · rfl
  rw [e] at this
  exact this
/-- A nil slice taken as an own list. -/
theorem Models.nilList (hM : Models B ι σ a w) (k E sz : Nat) : Models B (upd ι k (.slice none 0 0)) ((σ.kill k).setOwn k (some (.lst E sz []))) a w := by
  refine hM.place k _ _ (WExt.refl _ _) ⟨rowsOk_nil sz, World.ownsRow_nil w 0 E sz⟩ rfl (fun b hb => by simp [blk] at hb)
theorem convSl_sound (τ : St) : ∀ (ys : List SV) (i : Nat) (ι : Nat → Value) (σ : St), Models B ι σ a w → ∃ ι', Models B ι' (convSl τ ys i σ) a w
  | [], i, ι, σ, hM => ⟨ι, hM⟩
  | y :: ys, i, ι, σ, hM => by
    simp only [convSl]
    split
    · rename_i k
      split
      · rename_i hs
        split
        · rename_i E sz xs hτ hσ
          have hv : a.tmps[i]? = some (.slice none 0 0) := by
            rw [nth_eq] at hs
            obtain ⟨v, hv, hd⟩ := hM.slots.get i _ hs
            rw [Array.getElem?_toList] at hv
            have hd : v = .slice none 0 0 := hd
            rw [hv, hd]
          exact convSl_sound τ ys (i + 1) _ _ ((hM.nilList k E sz).setSlot hv (x := .at (.lst k)) (by show _ = _; simp))
        · exact convSl_sound τ ys (i + 1) ι σ hM
      · exact convSl_sound τ ys (i + 1) ι σ hM
    · exact convSl_sound τ ys (i + 1) ι σ hM
theorem convCells_sound (τ : St) (q : Nat) : ∀ (ys : List At) (j : Nat) (ι : Nat → Value) (σ : St), Models B ι σ a w → ∃ ι', Models B ι' (convCells τ q ys j σ) a w
  | [], j, ι, σ, hM => ⟨ι, hM⟩
  | y :: ys, j, ι, σ, hM => by
    simp only [convCells]
    split
    · rename_i k
      split
      · rename_i T cs hq
        split
        · rename_i hj
          split
          · rename_i E sz xs hτ hσ
            have hqk : q ≠ k := fun e => by subst e; rw [hσ] at hq; cases hq
            have h1 := hM.nilList k E sz
            have hq1 : nth ((σ.kill k).setOwn k (some (.lst E sz []))).own q = some (some (.cells T (cs.map (At.sub k (fun _ => .junk))))) := by
              simp only [kill_eq, St.setOwn, St.sub, nth_set, nth_map, hqk, false_and, if_false, hq]
              rfl
            obtain ⟨b, vs, hι, hh, hd⟩ := own_cells h1 hq1
            have hvj : vs.toList[j]? = some (.slice none 0 0) := by
              obtain ⟨b0, vs0, hι0, hh0, hd0⟩ := own_cells hM hq
              rw [nth_eq] at hj
              obtain ⟨v, hv, hdv⟩ := hd0.get j _ hj
              have hdv : v = .slice none 0 0 := hdv
              rw [upd_ne _ _ hqk, hι0] at hι
              simp only [Value.pointer.injEq, Option.some.injEq, Addr.mk.injEq] at hι
              obtain ⟨rfl, -, -⟩ := hι
              rw [hh0] at hh
              simp only [Option.some.injEq, Obj.cells.injEq] at hh
              rw [← hh.1, hv, hdv]
            have hset : vs.toList.set j (.slice none 0 0) = vs.toList := by
              apply List.ext_getElem?
              intro t
              rw [List.getElem?_set]
              split
              · rename_i e
                subst e
                rw [hvj]
                split
                · rfl
                · rename_i hlt
                  rw [List.getElem?_eq_none (Nat.le_of_not_lt hlt)] at hvj
                  cases hvj
              · rfl
            have h2 : Models B (upd ι k (.slice none 0 0)) (setCellOwn ((σ.kill k).setOwn k (some (.lst E sz []))) q j (.lst k)) a w := by
              unfold setCellOwn
              rw [hq1]
              refine h1.rewrite hq1 (WExt.refl _ _) ⟨b, vs, hι, hh, ?_⟩
              have := hd.set j (x := .lst k) (v := .slice none 0 0) (by show _ = _; simp)
              rwa [hset] at this
            exact convCells_sound τ q ys (j + 1) _ _ h2
          · exact convCells_sound τ q ys (j + 1) ι σ hM
        · exact convCells_sound τ q ys (j + 1) ι σ hM
      · exact convCells_sound τ q ys (j + 1) ι σ hM
    · exact convCells_sound τ q ys (j + 1) ι σ hM
theorem convOwn_sound (τ : St) : ∀ (ys : List (Option Own)) (q : Nat) (ι : Nat → Value) (σ : St), Models B ι σ a w → ∃ ι', Models B ι' (convOwn τ ys q σ) a w
  | [], q, ι, σ, hM => ⟨ι, hM⟩
  | y :: ys, q, ι, σ, hM => by
    simp only [convOwn]
    split
    · rename_i T cs
      obtain ⟨ι', hM'⟩ := convCells_sound τ q cs 0 ι σ hM
      exact convOwn_sound τ ys (q + 1) ι' _ hM'
    · exact convOwn_sound τ ys (q + 1) ι σ hM
theorem match_sound {τ : St} {K : Prop} (hM : Models B ι σ a w) (h : matchSt σ τ K) : ∃ ι', Models B ι' τ a w ∧ K := by
  obtain ⟨ι1, hM1⟩ := convSl_sound τ τ.sl 0 ι σ hM
  obtain ⟨ι2, hM2⟩ := convOwn_sound τ τ.own 0 ι1 _ hM1
  have hM2 : Models B ι2 (conv σ τ) a w := hM2
  unfold matchSt at h
  obtain ⟨hsl, h⟩ := matchSl_sound h hM2.slots
  obtain ⟨hown, hm, hh, hK⟩ := matchOwn_sound h
  refine ⟨ι2, ⟨hsl, hM2.defers, fun k o hk => hM2.own k o (hown k o hk), fun k k' o o' b hk hk' hb hb' => hM2.dist k k' o o' b (hown k o hk) (hown k' o' hk') hb hb', ?_, ?_, hM2.one⟩, hK⟩
  · intro k o b hk hb
    rw [← hm, ← hh]
    exact hM2.fresh k o b (hown k o hk) hb
  · rw [← hm, ← hh]
    exact hM2.wrel
theorem Models.froze (hM : Models B ι σ a w) {m2 : MH} {h2 : PH} (hF : Froze σ.m σ.h m2 h2) : Models B ι { σ with m := m2, h := h2 } a w := by
  have hw := hM.wrel
  refine ⟨hM.slots, hM.defers, hM.own, hM.dist, fun k o b hk hb => ?_, ?_, hM.one⟩
  · obtain ⟨f1, f2, f3⟩ := hM.fresh k o b hk hb
    refine ⟨f1, ?_, fun i => ?_⟩
    · show m2 b = none
      cases e2 : m2 b with
      | none => rfl
      | some o => rw [hF.sub b o e2] at f2; cases f2
    · show h2 b i = none
      cases e2 : h2 b i with
      | none => rfl
      | some v =>
        rcases hF.new b i v e2 with h3 | ⟨cs, E, fz, h3, _, _⟩
        · rw [f3 i] at h3; cases h3
        · rw [f2] at h3; cases h3
  · refine ⟨hw.tape, hw.os, hw.output, hw.size, hw.frame, fun b o v e => ?_, fun b o e => hw.msat b o (hF.sub b o e), fun b o e i => ?_, fun b o v e => hF.le.le b o v (hw.hle b o v e), fun b h1 h2' => ?_, fun b o e => hw.mfr b o (hF.sub b o e)⟩
    · rcases hF.new b o v e with h3 | ⟨cs, E, fz, h3, h4, _⟩
      · exact hw.hsat b o v h3
      · rw [cell_of_heap (hw.msat b _ h3), Array.getElem?_toList]; exact h4
    · show h2 b i = none
      have e : m2 b = some o := e
      cases e2 : h2 b i with
      | none => rfl
      | some v =>
        rcases hF.new b i v e2 with h3 | ⟨cs, E, fz, h3, h4, h5⟩
        · rw [hw.disj b o (hF.sub b o e) i] at h3; cases h3
        · rw [h5] at e; cases e
    · funext i
      have e := congrFun (hw.hold b h1 h2') i
      show h2 b i = B.h0 b i
      cases e2 : B.h0 b i with
      | some v => exact hF.le.le b i v (hw.hle b i v e2)
      | none =>
        cases e3 : h2 b i with
        | none => rfl
        | some v =>
          rcases hF.new b i v e3 with h3 | ⟨cs, E, fz, h3, h4, h5⟩
          · rw [e, e2] at h3; cases h3
          · rcases hw.mfr b _ h3 with h6 | h6
            · omega
            · exact (h2' h6).elim
theorem matchF_sound {τ : St} {K : Prop} (hM : Models B ι σ a w) (h : matchF σ τ K) : ∃ ι', Models B ι' τ a w ∧ K := by
  obtain ⟨ι1, hM1⟩ := convSl_sound τ τ.sl 0 ι σ hM
  obtain ⟨ι2, hM2⟩ := convOwn_sound τ τ.own 0 ι1 _ hM1
  have hM2 : Models B ι2 (conv σ τ) a w := hM2
  unfold matchF at h
  obtain ⟨hsl, h⟩ := matchSl_sound h hM2.slots
  obtain ⟨hown, hF, hK⟩ := matchOwn_sound h
  have hM3 := hM2.froze hF
  exact ⟨ι2, ⟨hsl, hM2.defers, fun k o hk => hM2.own k o (hown k o hk), fun k k' o o' b hk hk' hb hb' => hM2.dist k k' o o' b (hown k o hk) (hown k' o' hk') hb hb', fun k o b hk hb => hM3.fresh k o b (hown k o hk) hb, hM3.wrel, hM2.one⟩, hK⟩
theorem reach_sound {c : StAnn} {R : c.A → Prop} (hM : Models B ι σ a w) (h : reachVC c R σ) : ∃ x ι', R x ∧ Models B ι' (c.st x) a w := by
  unfold reachVC at h
  split at h
  · obtain ⟨x, hx, hm⟩ := h
    obtain ⟨ι2, hM2, _⟩ := match_sound hM hm
    exact ⟨x, ι2, hx, hM2⟩
  · obtain ⟨x, hx, hm⟩ := h ⟨hM.wrel.disj⟩
    obtain ⟨ι2, hM2, _⟩ := matchF_sound hM hm
    exact ⟨x, ι2, hx, hM2⟩
theorem again_sound {c : StAnn} {I S : c.A → Prop} (hM : Models B ι σ a w) (h : againVC c I S σ) : ∃ x ι', I x ∧ S x ∧ Models B ι' (c.st x) a w := by
  unfold againVC at h
  split at h
  · obtain ⟨x, hx, hs, hm⟩ := h
    obtain ⟨ι2, hM2, _⟩ := match_sound hM hm
    exact ⟨x, ι2, hx, hs, hM2⟩
  · obtain ⟨x, hx, hs, hm⟩ := h ⟨hM.wrel.disj⟩
    obtain ⟨ι2, hM2, _⟩ := matchF_sound hM hm
    exact ⟨x, ι2, hx, hs, hM2⟩
/-! ### Code -/
def QD (B : Base) (Q : SExit → St → Prop) : Exit → Act → World → Prop
  | .normal, a, w => ∃ ι σ, Models B ι σ a w ∧ Q .normal σ
  | .exit id, a, w => ∃ ι σ, Models B ι σ a w ∧ Q (.exit id) σ
  | .ret, a, w => ∃ ι σ, Models B ι σ a w ∧ Q .ret σ
  | _, _, _ => False
theorem seg_sound (hspecs : ∀ g S, assoc C.specs g = some S → Sound C.P g S) {ops : Array Oper} {Q : SExit → St → Prop} :
    ∀ (segs : List (Nat × StAnn)) (l : List Oper) (s : Nat) (ι : Nat → Value) (σ : St) (a : Act) (w : World), (∀ j, l[j]? = ops.toList[s + j]?) → Models B ι σ a w → segVC C ops segs l σ (Q .normal) → wpOpsIn Fence.wide 0 C.P ops (QD B Q) (List.range' s l.length) a w
  | [], l, s, ι, σ, a, w, hl, hM, h => by
    have := seq_sound' hspecs (ops := ops) (Q := QD B Q) (R := Q .normal) (rest := []) (fun ι σ a w hM h => ⟨ι, σ, hM, h⟩) l s ι σ a w (fun j _ => hl j) hM h
    simpa using this
  | (n, ann) :: segs, l, s, ι, σ, a, w, hl, hM, h => by
    obtain ⟨I, h1, h2⟩ := h
    have := seq_sound' hspecs (ops := ops) (Q := QD B Q) (R := fun τ => ∃ x, I x ∧ matchSt τ (ann.st x) True) (rest := List.range' (s + (l.take n).length) (l.drop n).length) (fun ι' σ' a' w' hM' hx => by
      obtain ⟨x, hx, hm⟩ := hx
      obtain ⟨ι2, hM2, _⟩ := match_sound hM' hm
      refine seg_sound hspecs segs (l.drop n) (s + (l.take n).length) ι2 _ a' w' (fun j => ?_) hM2 (h2 x hx)
      rw [List.getElem?_drop, hl]
      by_cases hn : n ≤ l.length
      · congr 1; simp; omega
      · have e1 : l[n + j]? = none := List.getElem?_eq_none (by omega)
        have e2 : l[l.length + j]? = none := List.getElem?_eq_none (by omega)
        rw [hl] at e1 e2
        rw [e1, show s + (List.take n l).length + j = s + (l.length + j) by simp; omega, e2]) (l.take n) s ι σ a w (fun j hj => by
        rw [← hl, List.getElem?_take]
        rw [if_pos (by simp at hj; omega)]) hM h1
    rwa [List.range'_append_1, ← List.length_append, List.take_append_drop] at this
theorem vc_sound (hspecs : ∀ g S, assoc C.specs g = some S → Sound C.P g S) : ∀ (c : Code) (σ : St) (Q : SExit → St → Prop) (ι : Nat → Value) (a : Act) (w : World), Models B ι σ a w → VC C c σ Q → c.wp C.P (QD B Q) a w := by
  intro c
  induction c with
  | skip => intro σ Q ι a w hM h; exact wp_skip ⟨ι, σ, hM, h⟩
  | label l => intro σ Q ι a w hM h; exact wp_label ⟨ι, σ, hM, h⟩
  | exit id => intro σ Q ι a w hM h; exact wp_exit ⟨ι, σ, hM, h⟩
  | ret => intro σ Q ι a w hM h; exact wp_ret ⟨ι, σ, hM, h⟩
  | goto l => intro σ Q ι a w hM h; exact h.elim
  | refuse why => intro σ Q ι a w hM h; exact h.elim
  | scope body ih => intro σ Q ι a w hM h; exact h.elim
  | rangeFunc f ps x y ihx ihy => intro σ Q ι a w hM h; exact h.elim
  | region id ops draw =>
    intro σ Q ι a w hM h
    cases draw with
    | false =>
      refine (wpIn_wide (n := 0)).1 (wpIn_region ?_)
      have := seg_sound hspecs (ops := ops) (Q := Q) (segsOf C id) ops.toList 0 ι σ a w (fun j => by simp) hM h
      rw [List.range_eq_range']
      simpa using this
    | true =>
      simp only [VC] at h
      split at h
      · rename_i h1 h2 h3
        have hs := ssa_of h1 h2
        refine wp_region_any h3 ?_
        refine any_sound hspecs hs (Q := QD B Q) (R := Q .normal) (fun ι σ a w hM h => ⟨ι, σ, hM, h⟩) (fun c a w h => h) ops.size ops.size _ ι σ a _ (hM.drew (w.drawn + 1)) h _ a ?_ ?_
        · have hno : ∀ i, (Array.replicate ops.size false).getD i false = true → False := by
            intro i hi
            by_cases hlt : i < ops.size
            · simp [Array.getD, hlt] at hi
            · simp [Array.getD, hlt] at hi
          exact ⟨by simp, by simp, fun i hi => hi, fun i o _ hi => (hno i hi).elim, fun i o _ hi => (hno i hi).elim, rfl, rfl, fun t _ => rfl, fun i o _ hi => (hno i hi).elim⟩
        · unfold unlisted
          rw [List.filter_eq_self.2]
          · simp
          · intro i hi
            by_cases hlt : i < ops.size <;> simp [Array.getD, hlt]
      · exact h.elim
  | seq x y ihx ihy =>
    intro σ Q ι a w hM h
    simp only [VC] at h
    split at h
    · obtain ⟨h, hall⟩ := h
      refine wp_seq (wp_mono (ihx σ _ ι a w hM h) ?_)
      intro e a' w' hq
      cases e with
      | normal =>
        obtain ⟨ι', σ', hM', x, hx, hm⟩ := hq
        show y.wp C.P (QD B Q) a' w'
        obtain ⟨ι2, hM2, _⟩ := match_sound hM' hm
        exact ihy _ Q ι2 a' w' hM2 (hall x hx)
      | exit id => exact hq
      | ret => exact hq
      | goto l => exact hq
      | panic ch => exact hq
      | outgrown => exact hq
    · split at h
      · obtain ⟨I, h, hall⟩ := h
        refine wp_seq (wp_mono (ihx σ _ ι a w hM h) ?_)
        intro e a' w' hq
        cases e with
        | normal =>
          obtain ⟨ι', σ', hM', hm⟩ := hq
          show y.wp C.P (QD B Q) a' w'
          obtain ⟨x, ι2, hx, hM2⟩ := reach_sound hM' hm
          exact ihy _ Q ι2 a' w' hM2 (hall x hx)
        | exit id => exact hq
        | ret => exact hq
        | goto l => exact hq
        | panic ch => exact hq
        | outgrown => exact hq
      · refine wp_seq (wp_mono (ihx σ _ ι a w hM h) ?_)
        intro e a' w' hq
        cases e with
        | normal =>
          obtain ⟨ι', σ', hM', h'⟩ := hq
          show y.wp C.P (QD B Q) a' w'
          exact ihy σ' Q ι' a' w' hM' h'
        | exit id => exact hq
        | ret => exact hq
        | goto l => exact hq
        | panic ch => exact hq
        | outgrown => exact hq
  | cond c x y ihx ihy =>
    intro σ Q ι a w hM h
    simp only [VC] at h
    split at h
    · rename_i t hc
      have hev := hM.ev c
      rw [hc] at hev
      have hev : a.eval c = .bool t := hev
      rcases branch_elim h with ⟨rfl, h⟩ | ⟨rfl, h⟩
      · exact wp_cond_true hev (ihx _ Q ι a w (hM.setTmp hc) h)
      · exact wp_cond_false hev (ihy _ Q ι a w (hM.setTmp hc) h)
    · exact h.elim
  | block id c ih =>
    intro σ Q ι a w hM h
    refine wp_block (wp_mono (ih σ _ ι a w hM h) ?_)
    intro e a' w' hq
    cases e with
    | normal => exact hq
    | exit i =>
      obtain ⟨ι', σ', hM', h'⟩ := hq
      show if i = id then _ else _
      simp only at h'
      split at h'
      · rename_i hb
        rw [if_pos (Nat.eq_of_beq_eq_true hb)]
        exact ⟨ι', σ', hM', h'⟩
      · rename_i hb
        rw [if_neg (fun e => by subst e; simp at hb)]
        exact ⟨ι', σ', hM', h'⟩
    | ret => exact hq
    | goto l => exact hq
    | panic ch => exact hq
    | outgrown => exact hq
  | loop c ih =>
    intro σ Q ι a w hM h
    simp only [VC] at h
    split at h
    · rename_i l hl
      obtain ⟨⟨x, hx, hm⟩, hall⟩ := h
      obtain ⟨ι2, hM2, _⟩ := match_sound hM hm
      refine wp_loop_ghost (fun n a w => ∃ x ι, l.inv x ∧ l.mu x = n ∧ Models B ι (l.st x) a w) (l.mu x) ⟨x, ι2, hx, rfl, hM2⟩ ?_
      rintro n a' w' ⟨x', ι', hx', rfl, hM'⟩
      refine wp_mono (ih _ _ ι' a' w' hM' (hall x' hx')) ?_
      intro e a'' w'' hq
      cases e with
      | normal =>
        obtain ⟨ι3, σ3, hM3, y, hy, hlt, hmy⟩ := hq
        obtain ⟨ι4, hM4, _⟩ := match_sound hM3 hmy
        exact ⟨l.mu y, hlt, y, ι4, hy, rfl, hM4⟩
      | exit id => exact hq
      | ret => exact hq
      | goto l => exact hq
      | panic ch => exact hq
      | outgrown => exact hq
    · split at h
      · rename_i l hl
        obtain ⟨I, mu, hm, hall⟩ := h
        obtain ⟨x, ι2, hx, hM2⟩ := reach_sound hM hm
        refine wp_loop_ghost (fun n a w => ∃ x ι, I x ∧ mu x = n ∧ Models B ι (l.st x) a w) (mu x) ⟨x, ι2, hx, rfl, hM2⟩ ?_
        rintro n a' w' ⟨x', ι', hx', rfl, hM'⟩
        refine wp_mono (ih _ _ ι' a' w' hM' (hall x' hx')) ?_
        intro e a'' w'' hq
        cases e with
        | normal =>
          obtain ⟨ι3, σ3, hM3, hmy⟩ := hq
          obtain ⟨y, ι4, hy, hlt, hM4⟩ := again_sound hM3 hmy
          exact ⟨mu y, hlt, y, ι4, hy, rfl, hM4⟩
        | exit id => exact hq
        | ret => exact hq
        | goto l => exact hq
        | panic ch => exact hq
        | outgrown => exact hq
      · exact h.elim
end
end Go.Vc
namespace Go.Vc
open Go
section
variable {B : Base} {C : Ctx} {ι : Nat → Value} {σ : St} {a : Act} {w : World}
def getRes (tmps : Array Value) : ResultVar → Sem Value
  | .tmp t => pure (tmps.getD t undef)
  | .cell a t => do loadVar t (← asAddr (tmps.getD a undef))
theorem results_eq (fn : Func) (tmps : Array Value) : results fn tmps = (do let vs ← fn.results.mapM (getRes tmps); pure (if h : vs.size = 1 then vs[0] else .tuple vs)) := by
  unfold results
  congr 1
theorem resSV_sound (hM : Models B ι σ a w) {r : ResultVar} {x : SV} (h : resSV C σ r = some x) : ∃ v, (getRes a.tmps r).run C.P w = .ok v w ∧ Den ι x v := by
  cases r with
  | tmp t =>
    simp only [resSV, Option.some.injEq] at h
    subst h
    exact ⟨_, rfl, hM.ev (.tmp t)⟩
  | cell ad T =>
    have hev := hM.ev (.tmp ad)
    simp only [resSV] at h
    split at h
    · rename_i k off hx
      rw [hx] at hev
      split at h
      · rename_i T' cs hk
        split at h
        · rename_i hle hT
          have hle := Nat.le_of_ble_eq_true hle
          simp only [Option.some.injEq] at h
          subst h
          obtain ⟨b, vs, hι, hh, hd⟩ := own_cells hM hk
          obtain ⟨b', hb', hp⟩ := hev
          rw [hι] at hb'
          simp only [Value.pointer.injEq, Option.some.injEq, Addr.mk.injEq] at hb'
          obtain ⟨rfl, -, -⟩ := hb'
          have hd' := (hd.drop off).take (C.P.cellsOf T)
          have hvs : cs.length = vs.toList.length := hd.length
          have hl := run_loadVar (w := w) (b := b) (off := off) (cs := (vs.toList.drop off).take (C.P.cellsOf T)) hT (by simp at hvs ⊢; omega) (fun j v hv => by rw [cell_of_heap hh]; exact sub_cells hv)
          refine ⟨_, ?_, den_mk hd'⟩
          have hp' : a.tmps.getD ad undef = .pointer (some ⟨b, off, none⟩) := hp
          simp only [getRes, hp', asAddr, Sem.run_bind, Sem.run_pure, Result.andThen_ok, hl]
        · cases h
      · cases h
    · cases h
theorem resAll_sound (hM : Models B ι σ a w) : ∀ (l : List ResultVar) (xs : List SV), resAll C σ l = some xs → ∃ vs, (l.mapM (getRes a.tmps)).run C.P w = .ok vs w ∧ DenS ι xs vs
  | [], xs, h => by
    simp [resAll] at h; subst h
    exact ⟨[], by simp, trivial⟩
  | r :: l, xs, h => by
    simp only [resAll] at h
    split at h
    · rename_i x xs' hx hxs
      simp only [Option.some.injEq] at h
      subst h
      obtain ⟨v, hv, hd⟩ := resSV_sound hM hx
      obtain ⟨vs, hvs, hds⟩ := resAll_sound hM l xs' hxs
      exact ⟨v :: vs, by simp [List.mapM_cons, hv, hvs], hd, hds⟩
    · cases h
/-- The results, closed. -/
theorem closeRes_sound (hM : Models B ι σ a w) {mv : Bool} : ∀ (xs : List SV) (ts : List TypeId) (rs : List CV) (vs : List Value), closeRes C.P σ mv xs ts = some rs → DenS ι xs vs →
    rs.length = vs.length ∧ (mv = false → rs = vs.map .val) ∧ ∀ (i : Nat) (r : CV) (v : Value), rs[i]? = some r → vs[i]? = some v → CVOk w r v ∧ ∀ b, cvBlk r v = some b → ∃ k ow, nth σ.own k = some (some ow) ∧ blk (ι k) = some b
  | [], ts, rs, [], h, _ => by
    simp [closeRes] at h; subst h
    exact ⟨rfl, fun _ => rfl, fun i r v hr => by simp at hr⟩
  | [], _, _, _ :: _, _, hd => hd.elim
  | x :: xs, _, _, [], _, hd => hd.elim
  | x :: xs, ts, rs, v :: vs, h, hd => by
    simp only [closeRes] at h
    split at h
    · cases h
    · rename_i l hl
      obtain ⟨ih1, ih2, ih3⟩ := closeRes_sound hM xs ts.tail l vs hl hd.2
      have fin : ∀ (c0 : CV), rs = c0 :: l → (mv = false → c0 = .val v) → CVOk w c0 v → (∀ b, cvBlk c0 v = some b → ∃ k ow, nth σ.own k = some (some ow) ∧ blk (ι k) = some b) →
          rs.length = (v :: vs).length ∧ (mv = false → rs = (v :: vs).map .val) ∧ ∀ (i : Nat) (r : CV) (u : Value), rs[i]? = some r → (v :: vs)[i]? = some u → CVOk w r u ∧ ∀ b, cvBlk r u = some b → ∃ k ow, nth σ.own k = some (some ow) ∧ blk (ι k) = some b := by
        intro c0 hrs h1 h2 h3
        subst hrs
        refine ⟨by simp [ih1], fun hm => by rw [h1 hm, ih2 hm]; rfl, fun i r u hr hu => ?_⟩
        cases i with
        | zero => simp at hr hu; subst hr hu; exact ⟨h2, h3⟩
        | succ i => simp only [List.getElem?_cons_succ] at hr hu; exact ih3 i r u hr hu
      split at h
      · split at h
        · rename_i k
          have hv : v = ι k := hd.1
          split at h
          · rename_i E sz ys hk
            simp only [Option.some.injEq] at h
            obtain ⟨hr, ho⟩ := own_lst hM hk
            exact fin _ h.symm (fun e => by cases e) ⟨hr, by rw [hv]; exact ho⟩ (fun b hb => ⟨k, _, hk, by rw [← hv]; exact hb⟩)
          · cases h
        · have hv : v = .slice none 0 0 := hd.1
          split at h
          · rename_i E z hE
            simp only [Option.some.injEq] at h
            refine fin _ h.symm (fun e => by cases e) ⟨rowsOk_nil _, by rw [hv]; exact World.ownsRow_nil w 0 E _⟩ (fun b hb => ?_)
            rw [hv] at hb
            simp [cvBlk, blk] at hb
          · cases h
        · cases h
      · split at h
        · rename_i u hu
          simp only [Option.some.injEq] at h
          have hv := (hd.1).val? hu
          exact fin _ h.symm (fun _ => by rw [hv]) hv (fun b hb => by simp [cvBlk] at hb)
        · cases h
theorem ret_sound (hM : Models B ι σ a w) {fn : Func} {K : CV → MH → PH → Prop} (h : retVC C fn K σ) :
    ∃ u, (results fn a.tmps).run C.P w = .ok u w ∧ ∃ r m' h', K r m' h' ∧ CVOk w r u ∧ WRel B m' h' w ∧ ∀ b, cvBlk r u = some b → (B.w0.heap.size ≤ b ∨ B.E b) ∧ m' b = none ∧ ∀ i, h' b i = none := by
  unfold retVC at h
  split at h
  · exact h.elim
  · rename_i xs hxs
    obtain ⟨τ', hMτ', h, _⟩ := freeze_sound _ _ hM h
    obtain ⟨τ, hMτ, h, _⟩ := lend_sound _ _ hMτ' h
    split at h
    · exact h.elim
    · rename_i ys hys
      obtain ⟨vs, hvs, hds⟩ := resAll_sound hMτ _ _ hys
      have hres : (results fn a.tmps).run C.P w = .ok (if h : vs.toArray.size = 1 then vs.toArray[0] else .tuple vs.toArray) w := by
        rw [results_eq, Array.mapM_eq_mapM_toList]
        simp [hvs]
      have blocks : ∀ (rs : List CV) (r : CV) (v : Value), closeRes C.P τ C.retMove ys fn.resultTypes.toList = some rs → (∃ i : Nat, rs[i]? = some r ∧ vs[i]? = some v) → CVOk w r v ∧ ∀ b, cvBlk r v = some b → (B.w0.heap.size ≤ b ∨ B.E b) ∧ τ.m b = none ∧ ∀ i, τ.h b i = none := by
        rintro rs r v hrs ⟨i, hr, hv⟩
        obtain ⟨_, _, h3⟩ := closeRes_sound hMτ _ _ _ _ hrs hds
        obtain ⟨h4, h5⟩ := h3 i r v hr hv
        refine ⟨h4, fun b hb => ?_⟩
        obtain ⟨k, ow, hk, hbk⟩ := h5 b hb
        exact hMτ.fresh k ow b hk hbk
      split at h
      · rename_i r hr
        obtain ⟨hlen, _, _⟩ := closeRes_sound hMτ _ _ _ _ hr hds
        simp at hlen
        obtain ⟨v, rfl⟩ : ∃ v, vs = [v] := by
          match vs, hlen with
          | [v], _ => exact ⟨v, rfl⟩
        obtain ⟨h4, h5⟩ := blocks _ r v hr ⟨0, rfl, rfl⟩
        refine ⟨v, by simpa using hres, r, τ.m, τ.h, h, h4, hMτ.wrel, h5⟩
      · rename_i rs hne hrs
        split at h
        · exact h.elim
        · rename_i hmv
          obtain ⟨hlen, hval, _⟩ := closeRes_sound hMτ _ _ _ _ hrs hds
          have hnl : vs.length ≠ 1 := by
            intro e
            rw [e] at hlen
            match rs, hlen with
            | [r], _ => exact hne r rfl
          refine ⟨.tuple vs.toArray, by rw [hres, dif_neg (by simpa using hnl)], .tup rs, τ.m, τ.h, h, ⟨vs.toArray, rfl, by simpa using hval hmv⟩, hMτ.wrel, fun b hb => by simp [cvBlk] at hb⟩
      · exact h.elim
/-! ### The state in which a call begins -/
def iota0 (n : Nat) (cvs : List CV) (vs : List Value) (k : Nat) : Value :=
  match cvs[k - n]?, vs[k - n]? with
  | some (.lst _ _ _), some v => v
  | _, _ => .slice none 0 0
theorem argsOk_get {w : World} : ∀ {cvs : List CV} {vs : List Value}, ArgsOk w cvs vs → cvs.length = vs.length ∧ ∀ (i : Nat) (c : CV) (v : Value), cvs[i]? = some c → vs[i]? = some v → CVOk w c v
  | [], [], _ => ⟨rfl, fun i c v h => by simp at h⟩
  | c :: cs, v :: vs, h => by
    obtain ⟨h1, h2⟩ := argsOk_get h.2
    refine ⟨by simp [h1], fun i c' v' hc hv => ?_⟩
    cases i with
    | zero => simp at hc hv; subst hc hv; exact h.1
    | succ i => simp at hc hv; exact h2 i c' v' hc hv
  | [], _ :: _, h => h.elim
  | _ :: _, [], h => h.elim
theorem entrySl_den {n : Nat} {all : List CV} {avs : List Value} {w : World} : ∀ (i : Nat) (cvs : List CV) (vs : List Value), ArgsOk w cvs vs → (∀ j : Nat, cvs[j]? = all[i + j]?) → (∀ j : Nat, vs[j]? = avs[i + j]?) →
    DenS (iota0 n all avs) (entrySl n i cvs) vs
  | i, [], [], _, _, _ => trivial
  | i, c :: cvs, v :: vs, h, h1, h2 => by
    have ih := entrySl_den (n := n) (all := all) (avs := avs) (i + 1) cvs vs h.2 (fun j => by have := h1 (j + 1); simp only [List.getElem?_cons_succ] at this; rw [this]; congr 1; omega) (fun j => by have := h2 (j + 1); simp only [List.getElem?_cons_succ] at this; rw [this]; congr 1; omega)
    cases c with
    | val u => exact ⟨h.1, ih⟩
    | lst E sz xs =>
      refine ⟨?_, ih⟩
      show v = iota0 n all avs (n + i)
      have e1 := h1 0
      have e2 := h2 0
      simp at e1 e2
      unfold iota0
      rw [show n + i - n = i by omega, ← e1, ← e2]
    | tup rs => exact ⟨trivial, ih⟩
  | i, [], _ :: _, h, _, _ => h.elim
  | i, _ :: _, [], h, _, _ => h.elim
theorem entryOwn_get : ∀ (cvs : List CV) (k : Nat) (o : Own), nth (entryOwn cvs) k = some (some o) → ∃ E sz xs, cvs[k]? = some (.lst E sz xs) ∧ o = .lst E sz xs
  | [], k, o, h => by simp [entryOwn, nth] at h
  | c :: cvs, 0, o, h => by
    cases c <;> simp [entryOwn, nth] at h
    rename_i E sz xs
    exact ⟨E, sz, xs, rfl, h.symm⟩
  | c :: cvs, k + 1, o, h => by
    have : nth (entryOwn cvs) k = some (some o) := by cases c <;> simpa [entryOwn, nth] using h
    obtain ⟨E, sz, xs, h1, h2⟩ := entryOwn_get cvs k o this
    exact ⟨E, sz, xs, by simpa using h1, h2⟩
theorem denS_junk {ι : Nat → Value} : ∀ (n : Nat) (vs : List Value), vs.length = n → DenS ι (List.replicate n (.at .junk)) vs
  | 0, [], _ => trivial
  | n + 1, v :: vs, h => ⟨trivial, denS_junk n vs (by simpa using h)⟩
  | 0, _ :: _, h => by simp at h
  | _ + 1, [], h => by simp at h
theorem DenS.append {ι : Nat → Value} : ∀ {xs xs' : List SV} {vs vs' : List Value}, DenS ι xs vs → DenS ι xs' vs' → DenS ι (xs ++ xs') (vs ++ vs')
  | [], _, [], _, _, h' => by simpa using h'
  | _ :: _, _, _ :: _, _, h, h' => ⟨h.1, DenS.append h.2 h'⟩
  | [], _, _ :: _, _, h, _ => h.elim
  | _ :: _, _, [], _, h, _ => h.elim
theorem entry_models {w : World} {m : MH} {h : PH} {cvs : List CV} {vs : List Value} (n : Nat) (hp : CallPre w m h cvs vs) :
    Models ⟨w, Moved m cvs vs, h, []⟩ (iota0 n cvs vs) (entry n cvs m h) { tmps := vs.toArray ++ Array.replicate (n - vs.toArray.size) undef, defers := [] } w := by
  obtain ⟨hlen, hget⟩ := argsOk_get hp.args
  have hown : ∀ k o, nth (entry n cvs m h).own k = some (some o) → n ≤ k ∧ ∃ E sz xs, cvs[k - n]? = some (.lst E sz xs) ∧ o = .lst E sz xs ∧ ∃ v, vs[k - n]? = some v ∧ iota0 n cvs vs k = v ∧ CVOk w (.lst E sz xs) v := by
    intro k o hk
    simp only [entry] at hk
    rw [nth_eq] at hk
    by_cases hkn : k < n
    · rw [List.getElem?_append_left (by simpa using hkn)] at hk
      simp [hkn] at hk
    · rw [List.getElem?_append_right (by simpa using Nat.le_of_not_lt hkn)] at hk
      simp only [List.length_replicate] at hk
      rw [← nth_eq] at hk
      obtain ⟨E, sz, xs, h1, h2⟩ := entryOwn_get cvs (k - n) o hk
      have hlt : k - n < vs.length := by
        rw [← hlen]; exact (List.getElem?_eq_some_iff.1 h1).1
      have hv : vs[k - n]? = some vs[k - n] := List.getElem?_eq_getElem hlt
      refine ⟨by omega, E, sz, xs, h1, h2, _, hv, ?_, hget _ _ _ h1 hv⟩
      unfold iota0
      rw [h1, hv]
  refine ⟨?_, rfl, ?_, ?_, ?_, ?_, ?_⟩
  · have h1 := entrySl_den (n := n) (all := cvs) (avs := vs) 0 cvs vs hp.args (fun j => by simp) (fun j => by simp)
    show DenS _ (entrySl n 0 cvs ++ List.replicate (n - cvs.length) (.at .junk)) _
    have : (vs.toArray ++ Array.replicate (n - vs.toArray.size) undef).toList = vs ++ List.replicate (n - vs.length) undef := by simp
    rw [this]
    exact h1.append (denS_junk _ _ (by simp [hlen]))
  · intro k o hk
    obtain ⟨hkn, E, sz, xs, h1, rfl, v, hv, hι, hok⟩ := hown k o hk
    rw [hι]
    exact hok
  · intro k k' o o' b hk hk' hb hb'
    obtain ⟨hkn, E, sz, xs, h1, rfl, v, hv, hι, hok⟩ := hown k o hk
    obtain ⟨hkn', E', sz', xs', h1', rfl, v', hv', hι', hok'⟩ := hown k' o' hk'
    rw [hι] at hb
    rw [hι'] at hb'
    have := hp.sep (k - n) (k' - n) _ _ v v' b h1 hv h1' hv' hb hb'
    omega
  · intro k o b hk hb
    obtain ⟨hkn, E, sz, xs, h1, rfl, v, hv, hι, hok⟩ := hown k o hk
    rw [hι] at hb
    obtain ⟨f1, f2⟩ := hp.free (k - n) _ v b h1 hv hb
    exact ⟨.inr (.inr ⟨k - n, _, v, h1, hv, hb⟩), f1, f2⟩
  · refine ⟨rfl, rfl, rfl, Nat.le_refl _, fun _ _ _ => rfl, hp.hsat, hp.msat, hp.disj, fun _ _ _ h => h, fun _ _ _ => rfl, fun b ob hb => .inr (.inl (by have hb : m b = some ob := hb; rw [hb]; simp))⟩
  · intro k
    unfold iota0
    split
    · rename_i E sz xs v h1 h2
      exact ownsRow_one (hget _ _ _ h1 h2).2
    · rfl
/-- FROM THE CONDITION TO THE CONTRACT. -/
theorem fn_sound {P : Program} {f : FuncId} {fn : Func} {c : Code} (hf : P.funcs[f]? = some fn) (hb : fn.body = some c) (hname : (fn.name == "runtime.NumGoroutine") = false) {S : Spec}
    (hvc : ∀ cvs m h K, S cvs m h K → ∃ C : Ctx, C.P = P ∧ (∀ g S, assoc C.specs g = some S → Sound P g S) ∧ fnVC C fn c (entry fn.ntmps cvs m h) K) : Sound P f S := by
  refine ⟨⟨fn, hf, by rw [hb]; rfl, hname⟩, ?_⟩
  intro cvs vs m h w K hS hp
  obtain ⟨C, rfl, hspecs, hv⟩ := hvc cvs m h K hS
  refine calls_of_wp hf hb ?_
  refine wp_mono (vc_sound hspecs c _ _ _ _ w (entry_models fn.ntmps hp) hv) ?_
  intro e a' w' hq
  have key : (∃ ι σ, Models ⟨w, Moved m cvs vs, h, []⟩ ι σ a' w' ∧ retVC C fn K σ) → a'.defers = [] ∧ ∃ v, (results fn a'.tmps).run C.P w' = .ok v w' ∧ ∃ r u m' h', Ending.returned v = .returned u ∧ K r m' h' ∧ CVOk w' r u ∧ WRel ⟨w, Moved m cvs vs, h, []⟩ m' h' w' ∧
      ∀ b, cvBlk r u = some b → (w.heap.size ≤ b ∨ Moved m cvs vs b) ∧ m' b = none ∧ ∀ i, h' b i = none := by
    rintro ⟨ι, σ, hM, hr⟩
    obtain ⟨u, hu, r, m', h', h1, h2, h3, h4⟩ := ret_sound hM hr
    exact ⟨hM.defers, u, hu, r, u, m', h', rfl, h1, h2, h3, h4⟩
  cases e with
  | normal => exact key hq
  | ret => exact key hq
  | exit id => obtain ⟨_, _, _, h⟩ := hq; exact h.elim
  | goto l => exact hq.elim
  | panic ch => exact hq.elim
  | outgrown => exact hq.elim
/-- The same, where the result says less about memory than is known. -/
theorem fn_sound' {P : Program} {f : FuncId} {fn : Func} {c : Code} (hf : P.funcs[f]? = some fn) (hb : fn.body = some c) (hname : (fn.name == "runtime.NumGoroutine") = false) {S : Spec}
    (hvc : ∀ cvs m h K, S cvs m h K → ∃ C : Ctx, C.P = P ∧ (∀ g S, assoc C.specs g = some S → Sound P g S) ∧ fnVC C fn c (entry fn.ntmps cvs m h) (fun r m' h' => ∃ m2 h2, (∀ b o, m2 b = some o → m' b = some o) ∧ PH.le h h2 ∧ PH.le h2 h' ∧ K r m2 h2)) : Sound P f S := by
  have h0 := fn_sound hf hb hname (S := fun cvs m h K => ∃ K', S cvs m h K' ∧ K = fun r m' h' => ∃ m2 h2, (∀ b o, m2 b = some o → m' b = some o) ∧ PH.le h h2 ∧ PH.le h2 h' ∧ K' r m2 h2) (by
    rintro cvs m h K ⟨K', hS, rfl⟩
    exact hvc cvs m h K' hS)
  refine ⟨h0.1, fun cvs vs m h w K hS hp => ?_⟩
  refine (h0.2 cvs vs m h w _ ⟨K, hS, rfl⟩ hp).mono ?_
  rintro e w' ⟨r, u, m', h', he, ⟨m2, h2, k1, k2, k3, hK⟩, hok, hw, hfr⟩
  have hnone : ∀ b i, h' b i = none → h2 b i = none := by
    intro b i e
    cases e2 : h2 b i with
    | none => rfl
    | some v => rw [k3.le b i v e2] at e; cases e
  refine ⟨r, u, m2, h2, he, hK, hok, ?_, fun b hb => ?_⟩
  · refine ⟨hw.tape, hw.os, hw.output, hw.size, hw.frame, fun b o v e => hw.hsat b o v (k3.le b o v e), fun b o e => hw.msat b o (k1 b o e), fun b o e i => hnone b i (hw.disj b o (k1 b o e) i), k2.le, fun b h1 h2' => ?_, fun b o e => hw.mfr b o (k1 b o e)⟩
    funext i
    have e := congrFun (hw.hold b h1 h2') i
    show h2 b i = h b i
    cases e2 : h b i with
    | some v => exact (k2.le b i v e2)
    | none => exact hnone b i (by rw [e]; exact e2)
  · obtain ⟨f1, f2, f3⟩ := hfr b hb
    refine ⟨f1, ?_, fun i => hnone b i (f3 i)⟩
    cases e2 : m2 b with
    | none => rfl
    | some o => rw [k1 b o e2] at f2; cases f2
/-- The result, where blocks of m may have become memory that nobody writes any more. -/
def Strong (h : PH) (K : CV → MH → PH → Prop) : CV → MH → PH → Prop := fun r m' h' => (∀ b o, m' b = some o → ∀ i, h' b i = none) → ∃ m2 h2, (∀ b o, m2 b = some o → m' b = some o) ∧ PH.le h h2 ∧
  (∀ b i v, h2 b i = some v → h' b i = some v ∨ ∃ cs E fz, m' b = some (.cells cs E fz) ∧ cs[i]? = some v ∧ m2 b = none) ∧ K r m2 h2
/-- The same, where moreover blocks of m may become memory that nobody writes any more. -/
theorem fn_sound2 {P : Program} {f : FuncId} {fn : Func} {c : Code} (hf : P.funcs[f]? = some fn) (hb : fn.body = some c) (hname : (fn.name == "runtime.NumGoroutine") = false) {S : Spec}
    (hvc : ∀ cvs m h K, S cvs m h K → ∃ C : Ctx, C.P = P ∧ (∀ g S, assoc C.specs g = some S → Sound P g S) ∧ fnVC C fn c (entry fn.ntmps cvs m h) (Strong h K)) : Sound P f S := by
  have h0 := fn_sound hf hb hname (S := fun cvs m h K => ∃ K', S cvs m h K' ∧ K = Strong h K') (by
    rintro cvs m h K ⟨K', hS, rfl⟩
    exact hvc cvs m h K' hS)
  refine ⟨h0.1, fun cvs vs m h w K hS hp => ?_⟩
  refine (h0.2 cvs vs m h w _ ⟨K, hS, rfl⟩ hp).mono ?_
  rintro e w' ⟨r, u, m', h', he, hStr, hok, hw, hfr⟩
  obtain ⟨m2, h2, k1, k2, k3, hK⟩ := hStr hw.disj
  refine ⟨r, u, m2, h2, he, hK, hok, ?_, fun b hb => ?_⟩
  · refine ⟨hw.tape, hw.os, hw.output, hw.size, hw.frame, fun b o v e => ?_, fun b o e => hw.msat b o (k1 b o e), fun b o e i => ?_, k2.le, fun b h1 h2' => ?_, fun b o e => hw.mfr b o (k1 b o e)⟩
    · rcases k3 b o v e with h3 | ⟨cs, E, fz, h3, h4, _⟩
      · exact hw.hsat b o v h3
      · rw [cell_of_heap (hw.msat b _ h3), Array.getElem?_toList]; exact h4
    · cases e2 : h2 b i with
      | none => rfl
      | some v =>
        rcases k3 b i v e2 with h3 | ⟨cs, E, fz, h3, h4, h5⟩
        · rw [hw.disj b o (k1 b o e) i] at h3; cases h3
        · rw [h5] at e; cases e
    · funext i
      have e := congrFun (hw.hold b h1 h2') i
      show h2 b i = h b i
      cases e2 : h b i with
      | some v => exact (k2.le b i v e2)
      | none =>
        cases e3 : h2 b i with
        | none => rfl
        | some v =>
          rcases k3 b i v e3 with h3 | ⟨cs, E, fz, h3, h4, h5⟩
          · rw [e] at h3
            have : h b i = some v := h3
            rw [e2] at this; cases this
          · rcases hw.mfr b _ h3 with h6 | h6
            · have h6 : w.heap.size ≤ b := h6
              have h1 : b < w.heap.size := h1
              omega
            · exact (h2' h6).elim
  · obtain ⟨f1, f2, f3⟩ := hfr b hb
    refine ⟨f1, ?_, fun i => ?_⟩
    · cases e2 : m2 b with
      | none => rfl
      | some o => rw [k1 b o e2] at f2; cases f2
    · cases e2 : h2 b i with
      | none => rfl
      | some v =>
        rcases k3 b i v e2 with h3 | ⟨cs, E, fz, h3, _, _⟩
        · rw [f3 i] at h3; cases h3
        · rw [f2] at h3; cases h3
end
end Go.Vc
