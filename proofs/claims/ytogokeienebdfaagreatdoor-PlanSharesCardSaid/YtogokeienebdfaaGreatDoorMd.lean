/-
  Part 4 of a proof that a law of the given program returns true: a condition generator that is proved sound, and contracts of functions. No condition of its own. Own work, joined by program (pack.py).
-/
import Derived.Test.YtogokeienebdfaaGreatDoorMc
namespace Go.Ps
open Go Go.Vc Go.Proofs
theorem under9 : Tryz.prog.underlying 9 = some .string := by kernel_rfl
theorem strLaw : KeyLaw Tryz.prog 9 (fun v => ∃ s, v = .string s) := by
  refine ⟨⟨_, under9⟩, ?_, ?_, ?_⟩
  · rintro _ w b ⟨s, rfl⟩
    have e : ∀ n : Nat, (Instr.checkKey b (n + 1) 9 (.string s)).run Tryz.prog w = .ok () w := fun n => by
      unfold Instr.checkKey
      simp only [Sem.run_bind, run_underlying under9, Result.andThen]
      simp
    exact e 9999
  · rintro _ _ w ⟨s, rfl⟩ ⟨t, rfl⟩
    refine ⟨_, run_equalIn_string w 9999 9 s t under9, ?_⟩
    rw [beq_iff_eq]
    exact ⟨fun e => by rw [bytes_ext e], fun e => by injection e with e; rw [e]⟩
  · rintro d _ _ r hd ⟨s, rfl⟩ ⟨t, rfl⟩ h
    rw [under9] at hd
    cases hd
    simp only [Instr.sameNow, Option.some.injEq] at h
    subst h
    rw [beq_toListBytes, beq_iff_eq]
    exact ⟨fun e => by rw [bytes_ext e], fun e => by injection e with e; rw [e]⟩
/-- Up to the i-th element each passes a test that knows those before it. -/
def GoodUpto {α : Type} (T : List α → α → Prop) (l : List α) (i : Nat) : Prop := ∀ j x, j < i → l[j]? = some x → T (l.take j) x
def Good {α : Type} (T : List α → α → Prop) (l : List α) : Prop := ∀ (j : Nat) x, l[j]? = some x → T (l.take j) x
theorem GoodUpto.zero {α : Type} {T : List α → α → Prop} {l : List α} : GoodUpto T l 0 := fun _ _ h => by omega
theorem GoodUpto.succ {α : Type} {T : List α → α → Prop} {l : List α} {i : Nat} {x : α} (h : GoodUpto T l i) (hx : l[i]? = some x) (t : T (l.take i) x) : GoodUpto T l (i + 1) := by
  intro j y hj hy
  by_cases e : j = i
  · subst e; rw [hx] at hy; cases hy; exact t
  · exact h j y (by omega) hy
theorem GoodUpto.all {α : Type} {T : List α → α → Prop} {l : List α} {i : Nat} (h : GoodUpto T l i) (hi : l.length ≤ i) : Good T l := fun j x hx => h j x (by have := (List.getElem?_eq_some_iff.1 hx).1; omega) hx
theorem Good.not {α : Type} {T : List α → α → Prop} {l : List α} {i : Nat} {x : α} (hx : l[i]? = some x) (t : ¬ T (l.take i) x) : ¬ Good T l := fun h => t (h i x hx)
def ColT (pre : List ColV) (c : ColV) : Prop := nameOk c.name = true ∧ colKind c.kind = true ∧ c.name ∉ pre.map ColV.name
def TabT (pre : List Tab) (t : Tab) : Prop := nameOk t.name = true ∧ 1 ≤ t.key ∧ t.key ≤ t.columns.length ∧ t.name ∉ pre.map Tab.name ∧ Good ColT t.columns
def kindsT (s : Sch) (t : Int) : List Int := if t < 0 then [] else match s.tables[t.toNat]? with | none => [] | some t => t.columns.map ColV.kind
def hasT (s : Sch) (t : Int) : Bool := decide (0 ≤ t) && decide (t < s.tables.length)
def aS (v : SchV) : CV := .val (.agg ⟨v.enc⟩)
def small8 (s : Sch) : Prop := ∀ t ∈ s.tables, t.columns.length ≤ 8
def HasS : Vc.Spec := fun cvs m h K => ∃ v s t, cvs = [aS v, cI t] ∧ RepS h s v ∧ K (cB (hasT s t)) m h
def KindsOfS : Vc.Spec := fun cvs m h K => ∃ v s t, cvs = [aS v, cI t] ∧ RepS h s v ∧ small8 s ∧ ∀ sl h', PH.le h h' → Ints h' sl (kindsT s t) → K (cS sl) m h'
noncomputable def f52_ctx (m : MH) (h : PH) : Ctx :=
  ctx2 [] [(5, { A := Nat × Sl × List Int, st := fun x => mkSt 35 37 [(5, .at (.lst 32)), (22, sv x.2.1), (23, iv x.2.1.len), (24, iv x.1)] [(32, .lst 3 1 (x.2.2.map eI))] m h })] [] [] false
noncomputable def f62_ctx (m : MH) (h : PH) : Ctx :=
  ctx2 [(86, HasS)] [(5, { A := Nat × Sl × List Int, st := fun x => mkSt 38 40 [(5, .at (.lst 19)), (25, sv x.2.1), (26, iv x.2.1.len), (27, iv x.1)] [(19, .lst 3 1 (x.2.2.map eI))] m h })] [] [] false
def f86_nice (v : SchV) (t : Int) (m : MH) (h : PH) (K : CV → MH → PH → Prop) : Prop :=
    branch (decide (t ≥ 0)) (K (cQb (decide (t < (↑v.tables.len : Int)))) m h) (K (cQb false) m h)
theorem f86_vc (v : SchV) (t : Int) (m : MH) (h : PH) (K : CV → MH → PH → Prop) : f86_nice v t m h K = (fnVC (ctx2 [] [] [] [] false) Tryz.f86 (bodyOf Tryz.f86) (entry Tryz.f86.ntmps [aS v, cI t] m h) K) := by kernel_rfl
def f52_nice (v : SchV) (t : Int) (m : MH) (h : PH) (K : CV → MH → PH → Prop) : Prop :=
    branch (decide (t < 0)) (K (cQn) m h) (branch (decide (t ≥ (↑v.tables.len : Int))) (K (cQn) m h) (∃ (b : Nat), ∃ (off : Nat), v.tables.a = some (Addr.mk b off none) /\ 0 <= t /\ t 
    < (↑v.tables.len : Int) /\ ∃ (y : Sl), RdAt m h b (off + t.toNat * 5 + 1) [vQs y] /\ ∃ (I : Nat × Sl × List Int -> Prop), ∃ (mu : Nat × Sl × List Int -> Nat), (∃ (x : Nat × Sl × 
    List Int), I x /\ eQ (sQl 32) /\ sQs y = sQs x.2.1 /\ sQi (↑y.len : Int) = sQi (↑x.2.1.len : Int) /\ sQi 0 = sQi (↑x.1 : Int) /\ some (Own.lst 3 1 []) = some (Own.lst 3 1 (List.map 
    eI x.2.2)) /\ m = m /\ h = h /\ True) /\ ∀ (x : Nat × Sl × List Int), I x -> branch (decide ((↑x.1 : Int) < (↑x.2.1.len : Int))) (∃ (b : Nat), ∃ (off : Nat), x.2.1.a = some 
    (Addr.mk b off none) /\ 0 <= (↑x.1 : Int) /\ (↑x.1 : Int) < (↑x.2.1.len : Int) /\ ∃ (y : ColV), RdAt m h b (off + (↑x.1 : Int).toNat * 2) [Value.string y.name, vQi y.kind] /\ 
    ((List.map eI x.2.2).length + 1) * 8 <= 140737488355328 /\ (List.map eI x.2.2).length < 140737488355328 /\ ∃ (y_1 : Nat × Sl × List Int), I y_1 /\ mu y_1 < mu x /\ eQ (sQl 32) /\ 
    sQs x.2.1 = sQs y_1.2.1 /\ sQi (↑x.2.1.len : Int) = sQi (↑y_1.2.1.len : Int) /\ sQi (IntKind.i64.wrap ((↑x.1 : Int) + 1)) = sQi (↑y_1.1 : Int) /\ some (Own.lst 3 1 (List.map eI 
    x.2.2 ++ [[vQi y.kind]])) = some (Own.lst 3 1 (List.map eI y_1.2.2)) /\ m = m /\ h = h /\ True) (∀ (s : Sl) (h' : PH), h.le h' -> RowIn h' s 1 (List.map eI x.2.2) -> K (cQs s) m 
    h')))
theorem f52_vc (v : SchV) (t : Int) (m : MH) (h : PH) (K : CV → MH → PH → Prop) : f52_nice v t m h K = (fnVC (f52_ctx m h) Tryz.f52 (bodyOf Tryz.f52) (entry Tryz.f52.ntmps [aS v, cI t] m h) K) := by kernel_rfl
def f62_nice (v : SchV) (t : Int) (m : MH) (h : PH) (K : CV → MH → PH → Prop) : Prop :=
    ∃ (v_1 : SchV), ∃ (s : Sch), ∃ (t_1 : Int), [cQa [vQi v.version, vQs v.tables], cQi t] = [cQa [vQi v_1.version, vQs v_1.tables], cQi t_1] /\ RepS h s v_1 /\ branch (!hasT s t_1) (K 
    (cQn) m h) (∃ (b : Nat), ∃ (off : Nat), v.tables.a = some (Addr.mk b off none) /\ 0 <= t /\ t < (↑v.tables.len : Int) /\ ∃ (y : Sl), RdAt m h b (off + t.toNat * 5 + 1) [vQs y] /\ 
    (0 : Int) <= 0 /\ 0 <= (↑y.len : Int) /\ (↑y.len : Int) * 8 <= 281474976710656 /\ (↑y.len : Int) <= 281474976710656 /\ ∃ (b : Nat), ∃ (off : Nat), v.tables.a = some (Addr.mk b off 
    none) /\ 0 <= t /\ t < (↑v.tables.len : Int) /\ ∃ (y : Sl), RdAt m h b (off + t.toNat * 5 + 1) [vQs y] /\ ∃ (I : Nat × Sl × List Int -> Prop), ∃ (mu : Nat × Sl × List Int -> Nat), 
    (∃ (x : Nat × Sl × List Int), I x /\ eQ (sQl 19) /\ sQs y = sQs x.2.1 /\ sQi (↑y.len : Int) = sQi (↑x.2.1.len : Int) /\ sQi 0 = sQi (↑x.1 : Int) /\ some (Own.lst 3 1 []) = some 
    (Own.lst 3 1 (List.map eI x.2.2)) /\ m = m /\ h = h /\ True) /\ ∀ (x : Nat × Sl × List Int), I x -> branch (decide ((↑x.1 : Int) < (↑x.2.1.len : Int))) (∃ (b : Nat), ∃ (off : Nat), 
    x.2.1.a = some (Addr.mk b off none) /\ 0 <= (↑x.1 : Int) /\ (↑x.1 : Int) < (↑x.2.1.len : Int) /\ ∃ (y : ColV), RdAt m h b (off + (↑x.1 : Int).toNat * 2) [Value.string y.name, vQi 
    y.kind] /\ ((List.map eI x.2.2).length + 1) * 8 <= 140737488355328 /\ (List.map eI x.2.2).length < 140737488355328 /\ ∃ (y_1 : Nat × Sl × List Int), I y_1 /\ mu y_1 < mu x /\ eQ 
    (sQl 19) /\ sQs x.2.1 = sQs y_1.2.1 /\ sQi (↑x.2.1.len : Int) = sQi (↑y_1.2.1.len : Int) /\ sQi (IntKind.i64.wrap ((↑x.1 : Int) + 1)) = sQi (↑y_1.1 : Int) /\ some (Own.lst 3 1 
    (List.map eI x.2.2 ++ [[vQi y.kind]])) = some (Own.lst 3 1 (List.map eI y_1.2.2)) /\ m = m /\ h = h /\ True) (∀ (s : Sl) (h' : PH), h.le h' -> RowIn h' s 1 (List.map eI x.2.2) -> K 
    (cQs s) m h'))
theorem f62_vc (v : SchV) (t : Int) (m : MH) (h : PH) (K : CV → MH → PH → Prop) : f62_nice v t m h K = (fnVC (f62_ctx m h) Tryz.f62 (bodyOf Tryz.f62) (entry Tryz.f62.ntmps [aS v, cI t] m h) K) := by kernel_rfl
theorem RdCells.part {h : PH} {b o : Nat} {l : List Value} (r : RdCells h b o l) (k n : Nat) : RdCells h b (o + k) ((l.drop k).take n) :=
  ⟨fun i v e => by
    have : l[k + i]? = some v := by
      rw [List.getElem?_take] at e
      split at e
      · rwa [List.getElem?_drop] at e
      · cases e
    have := r.rd (k + i) v this
    rwa [← Nat.add_assoc] at this⟩
theorem Cols.at {h : PH} {s : Sl} {l : List ColV} (r : Cols h s l) {i : Nat} {x : ColV} (hi : l[i]? = some x) : ∃ b o, s.a = some ⟨b, o, none⟩ ∧ RdCells h b (o + i * 2) (ColV.enc x) := by
  obtain ⟨b, o, v, e, k, rfl⟩ := RepL.at r hi
  exact ⟨b, o, e, k⟩
theorem f86_ok {v : SchV} {s : Sch} {t : Int} {m : MH} {h : PH} {K : CV → MH → PH → Prop} (hs : RepS h s v) (hK : K (cB (hasT s t)) m h) : f86_nice v t m h K := by
  have hl := hs.tables.slen
  refine branch_dec (fun h1 => retB hK ?_) (fun h1 => retB hK ?_)
  · have h1 : 0 ≤ t := h1
    simp only [hasT, hl, decide_eq_true h1, Bool.true_and]
  · have h1 : ¬ 0 ≤ t := by omega
    simp only [hasT, decide_eq_false h1, Bool.false_and]
theorem kindsT_none {s : Sch} {t : Int} (h : ¬ (0 ≤ t ∧ t < s.tables.length)) : kindsT s t = [] := by
  unfold kindsT
  split
  · rfl
  · rw [List.getElem?_eq_none (by omega)]
theorem kindsT_some {s : Sch} {t : Int} {x : Tab} (h : 0 ≤ t) (hx : s.tables[t.toNat]? = some x) : kindsT s t = x.columns.map ColV.kind := by
  unfold kindsT
  rw [if_neg (by omega), hx]
theorem RepS.table {h : PH} {s : Sch} {v : SchV} (hs : RepS h s v) {t : Int} (h0 : 0 ≤ t) (h1 : t < (v.tables.len : Int)) : ∃ x b o w, s.tables[t.toNat]? = some x ∧ v.tables.a = some ⟨b, o, none⟩ ∧ RdCells h b (o + t.toNat * 5) (TabV.enc w) ∧ RepTab h x w := by
  have hl := hs.tables.slen
  have hx : s.tables[t.toNat]? = some (s.tables[t.toNat]'(by omega)) := List.getElem?_eq_getElem _
  obtain ⟨b, o, w, e, r, k⟩ := hs.tables.at hx
  exact ⟨_, b, o, w, hx, e, r, k⟩
theorem map_take_succ {α β : Type} {f : α → β} {l : List α} {i : Nat} {x : α} (hx : l[i]? = some x) : (l.take (i + 1)).map f = (l.take i).map f ++ [f x] := by
  rw [List.take_add_one, hx]; simp
theorem ints_of {h : PH} {s : Sl} {l : List Int} (r : RowIn h s 1 (l.map eI)) (hl : l.length ≤ 17592186044416) : Ints h s l := ⟨r, hl⟩
theorem f52_ok {v : SchV} {s : Sch} {t : Int} {m : MH} {h : PH} {K : CV → MH → PH → Prop} (hs : RepS h s v) (h8 : small8 s) (hK : ∀ sl h', PH.le h h' → Ints h' sl (kindsT s t) → K (cS sl) m h') : f52_nice v t m h K := by
  have hl := hs.tables.slen
  have hnil : kindsT s t = [] → K (.val (.slice none 0 0)) m h := fun e => hK ⟨none, 0, 0⟩ h (.refl _) (by rw [e]; exact ⟨.nil _ _, by simp⟩)
  refine branch_dec (fun h1 => hnil (kindsT_none (by omega))) (fun h1 => branch_dec (fun h2 => hnil (kindsT_none (by omega))) (fun h2 => ?_))
  obtain ⟨x, b, o, w, hx, ea, hr, hrep⟩ := hs.table (t := t) (by omega) (by omega)
  have hx8 := h8 x (List.mem_of_getElem? hx)
  have hcl := RepL.slen hrep.columns
  rw [kindsT_some (by omega) hx] at hK
  refine ⟨b, o, ea, by omega, by omega, w.columns, .imm (RdCells.part hr 1 1), fun ⟨i, sl, l⟩ => sl = w.columns ∧ i ≤ x.columns.length ∧ l = (x.columns.take i).map ColV.kind, fun ⟨i, _, _⟩ => x.columns.length - i, ⟨(0, w.columns, []), ⟨rfl, by simp, by simp⟩, MT⟩, ?_⟩
  rintro ⟨i, _, _⟩ ⟨rfl, hi, rfl⟩
  dsimp only
  refine branch_dec (fun hlt => ?_) (fun hge sl h' hle hrow => ?_)
  · obtain ⟨c, hc⟩ := getx hcl hlt
    obtain ⟨b, o, e, r⟩ := Cols.at hrep.columns hc
    refine ⟨b, o, e, by omega, hlt, c, .imm r, ?_, ?_, (i + 1, w.columns, (x.columns.take (i + 1)).map ColV.kind), ⟨rfl, by omega, rfl⟩, by show x.columns.length - (i + 1) < x.columns.length - i; omega, ?_⟩
    · simp; omega
    · simp; omega
    · rw [map_take_succ hc, List.map_append]
      exact MT
  · rw [List.take_of_length_le (by omega)] at hrow
    exact hK sl h' hle ⟨hrow, by simp; omega⟩
theorem f62_ok {v : SchV} {s : Sch} {t : Int} {m : MH} {h : PH} {K : CV → MH → PH → Prop} (hs : RepS h s v) (h8 : small8 s) (hK : ∀ sl h', PH.le h h' → Ints h' sl (kindsT s t) → K (cS sl) m h') : f62_nice v t m h K := by
  have hl := hs.tables.slen
  have hnil : kindsT s t = [] → K (.val (.slice none 0 0)) m h := fun e => hK ⟨none, 0, 0⟩ h (.refl _) (by rw [e]; exact ⟨.nil _ _, by simp⟩)
  refine ⟨v, s, t, rfl, hs, branch_intro (fun h1 => hnil (kindsT_none ?_)) (fun h1 => ?_)⟩
  · simp only [hasT, Bool.not_eq_true', Bool.and_eq_false_iff, decide_eq_false_iff_not] at h1; omega
  simp only [hasT, Bool.not_eq_false', Bool.and_eq_true, decide_eq_true_eq] at h1
  obtain ⟨x, b, o, w, hx, ea, hr, hrep⟩ := hs.table (t := t) (by omega) (by omega)
  have hx8 := h8 x (List.mem_of_getElem? hx)
  have hcl := RepL.slen hrep.columns
  rw [kindsT_some (by omega) hx] at hK
  refine ⟨b, o, ea, by omega, by omega, w.columns, .imm (RdCells.part hr 1 1), by omega, by omega, by omega, by omega, b, o, ea, by omega, by omega, w.columns, .imm (RdCells.part hr 1 1), fun ⟨i, sl, l⟩ => sl = w.columns ∧ i ≤ x.columns.length ∧ l = (x.columns.take i).map ColV.kind, fun ⟨i, _, _⟩ => x.columns.length - i, ⟨(0, w.columns, []), ⟨rfl, by simp, by simp⟩, MT⟩, ?_⟩
  rintro ⟨i, _, _⟩ ⟨rfl, hi, rfl⟩
  dsimp only
  refine branch_dec (fun hlt => ?_) (fun hge sl h' hle hrow => ?_)
  · obtain ⟨c, hc⟩ := getx hcl hlt
    obtain ⟨b, o, e, r⟩ := Cols.at hrep.columns hc
    refine ⟨b, o, e, by omega, hlt, c, .imm r, ?_, ?_, (i + 1, w.columns, (x.columns.take (i + 1)).map ColV.kind), ⟨rfl, by omega, rfl⟩, by show x.columns.length - (i + 1) < x.columns.length - i; omega, ?_⟩
    · simp; omega
    · simp; omega
    · rw [map_take_succ hc, List.map_append]
      exact MT
  · rw [List.take_of_length_le (by omega)] at hrow
    exact hK sl h' hle ⟨hrow, by simp; omega⟩
theorem f86_sound : Sound Tryz.prog 86 HasS := by
  refine fn_sound (fn := Tryz.f86) (c := bodyOf Tryz.f86) Tryz.func86 rfl (by decide) ?_
  rintro cvs m h K ⟨v, s, t, rfl, hs, hK⟩
  refine ⟨ctx2 [] [] [] [] false, rfl, specs_nil, ?_⟩
  rw [← f86_vc v t m h K]
  exact f86_ok hs hK
theorem f52_sound : Sound Tryz.prog 52 KindsOfS := by
  refine fn_sound (fn := Tryz.f52) (c := bodyOf Tryz.f52) Tryz.func52 rfl (by decide) ?_
  rintro cvs m h K ⟨v, s, t, rfl, hs, h8, hK⟩
  refine ⟨f52_ctx m h, rfl, specs_nil, ?_⟩
  rw [← f52_vc v t m h K]
  exact f52_ok hs h8 hK
theorem f62_sound : Sound Tryz.prog 62 KindsOfS := by
  refine fn_sound (fn := Tryz.f62) (c := bodyOf Tryz.f62) Tryz.func62 rfl (by decide) ?_
  rintro cvs m h K ⟨v, s, t, rfl, hs, h8, hK⟩
  refine ⟨f62_ctx m h, rfl, specs_cons f86_sound specs_nil, ?_⟩
  rw [← f62_vc v t m h K]
  exact f62_ok hs h8 hK
end Go.Ps
namespace Go.Ps
open Go Go.Vc Go.Proofs
def Sub (m m' : MH) : Prop := ∀ b o, m b = some o → m' b = some o
theorem Sub.refl (m : MH) : Sub m m := fun _ _ e => e
theorem Sub.trans {m m' m'' : MH} (h1 : Sub m m') (h2 : Sub m' m'') : Sub m m'' := fun b o e => h2 b o (h1 b o e)
theorem Sub.free {m m' : MH} (h : Sub m m') {b : Nat} (hb : m' b = none) : m b = none := by
  cases e : m b with
  | none => rfl
  | some o => rw [h b o e] at hb; cases hb
theorem Sub.upd {m mx m' : MH} (h : Sub m mx) {b : Nat} (hb : m b = none) (ho : ∀ b', b' ≠ b → m' b' = mx b') : Sub m m' := fun b' o e => by
  have hne : b' ≠ b := fun e' => by rw [e', hb] at e; cases e
  rw [ho b' hne, h b' o e]
/-- A map of names. -/
def MapS (m : MH) (b : Nat) (ns : List ByteArray) : Prop := MapAt m b (ns.map fun n => (.string n, .bool true))
theorem MapS.other {m m' : MH} {b b' : Nat} {ns : List ByteArray} (h : MapS m b ns) (hne : b ≠ b') (ho : ∀ c, c ≠ b' → m' c = m c) : MapS m' b ns := by
  obtain ⟨es, cl, h1, h2⟩ := h.ex
  exact ⟨es, cl, by rw [ho b hne, h1], h2⟩
def NamedS : Vc.Spec := fun cvs m h K => ∃ v s, cvs = [aS v] ∧ RepS h s v ∧ ∀ r : Bool, (r = true ↔ Good TabT s.tables) → K (cB r) m h
def TableS : Vc.Spec := fun cvs m h K => ∃ v s t, ∃ i : Nat, cvs = [aS v, cI i] ∧ RepS h s v ∧ s.tables[i]? = some t ∧ ∀ r : Bool, (r = true ↔ TabT (s.tables.take i) t) → K (cB r) m h
noncomputable def f60_ctx (v : SchV) (h : PH) : Ctx :=
  ctx2 [(85, NameS)] [(3, { A := Nat × Nat × MH, st := fun ⟨i, b1, mx⟩ => mkSt 79 80 [(3, vv (.map (some b1))), (11, sv v.tables), (12, iv v.tables.len), (13, iv i)] [] mx h }),
    (10, { A := Nat × Nat × Nat × Nat × Sl × MH, st := fun ⟨i, k, b1, b2, sl, mx⟩ => mkSt 79 80 [(3, vv (.map (some b1))), (6, vv (.map (some b2))), (11, sv v.tables), (12, iv v.tables.len), (13, iv i), (45, sv sl), (46, iv sl.len), (47, iv k)] [] mx h })] [] [] false
noncomputable def f76_ctx (v : SchV) (i : Nat) (m : MH) (h : PH) : Ctx :=
  ctx2 [(106, NameS), (78, KindS)] [(5, { A := Nat × TabV, st := fun ⟨k, w⟩ => mkSt 94 96 [(1, iv i), (2, .at (.ptr 2 0)), (5, .at (.ptr 5 0)), (6, iv k)] [(2, .cells 28 (v.enc.map .val)), (5, .cells 72 (w.enc.map .val))] m h }),
    (10, { A := Nat × TabV, st := fun ⟨k, w⟩ => mkSt 94 96 [(5, .at (.ptr 5 0)), (53, iv w.columns.len), (54, iv k)] [(5, .cells 72 (w.enc.map .val))] m h }),
    (15, { A := Nat × Nat × TabV, st := fun ⟨k, j, w⟩ => mkSt 94 96 [(5, .at (.ptr 5 0)), (7, iv k), (8, iv j), (53, iv w.columns.len), (54, iv k)] [(5, .cells 72 (w.enc.map .val))] m h })] [] [] false
def f60_nice (v : SchV) (m : MH) (h : PH) (K : CV → MH → PH → Prop) : Prop :=
    ∀ (b : Nat) (m' : MH), Unheld m h b -> MUpd m m' b (Obj.map (Array.mk []) 0) -> ∃ (I : Nat × Nat × MH -> Prop), ∃ (mu : Nat × Nat × MH -> Nat), (∃ (x : Nat × Nat × MH), I x /\ 
    SV.at (At.val (Value.map (some b))) = SV.at (At.val (Value.map (some x.2.1))) /\ eQ (sQs v.tables) /\ eQ (sQi (↑v.tables.len : Int)) /\ sQi 0 = sQi (↑x.1 : Int) /\ m' = x.2.2 /\ h 
    = h /\ True) /\ ∀ (x : Nat × Nat × MH), I x -> branch (decide ((↑x.1 : Int) < (↑v.tables.len : Int))) (∃ (b : Nat), ∃ (off : Nat), v.tables.a = some (Addr.mk b off none) /\ 0 <= 
    (↑x.1 : Int) /\ (↑x.1 : Int) < (↑v.tables.len : Int) /\ ∃ (y : TabV), RdAt x.2.2 h b (off + (↑x.1 : Int).toNat * 5) [Value.string y.name, vQs y.columns, vQi y.key, vQs 
    y.references, vQs y.checks] /\ ∃ (s : ByteArray), [CV.val (Value.string y.name)] = [CV.val (Value.string s)] /\ branch (!nameOk s) (K (cQb false) x.2.2 h) (∃ (kvs : List (Value × 
    ((f60_ctx v h).dec 4).X)), ∃ (Ok : Value -> Prop), MapAt x.2.2 x.2.1 (List.map (fun (p : Value × ((f60_ctx v h).dec 4).X) => (p.1, Value.bool p.2)) kvs) /\ KeyLaw Tryz.prog 9 Ok /\ 
    Ok (Value.string y.name) /\ (∀ (e : Value × ((f60_ctx v h).dec 4).X), List.Mem e kvs -> Ok e.1) /\ ((∀ (e : Value × ((f60_ctx v h).dec 4).X), List.Mem e kvs -> e.1 = Value.string 
    y.name -> False) -> branch (decide (y.key < 1)) (K (cQb false) x.2.2 h) (branch (decide (y.key > (↑y.columns.len : Int))) (K (cQb false) x.2.2 h) (∃ (kvs : List (Value × Value)), ∃ 
    (Ok : Value -> Prop), MapAt x.2.2 x.2.1 kvs /\ KeyLaw Tryz.prog 9 Ok /\ Ok (Value.string y.name) /\ (∀ (e : Value × Value), List.Mem e kvs -> Ok e.1) /\ (∀ (e : Value × Value), 
    List.Mem e kvs -> e.1 = Value.string y.name -> False) /\ ∀ (m' : MH), MSame x.2.2 m' x.2.1 -> MapAt m' x.2.1 (kvs ++ [(Value.string y.name, Value.bool true)]) -> ∀ (b : Nat) (m'_1 
    : MH), Unheld m' h b -> MUpd m' m'_1 b (Obj.map (Array.mk []) 0) -> ∃ (I_1 : Nat × Nat × Nat × Nat × Sl × MH -> Prop), ∃ (mu_1 : Nat × Nat × Nat × Nat × Sl × MH -> Nat), (∃ (x_1 : 
    Nat × Nat × Nat × Nat × Sl × MH), I_1 x_1 /\ SV.at (At.val (Value.map (some x.2.1))) = SV.at (At.val (Value.map (some x_1.2.2.1))) /\ SV.at (At.val (Value.map (some b))) = SV.at 
    (At.val (Value.map (some x_1.2.2.2.1))) /\ eQ (sQs v.tables) /\ eQ (sQi (↑v.tables.len : Int)) /\ sQi (↑x.1 : Int) = sQi (↑x_1.1 : Int) /\ sQs y.columns = sQs x_1.2.2.2.2.1 /\ sQi 
    (↑y.columns.len : Int) = sQi (↑x_1.2.2.2.2.1.len : Int) /\ sQi 0 = sQi (↑x_1.2.1 : Int) /\ m'_1 = x_1.2.2.2.2.2 /\ h = h /\ True) /\ ∀ (x_1 : Nat × Nat × Nat × Nat × Sl × MH), I_1 
    x_1 -> branch (decide ((↑x_1.2.1 : Int) < (↑x_1.2.2.2.2.1.len : Int))) (∃ (b : Nat), ∃ (off : Nat), x_1.2.2.2.2.1.a = some (Addr.mk b off none) /\ 0 <= (↑x_1.2.1 : Int) /\ 
    (↑x_1.2.1 : Int) < (↑x_1.2.2.2.2.1.len : Int) /\ ∃ (y : ColV), RdAt x_1.2.2.2.2.2 h b (off + (↑x_1.2.1 : Int).toNat * 2) [Value.string y.name, vQi y.kind] /\ ∃ (s : ByteArray), 
    [CV.val (Value.string y.name)] = [CV.val (Value.string s)] /\ branch (!nameOk s) (K (cQb false) x_1.2.2.2.2.2 h) (∃ (kvs : List (Value × ((f60_ctx v h).dec 4).X)), ∃ (Ok : Value -> 
    Prop), MapAt x_1.2.2.2.2.2 x_1.2.2.2.1 (List.map (fun (p : Value × ((f60_ctx v h).dec 4).X) => (p.1, Value.bool p.2)) kvs) /\ KeyLaw Tryz.prog 9 Ok /\ Ok (Value.string y.name) /\ 
    (∀ (e : Value × ((f60_ctx v h).dec 4).X), List.Mem e kvs -> Ok e.1) /\ ((∀ (e : Value × ((f60_ctx v h).dec 4).X), List.Mem e kvs -> e.1 = Value.string y.name -> False) -> ∃ (kvs : 
    List (Value × Value)), ∃ (Ok : Value -> Prop), MapAt x_1.2.2.2.2.2 x_1.2.2.2.1 kvs /\ KeyLaw Tryz.prog 9 Ok /\ Ok (Value.string y.name) /\ (∀ (e : Value × Value), List.Mem e kvs -> 
    Ok e.1) /\ (∀ (e : Value × Value), List.Mem e kvs -> e.1 = Value.string y.name -> False) /\ ∀ (m' : MH), MSame x_1.2.2.2.2.2 m' x_1.2.2.2.1 -> MapAt m' x_1.2.2.2.1 (kvs ++ 
    [(Value.string y.name, Value.bool true)]) -> branch (y.kind != 3) (branch (y.kind != 4) (branch (y.kind != 5) (K (cQb false) m' h) (∃ (y : Nat × Nat × Nat × Nat × Sl × MH), I_1 y 
    /\ mu_1 y < mu_1 x_1 /\ SV.at (At.val (Value.map (some x_1.2.2.1))) = SV.at (At.val (Value.map (some y.2.2.1))) /\ SV.at (At.val (Value.map (some x_1.2.2.2.1))) = SV.at (At.val 
    (Value.map (some y.2.2.2.1))) /\ eQ (sQs v.tables) /\ eQ (sQi (↑v.tables.len : Int)) /\ sQi (↑x_1.1 : Int) = sQi (↑y.1 : Int) /\ sQs x_1.2.2.2.2.1 = sQs y.2.2.2.2.1 /\ sQi 
    (↑x_1.2.2.2.2.1.len : Int) = sQi (↑y.2.2.2.2.1.len : Int) /\ sQi (IntKind.i64.wrap ((↑x_1.2.1 : Int) + 1)) = sQi (↑y.2.1 : Int) /\ m' = y.2.2.2.2.2 /\ h = h /\ True)) (∃ (y : Nat × 
    Nat × Nat × Nat × Sl × MH), I_1 y /\ mu_1 y < mu_1 x_1 /\ SV.at (At.val (Value.map (some x_1.2.2.1))) = SV.at (At.val (Value.map (some y.2.2.1))) /\ SV.at (At.val (Value.map (some 
    x_1.2.2.2.1))) = SV.at (At.val (Value.map (some y.2.2.2.1))) /\ eQ (sQs v.tables) /\ eQ (sQi (↑v.tables.len : Int)) /\ sQi (↑x_1.1 : Int) = sQi (↑y.1 : Int) /\ sQs x_1.2.2.2.2.1 = 
    sQs y.2.2.2.2.1 /\ sQi (↑x_1.2.2.2.2.1.len : Int) = sQi (↑y.2.2.2.2.1.len : Int) /\ sQi (IntKind.i64.wrap ((↑x_1.2.1 : Int) + 1)) = sQi (↑y.2.1 : Int) /\ m' = y.2.2.2.2.2 /\ h = h 
    /\ True)) (∃ (y : Nat × Nat × Nat × Nat × Sl × MH), I_1 y /\ mu_1 y < mu_1 x_1 /\ SV.at (At.val (Value.map (some x_1.2.2.1))) = SV.at (At.val (Value.map (some y.2.2.1))) /\ SV.at 
    (At.val (Value.map (some x_1.2.2.2.1))) = SV.at (At.val (Value.map (some y.2.2.2.1))) /\ eQ (sQs v.tables) /\ eQ (sQi (↑v.tables.len : Int)) /\ sQi (↑x_1.1 : Int) = sQi (↑y.1 : 
    Int) /\ sQs x_1.2.2.2.2.1 = sQs y.2.2.2.2.1 /\ sQi (↑x_1.2.2.2.2.1.len : Int) = sQi (↑y.2.2.2.2.1.len : Int) /\ sQi (IntKind.i64.wrap ((↑x_1.2.1 : Int) + 1)) = sQi (↑y.2.1 : Int) 
    /\ m' = y.2.2.2.2.2 /\ h = h /\ True)) /\ ∀ (y_1 : Bool), List.Mem (Value.string y.name, y_1) kvs -> branch y_1 (K (cQb false) x_1.2.2.2.2.2 h) (∃ (kvs : List (Value × Value)), ∃ 
    (Ok : Value -> Prop), MapAt x_1.2.2.2.2.2 x_1.2.2.2.1 kvs /\ KeyLaw Tryz.prog 9 Ok /\ Ok (Value.string y.name) /\ (∀ (e : Value × Value), List.Mem e kvs -> Ok e.1) /\ (∀ (e : Value 
    × Value), List.Mem e kvs -> e.1 = Value.string y.name -> False) /\ ∀ (m' : MH), MSame x_1.2.2.2.2.2 m' x_1.2.2.2.1 -> MapAt m' x_1.2.2.2.1 (kvs ++ [(Value.string y.name, Value.bool 
    true)]) -> branch (y.kind != 3) (branch (y.kind != 4) (branch (y.kind != 5) (K (cQb false) m' h) (∃ (y : Nat × Nat × Nat × Nat × Sl × MH), I_1 y /\ mu_1 y < mu_1 x_1 /\ SV.at 
    (At.val (Value.map (some x_1.2.2.1))) = SV.at (At.val (Value.map (some y.2.2.1))) /\ SV.at (At.val (Value.map (some x_1.2.2.2.1))) = SV.at (At.val (Value.map (some y.2.2.2.1))) /\ 
    eQ (sQs v.tables) /\ eQ (sQi (↑v.tables.len : Int)) /\ sQi (↑x_1.1 : Int) = sQi (↑y.1 : Int) /\ sQs x_1.2.2.2.2.1 = sQs y.2.2.2.2.1 /\ sQi (↑x_1.2.2.2.2.1.len : Int) = sQi 
    (↑y.2.2.2.2.1.len : Int) /\ sQi (IntKind.i64.wrap ((↑x_1.2.1 : Int) + 1)) = sQi (↑y.2.1 : Int) /\ m' = y.2.2.2.2.2 /\ h = h /\ True)) (∃ (y : Nat × Nat × Nat × Nat × Sl × MH), I_1 
    y /\ mu_1 y < mu_1 x_1 /\ SV.at (At.val (Value.map (some x_1.2.2.1))) = SV.at (At.val (Value.map (some y.2.2.1))) /\ SV.at (At.val (Value.map (some x_1.2.2.2.1))) = SV.at (At.val 
    (Value.map (some y.2.2.2.1))) /\ eQ (sQs v.tables) /\ eQ (sQi (↑v.tables.len : Int)) /\ sQi (↑x_1.1 : Int) = sQi (↑y.1 : Int) /\ sQs x_1.2.2.2.2.1 = sQs y.2.2.2.2.1 /\ sQi 
    (↑x_1.2.2.2.2.1.len : Int) = sQi (↑y.2.2.2.2.1.len : Int) /\ sQi (IntKind.i64.wrap ((↑x_1.2.1 : Int) + 1)) = sQi (↑y.2.1 : Int) /\ m' = y.2.2.2.2.2 /\ h = h /\ True)) (∃ (y : Nat × 
    Nat × Nat × Nat × Sl × MH), I_1 y /\ mu_1 y < mu_1 x_1 /\ SV.at (At.val (Value.map (some x_1.2.2.1))) = SV.at (At.val (Value.map (some y.2.2.1))) /\ SV.at (At.val (Value.map (some 
    x_1.2.2.2.1))) = SV.at (At.val (Value.map (some y.2.2.2.1))) /\ eQ (sQs v.tables) /\ eQ (sQi (↑v.tables.len : Int)) /\ sQi (↑x_1.1 : Int) = sQi (↑y.1 : Int) /\ sQs x_1.2.2.2.2.1 = 
    sQs y.2.2.2.2.1 /\ sQi (↑x_1.2.2.2.2.1.len : Int) = sQi (↑y.2.2.2.2.1.len : Int) /\ sQi (IntKind.i64.wrap ((↑x_1.2.1 : Int) + 1)) = sQi (↑y.2.1 : Int) /\ m' = y.2.2.2.2.2 /\ h = h 
    /\ True)))) (∃ (y : Nat × Nat × MH), I y /\ mu y < mu x /\ SV.at (At.val (Value.map (some x_1.2.2.1))) = SV.at (At.val (Value.map (some y.2.1))) /\ eQ (sQs v.tables) /\ eQ (sQi 
    (↑v.tables.len : Int)) /\ sQi (IntKind.i64.wrap ((↑x_1.1 : Int) + 1)) = sQi (↑y.1 : Int) /\ x_1.2.2.2.2.2 = y.2.2 /\ h = h /\ True)))) /\ ∀ (y_1 : Bool), List.Mem (Value.string 
    y.name, y_1) kvs -> branch y_1 (K (cQb false) x.2.2 h) (branch (decide (y.key < 1)) (K (cQb false) x.2.2 h) (branch (decide (y.key > (↑y.columns.len : Int))) (K (cQb false) x.2.2 
    h) (∃ (kvs : List (Value × Value)), ∃ (Ok : Value -> Prop), MapAt x.2.2 x.2.1 kvs /\ KeyLaw Tryz.prog 9 Ok /\ Ok (Value.string y.name) /\ (∀ (e : Value × Value), List.Mem e kvs -> 
    Ok e.1) /\ (∀ (e : Value × Value), List.Mem e kvs -> e.1 = Value.string y.name -> False) /\ ∀ (m' : MH), MSame x.2.2 m' x.2.1 -> MapAt m' x.2.1 (kvs ++ [(Value.string y.name, 
    Value.bool true)]) -> ∀ (b : Nat) (m'_1 : MH), Unheld m' h b -> MUpd m' m'_1 b (Obj.map (Array.mk []) 0) -> ∃ (I_1 : Nat × Nat × Nat × Nat × Sl × MH -> Prop), ∃ (mu_1 : Nat × Nat × 
    Nat × Nat × Sl × MH -> Nat), (∃ (x_1 : Nat × Nat × Nat × Nat × Sl × MH), I_1 x_1 /\ SV.at (At.val (Value.map (some x.2.1))) = SV.at (At.val (Value.map (some x_1.2.2.1))) /\ SV.at 
    (At.val (Value.map (some b))) = SV.at (At.val (Value.map (some x_1.2.2.2.1))) /\ eQ (sQs v.tables) /\ eQ (sQi (↑v.tables.len : Int)) /\ sQi (↑x.1 : Int) = sQi (↑x_1.1 : Int) /\ sQs 
    y.columns = sQs x_1.2.2.2.2.1 /\ sQi (↑y.columns.len : Int) = sQi (↑x_1.2.2.2.2.1.len : Int) /\ sQi 0 = sQi (↑x_1.2.1 : Int) /\ m'_1 = x_1.2.2.2.2.2 /\ h = h /\ True) /\ ∀ (x_1 : 
    Nat × Nat × Nat × Nat × Sl × MH), I_1 x_1 -> branch (decide ((↑x_1.2.1 : Int) < (↑x_1.2.2.2.2.1.len : Int))) (∃ (b : Nat), ∃ (off : Nat), x_1.2.2.2.2.1.a = some (Addr.mk b off 
    none) /\ 0 <= (↑x_1.2.1 : Int) /\ (↑x_1.2.1 : Int) < (↑x_1.2.2.2.2.1.len : Int) /\ ∃ (y : ColV), RdAt x_1.2.2.2.2.2 h b (off + (↑x_1.2.1 : Int).toNat * 2) [Value.string y.name, vQi 
    y.kind] /\ ∃ (s : ByteArray), [CV.val (Value.string y.name)] = [CV.val (Value.string s)] /\ branch (!nameOk s) (K (cQb false) x_1.2.2.2.2.2 h) (∃ (kvs : List (Value × ((f60_ctx v 
    h).dec 4).X)), ∃ (Ok : Value -> Prop), MapAt x_1.2.2.2.2.2 x_1.2.2.2.1 (List.map (fun (p : Value × ((f60_ctx v h).dec 4).X) => (p.1, Value.bool p.2)) kvs) /\ KeyLaw Tryz.prog 9 Ok 
    /\ Ok (Value.string y.name) /\ (∀ (e : Value × ((f60_ctx v h).dec 4).X), List.Mem e kvs -> Ok e.1) /\ ((∀ (e : Value × ((f60_ctx v h).dec 4).X), List.Mem e kvs -> e.1 = 
    Value.string y.name -> False) -> ∃ (kvs : List (Value × Value)), ∃ (Ok : Value -> Prop), MapAt x_1.2.2.2.2.2 x_1.2.2.2.1 kvs /\ KeyLaw Tryz.prog 9 Ok /\ Ok (Value.string y.name) /\ 
    (∀ (e : Value × Value), List.Mem e kvs -> Ok e.1) /\ (∀ (e : Value × Value), List.Mem e kvs -> e.1 = Value.string y.name -> False) /\ ∀ (m' : MH), MSame x_1.2.2.2.2.2 m' 
    x_1.2.2.2.1 -> MapAt m' x_1.2.2.2.1 (kvs ++ [(Value.string y.name, Value.bool true)]) -> branch (y.kind != 3) (branch (y.kind != 4) (branch (y.kind != 5) (K (cQb false) m' h) (∃ (y 
    : Nat × Nat × Nat × Nat × Sl × MH), I_1 y /\ mu_1 y < mu_1 x_1 /\ SV.at (At.val (Value.map (some x_1.2.2.1))) = SV.at (At.val (Value.map (some y.2.2.1))) /\ SV.at (At.val 
    (Value.map (some x_1.2.2.2.1))) = SV.at (At.val (Value.map (some y.2.2.2.1))) /\ eQ (sQs v.tables) /\ eQ (sQi (↑v.tables.len : Int)) /\ sQi (↑x_1.1 : Int) = sQi (↑y.1 : Int) /\ sQs 
    x_1.2.2.2.2.1 = sQs y.2.2.2.2.1 /\ sQi (↑x_1.2.2.2.2.1.len : Int) = sQi (↑y.2.2.2.2.1.len : Int) /\ sQi (IntKind.i64.wrap ((↑x_1.2.1 : Int) + 1)) = sQi (↑y.2.1 : Int) /\ m' = 
    y.2.2.2.2.2 /\ h = h /\ True)) (∃ (y : Nat × Nat × Nat × Nat × Sl × MH), I_1 y /\ mu_1 y < mu_1 x_1 /\ SV.at (At.val (Value.map (some x_1.2.2.1))) = SV.at (At.val (Value.map (some 
    y.2.2.1))) /\ SV.at (At.val (Value.map (some x_1.2.2.2.1))) = SV.at (At.val (Value.map (some y.2.2.2.1))) /\ eQ (sQs v.tables) /\ eQ (sQi (↑v.tables.len : Int)) /\ sQi (↑x_1.1 : 
    Int) = sQi (↑y.1 : Int) /\ sQs x_1.2.2.2.2.1 = sQs y.2.2.2.2.1 /\ sQi (↑x_1.2.2.2.2.1.len : Int) = sQi (↑y.2.2.2.2.1.len : Int) /\ sQi (IntKind.i64.wrap ((↑x_1.2.1 : Int) + 1)) = 
    sQi (↑y.2.1 : Int) /\ m' = y.2.2.2.2.2 /\ h = h /\ True)) (∃ (y : Nat × Nat × Nat × Nat × Sl × MH), I_1 y /\ mu_1 y < mu_1 x_1 /\ SV.at (At.val (Value.map (some x_1.2.2.1))) = 
    SV.at (At.val (Value.map (some y.2.2.1))) /\ SV.at (At.val (Value.map (some x_1.2.2.2.1))) = SV.at (At.val (Value.map (some y.2.2.2.1))) /\ eQ (sQs v.tables) /\ eQ (sQi 
    (↑v.tables.len : Int)) /\ sQi (↑x_1.1 : Int) = sQi (↑y.1 : Int) /\ sQs x_1.2.2.2.2.1 = sQs y.2.2.2.2.1 /\ sQi (↑x_1.2.2.2.2.1.len : Int) = sQi (↑y.2.2.2.2.1.len : Int) /\ sQi 
    (IntKind.i64.wrap ((↑x_1.2.1 : Int) + 1)) = sQi (↑y.2.1 : Int) /\ m' = y.2.2.2.2.2 /\ h = h /\ True)) /\ ∀ (y_2 : Bool), List.Mem (Value.string y.name, y_2) kvs -> branch y_2 (K 
    (cQb false) x_1.2.2.2.2.2 h) (∃ (kvs : List (Value × Value)), ∃ (Ok : Value -> Prop), MapAt x_1.2.2.2.2.2 x_1.2.2.2.1 kvs /\ KeyLaw Tryz.prog 9 Ok /\ Ok (Value.string y.name) /\ (∀ 
    (e : Value × Value), List.Mem e kvs -> Ok e.1) /\ (∀ (e : Value × Value), List.Mem e kvs -> e.1 = Value.string y.name -> False) /\ ∀ (m' : MH), MSame x_1.2.2.2.2.2 m' x_1.2.2.2.1 
    -> MapAt m' x_1.2.2.2.1 (kvs ++ [(Value.string y.name, Value.bool true)]) -> branch (y.kind != 3) (branch (y.kind != 4) (branch (y.kind != 5) (K (cQb false) m' h) (∃ (y : Nat × Nat 
    × Nat × Nat × Sl × MH), I_1 y /\ mu_1 y < mu_1 x_1 /\ SV.at (At.val (Value.map (some x_1.2.2.1))) = SV.at (At.val (Value.map (some y.2.2.1))) /\ SV.at (At.val (Value.map (some 
    x_1.2.2.2.1))) = SV.at (At.val (Value.map (some y.2.2.2.1))) /\ eQ (sQs v.tables) /\ eQ (sQi (↑v.tables.len : Int)) /\ sQi (↑x_1.1 : Int) = sQi (↑y.1 : Int) /\ sQs x_1.2.2.2.2.1 = 
    sQs y.2.2.2.2.1 /\ sQi (↑x_1.2.2.2.2.1.len : Int) = sQi (↑y.2.2.2.2.1.len : Int) /\ sQi (IntKind.i64.wrap ((↑x_1.2.1 : Int) + 1)) = sQi (↑y.2.1 : Int) /\ m' = y.2.2.2.2.2 /\ h = h 
    /\ True)) (∃ (y : Nat × Nat × Nat × Nat × Sl × MH), I_1 y /\ mu_1 y < mu_1 x_1 /\ SV.at (At.val (Value.map (some x_1.2.2.1))) = SV.at (At.val (Value.map (some y.2.2.1))) /\ SV.at 
    (At.val (Value.map (some x_1.2.2.2.1))) = SV.at (At.val (Value.map (some y.2.2.2.1))) /\ eQ (sQs v.tables) /\ eQ (sQi (↑v.tables.len : Int)) /\ sQi (↑x_1.1 : Int) = sQi (↑y.1 : 
    Int) /\ sQs x_1.2.2.2.2.1 = sQs y.2.2.2.2.1 /\ sQi (↑x_1.2.2.2.2.1.len : Int) = sQi (↑y.2.2.2.2.1.len : Int) /\ sQi (IntKind.i64.wrap ((↑x_1.2.1 : Int) + 1)) = sQi (↑y.2.1 : Int) 
    /\ m' = y.2.2.2.2.2 /\ h = h /\ True)) (∃ (y : Nat × Nat × Nat × Nat × Sl × MH), I_1 y /\ mu_1 y < mu_1 x_1 /\ SV.at (At.val (Value.map (some x_1.2.2.1))) = SV.at (At.val 
    (Value.map (some y.2.2.1))) /\ SV.at (At.val (Value.map (some x_1.2.2.2.1))) = SV.at (At.val (Value.map (some y.2.2.2.1))) /\ eQ (sQs v.tables) /\ eQ (sQi (↑v.tables.len : Int)) /\ 
    sQi (↑x_1.1 : Int) = sQi (↑y.1 : Int) /\ sQs x_1.2.2.2.2.1 = sQs y.2.2.2.2.1 /\ sQi (↑x_1.2.2.2.2.1.len : Int) = sQi (↑y.2.2.2.2.1.len : Int) /\ sQi (IntKind.i64.wrap ((↑x_1.2.1 : 
    Int) + 1)) = sQi (↑y.2.1 : Int) /\ m' = y.2.2.2.2.2 /\ h = h /\ True)))) (∃ (y : Nat × Nat × MH), I y /\ mu y < mu x /\ SV.at (At.val (Value.map (some x_1.2.2.1))) = SV.at (At.val 
    (Value.map (some y.2.1))) /\ eQ (sQs v.tables) /\ eQ (sQi (↑v.tables.len : Int)) /\ sQi (IntKind.i64.wrap ((↑x_1.1 : Int) + 1)) = sQi (↑y.1 : Int) /\ x_1.2.2.2.2.2 = y.2.2 /\ h = h 
    /\ True)))))) (K (cQb true) x.2.2 h)
theorem f60_vc (v : SchV) (m : MH) (h : PH) (K : CV → MH → PH → Prop) : f60_nice v m h K = (fnVC (f60_ctx v h) Tryz.f60 (bodyOf Tryz.f60) (entry Tryz.f60.ntmps [aS v] m h) K) := by kernel_rfl
def f76_nice (v : SchV) (i : Nat) (m : MH) (h : PH) (K : CV → MH → PH → Prop) : Prop :=
    ∃ (b : Nat), ∃ (off : Nat), v.tables.a = some (Addr.mk b off none) /\ 0 <= (↑i : Int) /\ (↑i : Int) < (↑v.tables.len : Int) /\ ∃ (y : TabV), RdAt m h b (off + (↑i : Int).toNat * 5) 
    [Value.string y.name, vQs y.columns, vQi y.key, vQs y.references, vQs y.checks] /\ ∃ (s : ByteArray), [CV.val (Value.string y.name)] = [CV.val (Value.string s)] /\ branch (!nameOk 
    s) (K (cQb false) m h) (branch ((↑y.columns.len : Int) == 0) (K (cQb false) m h) (branch (decide (y.key < 1)) (K (cQb false) m h) (branch (decide (y.key > (↑y.columns.len : Int))) 
    (K (cQb false) m h) (∃ (I : Nat × TabV -> Prop), ∃ (mu : Nat × TabV -> Nat), (∃ (x : Nat × TabV), I x /\ eQ (sQi (↑i : Int)) /\ eQ (sQp 2 0) /\ eQ (sQp 5 0) /\ sQi 0 = sQi (↑x.1 : 
    Int) /\ eQ (oQ 28 [aQi v.version, aQs v.tables]) /\ oQ 72 [At.val (Value.string y.name), aQs y.columns, aQi y.key, aQs y.references, aQs y.checks] = oQ 72 [At.val (Value.string 
    x.2.name), aQs x.2.columns, aQi x.2.key, aQs x.2.references, aQs x.2.checks] /\ m = m /\ h = h /\ True) /\ ∀ (x : Nat × TabV), I x -> branch (decide ((↑x.1 : Int) < (↑i : Int))) (∃ 
    (b : Nat), ∃ (off : Nat), v.tables.a = some (Addr.mk b off none) /\ 0 <= (↑x.1 : Int) /\ (↑x.1 : Int) < (↑v.tables.len : Int) /\ ∃ (y : ByteArray), RdAt m h b (off + (↑x.1 : 
    Int).toNat * 5 + 0) [Value.string y] /\ branch (y.toList == x.2.name.toList) (K (cQb false) m h) (∃ (y : Nat × TabV), I y /\ mu y < mu x /\ eQ (sQi (↑i : Int)) /\ eQ (sQp 2 0) /\ 
    eQ (sQp 5 0) /\ sQi (IntKind.i64.wrap ((↑x.1 : Int) + 1)) = sQi (↑y.1 : Int) /\ eQ (oQ 28 [aQi v.version, aQs v.tables]) /\ oQ 72 [At.val (Value.string x.2.name), aQs x.2.columns, 
    aQi x.2.key, aQs x.2.references, aQs x.2.checks] = oQ 72 [At.val (Value.string y.2.name), aQs y.2.columns, aQi y.2.key, aQs y.2.references, aQs y.2.checks] /\ m = m /\ h = h /\ 
    True)) (∃ (I : Nat × TabV -> Prop), ∃ (mu : Nat × TabV -> Nat), (∃ (x_1 : Nat × TabV), I x_1 /\ eQ (sQp 5 0) /\ sQi (↑x.2.columns.len : Int) = sQi (↑x_1.2.columns.len : Int) /\ sQi 
    0 = sQi (↑x_1.1 : Int) /\ oQ 72 [At.val (Value.string x.2.name), aQs x.2.columns, aQi x.2.key, aQs x.2.references, aQs x.2.checks] = oQ 72 [At.val (Value.string x_1.2.name), aQs 
    x_1.2.columns, aQi x_1.2.key, aQs x_1.2.references, aQs x_1.2.checks] /\ m = m /\ h = h /\ True) /\ ∀ (x : Nat × TabV), I x -> branch (decide ((↑x.1 : Int) < (↑x.2.columns.len : 
    Int))) (∃ (b : Nat), ∃ (off : Nat), x.2.columns.a = some (Addr.mk b off none) /\ 0 <= (↑x.1 : Int) /\ (↑x.1 : Int) < (↑x.2.columns.len : Int) /\ ∃ (y : ByteArray), RdAt m h b (off 
    + (↑x.1 : Int).toNat * 2 + 0) [Value.string y] /\ ∃ (s : ByteArray), [CV.val (Value.string y)] = [CV.val (Value.string s)] /\ branch (!nameOk s) (K (cQb false) m h) (∃ (b : Nat), ∃ 
    (off : Nat), x.2.columns.a = some (Addr.mk b off none) /\ 0 <= (↑x.1 : Int) /\ (↑x.1 : Int) < (↑x.2.columns.len : Int) /\ ∃ (y : Int), RdAt m h b (off + (↑x.1 : Int).toNat * 2 + 1) 
    [vQi y] /\ ∃ (k : Int), [cQi y] = [cQi k] /\ branch (!colKind k) (K (cQb false) m h) (∃ (I_1 : Nat × Nat × TabV -> Prop), ∃ (mu_1 : Nat × Nat × TabV -> Nat), (∃ (x_1 : Nat × Nat × 
    TabV), I_1 x_1 /\ eQ (sQp 5 0) /\ sQi (↑x.1 : Int) = sQi (↑x_1.1 : Int) /\ sQi 0 = sQi (↑x_1.2.1 : Int) /\ sQi (↑x.2.columns.len : Int) = sQi (↑x_1.2.2.columns.len : Int) /\ sQi 
    (↑x.1 : Int) = sQi (↑x_1.1 : Int) /\ oQ 72 [At.val (Value.string x.2.name), aQs x.2.columns, aQi x.2.key, aQs x.2.references, aQs x.2.checks] = oQ 72 [At.val (Value.string 
    x_1.2.2.name), aQs x_1.2.2.columns, aQi x_1.2.2.key, aQs x_1.2.2.references, aQs x_1.2.2.checks] /\ m = m /\ h = h /\ True) /\ ∀ (x_1 : Nat × Nat × TabV), I_1 x_1 -> branch (decide 
    ((↑x_1.2.1 : Int) < (↑x_1.1 : Int))) (∃ (b : Nat), ∃ (off : Nat), x_1.2.2.columns.a = some (Addr.mk b off none) /\ 0 <= (↑x_1.2.1 : Int) /\ (↑x_1.2.1 : Int) < (↑x_1.2.2.columns.len 
    : Int) /\ ∃ (y : ByteArray), RdAt m h b (off + (↑x_1.2.1 : Int).toNat * 2 + 0) [Value.string y] /\ ∃ (b : Nat), ∃ (off : Nat), x_1.2.2.columns.a = some (Addr.mk b off none) /\ 0 <= 
    (↑x_1.1 : Int) /\ (↑x_1.1 : Int) < (↑x_1.2.2.columns.len : Int) /\ ∃ (y_1 : ByteArray), RdAt m h b (off + (↑x_1.1 : Int).toNat * 2 + 0) [Value.string y_1] /\ branch (y.toList == 
    y_1.toList) (K (cQb false) m h) (∃ (y : Nat × Nat × TabV), I_1 y /\ mu_1 y < mu_1 x_1 /\ eQ (sQp 5 0) /\ sQi (↑x_1.1 : Int) = sQi (↑y.1 : Int) /\ sQi (IntKind.i64.wrap ((↑x_1.2.1 : 
    Int) + 1)) = sQi (↑y.2.1 : Int) /\ sQi (↑x_1.2.2.columns.len : Int) = sQi (↑y.2.2.columns.len : Int) /\ sQi (↑x_1.1 : Int) = sQi (↑y.1 : Int) /\ oQ 72 [At.val (Value.string 
    x_1.2.2.name), aQs x_1.2.2.columns, aQi x_1.2.2.key, aQs x_1.2.2.references, aQs x_1.2.2.checks] = oQ 72 [At.val (Value.string y.2.2.name), aQs y.2.2.columns, aQi y.2.2.key, aQs 
    y.2.2.references, aQs y.2.2.checks] /\ m = m /\ h = h /\ True)) (∃ (y : Nat × TabV), I y /\ mu y < mu x /\ eQ (sQp 5 0) /\ sQi (↑x_1.2.2.columns.len : Int) = sQi (↑y.2.columns.len 
    : Int) /\ sQi (IntKind.i64.wrap ((↑x_1.1 : Int) + 1)) = sQi (↑y.1 : Int) /\ oQ 72 [At.val (Value.string x_1.2.2.name), aQs x_1.2.2.columns, aQi x_1.2.2.key, aQs x_1.2.2.references, 
    aQs x_1.2.2.checks] = oQ 72 [At.val (Value.string y.2.name), aQs y.2.columns, aQi y.2.key, aQs y.2.references, aQs y.2.checks] /\ m = m /\ h = h /\ True)))) (K (cQb true) m h))))))
theorem f76_vc (v : SchV) (i : Nat) (m : MH) (h : PH) (K : CV → MH → PH → Prop) : f76_nice v i m h K = (fnVC (f76_ctx v i m h) Tryz.f76 (bodyOf Tryz.f76) (entry Tryz.f76.ntmps [aS v, cI i] m h) K) := by kernel_rfl
theorem str_ne {a b : ByteArray} (h : a ≠ b) : Value.string a ≠ Value.string b := fun e => h (by injection e)
theorem MapS.snoc {m : MH} {b : Nat} {ns : List ByteArray} {n : ByteArray} (h : MapAt m b ((ns.map fun n => (Value.string n, Value.bool true)) ++ [(.string n, .bool true)])) : MapS m b (ns ++ [n]) := by
  unfold MapS; rw [List.map_append]; exact h
/-- What a lookup in a map of names asks for. -/
theorem MapS.look {m : MH} {b : Nat} {ns : List ByteArray} (h : MapS m b ns) : MapAt m b (List.map (fun p : Value × Bool => (p.fst, Value.bool p.snd)) (ns.map fun n => (Value.string n, true))) := by
  rw [List.map_map]; exact h
theorem names_ok {β : Type} {ns : List ByteArray} {x : β} : ∀ e : Value × β, e ∈ (ns.map fun n => (Value.string n, x)) → ∃ s, e.fst = .string s := fun e he => by
  obtain ⟨n, _, rfl⟩ := List.mem_map.1 he
  exact ⟨n, rfl⟩
theorem names_no {β : Type} {ns : List ByteArray} {x : β} {n : ByteArray} (h : n ∉ ns) : ∀ e : Value × β, e ∈ (ns.map fun n => (Value.string n, x)) → e.fst = .string n → False := fun e he h' => by
  obtain ⟨n', hn, rfl⟩ := List.mem_map.1 he
  exact h (by have : n' = n := (by injection h'); rwa [← this])
theorem names_not {β : Type} {ns : List ByteArray} {x : β} {n : ByteArray} (h : ∀ e : Value × β, e ∈ (ns.map fun n => (Value.string n, x)) → e.fst = .string n → False) : n ∉ ns := fun hn => h (.string n, x) (List.mem_map.2 ⟨n, hn, rfl⟩) rfl
theorem names_in {β : Type} {ns : List ByteArray} {x y : β} {n : ByteArray} (h : (Value.string n, y) ∈ (ns.map fun n => (Value.string n, x))) : n ∈ ns ∧ y = x := by
  obtain ⟨n', hn, e⟩ := List.mem_map.1 h
  injection e with e1 e2
  injection e1 with e1
  exact ⟨by rwa [← e1], e2.symm⟩
theorem f60_ok {v : SchV} {s : Sch} {m : MH} {h : PH} {K : CV → MH → PH → Prop} (hs : RepS h s v) (hK : ∀ r : Bool, (r = true ↔ Good TabT s.tables) → K (cB r) m h) : f60_nice v m h (Weak h K) := by
  have hl := hs.tables.slen
  have hlen := hs.tables.len
  have hf : ¬ Good TabT s.tables → K (cB false) m h := fun h => hK false ⟨fun e => (by cases e), fun e => (h e).elim⟩
  intro b m1 hb hm1
  refine ⟨fun ⟨i, b1, mx⟩ => i ≤ s.tables.length ∧ Sub m mx ∧ m b1 = none ∧ MapS mx b1 ((s.tables.take i).map Tab.name) ∧ GoodUpto TabT s.tables i, fun ⟨i, _, _⟩ => s.tables.length - i, ⟨(0, b, m1), ⟨by omega, (Sub.refl m).upd hb.m_ hm1.other, hb.m_, ⟨_, _, hm1.at_, rfl⟩, .zero⟩, MT⟩, ?_⟩
  rintro ⟨i, b1, mx⟩ ⟨hi, hsub, hb1, hmap, hgood⟩
  dsimp only
  refine branch_dec (fun hlt => ?_) (fun hge => .sub hsub (hK true ⟨fun _ => hgood.all (by omega), fun _ => rfl⟩))
  obtain ⟨t, hx⟩ := getx hl hlt
  obtain ⟨bb, o, w, ea, hr, hrep⟩ := hs.tables.at hx
  have hcl := RepL.slen hrep.columns
  have hcb := RepL.len hrep.columns
  have hnm := hrep.name
  have hky := hrep.key
  have bad : ¬ TabT (s.tables.take i) t → Weak h K (.val (.bool false)) mx h := fun hn => .sub hsub (hf (Good.not hx hn))
  have rest : t.name ∉ (s.tables.take i).map Tab.name → nameOk w.name = true → 1 ≤ w.key → w.key ≤ w.columns.len → Good ColT t.columns → TabT (s.tables.take i) t := fun h1 h2 h3 h4 h5 => ⟨by rw [← hnm]; exact h2, by rw [← hky]; exact h3, by rw [← hky]; omega, h1, h5⟩
  refine ⟨bb, o, ea, by omega, hlt, w, .imm hr, w.name, rfl, branch_intro (fun h1 => bad fun ht => ?_) (fun h1 => ⟨_, _, hmap.look, strLaw, ⟨_, rfl⟩, names_ok, fun hno => branch_dec (fun h2 => bad fun ht => ?_) (fun h2 => branch_dec (fun h3 => bad fun ht => ?_) (fun h3 => ⟨_, _, hmap, strLaw, ⟨_, rfl⟩, names_ok, names_no (names_not hno), fun m2 hs2 hm2 b2 m3 hb2 hm3 => ?_⟩)), fun y hy => ?_⟩)⟩
  · have := ht.1; rw [← hnm] at this; rw [this] at h1; cases h1
  · have := ht.2.1; omega
  · have := ht.2.2.1; omega
  · have hm2 := MapS.snoc hm2
    have hsub2 : Sub m m2 := hsub.upd hb1 hs2.other
    have hsub3 : Sub m m3 := hsub2.upd (hsub2.free hb2.m_) hm3.other
    have hne : b1 ≠ b2 := fun e => by
      obtain ⟨es, cl, e1, _⟩ := hm2.ex
      rw [e, hb2.m_] at e1; cases e1
    have hno' : t.name ∉ (s.tables.take i).map Tab.name := by rw [← hnm]; exact names_not hno
    rw [hnm, ← map_take_succ hx] at hm2
    refine ⟨fun ⟨i', k, b1', b2', sl, my⟩ => i' = i ∧ b1' = b1 ∧ b2' = b2 ∧ sl = w.columns ∧ k ≤ t.columns.length ∧ Sub m my ∧ MapS my b1 ((s.tables.take (i + 1)).map Tab.name) ∧ MapS my b2 ((t.columns.take k).map ColV.name) ∧ GoodUpto ColT t.columns k, fun ⟨_, k, _, _, _, _⟩ => t.columns.length - k,
      ⟨(i, 0, b1, b2, w.columns, m3), ⟨rfl, rfl, rfl, rfl, by omega, hsub3, hm2.other hne hm3.other, ⟨_, _, hm3.at_, rfl⟩, .zero⟩, MT⟩, ?_⟩
    rintro ⟨i, k, b1, b2, _, my⟩ ⟨rfl, rfl, rfl, rfl, hk, hsuby, hmy1, hmy2, hg2⟩
    dsimp only
    refine branch_dec (fun hlt2 => ?_) (fun hge2 => ?_)
    · obtain ⟨c, hc⟩ := getx hcl hlt2
      obtain ⟨bc, oc, ec, rc⟩ := Cols.at hrep.columns hc
      have cbad : ∀ mz, Sub m mz → ¬ ColT (t.columns.take k) c → Weak h K (.val (.bool false)) mz h := fun mz hz hn => .sub hz (hf (Good.not hx (fun ht => Good.not hc hn ht.2.2.2.2)))
      refine ⟨bc, oc, ec, by omega, hlt2, c, .imm rc, c.name, rfl, branch_intro (fun h4 => cbad my hsuby fun ht => ?_) (fun h4 => ⟨_, _, hmy2.look, strLaw, ⟨_, rfl⟩, names_ok, fun hno2 => ⟨_, _, hmy2, strLaw, ⟨_, rfl⟩, names_ok, names_no (names_not hno2), fun m4 hs4 hm4 => ?_⟩, fun y hy => ?_⟩)⟩
      · rw [ht.1] at h4; cases h4
      · have hm4 := MapS.snoc hm4
        rw [← map_take_succ hc] at hm4
        have hsub4 : Sub m m4 := hsuby.upd (hsub2.free hb2.m_) hs4.other
        have cgood : colKind c.kind = true → ColT (t.columns.take k) c := fun e => ⟨by simpa using h4, e, names_not hno2⟩
        have ckind : colKind c.kind = false → ¬ ColT (t.columns.take k) c := fun e ht => by rw [ht.2.1] at e; cases e
        have m1' := hmy1.other hne hs4.other
        repeat' (first | (refine branch_intro (fun _ => ?_) (fun _ => ?_)) | (refine cbad m4 hsub4 (ckind ?_); simp_all [colKind]; done) | exact ⟨(i, k + 1, b1, b2, w.columns, m4), ⟨rfl, rfl, rfl, rfl, by show k + 1 ≤ t.columns.length; omega, hsub4, m1', hm4, hg2.succ hc (cgood (by simp_all [colKind]))⟩, by show t.columns.length - (k + 1) < t.columns.length - k; omega, MT⟩)
      · obtain ⟨hin, rfl⟩ := names_in hy
        exact branch_intro (fun _ => cbad my hsuby fun ht => ht.2.2 hin) (fun e => by cases e)
    · refine ⟨(i + 1, b1, my), ⟨by omega, hsuby, hb1, hmy1, hgood.succ hx (rest hno' (by simpa using h1) (by omega) (by omega) (hg2.all (by omega)))⟩, ?_, MT⟩
      show s.tables.length - (i + 1) < s.tables.length - i
      omega
  · obtain ⟨hin, rfl⟩ := names_in hy
    exact branch_intro (fun _ => bad fun ht => ht.2.2.2.1 (by rw [← hnm]; exact hin)) (fun e => by cases e)
theorem f60_sound : Sound Tryz.prog 60 NamedS := by
  refine fn_sound' (fn := Tryz.f60) (c := bodyOf Tryz.f60) Tryz.func60 rfl (by decide) ?_
  rintro cvs m h K ⟨v, s, rfl, hs, hK⟩
  refine ⟨f60_ctx v h, rfl, specs_cons f85_sound specs_nil, ?_⟩
  rw [← f60_vc v m h _]
  exact f60_ok hs hK
theorem noteq_succ {α : Type} {f : α → ByteArray} {l : List α} {i : Nat} {x : α} {n : ByteArray} (hx : l[i]? = some x) (h : n ∉ (l.take i).map f) (hn : f x ≠ n) : n ∉ (l.take (i + 1)).map f := by
  rw [map_take_succ hx, List.mem_append]
  rintro (e | e)
  · exact h e
  · simp at e; exact hn e.symm
theorem eq_in {α : Type} {f : α → ByteArray} {l : List α} {i k : Nat} {x : α} {n : ByteArray} (hx : l[i]? = some x) (hi : i < k) (hn : f x = n) : n ∈ (l.take k).map f :=
  List.mem_map.2 ⟨x, List.mem_of_getElem? (i := i) (by rw [List.getElem?_take, if_pos hi, hx]), hn⟩
theorem f76_ok {v : SchV} {s : Sch} {t : Tab} {i : Nat} {m : MH} {h : PH} {K : CV → MH → PH → Prop} (hs : RepS h s v) (hx : s.tables[i]? = some t) (hK : ∀ r : Bool, (r = true ↔ TabT (s.tables.take i) t) → K (cB r) m h) : f76_nice v i m h K := by
  have hl := hs.tables.slen
  have hlen := hs.tables.len
  have hil : i < s.tables.length := (List.getElem?_eq_some_iff.1 hx).1
  have bad : ¬ TabT (s.tables.take i) t → K (.val (.bool false)) m h := fun h => hK false ⟨fun e => (by cases e), fun e => (h e).elim⟩
  obtain ⟨bb, o, w, ea, hr, hrep⟩ := hs.tables.at hx
  have hcl := RepL.slen hrep.columns
  have hcb := RepL.len hrep.columns
  have hnm := hrep.name
  have hky := hrep.key
  refine ⟨bb, o, ea, by omega, by omega, w, .imm hr, w.name, rfl, branch_intro (fun h1 => bad fun ht => ?_) (fun h1 => branch_intro (fun h2 => bad fun ht => ?_) (fun h2 => branch_dec (fun h3 => bad fun ht => ?_) (fun h3 => branch_dec (fun h4 => bad fun ht => ?_) (fun h4 => ?_))))⟩
  · have := ht.1; rw [← hnm] at this; rw [this] at h1; cases h1
  · have := ht.2.1; have := ht.2.2.1; have : (w.columns.len : Int) = 0 := (by simpa using h2); omega
  · have := ht.2.1; omega
  · have := ht.2.2.1; omega
  refine ⟨fun ⟨k, w'⟩ => w' = w ∧ k ≤ i ∧ t.name ∉ (s.tables.take k).map Tab.name, fun ⟨k, _⟩ => i - k, ⟨(0, w), ⟨rfl, by omega, by simp⟩, MT⟩, ?_⟩
  rintro ⟨k, w⟩ ⟨rfl, hk, hno⟩
  dsimp only
  refine branch_dec (fun hlt => ?_) (fun hge => ?_)
  · obtain ⟨t', hx'⟩ : ∃ t', s.tables[k]? = some t' := ⟨s.tables[k]'(by omega), List.getElem?_eq_getElem _⟩
    obtain ⟨b', o', w', ea', hr', hrep'⟩ := hs.tables.at hx'
    refine ⟨b', o', ea', by omega, by omega, w'.name, .imm (RdCells.part hr' 0 1), branch_intro (fun e => bad fun ht => ?_) (fun e => ?_)⟩
    · refine ht.2.2.2.1 (eq_in hx' (by omega) ?_)
      rw [← hrep'.name, ← hnm]; exact bytes_ext (by simpa using e)
    · refine ⟨(k + 1, w), ⟨rfl, by omega, noteq_succ hx' hno fun e' => ?_⟩, by show i - (k + 1) < i - k; omega, MT⟩
      rw [← hrep'.name, ← hnm] at e'
      rw [e'] at e; simp at e
  · have hki : k = i := by omega
    subst hki
    refine ⟨fun ⟨k, w'⟩ => w' = w ∧ k ≤ t.columns.length ∧ GoodUpto ColT t.columns k, fun ⟨k, _⟩ => t.columns.length - k, ⟨(0, w), ⟨rfl, by omega, .zero⟩, MT⟩, ?_⟩
    rintro ⟨c, w⟩ ⟨rfl, hc, hg⟩
    dsimp only
    refine branch_dec (fun hlt => ?_) (fun hge2 => hK true ⟨fun _ => ⟨by rw [← hnm]; simpa using h1, by omega, by omega, hno, hg.all (by omega)⟩, fun _ => rfl⟩)
    obtain ⟨x, hxc⟩ := getx hcl hlt
    obtain ⟨bc, oc, ec, rc⟩ := Cols.at hrep.columns hxc
    have cbad : ¬ ColT (t.columns.take c) x → K (.val (.bool false)) m h := fun hn => bad fun ht => Good.not hxc hn ht.2.2.2.2
    refine ⟨bc, oc, ec, by omega, hlt, x.name, .imm (RdCells.part rc 0 1), x.name, rfl, branch_intro (fun e1 => cbad fun ht => ?_) (fun e1 => ⟨bc, oc, ec, by omega, hlt, x.kind, .imm (RdCells.part rc 1 1), x.kind, rfl, branch_intro (fun e2 => cbad fun ht => ?_) (fun e2 => ?_)⟩)⟩
    · rw [ht.1] at e1; cases e1
    · rw [ht.2.1] at e2; cases e2
    refine ⟨fun ⟨c', j, w'⟩ => w' = w ∧ c' = c ∧ j ≤ c ∧ x.name ∉ (t.columns.take j).map ColV.name, fun ⟨_, j, _⟩ => c - j, ⟨(c, 0, w), ⟨rfl, rfl, by omega, by simp⟩, MT⟩, ?_⟩
    rintro ⟨c, j, w⟩ ⟨rfl, rfl, hj, hnoj⟩
    dsimp only
    refine branch_dec (fun hlt3 => ?_) (fun hge3 => ?_)
    · obtain ⟨y, hy⟩ : ∃ y, t.columns[j]? = some y := ⟨t.columns[j]'(by omega), List.getElem?_eq_getElem _⟩
      obtain ⟨by', oy, ey, ry⟩ := Cols.at hrep.columns hy
      refine ⟨by', oy, ey, by omega, by omega, y.name, .imm (RdCells.part ry 0 1), bc, oc, ec, by omega, hlt, x.name, .imm (RdCells.part rc 0 1), branch_intro (fun e => cbad fun ht => ?_) (fun e => ?_)⟩
      · exact ht.2.2 (eq_in hy (by omega) (bytes_ext (by simpa using e)))
      · refine ⟨(c, j + 1, w), ⟨rfl, rfl, by show j + 1 ≤ c; omega, noteq_succ hy hnoj fun e' => ?_⟩, by show c - (j + 1) < c - j; omega, MT⟩
        rw [e'] at e; simp at e
    · have : j = c := by omega
      subst this
      exact ⟨(j + 1, w), ⟨rfl, by omega, hg.succ hxc ⟨by simpa using e1, by simpa using e2, hnoj⟩⟩, by show t.columns.length - (j + 1) < t.columns.length - j; omega, MT⟩
theorem f76_sound : Sound Tryz.prog 76 TableS := by
  refine fn_sound (fn := Tryz.f76) (c := bodyOf Tryz.f76) Tryz.func76 rfl (by decide) ?_
  rintro cvs m h K ⟨v, s, t, i, rfl, hs, hx, hK⟩
  refine ⟨f76_ctx v i m h, rfl, specs_cons f106_sound (specs_cons f78_sound specs_nil), ?_⟩
  rw [← f76_vc v i m h K]
  exact f76_ok hs hx hK
end Go.Ps
namespace Go.Ps
open Go Go.Vc Go.Proofs
def KindAt (t g : Tab) (k : Nat) (c : Int) : Prop := 0 ≤ c ∧ c < t.columns.length ∧ ∃ x y, t.columns[c.toNat]? = some x ∧ g.columns[k]? = some y ∧ x.kind = y.kind
def RefT (tabs : List Tab) (t : Tab) (_ : List Ref) (r : Ref) : Prop := 0 ≤ r.table ∧ r.table < tabs.length ∧ ∃ g, tabs[r.table.toNat]? = some g ∧ (r.columns.length : Int) = g.key ∧ Good (fun pre c => KindAt t g pre.length c) r.columns
def RefsT (tabs : List Tab) (_ : List Tab) (t : Tab) : Prop := Good (RefT tabs t) t.refs
def ReferS : Vc.Spec := fun cvs m h K => ∃ v s, cvs = [aS v] ∧ RepS h s v ∧ Good TabT s.tables ∧ ∀ r : Bool, (r = true ↔ Good (RefsT s.tables) s.tables) → K (cB r) m h
def RefsOfS : Vc.Spec := fun cvs m h K => ∃ v s t, ∃ i : Nat, cvs = [aS v, cI i] ∧ RepS h s v ∧ Good TabT s.tables ∧ s.tables[i]? = some t ∧ ∀ r : Bool, (r = true ↔ RefsT s.tables [] t) → K (cB r) m h
noncomputable def f61_ctx (v : SchV) (m : MH) (h : PH) : Ctx :=
  ctx2 [] [(2, { A := Nat, st := fun i => mkSt 82 83 [(1, .at (.ptr 1 0)), (11, sv v.tables), (12, iv v.tables.len), (13, iv i)] [(1, .cells 28 (v.enc.map .val))] m h }),
    (5, { A := Nat × Nat × TabV, st := fun ⟨i, k, w⟩ => mkSt 82 83 [(1, .at (.ptr 1 0)), (4, .at (.ptr 4 0)), (11, sv v.tables), (12, iv v.tables.len), (13, iv i), (18, sv w.references), (19, iv w.references.len), (20, iv k)] [(1, .cells 28 (v.enc.map .val)), (4, .cells 72 (w.enc.map .val))] m h }),
    (13, { A := Nat × Nat × Nat × TabV × TabV × Sl, st := fun ⟨i, k, j, w, g, sl⟩ => mkSt 82 83 [(1, .at (.ptr 1 0)), (4, .at (.ptr 4 0)), (7, .at (.ptr 7 0)), (11, sv v.tables), (12, iv v.tables.len), (13, iv i), (18, sv w.references), (19, iv w.references.len), (20, iv k), (48, sv sl), (49, iv sl.len), (50, iv j)] [(1, .cells 28 (v.enc.map .val)), (4, .cells 72 (w.enc.map .val)), (7, .cells 72 (g.enc.map .val))] m h })] [] [] false
noncomputable def f77_ctx (v : SchV) (m : MH) (h : PH) : Ctx :=
  ctx2 [] [(3, { A := Nat × TabV, st := fun ⟨k, w⟩ => mkSt 85 87 [(2, .at (.ptr 2 0)), (5, .at (.ptr 5 0)), (16, sv w.references), (17, iv w.references.len), (18, iv k)] [(2, .cells 28 (v.enc.map .val)), (5, .cells 72 (w.enc.map .val))] m h }),
    (8, { A := Nat × Nat × TabV × RefV, st := fun ⟨k, j, w, r⟩ => mkSt 85 87 [(2, .at (.ptr 2 0)), (5, .at (.ptr 5 0)), (7, .at (.ptr 7 0)), (16, sv w.references), (17, iv w.references.len), (18, iv k), (47, sv r.columns), (48, iv r.columns.len), (49, iv j)] [(2, .cells 28 (v.enc.map .val)), (5, .cells 72 (w.enc.map .val)), (7, .cells 86 (r.enc.map .val))] m h })] [] [] false
def f61_nice (v : SchV) (m : MH) (h : PH) (K : CV → MH → PH → Prop) : Prop :=
    ∃ (I : Nat -> Prop), ∃ (mu : Nat -> Nat), (∃ (x : Nat), I x /\ eQ (sQp 1 0) /\ eQ (sQs v.tables) /\ eQ (sQi (↑v.tables.len : Int)) /\ sQi 0 = sQi (↑x : Int) /\ eQ (oQ 28 [aQi 
    v.version, aQs v.tables]) /\ m = m /\ h = h /\ True) /\ ∀ (x : Nat), I x -> branch (decide ((↑x : Int) < (↑v.tables.len : Int))) (∃ (b : Nat), ∃ (off : Nat), v.tables.a = some 
    (Addr.mk b off none) /\ 0 <= (↑x : Int) /\ (↑x : Int) < (↑v.tables.len : Int) /\ ∃ (y : TabV), RdAt m h b (off + (↑x : Int).toNat * 5) [Value.string y.name, vQs y.columns, vQi 
    y.key, vQs y.references, vQs y.checks] /\ ∃ (I_1 : Nat × Nat × TabV -> Prop), ∃ (mu_1 : Nat × Nat × TabV -> Nat), (∃ (x_1 : Nat × Nat × TabV), I_1 x_1 /\ eQ (sQp 1 0) /\ eQ (sQp 4 
    0) /\ eQ (sQs v.tables) /\ eQ (sQi (↑v.tables.len : Int)) /\ sQi (↑x : Int) = sQi (↑x_1.1 : Int) /\ sQs y.references = sQs x_1.2.2.references /\ sQi (↑y.references.len : Int) = sQi 
    (↑x_1.2.2.references.len : Int) /\ sQi 0 = sQi (↑x_1.2.1 : Int) /\ eQ (oQ 28 [aQi v.version, aQs v.tables]) /\ oQ 72 [At.val (Value.string y.name), aQs y.columns, aQi y.key, aQs 
    y.references, aQs y.checks] = oQ 72 [At.val (Value.string x_1.2.2.name), aQs x_1.2.2.columns, aQi x_1.2.2.key, aQs x_1.2.2.references, aQs x_1.2.2.checks] /\ m = m /\ h = h /\ 
    True) /\ ∀ (x_1 : Nat × Nat × TabV), I_1 x_1 -> branch (decide ((↑x_1.2.1 : Int) < (↑x_1.2.2.references.len : Int))) (∃ (b : Nat), ∃ (off : Nat), x_1.2.2.references.a = some 
    (Addr.mk b off none) /\ 0 <= (↑x_1.2.1 : Int) /\ (↑x_1.2.1 : Int) < (↑x_1.2.2.references.len : Int) /\ ∃ (y : RefV), RdAt m h b (off + (↑x_1.2.1 : Int).toNat * 2) [vQs y.columns, 
    vQi y.table] /\ branch (decide (y.table < 0)) (K (cQb false) m h) (branch (decide (y.table ≥ (↑v.tables.len : Int))) (K (cQb false) m h) (∃ (b : Nat), ∃ (off : Nat), v.tables.a = 
    some (Addr.mk b off none) /\ 0 <= y.table /\ y.table < (↑v.tables.len : Int) /\ ∃ (y_1 : TabV), RdAt m h b (off + y.table.toNat * 5) [Value.string y_1.name, vQs y_1.columns, vQi 
    y_1.key, vQs y_1.references, vQs y_1.checks] /\ branch ((↑y.columns.len : Int) != y_1.key) (K (cQb false) m h) (∃ (I : Nat × Nat × Nat × TabV × TabV × Sl -> Prop), ∃ (mu : Nat × 
    Nat × Nat × TabV × TabV × Sl -> Nat), (∃ (x : Nat × Nat × Nat × TabV × TabV × Sl), I x /\ eQ (sQp 1 0) /\ eQ (sQp 4 0) /\ eQ (sQp 7 0) /\ eQ (sQs v.tables) /\ eQ (sQi 
    (↑v.tables.len : Int)) /\ sQi (↑x_1.1 : Int) = sQi (↑x.1 : Int) /\ sQs x_1.2.2.references = sQs x.2.2.2.1.references /\ sQi (↑x_1.2.2.references.len : Int) = sQi 
    (↑x.2.2.2.1.references.len : Int) /\ sQi (↑x_1.2.1 : Int) = sQi (↑x.2.1 : Int) /\ sQs y.columns = sQs x.2.2.2.2.2 /\ sQi (↑y.columns.len : Int) = sQi (↑x.2.2.2.2.2.len : Int) /\ 
    sQi 0 = sQi (↑x.2.2.1 : Int) /\ eQ (oQ 28 [aQi v.version, aQs v.tables]) /\ oQ 72 [At.val (Value.string x_1.2.2.name), aQs x_1.2.2.columns, aQi x_1.2.2.key, aQs x_1.2.2.references, 
    aQs x_1.2.2.checks] = oQ 72 [At.val (Value.string x.2.2.2.1.name), aQs x.2.2.2.1.columns, aQi x.2.2.2.1.key, aQs x.2.2.2.1.references, aQs x.2.2.2.1.checks] /\ oQ 72 [At.val 
    (Value.string y_1.name), aQs y_1.columns, aQi y_1.key, aQs y_1.references, aQs y_1.checks] = oQ 72 [At.val (Value.string x.2.2.2.2.1.name), aQs x.2.2.2.2.1.columns, aQi 
    x.2.2.2.2.1.key, aQs x.2.2.2.2.1.references, aQs x.2.2.2.2.1.checks] /\ m = m /\ h = h /\ True) /\ ∀ (x : Nat × Nat × Nat × TabV × TabV × Sl), I x -> branch (decide ((↑x.2.2.1 : 
    Int) < (↑x.2.2.2.2.2.len : Int))) (∃ (b : Nat), ∃ (off : Nat), x.2.2.2.2.2.a = some (Addr.mk b off none) /\ 0 <= (↑x.2.2.1 : Int) /\ (↑x.2.2.1 : Int) < (↑x.2.2.2.2.2.len : Int) /\ 
    ∃ (y : Int), RdAt m h b (off + (↑x.2.2.1 : Int).toNat * 1) [vQi y] /\ branch (decide (y < 0)) (K (cQb false) m h) (branch (decide (y ≥ (↑x.2.2.2.1.columns.len : Int))) (K (cQb 
    false) m h) (∃ (b : Nat), ∃ (off : Nat), x.2.2.2.1.columns.a = some (Addr.mk b off none) /\ 0 <= y /\ y < (↑x.2.2.2.1.columns.len : Int) /\ ∃ (y_2 : Int), RdAt m h b (off + y.toNat 
    * 2 + 1) [vQi y_2] /\ ∃ (b : Nat), ∃ (off : Nat), x.2.2.2.2.1.columns.a = some (Addr.mk b off none) /\ 0 <= (↑x.2.2.1 : Int) /\ (↑x.2.2.1 : Int) < (↑x.2.2.2.2.1.columns.len : Int) 
    /\ ∃ (y : Int), RdAt m h b (off + (↑x.2.2.1 : Int).toNat * 2 + 1) [vQi y] /\ branch (y_2 != y) (K (cQb false) m h) (∃ (y : Nat × Nat × Nat × TabV × TabV × Sl), I y /\ mu y < mu x 
    /\ eQ (sQp 1 0) /\ eQ (sQp 4 0) /\ eQ (sQp 7 0) /\ eQ (sQs v.tables) /\ eQ (sQi (↑v.tables.len : Int)) /\ sQi (↑x.1 : Int) = sQi (↑y.1 : Int) /\ sQs x.2.2.2.1.references = sQs 
    y.2.2.2.1.references /\ sQi (↑x.2.2.2.1.references.len : Int) = sQi (↑y.2.2.2.1.references.len : Int) /\ sQi (↑x.2.1 : Int) = sQi (↑y.2.1 : Int) /\ sQs x.2.2.2.2.2 = sQs 
    y.2.2.2.2.2 /\ sQi (↑x.2.2.2.2.2.len : Int) = sQi (↑y.2.2.2.2.2.len : Int) /\ sQi (IntKind.i64.wrap ((↑x.2.2.1 : Int) + 1)) = sQi (↑y.2.2.1 : Int) /\ eQ (oQ 28 [aQi v.version, aQs 
    v.tables]) /\ oQ 72 [At.val (Value.string x.2.2.2.1.name), aQs x.2.2.2.1.columns, aQi x.2.2.2.1.key, aQs x.2.2.2.1.references, aQs x.2.2.2.1.checks] = oQ 72 [At.val (Value.string 
    y.2.2.2.1.name), aQs y.2.2.2.1.columns, aQi y.2.2.2.1.key, aQs y.2.2.2.1.references, aQs y.2.2.2.1.checks] /\ oQ 72 [At.val (Value.string x.2.2.2.2.1.name), aQs 
    x.2.2.2.2.1.columns, aQi x.2.2.2.2.1.key, aQs x.2.2.2.2.1.references, aQs x.2.2.2.2.1.checks] = oQ 72 [At.val (Value.string y.2.2.2.2.1.name), aQs y.2.2.2.2.1.columns, aQi 
    y.2.2.2.2.1.key, aQs y.2.2.2.2.1.references, aQs y.2.2.2.2.1.checks] /\ m = m /\ h = h /\ True)))) (∃ (y : Nat × Nat × TabV), I_1 y /\ mu_1 y < mu_1 x_1 /\ eQ (sQp 1 0) /\ eQ (sQp 
    4 0) /\ eQ (sQs v.tables) /\ eQ (sQi (↑v.tables.len : Int)) /\ sQi (↑x.1 : Int) = sQi (↑y.1 : Int) /\ sQs x.2.2.2.1.references = sQs y.2.2.references /\ sQi 
    (↑x.2.2.2.1.references.len : Int) = sQi (↑y.2.2.references.len : Int) /\ sQi (IntKind.i64.wrap ((↑x.2.1 : Int) + 1)) = sQi (↑y.2.1 : Int) /\ eQ (oQ 28 [aQi v.version, aQs 
    v.tables]) /\ oQ 72 [At.val (Value.string x.2.2.2.1.name), aQs x.2.2.2.1.columns, aQi x.2.2.2.1.key, aQs x.2.2.2.1.references, aQs x.2.2.2.1.checks] = oQ 72 [At.val (Value.string 
    y.2.2.name), aQs y.2.2.columns, aQi y.2.2.key, aQs y.2.2.references, aQs y.2.2.checks] /\ m = m /\ h = h /\ True))))) (∃ (y : Nat), I y /\ mu y < mu x /\ eQ (sQp 1 0) /\ eQ (sQs 
    v.tables) /\ eQ (sQi (↑v.tables.len : Int)) /\ sQi (IntKind.i64.wrap ((↑x_1.1 : Int) + 1)) = sQi (↑y : Int) /\ eQ (oQ 28 [aQi v.version, aQs v.tables]) /\ m = m /\ h = h /\ True)) 
    (K (cQb true) m h)
theorem f61_vc (v : SchV) (m : MH) (h : PH) (K : CV → MH → PH → Prop) : f61_nice v m h K = (fnVC (f61_ctx v m h) Tryz.f61 (bodyOf Tryz.f61) (entry Tryz.f61.ntmps [aS v] m h) K) := by kernel_rfl
def f77_nice (v : SchV) (i : Nat) (m : MH) (h : PH) (K : CV → MH → PH → Prop) : Prop :=
    ∃ (b : Nat), ∃ (off : Nat), v.tables.a = some (Addr.mk b off none) /\ 0 <= (↑i : Int) /\ (↑i : Int) < (↑v.tables.len : Int) /\ ∃ (y : TabV), RdAt m h b (off + (↑i : Int).toNat * 5) 
    [Value.string y.name, vQs y.columns, vQi y.key, vQs y.references, vQs y.checks] /\ ∃ (I : Nat × TabV -> Prop), ∃ (mu : Nat × TabV -> Nat), (∃ (x : Nat × TabV), I x /\ eQ (sQp 2 0) 
    /\ eQ (sQp 5 0) /\ sQs y.references = sQs x.2.references /\ sQi (↑y.references.len : Int) = sQi (↑x.2.references.len : Int) /\ sQi 0 = sQi (↑x.1 : Int) /\ eQ (oQ 28 [aQi v.version, 
    aQs v.tables]) /\ oQ 72 [At.val (Value.string y.name), aQs y.columns, aQi y.key, aQs y.references, aQs y.checks] = oQ 72 [At.val (Value.string x.2.name), aQs x.2.columns, aQi 
    x.2.key, aQs x.2.references, aQs x.2.checks] /\ m = m /\ h = h /\ True) /\ ∀ (x : Nat × TabV), I x -> branch (decide ((↑x.1 : Int) < (↑x.2.references.len : Int))) (∃ (b : Nat), ∃ 
    (off : Nat), x.2.references.a = some (Addr.mk b off none) /\ 0 <= (↑x.1 : Int) /\ (↑x.1 : Int) < (↑x.2.references.len : Int) /\ ∃ (y : RefV), RdAt m h b (off + (↑x.1 : Int).toNat * 
    2) [vQs y.columns, vQi y.table] /\ branch (decide (y.table < 0)) (K (cQb false) m h) (branch (decide (y.table ≥ (↑v.tables.len : Int))) (K (cQb false) m h) (∃ (b : Nat), ∃ (off : 
    Nat), v.tables.a = some (Addr.mk b off none) /\ 0 <= y.table /\ y.table < (↑v.tables.len : Int) /\ ∃ (y_1 : Int), RdAt m h b (off + y.table.toNat * 5 + 2) [vQi y_1] /\ branch 
    ((↑y.columns.len : Int) != y_1) (K (cQb false) m h) (∃ (I_1 : Nat × Nat × TabV × RefV -> Prop), ∃ (mu_1 : Nat × Nat × TabV × RefV -> Nat), (∃ (x_1 : Nat × Nat × TabV × RefV), I_1 
    x_1 /\ eQ (sQp 2 0) /\ eQ (sQp 5 0) /\ eQ (sQp 7 0) /\ sQs x.2.references = sQs x_1.2.2.1.references /\ sQi (↑x.2.references.len : Int) = sQi (↑x_1.2.2.1.references.len : Int) /\ 
    sQi (↑x.1 : Int) = sQi (↑x_1.1 : Int) /\ sQs y.columns = sQs x_1.2.2.2.columns /\ sQi (↑y.columns.len : Int) = sQi (↑x_1.2.2.2.columns.len : Int) /\ sQi 0 = sQi (↑x_1.2.1 : Int) /\ 
    eQ (oQ 28 [aQi v.version, aQs v.tables]) /\ oQ 72 [At.val (Value.string x.2.name), aQs x.2.columns, aQi x.2.key, aQs x.2.references, aQs x.2.checks] = oQ 72 [At.val (Value.string 
    x_1.2.2.1.name), aQs x_1.2.2.1.columns, aQi x_1.2.2.1.key, aQs x_1.2.2.1.references, aQs x_1.2.2.1.checks] /\ oQ 86 [aQs y.columns, aQi y.table] = oQ 86 [aQs x_1.2.2.2.columns, aQi 
    x_1.2.2.2.table] /\ m = m /\ h = h /\ True) /\ ∀ (x_1 : Nat × Nat × TabV × RefV), I_1 x_1 -> branch (decide ((↑x_1.2.1 : Int) < (↑x_1.2.2.2.columns.len : Int))) (∃ (b : Nat), ∃ 
    (off : Nat), x_1.2.2.2.columns.a = some (Addr.mk b off none) /\ 0 <= (↑x_1.2.1 : Int) /\ (↑x_1.2.1 : Int) < (↑x_1.2.2.2.columns.len : Int) /\ ∃ (y : Int), RdAt m h b (off + 
    (↑x_1.2.1 : Int).toNat * 1) [vQi y] /\ branch (decide (y < 0)) (K (cQb false) m h) (branch (decide (y ≥ (↑x_1.2.2.1.columns.len : Int))) (K (cQb false) m h) (∃ (b : Nat), ∃ (off : 
    Nat), x_1.2.2.1.columns.a = some (Addr.mk b off none) /\ 0 <= y /\ y < (↑x_1.2.2.1.columns.len : Int) /\ ∃ (y_2 : Int), RdAt m h b (off + y.toNat * 2 + 1) [vQi y_2] /\ ∃ (b : Nat), 
    ∃ (off : Nat), v.tables.a = some (Addr.mk b off none) /\ 0 <= x_1.2.2.2.table /\ x_1.2.2.2.table < (↑v.tables.len : Int) /\ ∃ (y : Sl), RdAt m h b (off + x_1.2.2.2.table.toNat * 5 
    + 1) [vQs y] /\ ∃ (b : Nat), ∃ (off : Nat), y.a = some (Addr.mk b off none) /\ 0 <= (↑x_1.2.1 : Int) /\ (↑x_1.2.1 : Int) < (↑y.len : Int) /\ ∃ (y : Int), RdAt m h b (off + 
    (↑x_1.2.1 : Int).toNat * 2 + 1) [vQi y] /\ branch (y_2 != y) (K (cQb false) m h) (∃ (y : Nat × Nat × TabV × RefV), I_1 y /\ mu_1 y < mu_1 x_1 /\ eQ (sQp 2 0) /\ eQ (sQp 5 0) /\ eQ 
    (sQp 7 0) /\ sQs x_1.2.2.1.references = sQs y.2.2.1.references /\ sQi (↑x_1.2.2.1.references.len : Int) = sQi (↑y.2.2.1.references.len : Int) /\ sQi (↑x_1.1 : Int) = sQi (↑y.1 : 
    Int) /\ sQs x_1.2.2.2.columns = sQs y.2.2.2.columns /\ sQi (↑x_1.2.2.2.columns.len : Int) = sQi (↑y.2.2.2.columns.len : Int) /\ sQi (IntKind.i64.wrap ((↑x_1.2.1 : Int) + 1)) = sQi 
    (↑y.2.1 : Int) /\ eQ (oQ 28 [aQi v.version, aQs v.tables]) /\ oQ 72 [At.val (Value.string x_1.2.2.1.name), aQs x_1.2.2.1.columns, aQi x_1.2.2.1.key, aQs x_1.2.2.1.references, aQs 
    x_1.2.2.1.checks] = oQ 72 [At.val (Value.string y.2.2.1.name), aQs y.2.2.1.columns, aQi y.2.2.1.key, aQs y.2.2.1.references, aQs y.2.2.1.checks] /\ oQ 86 [aQs x_1.2.2.2.columns, 
    aQi x_1.2.2.2.table] = oQ 86 [aQs y.2.2.2.columns, aQi y.2.2.2.table] /\ m = m /\ h = h /\ True)))) (∃ (y : Nat × TabV), I y /\ mu y < mu x /\ eQ (sQp 2 0) /\ eQ (sQp 5 0) /\ sQs 
    x_1.2.2.1.references = sQs y.2.references /\ sQi (↑x_1.2.2.1.references.len : Int) = sQi (↑y.2.references.len : Int) /\ sQi (IntKind.i64.wrap ((↑x_1.1 : Int) + 1)) = sQi (↑y.1 : 
    Int) /\ eQ (oQ 28 [aQi v.version, aQs v.tables]) /\ oQ 72 [At.val (Value.string x_1.2.2.1.name), aQs x_1.2.2.1.columns, aQi x_1.2.2.1.key, aQs x_1.2.2.1.references, aQs 
    x_1.2.2.1.checks] = oQ 72 [At.val (Value.string y.2.name), aQs y.2.columns, aQi y.2.key, aQs y.2.references, aQs y.2.checks] /\ m = m /\ h = h /\ True))))) (K (cQb true) m h)
theorem f77_vc (v : SchV) (i : Nat) (m : MH) (h : PH) (K : CV → MH → PH → Prop) : f77_nice v i m h K = (fnVC (f77_ctx v m h) Tryz.f77 (bodyOf Tryz.f77) (entry Tryz.f77.ntmps [aS v, cI i] m h) K) := by kernel_rfl
theorem Ints.at' {h : PH} {s : Sl} {l : List Int} (r : Ints h s l) {i : Nat} {x : Int} (hi : l[i]? = some x) : ∃ b o, s.a = some ⟨b, o, none⟩ ∧ RdCells h b (o + i * 1) [.int .i64 x] := by
  obtain ⟨b, o, e, k⟩ := r.at hi
  exact ⟨b, o, e, by rwa [Nat.mul_one]⟩
theorem take_len {α : Type} {l : List α} {i : Nat} {x : α} (h : l[i]? = some x) : (l.take i).length = i := by
  have := (List.getElem?_eq_some_iff.1 h).1
  rw [List.length_take]; omega
theorem Good.key_le {tabs : List Tab} (h : Good TabT tabs) {i : Nat} {g : Tab} (hg : tabs[i]? = some g) : g.key ≤ g.columns.length := (h i g hg).2.2.1
theorem f61_ok {v : SchV} {s : Sch} {m : MH} {h : PH} {K : CV → MH → PH → Prop} (hs : RepS h s v) (hgood : Good TabT s.tables) (hK : ∀ r : Bool, (r = true ↔ Good (RefsT s.tables) s.tables) → K (cB r) m h) : f61_nice v m h K := by
  have hl := hs.tables.slen
  have hlen := hs.tables.len
  have hf : ¬ Good (RefsT s.tables) s.tables → K (.val (.bool false)) m h := fun h => hK false ⟨fun e => (by cases e), fun e => (h e).elim⟩
  refine ⟨fun i => i ≤ s.tables.length ∧ GoodUpto (RefsT s.tables) s.tables i, fun i => s.tables.length - i, ⟨0, ⟨by omega, .zero⟩, MT⟩, fun i ⟨hi, hg⟩ => branch_dec (fun hlt => ?_) (fun hge => hK true ⟨fun _ => hg.all (by omega), fun _ => rfl⟩)⟩
  obtain ⟨t, hx⟩ := getx hl hlt
  obtain ⟨b, o, w, ea, hr, hrep⟩ := hs.tables.at hx
  have hcl := RepL.slen hrep.columns
  have hrl := RepL.slen hrep.refs
  have hrb := RepL.len hrep.refs
  refine ⟨b, o, ea, by omega, hlt, w, .imm hr, fun ⟨i', k, w'⟩ => i' = i ∧ w' = w ∧ k ≤ t.refs.length ∧ GoodUpto (RefT s.tables t) t.refs k, fun ⟨_, k, _⟩ => t.refs.length - k, ⟨(i, 0, w), ⟨rfl, rfl, by omega, .zero⟩, MT⟩, ?_⟩
  rintro ⟨i, k, w⟩ ⟨rfl, rfl, hk, hg2⟩
  dsimp only
  refine branch_dec (fun hlt2 => ?_) (fun hge2 => ⟨i + 1, ⟨by omega, hg.succ hx (hg2.all (by omega))⟩, by show s.tables.length - (i + 1) < s.tables.length - i; omega, MT⟩)
  obtain ⟨r, hrx⟩ := getx hrl hlt2
  obtain ⟨b2, o2, rv, ea2, hr2, hrep2⟩ := hrep.refs.at hrx
  have rcl := hrep2.columns.slen
  have rcb := hrep2.columns.len
  have rt := hrep2.table
  have bad : ¬ RefT s.tables t (t.refs.take k) r → K (.val (.bool false)) m h := fun hn => hf (Good.not hx (Good.not hrx hn))
  refine ⟨b2, o2, ea2, by omega, hlt2, rv, .imm hr2, branch_dec (fun h1 => bad fun ht => ?_) (fun h1 => branch_dec (fun h2 => bad fun ht => ?_) (fun h2 => ?_))⟩
  · have := ht.1; omega
  · have := ht.2.1; omega
  obtain ⟨g, b3, o3, gv, hgx, ea3, hr3, hrep3⟩ := hs.table (t := rv.table) (by omega) (by omega)
  have gcl := RepL.slen hrep3.columns
  have hkey := hgood.key_le hgx
  have gk := hrep3.key
  refine ⟨b3, o3, ea3, by omega, by omega, gv, .imm hr3, branch_intro (fun h3 => bad fun ht => ?_) (fun h3 => ?_)⟩
  · obtain ⟨_, _, g', hg', hk', _⟩ := ht
    rw [← rt, hgx] at hg'
    cases hg'
    have : (rv.columns.len : Int) ≠ gv.key := by simpa using h3
    omega
  have h3 : (rv.columns.len : Int) = gv.key := by simpa using h3
  refine ⟨fun ⟨i', k', j, w', g', sl⟩ => i' = i ∧ k' = k ∧ w' = w ∧ g' = gv ∧ sl = rv.columns ∧ j ≤ r.columns.length ∧ GoodUpto (fun pre c => KindAt t g pre.length c) r.columns j, fun ⟨_, _, j, _, _, _⟩ => r.columns.length - j, ⟨(i, k, 0, w, gv, rv.columns), ⟨rfl, rfl, rfl, rfl, rfl, by omega, .zero⟩, MT⟩, ?_⟩
  rintro ⟨i, k, j, w, gv, _⟩ ⟨rfl, rfl, rfl, rfl, rfl, hj, hg3⟩
  dsimp only
  refine branch_dec (fun hlt3 => ?_) (fun hge3 => ⟨(i, k + 1, w), ⟨rfl, rfl, by show k + 1 ≤ t.refs.length; omega, hg2.succ hrx ⟨by omega, by omega, g, by rw [← rt]; exact hgx, by omega, hg3.all (by omega)⟩⟩, by show t.refs.length - (k + 1) < t.refs.length - k; omega, MT⟩)
  obtain ⟨c, hc⟩ := getx rcl hlt3
  obtain ⟨b4, o4, ea4, hr4⟩ := hrep2.columns.at' hc
  have htl := take_len hc
  have cbad : ¬ KindAt t g j c → K (.val (.bool false)) m h := fun hn => bad fun ht => by
    obtain ⟨_, _, g', hg', _, hgo⟩ := ht
    rw [← rt, hgx] at hg'
    cases hg'
    have := hgo j c hc
    dsimp only at this
    rw [htl] at this
    exact hn this
  refine ⟨b4, o4, ea4, by omega, hlt3, c, .imm hr4, branch_dec (fun h5 => cbad fun ht => ?_) (fun h5 => branch_dec (fun h6 => cbad fun ht => ?_) (fun h6 => ?_))⟩
  · have := ht.1; omega
  · have := ht.2.1; omega
  obtain ⟨x, hxx⟩ : ∃ x, t.columns[c.toNat]? = some x := ⟨t.columns[c.toNat]'(by omega), List.getElem?_eq_getElem _⟩
  obtain ⟨y, hyy⟩ : ∃ y, g.columns[j]? = some y := ⟨g.columns[j]'(by omega), List.getElem?_eq_getElem _⟩
  obtain ⟨b5, o5, ea5, hr5⟩ := Cols.at hrep.columns hxx
  obtain ⟨b6, o6, ea6, hr6⟩ := Cols.at hrep3.columns hyy
  refine ⟨b5, o5, ea5, by omega, by omega, x.kind, .imm (RdCells.part hr5 1 1), b6, o6, ea6, by omega, by omega, y.kind, .imm (RdCells.part hr6 1 1), branch_intro (fun h7 => cbad fun ht => ?_) (fun h7 => ?_)⟩
  · obtain ⟨_, _, x', y', e1, e2, e3⟩ := ht
    rw [hxx] at e1; rw [hyy] at e2
    cases e1; cases e2
    rw [e3] at h7; simp at h7
  · exact ⟨(i, k, j + 1, w, gv, rv.columns), ⟨rfl, rfl, rfl, rfl, rfl, by show j + 1 ≤ r.columns.length; omega, hg3.succ hc (by show KindAt t g (List.take j r.columns).length c; rw [htl]; exact ⟨by omega, by omega, x, y, hxx, hyy, by simpa using h7⟩)⟩, by show r.columns.length - (j + 1) < r.columns.length - j; omega, MT⟩
theorem f61_sound : Sound Tryz.prog 61 ReferS := by
  refine fn_sound (fn := Tryz.f61) (c := bodyOf Tryz.f61) Tryz.func61 rfl (by decide) ?_
  rintro cvs m h K ⟨v, s, rfl, hs, hg, hK⟩
  refine ⟨f61_ctx v m h, rfl, specs_nil, ?_⟩
  rw [← f61_vc v m h K]
  exact f61_ok hs hg hK
theorem f77_ok {v : SchV} {s : Sch} {t : Tab} {i : Nat} {m : MH} {h : PH} {K : CV → MH → PH → Prop} (hs : RepS h s v) (hgood : Good TabT s.tables) (hx : s.tables[i]? = some t) (hK : ∀ r : Bool, (r = true ↔ RefsT s.tables [] t) → K (cB r) m h) : f77_nice v i m h K := by
  have hl := hs.tables.slen
  have hlen := hs.tables.len
  have hil : i < s.tables.length := (List.getElem?_eq_some_iff.1 hx).1
  have hf : ¬ RefsT s.tables [] t → K (.val (.bool false)) m h := fun h => hK false ⟨fun e => (by cases e), fun e => (h e).elim⟩
  obtain ⟨b, o, w, ea, hr, hrep⟩ := hs.tables.at hx
  have hcl := RepL.slen hrep.columns
  have hrl := RepL.slen hrep.refs
  have hrb := RepL.len hrep.refs
  refine ⟨b, o, ea, by omega, by omega, w, .imm hr, fun ⟨k, w'⟩ => w' = w ∧ k ≤ t.refs.length ∧ GoodUpto (RefT s.tables t) t.refs k, fun ⟨k, _⟩ => t.refs.length - k, ⟨(0, w), ⟨rfl, by omega, .zero⟩, MT⟩, ?_⟩
  rintro ⟨k, w⟩ ⟨rfl, hk, hg2⟩
  dsimp only
  refine branch_dec (fun hlt2 => ?_) (fun hge2 => hK true ⟨fun _ => hg2.all (by omega), fun _ => rfl⟩)
  obtain ⟨r, hrx⟩ := getx hrl hlt2
  obtain ⟨b2, o2, rv, ea2, hr2, hrep2⟩ := hrep.refs.at hrx
  have rcl := hrep2.columns.slen
  have rcb := hrep2.columns.len
  have rt := hrep2.table
  have bad : ¬ RefT s.tables t (t.refs.take k) r → K (.val (.bool false)) m h := fun hn => hf (Good.not hrx hn)
  refine ⟨b2, o2, ea2, by omega, hlt2, rv, .imm hr2, branch_dec (fun h1 => bad fun ht => ?_) (fun h1 => branch_dec (fun h2 => bad fun ht => ?_) (fun h2 => ?_))⟩
  · have := ht.1; omega
  · have := ht.2.1; omega
  obtain ⟨g, b3, o3, gv, hgx, ea3, hr3, hrep3⟩ := hs.table (t := rv.table) (by omega) (by omega)
  have gcl := RepL.slen hrep3.columns
  have hkey := hgood.key_le hgx
  have gk := hrep3.key
  refine ⟨b3, o3, ea3, by omega, by omega, gv.key, .imm (RdCells.part hr3 2 1), branch_intro (fun h3 => bad fun ht => ?_) (fun h3 => ?_)⟩
  · obtain ⟨_, _, g', hg', hk', _⟩ := ht
    rw [← rt, hgx] at hg'
    cases hg'
    have : (rv.columns.len : Int) ≠ gv.key := by simpa using h3
    omega
  have h3 : (rv.columns.len : Int) = gv.key := by simpa using h3
  refine ⟨fun ⟨k', j, w', r'⟩ => k' = k ∧ w' = w ∧ r' = rv ∧ j ≤ r.columns.length ∧ GoodUpto (fun pre c => KindAt t g pre.length c) r.columns j, fun ⟨_, j, _, _⟩ => r.columns.length - j, ⟨(k, 0, w, rv), ⟨rfl, rfl, rfl, by omega, .zero⟩, MT⟩, ?_⟩
  rintro ⟨k, j, w, rv⟩ ⟨rfl, rfl, rfl, hj, hg3⟩
  dsimp only
  refine branch_dec (fun hlt3 => ?_) (fun hge3 => ⟨(k + 1, w), ⟨rfl, by show k + 1 ≤ t.refs.length; omega, hg2.succ hrx ⟨by omega, by omega, g, by rw [← rt]; exact hgx, by omega, hg3.all (by omega)⟩⟩, by show t.refs.length - (k + 1) < t.refs.length - k; omega, MT⟩)
  obtain ⟨c, hc⟩ := getx rcl hlt3
  obtain ⟨b4, o4, ea4, hr4⟩ := hrep2.columns.at' hc
  have htl := take_len hc
  have cbad : ¬ KindAt t g j c → K (.val (.bool false)) m h := fun hn => bad fun ht => by
    obtain ⟨_, _, g', hg', _, hgo⟩ := ht
    rw [← rt, hgx] at hg'
    cases hg'
    have := hgo j c hc
    dsimp only at this
    rw [htl] at this
    exact hn this
  refine ⟨b4, o4, ea4, by omega, hlt3, c, .imm hr4, branch_dec (fun h5 => cbad fun ht => ?_) (fun h5 => branch_dec (fun h6 => cbad fun ht => ?_) (fun h6 => ?_))⟩
  · have := ht.1; omega
  · have := ht.2.1; omega
  obtain ⟨x, hxx⟩ : ∃ x, t.columns[c.toNat]? = some x := ⟨t.columns[c.toNat]'(by omega), List.getElem?_eq_getElem _⟩
  obtain ⟨y, hyy⟩ : ∃ y, g.columns[j]? = some y := ⟨g.columns[j]'(by omega), List.getElem?_eq_getElem _⟩
  obtain ⟨b5, o5, ea5, hr5⟩ := Cols.at hrep.columns hxx
  obtain ⟨b6, o6, ea6, hr6⟩ := Cols.at hrep3.columns hyy
  refine ⟨b5, o5, ea5, by omega, by omega, x.kind, .imm (RdCells.part hr5 1 1), b3, o3, ea3, by omega, by omega, gv.columns, .imm (RdCells.part hr3 1 1), b6, o6, ea6, by omega, by omega, y.kind, .imm (RdCells.part hr6 1 1), branch_intro (fun h7 => cbad fun ht => ?_) (fun h7 => ?_)⟩
  · obtain ⟨_, _, x', y', e1, e2, e3⟩ := ht
    rw [hxx] at e1; rw [hyy] at e2
    cases e1; cases e2
    rw [e3] at h7; simp at h7
  · exact ⟨(k, j + 1, w, rv), ⟨rfl, rfl, rfl, by show j + 1 ≤ r.columns.length; omega, hg3.succ hc (by show KindAt t g (List.take j r.columns).length c; rw [htl]; exact ⟨by omega, by omega, x, y, hxx, hyy, by simpa using h7⟩)⟩, by show r.columns.length - (j + 1) < r.columns.length - j; omega, MT⟩
theorem f77_sound : Sound Tryz.prog 77 RefsOfS := by
  refine fn_sound (fn := Tryz.f77) (c := bodyOf Tryz.f77) Tryz.func77 rfl (by decide) ?_
  rintro cvs m h K ⟨v, s, t, i, rfl, hs, hg, hx, hK⟩
  refine ⟨f77_ctx v m h, rfl, specs_nil, ?_⟩
  rw [← f77_vc v i m h K]
  exact f77_ok hs hg hx hK
end Go.Ps
namespace Go.Ps
open Go Go.Vc Go.Proofs
def TabLim (t : Tab) : Prop := t.columns.length ≤ 8 ∧ t.refs.length ≤ 4 ∧ t.checks.length ≤ 4
def SchLim (s : Sch) : Prop := s.tables.length ≤ 8 ∧ Good (fun _ t => TabLim t) s.tables
def SchOk (s : Sch) : Prop := 0 ≤ s.version ∧ s.version ≤ 1000 ∧ Good TabT s.tables ∧ Good (RefsT s.tables) s.tables
def firstErr : List Int → Int
  | [] => 0
  | e :: r => if e = 0 then firstErr r else e
def tabErrs (s : Sch) (i : Nat) : List Int := match s.tables[i]? with | some t => t.checks.map (predErr (kindsT s i) []) | none => []
theorem firstErr_append (a b : List Int) (h : ∀ e ∈ a, e = 0) : firstErr (a ++ b) = firstErr b := by
  induction a with
  | nil => rfl
  | cons x a ih =>
    simp only [List.cons_append, firstErr]
    rw [if_pos (h x (by simp)), ih fun e he => h e (by simp [he])]
theorem firstErr_zero (a : List Int) (h : ∀ e ∈ a, e = 0) : firstErr a = 0 := by
  have := firstErr_append a [] h
  simpa [firstErr] using this
theorem firstErr_at {n i k : Nat} {f : Nat → List Int} {e : Int} (hi : i < n) (h1 : ∀ j < i, ∀ x ∈ f j, x = 0) (h2 : ∀ x ∈ (f i).take k, x = 0) (h3 : (f i)[k]? = some e) (he : e ≠ 0) : firstErr ((List.range n).flatMap f) = e := by
  obtain ⟨r, rfl⟩ : ∃ r, n = i + (1 + r) := ⟨n - i - 1, by omega⟩
  rw [List.range_add, List.flatMap_append, firstErr_append]
  · rw [show (List.range (1 + r)).map (i + ·) = i :: (List.range' (i + 1) r) from ?_, List.flatMap_cons, ← List.take_append_drop k (f i), List.append_assoc, firstErr_append _ _ h2, drop_cons h3]
    · simp [firstErr, he]
    · rw [Nat.add_comm 1 r, List.range_succ_eq_map]
      simp [List.range'_eq_map_range, Nat.add_assoc, Nat.add_comm 1]
  · intro x hx
    obtain ⟨j, hj, hx⟩ := List.mem_flatMap.1 hx
    exact h1 j (List.mem_range.1 hj) x hx
open Classical in
noncomputable def schErr (s : Sch) : Int := if SchLim s then (if SchOk s then firstErr ((List.range s.tables.length).flatMap (tabErrs s)) else 70) else 2
def SchCheckS : Vc.Spec := fun cvs m h K => ∃ v s, cvs = [aS v] ∧ RepS h s v ∧ K (cI (schErr s)) m h
noncomputable def f31_ctx (v : SchV) (m : MH) (h : PH) : Ctx :=
  ctx2 [(60, NamedS), (61, ReferS), (62, KindsOfS), (63, PredCheckS)]
   [(4, { A := Nat, st := fun i => mkSt 83 84 [(1, .at (.ptr 1 0)), (16, sv v.tables), (17, iv v.tables.len), (18, iv i)] [(1, .cells 28 (v.enc.map .val))] m h }),
    (12, { A := Nat × PH, st := fun ⟨i, hx⟩ => mkSt 83 84 [(1, .at (.ptr 1 0)), (58, sv v.tables), (59, iv v.tables.len), (60, iv i)] [(1, .cells 28 (v.enc.map .val))] m hx }),
    (16, { A := Nat × Nat × Sl × Sl × PH, st := fun ⟨i, k, ks, cs, hx⟩ => mkSt 83 84 [(1, .at (.ptr 1 0)), (7, sv ks), (58, sv v.tables), (59, iv v.tables.len), (60, iv i), (69, sv cs), (70, iv cs.len), (71, iv k)] [(1, .cells 28 (v.enc.map .val))] m hx })] [] [] false
noncomputable def f53_ctx (v : SchV) (m : MH) (h : PH) : Ctx :=
  ctx2 [(76, TableS), (77, RefsOfS), (52, KindsOfS), (57, PredCheckS)]
   [(4, { A := Nat, st := fun i => mkSt 96 97 [(1, .at (.ptr 1 0)), (16, sv v.tables), (17, iv v.tables.len), (18, iv i)] [(1, .cells 28 (v.enc.map .val))] m h }),
    (12, { A := Nat, st := fun i => mkSt 96 97 [(1, .at (.ptr 1 0)), (49, iv v.tables.len), (50, iv i)] [(1, .cells 28 (v.enc.map .val))] m h }),
    (18, { A := Nat, st := fun i => mkSt 96 97 [(1, .at (.ptr 1 0)), (60, iv v.tables.len), (61, iv i)] [(1, .cells 28 (v.enc.map .val))] m h }),
    (24, { A := Nat × PH, st := fun ⟨i, hx⟩ => mkSt 96 97 [(1, .at (.ptr 1 0)), (71, iv v.tables.len), (72, iv i)] [(1, .cells 28 (v.enc.map .val))] m hx }),
    (27, { A := Nat × Nat × Sl × PH, st := fun ⟨i, k, cs, hx⟩ => mkSt 96 97 [(1, .at (.ptr 1 0)), (7, iv i), (71, iv v.tables.len), (72, iv i), (80, sv cs), (81, iv cs.len), (82, iv k)] [(1, .cells 28 (v.enc.map .val))] m hx })] [] [] false
def f31_nice (v : SchV) (m : MH) (h : PH) (K : CV → MH → PH → Prop) : Prop :=
    branch (decide ((↑v.tables.len : Int) > 8)) (K (cQi 2) m h) (∃ (I : Nat -> Prop), ∃ (mu : Nat -> Nat), (∃ (x : Nat), I x /\ eQ (sQp 1 0) /\ eQ (sQs v.tables) /\ eQ (sQi 
    (↑v.tables.len : Int)) /\ sQi 0 = sQi (↑x : Int) /\ eQ (oQ 28 [aQi v.version, aQs v.tables]) /\ m = m /\ h = h /\ True) /\ ∀ (x : Nat), I x -> branch (decide ((↑x : Int) < 
    (↑v.tables.len : Int))) (∃ (b : Nat), ∃ (off : Nat), v.tables.a = some (Addr.mk b off none) /\ 0 <= (↑x : Int) /\ (↑x : Int) < (↑v.tables.len : Int) /\ ∃ (y : TabV), RdAt m h b 
    (off + (↑x : Int).toNat * 5) [Value.string y.name, vQs y.columns, vQi y.key, vQs y.references, vQs y.checks] /\ branch (decide ((↑y.columns.len : Int) > 8)) (K (cQi 2) m h) (branch 
    (decide ((↑y.references.len : Int) > 4)) (K (cQi 2) m h) (branch (decide ((↑y.checks.len : Int) > 4)) (K (cQi 2) m h) (∃ (y : Nat), I y /\ mu y < mu x /\ eQ (sQp 1 0) /\ eQ (sQs 
    v.tables) /\ eQ (sQi (↑v.tables.len : Int)) /\ sQi (IntKind.i64.wrap ((↑x : Int) + 1)) = sQi (↑y : Int) /\ eQ (oQ 28 [aQi v.version, aQs v.tables]) /\ m = m /\ h = h /\ True)))) 
    (branch (decide (v.version < 0)) (K (cQi 70) m h) (branch (decide (v.version > 1000)) (K (cQi 70) m h) (∃ (v_1 : SchV), ∃ (s : Sch), [cQa [vQi v.version, vQs v.tables]] = [cQa [vQi 
    v_1.version, vQs v_1.tables]] /\ RepS h s v_1 /\ ∀ (r : Bool), (r = true ↔ Good TabT s.tables) -> branch (!r) (K (cQi 70) m h) (∃ (v_2 : SchV), ∃ (s : Sch), [cQa [vQi v.version, 
    vQs v.tables]] = [cQa [vQi v_2.version, vQs v_2.tables]] /\ RepS h s v_2 /\ Good TabT s.tables /\ ∀ (r : Bool), (r = true ↔ Good (RefsT s.tables) s.tables) -> branch (!r) (K (cQi 
    70) m h) (∃ (I : Nat × PH -> Prop), ∃ (mu : Nat × PH -> Nat), (∃ (x : Nat × PH), I x /\ eQ (sQp 1 0) /\ eQ (sQs v.tables) /\ eQ (sQi (↑v.tables.len : Int)) /\ sQi 0 = sQi (↑x.1 : 
    Int) /\ eQ (oQ 28 [aQi v.version, aQs v.tables]) /\ m = m /\ h = x.2 /\ True) /\ ∀ (x : Nat × PH), I x -> branch (decide ((↑x.1 : Int) < (↑v.tables.len : Int))) (∃ (b : Nat), ∃ 
    (off : Nat), v.tables.a = some (Addr.mk b off none) /\ 0 <= (↑x.1 : Int) /\ (↑x.1 : Int) < (↑v.tables.len : Int) /\ ∃ (y : TabV), RdAt m x.2 b (off + (↑x.1 : Int).toNat * 5) 
    [Value.string y.name, vQs y.columns, vQi y.key, vQs y.references, vQs y.checks] /\ ∃ (v_3 : SchV), ∃ (s : Sch), ∃ (t : Int), [cQa [vQi v.version, vQs v.tables], cQi (↑x.1 : Int)] = 
    [cQa [vQi v_3.version, vQs v_3.tables], cQi t] /\ RepS x.2 s v_3 /\ small8 s /\ ∀ (sl : Sl) (h' : PH), x.2.le h' -> Ints h' sl (kindsT s t) -> ∃ (I_1 : Nat × Nat × Sl × Sl × PH -> 
    Prop), ∃ (mu_1 : Nat × Nat × Sl × Sl × PH -> Nat), (∃ (x_1 : Nat × Nat × Sl × Sl × PH), I_1 x_1 /\ eQ (sQp 1 0) /\ sQs sl = sQs x_1.2.2.1 /\ eQ (sQs v.tables) /\ eQ (sQi 
    (↑v.tables.len : Int)) /\ sQi (↑x.1 : Int) = sQi (↑x_1.1 : Int) /\ sQs y.checks = sQs x_1.2.2.2.1 /\ sQi (↑y.checks.len : Int) = sQi (↑x_1.2.2.2.1.len : Int) /\ sQi 0 = sQi 
    (↑x_1.2.1 : Int) /\ eQ (oQ 28 [aQi v.version, aQs v.tables]) /\ m = m /\ h' = x_1.2.2.2.2 /\ True) /\ ∀ (x_1 : Nat × Nat × Sl × Sl × PH), I_1 x_1 -> branch (decide ((↑x_1.2.1 : 
    Int) < (↑x_1.2.2.2.1.len : Int))) (∃ (b : Nat), ∃ (off : Nat), x_1.2.2.2.1.a = some (Addr.mk b off none) /\ 0 <= (↑x_1.2.1 : Int) /\ (↑x_1.2.1 : Int) < (↑x_1.2.2.2.1.len : Int) /\ 
    ∃ (y : PV), RdAt m x_1.2.2.2.2 b (off + (↑x_1.2.1 : Int).toNat * 13) (PV.enc y) /\ ∃ (s : Sl), ∃ (t : Sl), ∃ (v_4 : PV), ∃ (cols : List Int), ∃ (params : List Int), ∃ (p : Pred), 
    [cQs x_1.2.2.1, cQn, cQa (PV.enc y)] = [cQs s, cQs t, cQa (PV.enc v_4)] /\ Ints x_1.2.2.2.2 s cols /\ Ints x_1.2.2.2.2 t params /\ RepP x_1.2.2.2.2 p v_4 /\ branch (predErr cols 
    params p != 0) (K (cQi (predErr cols params p)) m x_1.2.2.2.2) (∃ (y : Nat × Nat × Sl × Sl × PH), I_1 y /\ mu_1 y < mu_1 x_1 /\ eQ (sQp 1 0) /\ sQs x_1.2.2.1 = sQs y.2.2.1 /\ eQ 
    (sQs v.tables) /\ eQ (sQi (↑v.tables.len : Int)) /\ sQi (↑x_1.1 : Int) = sQi (↑y.1 : Int) /\ sQs x_1.2.2.2.1 = sQs y.2.2.2.1 /\ sQi (↑x_1.2.2.2.1.len : Int) = sQi (↑y.2.2.2.1.len : 
    Int) /\ sQi (IntKind.i64.wrap ((↑x_1.2.1 : Int) + 1)) = sQi (↑y.2.1 : Int) /\ eQ (oQ 28 [aQi v.version, aQs v.tables]) /\ m = m /\ x_1.2.2.2.2 = y.2.2.2.2 /\ True)) (∃ (y : Nat × 
    PH), I y /\ mu y < mu x /\ eQ (sQp 1 0) /\ eQ (sQs v.tables) /\ eQ (sQi (↑v.tables.len : Int)) /\ sQi (IntKind.i64.wrap ((↑x_1.1 : Int) + 1)) = sQi (↑y.1 : Int) /\ eQ (oQ 28 [aQi 
    v.version, aQs v.tables]) /\ m = m /\ x_1.2.2.2.2 = y.2 /\ True)) (K (cQi 0) m x.2)))))))
theorem f31_vc (v : SchV) (m : MH) (h : PH) (K : CV → MH → PH → Prop) : f31_nice v m h K = (fnVC (f31_ctx v m h) Tryz.f31 (bodyOf Tryz.f31) (entry Tryz.f31.ntmps [aS v] m h) K) := by kernel_rfl
def f53_nice (v : SchV) (m : MH) (h : PH) (K : CV → MH → PH → Prop) : Prop :=
    branch (decide ((↑v.tables.len : Int) > 8)) (K (cQi 2) m h) (∃ (I : Nat -> Prop), ∃ (mu : Nat -> Nat), (∃ (x : Nat), I x /\ eQ (sQp 1 0) /\ eQ (sQs v.tables) /\ eQ (sQi 
    (↑v.tables.len : Int)) /\ sQi 0 = sQi (↑x : Int) /\ eQ (oQ 28 [aQi v.version, aQs v.tables]) /\ m = m /\ h = h /\ True) /\ ∀ (x : Nat), I x -> branch (decide ((↑x : Int) < 
    (↑v.tables.len : Int))) (∃ (b : Nat), ∃ (off : Nat), v.tables.a = some (Addr.mk b off none) /\ 0 <= (↑x : Int) /\ (↑x : Int) < (↑v.tables.len : Int) /\ ∃ (y : TabV), RdAt m h b 
    (off + (↑x : Int).toNat * 5) [Value.string y.name, vQs y.columns, vQi y.key, vQs y.references, vQs y.checks] /\ branch (decide ((↑y.columns.len : Int) > 8)) (K (cQi 2) m h) (branch 
    (decide ((↑y.references.len : Int) > 4)) (K (cQi 2) m h) (branch (decide ((↑y.checks.len : Int) > 4)) (K (cQi 2) m h) (∃ (y : Nat), I y /\ mu y < mu x /\ eQ (sQp 1 0) /\ eQ (sQs 
    v.tables) /\ eQ (sQi (↑v.tables.len : Int)) /\ sQi (IntKind.i64.wrap ((↑x : Int) + 1)) = sQi (↑y : Int) /\ eQ (oQ 28 [aQi v.version, aQs v.tables]) /\ m = m /\ h = h /\ True)))) 
    (branch (decide (v.version < 0)) (K (cQi 70) m h) (branch (decide (v.version > 1000)) (K (cQi 70) m h) (∃ (I : Nat -> Prop), ∃ (mu : Nat -> Nat), (∃ (x : Nat), I x /\ eQ (sQp 1 0) 
    /\ eQ (sQi (↑v.tables.len : Int)) /\ sQi 0 = sQi (↑x : Int) /\ eQ (oQ 28 [aQi v.version, aQs v.tables]) /\ m = m /\ h = h /\ True) /\ ∀ (x : Nat), I x -> branch (decide ((↑x : Int) 
    < (↑v.tables.len : Int))) (∃ (v_1 : SchV), ∃ (s : Sch), ∃ (t : Tab), ∃ (i : Nat), [cQa [vQi v.version, vQs v.tables], cQi (↑x : Int)] = [cQa [vQi v_1.version, vQs v_1.tables], cQi 
    (↑i : Int)] /\ RepS h s v_1 /\ s.tables[i]? = some t /\ ∀ (r : Bool), (r = true ↔ TabT (List.take i s.tables) t) -> branch (!r) (K (cQi 70) m h) (∃ (y : Nat), I y /\ mu y < mu x /\ 
    eQ (sQp 1 0) /\ eQ (sQi (↑v.tables.len : Int)) /\ sQi (IntKind.i64.wrap ((↑x : Int) + 1)) = sQi (↑y : Int) /\ eQ (oQ 28 [aQi v.version, aQs v.tables]) /\ m = m /\ h = h /\ True)) 
    (∃ (I : Nat -> Prop), ∃ (mu : Nat -> Nat), (∃ (x : Nat), I x /\ eQ (sQp 1 0) /\ eQ (sQi (↑v.tables.len : Int)) /\ sQi 0 = sQi (↑x : Int) /\ eQ (oQ 28 [aQi v.version, aQs v.tables]) 
    /\ m = m /\ h = h /\ True) /\ ∀ (x : Nat), I x -> branch (decide ((↑x : Int) < (↑v.tables.len : Int))) (∃ (v_1 : SchV), ∃ (s : Sch), ∃ (t : Tab), ∃ (i : Nat), [cQa [vQi v.version, 
    vQs v.tables], cQi (↑x : Int)] = [cQa [vQi v_1.version, vQs v_1.tables], cQi (↑i : Int)] /\ RepS h s v_1 /\ Good TabT s.tables /\ s.tables[i]? = some t /\ ∀ (r : Bool), (r = true ↔ 
    RefsT s.tables [] t) -> branch (!r) (K (cQi 70) m h) (∃ (y : Nat), I y /\ mu y < mu x /\ eQ (sQp 1 0) /\ eQ (sQi (↑v.tables.len : Int)) /\ sQi (IntKind.i64.wrap ((↑x : Int) + 1)) = 
    sQi (↑y : Int) /\ eQ (oQ 28 [aQi v.version, aQs v.tables]) /\ m = m /\ h = h /\ True)) (∃ (I : Nat × PH -> Prop), ∃ (mu : Nat × PH -> Nat), (∃ (x : Nat × PH), I x /\ eQ (sQp 1 0) 
    /\ eQ (sQi (↑v.tables.len : Int)) /\ sQi 0 = sQi (↑x.1 : Int) /\ eQ (oQ 28 [aQi v.version, aQs v.tables]) /\ m = m /\ h = x.2 /\ True) /\ ∀ (x : Nat × PH), I x -> branch (decide 
    ((↑x.1 : Int) < (↑v.tables.len : Int))) (∃ (b : Nat), ∃ (off : Nat), v.tables.a = some (Addr.mk b off none) /\ 0 <= (↑x.1 : Int) /\ (↑x.1 : Int) < (↑v.tables.len : Int) /\ ∃ (y : 
    Sl), RdAt m x.2 b (off + (↑x.1 : Int).toNat * 5 + 4) [vQs y] /\ ∃ (I_1 : Nat × Nat × Sl × PH -> Prop), ∃ (mu_1 : Nat × Nat × Sl × PH -> Nat), (∃ (x_1 : Nat × Nat × Sl × PH), I_1 
    x_1 /\ eQ (sQp 1 0) /\ sQi (↑x.1 : Int) = sQi (↑x_1.1 : Int) /\ eQ (sQi (↑v.tables.len : Int)) /\ sQi (↑x.1 : Int) = sQi (↑x_1.1 : Int) /\ sQs y = sQs x_1.2.2.1 /\ sQi (↑y.len : 
    Int) = sQi (↑x_1.2.2.1.len : Int) /\ sQi 0 = sQi (↑x_1.2.1 : Int) /\ eQ (oQ 28 [aQi v.version, aQs v.tables]) /\ m = m /\ x.2 = x_1.2.2.2 /\ True) /\ ∀ (x_1 : Nat × Nat × Sl × PH), 
    I_1 x_1 -> branch (decide ((↑x_1.2.1 : Int) < (↑x_1.2.2.1.len : Int))) (∃ (b : Nat), ∃ (off : Nat), x_1.2.2.1.a = some (Addr.mk b off none) /\ 0 <= (↑x_1.2.1 : Int) /\ (↑x_1.2.1 : 
    Int) < (↑x_1.2.2.1.len : Int) /\ ∃ (y : PV), RdAt m x_1.2.2.2 b (off + (↑x_1.2.1 : Int).toNat * 13) (PV.enc y) /\ ∃ (v_1 : SchV), ∃ (s : Sch), ∃ (t : Int), [cQa [vQi v.version, vQs 
    v.tables], cQi (↑x_1.1 : Int)] = [cQa [vQi v_1.version, vQs v_1.tables], cQi t] /\ RepS x_1.2.2.2 s v_1 /\ small8 s /\ ∀ (sl : Sl) (h' : PH), x_1.2.2.2.le h' -> Ints h' sl (kindsT 
    s t) -> ∃ (s : Sl), ∃ (t : Sl), ∃ (v_2 : PV), ∃ (cols : List Int), ∃ (params : List Int), ∃ (p : Pred), [cQs sl, cQn, cQa (PV.enc y)] = [cQs s, cQs t, cQa (PV.enc v_2)] /\ Ints h' 
    s cols /\ Ints h' t params /\ RepP h' p v_2 /\ branch (predErr cols params p != 0) (K (cQi (predErr cols params p)) m h') (∃ (y : Nat × Nat × Sl × PH), I_1 y /\ mu_1 y < mu_1 x_1 
    /\ eQ (sQp 1 0) /\ sQi (↑x_1.1 : Int) = sQi (↑y.1 : Int) /\ eQ (sQi (↑v.tables.len : Int)) /\ sQi (↑x_1.1 : Int) = sQi (↑y.1 : Int) /\ sQs x_1.2.2.1 = sQs y.2.2.1 /\ sQi 
    (↑x_1.2.2.1.len : Int) = sQi (↑y.2.2.1.len : Int) /\ sQi (IntKind.i64.wrap ((↑x_1.2.1 : Int) + 1)) = sQi (↑y.2.1 : Int) /\ eQ (oQ 28 [aQi v.version, aQs v.tables]) /\ m = m /\ h' = 
    y.2.2.2 /\ True)) (∃ (y : Nat × PH), I y /\ mu y < mu x /\ eQ (sQp 1 0) /\ eQ (sQi (↑v.tables.len : Int)) /\ sQi (IntKind.i64.wrap ((↑x_1.1 : Int) + 1)) = sQi (↑y.1 : Int) /\ eQ 
    (oQ 28 [aQi v.version, aQs v.tables]) /\ m = m /\ x_1.2.2.2 = y.2 /\ True)) (K (cQi 0) m x.2)))))))
theorem f53_vc (v : SchV) (m : MH) (h : PH) (K : CV → MH → PH → Prop) : f53_nice v m h K = (fnVC (f53_ctx v m h) Tryz.f53 (bodyOf Tryz.f53) (entry Tryz.f53.ntmps [aS v] m h) K) := by kernel_rfl
theorem Weak.out {h hx : PH} {K : CV → MH → PH → Prop} {r : CV} {m m' : MH} (hm : Sub m m') (hle : PH.le h hx) (hK : K r m h) : Weak h K r m' hx := ⟨m, h, hm, .refl _, hle, hK⟩
theorem schErr_lim {s : Sch} (h : ¬ SchLim s) : schErr s = 2 := by unfold schErr; rw [if_neg h]
theorem schErr_bad {s : Sch} (h : SchLim s) (h' : ¬ SchOk s) : schErr s = 70 := by unfold schErr; rw [if_pos h, if_neg h']
theorem schErr_ok {s : Sch} (h : SchLim s) (h' : SchOk s) : schErr s = firstErr ((List.range s.tables.length).flatMap (tabErrs s)) := by unfold schErr; rw [if_pos h, if_pos h']
theorem tabErrs_at {s : Sch} {i k : Nat} {t : Tab} {p : Pred} (hx : s.tables[i]? = some t) (hp : t.checks[k]? = some p) : (tabErrs s i)[k]? = some (predErr (kindsT s i) [] p) := by
  unfold tabErrs; rw [hx]; simp [hp]
theorem tabErrs_len {s : Sch} {i : Nat} {t : Tab} (hx : s.tables[i]? = some t) : (tabErrs s i).length = t.checks.length := by
  unfold tabErrs; rw [hx]; simp
theorem zero_succ {l : List Int} {k : Nat} {e : Int} (hk : l[k]? = some e) (h : ∀ x ∈ l.take k, x = 0) (he : e = 0) : ∀ x ∈ l.take (k + 1), x = 0 := by
  intro x hx
  rw [List.take_add_one, hk, List.mem_append] at hx
  rcases hx with hx | hx
  · exact h x hx
  · simp at hx; rw [hx, he]
theorem zero_all {f : Nat → List Int} {i k : Nat} (h : ∀ j < i, ∀ x ∈ f j, x = 0) (hl : (f i).length ≤ k) (h2 : ∀ x ∈ (f i).take k, x = 0) : ∀ j < i + 1, ∀ x ∈ f j, x = 0 := by
  intro j hj x hx
  by_cases e : j = i
  · subst e; rw [List.take_of_length_le hl] at h2; exact h2 x hx
  · exact h j (by omega) x hx
theorem f31_ok {v : SchV} {s : Sch} {m : MH} {h : PH} {K : CV → MH → PH → Prop} (hs : RepS h s v) (hK : K (cI (schErr s)) m h) : f31_nice v m h (Weak h K) := by
  have hl := hs.tables.slen
  have hlen := hs.tables.len
  have hver := hs.version
  have out : ∀ (hx : PH) (x : Int), PH.le h hx → schErr s = x → Weak h K (.val (.int .i64 x)) m hx := fun hx x hle e => .out (Sub.refl m) hle (by rw [← e]; exact hK)
  refine branch_dec (fun h1 => out h _ (.refl _) (schErr_lim fun e => by have := e.1; omega)) (fun h1 => ?_)
  refine ⟨fun i => i ≤ s.tables.length ∧ GoodUpto (fun _ t => TabLim t) s.tables i, fun i => s.tables.length - i, ⟨0, ⟨by omega, .zero⟩, MT⟩, fun i ⟨hi, hg⟩ => branch_dec (fun hlt => ?_) (fun hge => ?_)⟩
  · obtain ⟨t, hx⟩ := getx hl hlt
    obtain ⟨b, o, w, ea, hr, hrep⟩ := hs.tables.at hx
    have e1 := RepL.slen hrep.columns
    have e2 := RepL.slen hrep.refs
    have e3 := RepL.slen hrep.checks
    have bad : ¬ TabLim t → Weak h K (.val (.int .i64 2)) m h := fun hn => out h _ (.refl _) (schErr_lim fun e => Good.not hx hn e.2)
    refine ⟨b, o, ea, by omega, hlt, w, .imm hr, branch_dec (fun h2 => bad fun e => ?_) (fun h2 => branch_dec (fun h3 => bad fun e => ?_) (fun h3 => branch_dec (fun h4 => bad fun e => ?_) (fun h4 => ⟨i + 1, ⟨by omega, hg.succ hx ⟨by omega, by omega, by omega⟩⟩, by show s.tables.length - (i + 1) < s.tables.length - i; omega, MT⟩)))⟩
    · have := e.1; omega
    · have := e.2.1; omega
    · have := e.2.2; omega
  have lim : SchLim s := ⟨by omega, hg.all (by omega)⟩
  have h8 : small8 s := fun t ht => by
    obtain ⟨j, hj⟩ := List.mem_iff_getElem?.1 ht
    exact (lim.2 j t hj).1
  have bad : ¬ SchOk s → Weak h K (.val (.int .i64 70)) m h := fun hn => out h _ (.refl _) (schErr_bad lim hn)
  refine branch_dec (fun h2 => bad fun e => ?_) (fun h2 => branch_dec (fun h3 => bad fun e => ?_) (fun h3 => ⟨v, s, rfl, hs, fun r hr => branch_intro (fun h4 => bad fun e => ?_) (fun h4 => ⟨v, s, rfl, hs, hr.1 (by simpa using h4), fun r2 hr2 => branch_intro (fun h5 => bad fun e => ?_) (fun h5 => ?_)⟩)⟩))
  · have := e.1; omega
  · have := e.2.1; omega
  · rw [hr.2 e.2.2.1] at h4; cases h4
  · rw [hr2.2 e.2.2.2] at h5; cases h5
  have ok : SchOk s := ⟨by omega, by omega, hr.1 (by simpa using h4), hr2.1 (by simpa using h5)⟩
  rw [schErr_ok lim ok] at out
  refine ⟨fun ⟨i, hx⟩ => i ≤ s.tables.length ∧ PH.le h hx ∧ ∀ j < i, ∀ x ∈ tabErrs s j, x = 0, fun ⟨i, _⟩ => s.tables.length - i, ⟨(0, h), ⟨by omega, .refl _, fun j hj => by omega⟩, MT⟩, ?_⟩
  rintro ⟨i, hx⟩ ⟨hi, hle, hz⟩
  dsimp only
  refine branch_dec (fun hlt => ?_) (fun hge => out hx _ hle (firstErr_zero _ fun e he => ?_))
  · obtain ⟨t, ht⟩ := getx hl hlt
    obtain ⟨b, o, w, ea, hr, hrep⟩ := (hs.mono hle).tables.at ht
    have cl := RepL.slen hrep.checks
    have cb := RepL.len hrep.checks
    refine ⟨b, o, ea, by omega, hlt, w, .imm hr, v, s, i, rfl, hs.mono hle, h8, fun sl h' hle' hints => ?_⟩
    refine ⟨fun ⟨i', k, ks, cs, hy⟩ => i' = i ∧ cs = w.checks ∧ k ≤ t.checks.length ∧ PH.le h' hy ∧ Ints hy ks (kindsT s i) ∧ ∀ x ∈ (tabErrs s i).take k, x = 0, fun ⟨_, k, _, _, _⟩ => t.checks.length - k, ⟨(i, 0, sl, w.checks, h'), ⟨rfl, rfl, by omega, .refl _, hints, fun x hx => by simp at hx⟩, MT⟩, ?_⟩
    rintro ⟨i, k, ks, _, hy⟩ ⟨rfl, rfl, hk, hle2, hints2, hz2⟩
    dsimp only
    have hlh : PH.le h hy := (hle.trans hle').trans hle2
    refine branch_dec (fun hlt2 => ?_) (fun hge2 => ⟨(i + 1, hy), ⟨by omega, hlh, zero_all hz (k := k) (by rw [tabErrs_len ht]; omega) hz2⟩, by show s.tables.length - (i + 1) < s.tables.length - i; omega, MT⟩)
    obtain ⟨p, hp⟩ := getx cl hlt2
    obtain ⟨b2, o2, pv, ea2, hr2', hrep2⟩ := ((hrep.checks.mono hle').mono hle2).at hp
    refine ⟨b2, o2, ea2, by omega, hlt2, pv, .imm hr2', ks, ⟨none, 0, 0⟩, pv, kindsT s i, [], p, rfl, hints2, ⟨.nil _ _, by simp⟩, hrep2, branch_intro (fun h6 => ?_) (fun h6 => ?_)⟩
    · exact out hy _ hlh (firstErr_at (by omega) hz hz2 (tabErrs_at ht hp) (by simpa using h6))
    · exact ⟨(i, k + 1, ks, w.checks, hy), ⟨rfl, rfl, by show k + 1 ≤ t.checks.length; omega, hle2, hints2, zero_succ (tabErrs_at ht hp) hz2 (by simpa using h6)⟩, by show t.checks.length - (k + 1) < t.checks.length - k; omega, MT⟩
  · obtain ⟨j, hj, hx⟩ := List.mem_flatMap.1 he
    exact hz j (by have := List.mem_range.1 hj; omega) e hx
theorem f53_ok {v : SchV} {s : Sch} {m : MH} {h : PH} {K : CV → MH → PH → Prop} (hs : RepS h s v) (hK : K (cI (schErr s)) m h) : f53_nice v m h (Weak h K) := by
  have hl := hs.tables.slen
  have hlen := hs.tables.len
  have hver := hs.version
  have out : ∀ (hx : PH) (x : Int), PH.le h hx → schErr s = x → Weak h K (.val (.int .i64 x)) m hx := fun hx x hle e => .out (Sub.refl m) hle (by rw [← e]; exact hK)
  refine branch_dec (fun h1 => out h _ (.refl _) (schErr_lim fun e => by have := e.1; omega)) (fun h1 => ?_)
  refine ⟨fun i => i ≤ s.tables.length ∧ GoodUpto (fun _ t => TabLim t) s.tables i, fun i => s.tables.length - i, ⟨0, ⟨by omega, .zero⟩, MT⟩, fun i ⟨hi, hg⟩ => branch_dec (fun hlt => ?_) (fun hge => ?_)⟩
  · obtain ⟨t, hx⟩ := getx hl hlt
    obtain ⟨b, o, w, ea, hr, hrep⟩ := hs.tables.at hx
    have e1 := RepL.slen hrep.columns
    have e2 := RepL.slen hrep.refs
    have e3 := RepL.slen hrep.checks
    have bad : ¬ TabLim t → Weak h K (.val (.int .i64 2)) m h := fun hn => out h _ (.refl _) (schErr_lim fun e => Good.not hx hn e.2)
    refine ⟨b, o, ea, by omega, hlt, w, .imm hr, branch_dec (fun h2 => bad fun e => ?_) (fun h2 => branch_dec (fun h3 => bad fun e => ?_) (fun h3 => branch_dec (fun h4 => bad fun e => ?_) (fun h4 => ⟨i + 1, ⟨by omega, hg.succ hx ⟨by omega, by omega, by omega⟩⟩, by show s.tables.length - (i + 1) < s.tables.length - i; omega, MT⟩)))⟩
    · have := e.1; omega
    · have := e.2.1; omega
    · have := e.2.2; omega
  have lim : SchLim s := ⟨by omega, hg.all (by omega)⟩
  have h8 : small8 s := fun t ht => by
    obtain ⟨j, hj⟩ := List.mem_iff_getElem?.1 ht
    exact (lim.2 j t hj).1
  have bad : ¬ SchOk s → Weak h K (.val (.int .i64 70)) m h := fun hn => out h _ (.refl _) (schErr_bad lim hn)
  refine branch_dec (fun h2 => bad fun e => ?_) (fun h2 => branch_dec (fun h3 => bad fun e => ?_) (fun h3 => ?_))
  · have := e.1; omega
  · have := e.2.1; omega
  clear hi hg hge
  refine ⟨fun i => i ≤ s.tables.length ∧ GoodUpto TabT s.tables i, fun i => s.tables.length - i, ⟨0, ⟨by omega, .zero⟩, MT⟩, fun i ⟨hi, hg⟩ => branch_dec (fun hlt => ?_) (fun hge => ?_)⟩
  · obtain ⟨t, hx⟩ := getx hl hlt
    refine ⟨v, s, t, i, rfl, hs, hx, fun r hr => branch_intro (fun h4 => bad fun e => ?_) (fun h4 => ⟨i + 1, ⟨by omega, hg.succ hx (hr.1 (by simpa using h4))⟩, by show s.tables.length - (i + 1) < s.tables.length - i; omega, MT⟩)⟩
    rw [hr.2 (e.2.2.1 i t hx)] at h4; cases h4
  have good := hg.all (by omega)
  clear hi hg hge
  refine ⟨fun i => i ≤ s.tables.length ∧ GoodUpto (RefsT s.tables) s.tables i, fun i => s.tables.length - i, ⟨0, ⟨by omega, .zero⟩, MT⟩, fun i ⟨hi, hg⟩ => branch_dec (fun hlt => ?_) (fun hge => ?_)⟩
  · obtain ⟨t, hx⟩ := getx hl hlt
    refine ⟨v, s, t, i, rfl, hs, good, hx, fun r hr => branch_intro (fun h4 => bad fun e => ?_) (fun h4 => ⟨i + 1, ⟨by omega, hg.succ hx (hr.1 (by simpa using h4))⟩, by show s.tables.length - (i + 1) < s.tables.length - i; omega, MT⟩)⟩
    rw [hr.2 (e.2.2.2 i t hx)] at h4; cases h4
  have good2 := hg.all (by omega)
  clear hi hg hge
  have ok : SchOk s := ⟨by omega, by omega, good, good2⟩
  rw [schErr_ok lim ok] at out
  refine ⟨fun ⟨i, hx⟩ => i ≤ s.tables.length ∧ PH.le h hx ∧ ∀ j < i, ∀ x ∈ tabErrs s j, x = 0, fun ⟨i, _⟩ => s.tables.length - i, ⟨(0, h), ⟨by omega, .refl _, fun j hj => by omega⟩, MT⟩, ?_⟩
  rintro ⟨i, hx⟩ ⟨hi, hle, hz⟩
  dsimp only
  refine branch_dec (fun hlt => ?_) (fun hge => out hx _ hle (firstErr_zero _ fun e he => ?_))
  · obtain ⟨t, ht⟩ := getx hl hlt
    obtain ⟨b, o, w, ea, hr, hrep⟩ := (hs.mono hle).tables.at ht
    have cl := RepL.slen hrep.checks
    have cb := RepL.len hrep.checks
    refine ⟨b, o, ea, by omega, hlt, w.checks, .imm (RdCells.part hr 4 1), ?_⟩
    refine ⟨fun ⟨i', k, cs, hy⟩ => i' = i ∧ cs = w.checks ∧ k ≤ t.checks.length ∧ PH.le hx hy ∧ ∀ x ∈ (tabErrs s i).take k, x = 0, fun ⟨_, k, _, _⟩ => t.checks.length - k, ⟨(i, 0, w.checks, hx), ⟨rfl, rfl, by omega, .refl _, fun x hx => by simp at hx⟩, MT⟩, ?_⟩
    rintro ⟨i, k, _, hy⟩ ⟨rfl, rfl, hk, hle2, hz2⟩
    dsimp only
    have hlh : PH.le h hy := hle.trans hle2
    refine branch_dec (fun hlt2 => ?_) (fun hge2 => ⟨(i + 1, hy), ⟨by omega, hlh, zero_all hz (k := k) (by rw [tabErrs_len ht]; omega) hz2⟩, by show s.tables.length - (i + 1) < s.tables.length - i; omega, MT⟩)
    obtain ⟨p, hp⟩ := getx cl hlt2
    obtain ⟨b2, o2, pv, ea2, hr2', hrep2⟩ := (hrep.checks.mono hle2).at hp
    refine ⟨b2, o2, ea2, by omega, hlt2, pv, .imm hr2', v, s, i, rfl, hs.mono hlh, h8, fun sl h' hle' hints => ⟨sl, ⟨none, 0, 0⟩, pv, kindsT s i, [], p, rfl, hints, ⟨.nil _ _, by simp⟩, hrep2.mono hle', branch_intro (fun h6 => ?_) (fun h6 => ?_)⟩⟩
    · exact out h' _ (hlh.trans hle') (firstErr_at (by omega) hz hz2 (tabErrs_at ht hp) (by simpa using h6))
    · exact ⟨(i, k + 1, w.checks, h'), ⟨rfl, rfl, by show k + 1 ≤ t.checks.length; omega, hle2.trans hle', zero_succ (tabErrs_at ht hp) hz2 (by simpa using h6)⟩, by show t.checks.length - (k + 1) < t.checks.length - k; omega, MT⟩
  · obtain ⟨j, hj, hx⟩ := List.mem_flatMap.1 he
    exact hz j (by have := List.mem_range.1 hj; omega) e hx
theorem f31_sound : Sound Tryz.prog 31 SchCheckS := by
  refine fn_sound' (fn := Tryz.f31) (c := bodyOf Tryz.f31) Tryz.func31 rfl (by decide) ?_
  rintro cvs m h K ⟨v, s, rfl, hs, hK⟩
  refine ⟨f31_ctx v m h, rfl, specs_cons f60_sound (specs_cons f61_sound (specs_cons f62_sound (specs_cons f63_sound specs_nil))), ?_⟩
  rw [← f31_vc v m h _]
  exact f31_ok hs hK
theorem f53_sound : Sound Tryz.prog 53 SchCheckS := by
  refine fn_sound' (fn := Tryz.f53) (c := bodyOf Tryz.f53) Tryz.func53 rfl (by decide) ?_
  rintro cvs m h K ⟨v, s, rfl, hs, hK⟩
  refine ⟨f53_ctx v m h, rfl, specs_cons f76_sound (specs_cons f77_sound (specs_cons f52_sound (specs_cons f57_sound specs_nil))), ?_⟩
  rw [← f53_vc v m h _]
  exact f53_ok hs hK
end Go.Ps
namespace Go.Ps
open Go Go.Vc Go.Proofs
mutual
def nodesQ : Query → Int → Int
  | .mk _ _ _ _ _ _ _ _ args, n => nodesQs args (n + 1)
def nodesQs : List Query → Int → Int
  | [], n => n
  | p :: ps, n => if n ≤ 24 then nodesQs ps (nodesQ p n) else n
end
mutual
def deeperQ : Query → Nat → Bool
  | .mk _ _ _ _ _ _ _ _ _, 0 => true
  | .mk _ _ _ _ _ _ _ _ args, n + 1 => deeperQs args n
def deeperQs : List Query → Nat → Bool
  | [], _ => false
  | p :: ps, n => deeperQ p n || deeperQs ps n
end
mutual
theorem nodesQ_bound : ∀ (p : Query) (n : Int), n ≤ 24 → n < nodesQ p n ∧ nodesQ p n ≤ 25
  | .mk _ _ _ _ _ _ _ _ args, n, h => by
    have := nodesQs_bound args (n + 1) (by omega)
    simp only [nodesQ]; omega
theorem nodesQs_bound : ∀ (ps : List Query) (n : Int), n ≤ 25 → n ≤ nodesQs ps n ∧ nodesQs ps n ≤ 25
  | [], n, h => by simp only [nodesQs]; omega
  | p :: ps, n, h => by
    simp only [nodesQs]
    split
    · rename_i h1
      have h2 := nodesQ_bound p n h1
      have h3 := nodesQs_bound ps (nodesQ p n) h2.2
      omega
    · omega
end
theorem nodesQs_over (ps : List Query) {n : Int} (h : ¬ n ≤ 24) : nodesQs ps n = n := by
  cases ps
  · simp [nodesQs]
  · simp only [nodesQs, if_neg h]
theorem deeperQs_any (n : Nat) : ∀ ps : List Query, deeperQs ps n = ps.any (deeperQ · n)
  | [] => by simp [deeperQs]
  | p :: ps => by simp [deeperQs, deeperQs_any n ps]
theorem RepQ.args {h : PH} {p : Query} {v : QV} (r : RepQ h p v) : RepQl h v.args p.args := by
  cases p
  exact r.parts.args_
def smallQ (q : Query) : Bool := decide (nodesQ q 0 ≤ 24) && !deeperQ q 8
def arity (op : Int) : Int :=
  if op == 1 then 0 else if op == 2 || op == 3 || op == 9 then 1 else if op == 4 || op == 5 || op == 6 || op == 7 || op == 8 || op == 10 then 2 else -1
def NodesQS (N : Nat) : Vc.Spec := fun cvs m h K => ∃ v p k, cvs = [aQ v, cI k, cI 24] ∧ RepQ h p v ∧ SizeOf.sizeOf p < N ∧ 0 ≤ k ∧ k ≤ 24 ∧ K (cI (nodesQ p k)) m h
def DeeperQS (N : Nat) : Vc.Spec := fun cvs m h K => ∃ v p, ∃ k : Nat, cvs = [aQ v, cI k] ∧ RepQ h p v ∧ SizeOf.sizeOf p < N ∧ k ≤ 100 ∧ K (cB (deeperQ p k)) m h
def SmallQS : Vc.Spec := fun cvs m h K => ∃ v p, cvs = [aQ v] ∧ RepQ h p v ∧ K (cB (smallQ p)) m h
def ArityS : Vc.Spec := fun cvs m h K => ∃ op, cvs = [cI op] ∧ K (cI (arity op)) m h
def inL (l : List Int) (n : Int) : Bool := decide (0 ≤ n) && decide (n < l.length)
def InS : Vc.Spec := fun cvs m h K => ∃ s l n, cvs = [cS s, cI n] ∧ Ints h s l ∧ K (cB (inL l n)) m h
noncomputable def f41_ctx (N : Nat) (v : QV) (m : MH) (h : PH) : Ctx :=
  ctx2 [(41, NodesQS N)] [(3, { A := Nat × Int, st := fun x => mkSt 31 34 [(1, iv x.2), (2, iv 24), (3, .at (.ptr 3 0)), (7, iv x.1)] [(3, .cells 43 (v.enc.map .val))] m h })] [] [] false
noncomputable def f42_ctx (N : Nat) (v : QV) (k : Nat) (m : MH) (h : PH) : Ctx :=
  ctx2 [(42, DeeperQS N)] [(4, { A := Nat, st := fun i => mkSt 23 25 [(1, iv k), (2, .at (.ptr 2 0)), (10, iv v.args.len), (11, iv i)] [(2, .cells 43 (v.enc.map .val))] m h })] [] [] false
def f41_nice (N : Nat) (v : QV) (k : Int) (m : MH) (h : PH) (K : CV → MH → PH → Prop) : Prop :=
    ∃ (I : Nat × Int -> Prop), ∃ (mu : Nat × Int -> Nat), (∃ (x : Nat × Int), I x /\ sQi (IntKind.i64.wrap (k + 1)) = sQi x.2 /\ eQ (sQi 24) /\ eQ (sQp 3 0) /\ sQi 0 = sQi (↑x.1 : Int) 
    /\ eQ (oQ 43 (List.map At.val (QV.enc v))) /\ m = m /\ h = h /\ True) /\ ∀ (x : Nat × Int), I x -> branch (decide ((↑x.1 : Int) < (↑v.args.len : Int))) (branch (decide (x.2 <= 24)) 
    (∃ (b : Nat), ∃ (off : Nat), v.args.a = some (Addr.mk b off none) /\ 0 <= (↑x.1 : Int) /\ (↑x.1 : Int) < (↑v.args.len : Int) /\ ∃ (y : QV), RdAt m h b (off + (↑x.1 : Int).toNat * 
    21) (QV.enc y) /\ ∃ (v_1 : QV), ∃ (p : Query), ∃ (k : Int), [cQa (QV.enc y), cQi x.2, cQi 24] = [cQa (QV.enc v_1), cQi k, cQi 24] /\ RepQ h p v_1 /\ SizeOf.sizeOf p < N /\ 0 <= k 
    /\ k <= 24 /\ ∃ (y : Nat × Int), I y /\ mu y < mu x /\ sQi (nodesQ p k) = sQi y.2 /\ eQ (sQi 24) /\ eQ (sQp 3 0) /\ sQi (IntKind.i64.wrap ((↑x.1 : Int) + 1)) = sQi (↑y.1 : Int) /\ 
    eQ (oQ 43 (List.map At.val (QV.enc v))) /\ m = m /\ h = h /\ True) (K (cQi x.2) m h)) (K (cQi x.2) m h)
theorem f41_vc (N : Nat) (v : QV) (k : Int) (m : MH) (h : PH) (K : CV → MH → PH → Prop) : f41_nice N v k m h K = (fnVC (f41_ctx N v m h) Tryz.f41 (bodyOf Tryz.f41) (entry Tryz.f41.ntmps [aQ v, cI k, cI 24] m h) K) := by kernel_rfl
def f42_nice (N : Nat) (v : QV) (k : Nat) (m : MH) (h : PH) (K : CV → MH → PH → Prop) : Prop :=
    branch ((↑k : Int) == 0) (K (cQb true) m h) (∃ (I : Nat -> Prop), ∃ (mu : Nat -> Nat), (∃ (x : Nat), I x /\ eQ (sQi (↑k : Int)) /\ eQ (sQp 2 0) /\ eQ (sQi (↑v.args.len : Int)) /\ 
    sQi 0 = sQi (↑x : Int) /\ eQ (oQ 43 (List.map At.val (QV.enc v))) /\ m = m /\ h = h /\ True) /\ ∀ (x : Nat), I x -> branch (decide ((↑x : Int) < (↑v.args.len : Int))) (∃ (b : Nat), 
    ∃ (off : Nat), v.args.a = some (Addr.mk b off none) /\ 0 <= (↑x : Int) /\ (↑x : Int) < (↑v.args.len : Int) /\ ∃ (y : QV), RdAt m h b (off + (↑x : Int).toNat * 21) (QV.enc y) /\ ∃ 
    (v_1 : QV), ∃ (p : Query), ∃ (k_1 : Nat), [cQa (QV.enc y), cQi (IntKind.i64.wrap ((↑k : Int) - 1))] = [cQa (QV.enc v_1), cQi (↑k_1 : Int)] /\ RepQ h p v_1 /\ SizeOf.sizeOf p < N /\ 
    k_1 <= 100 /\ branch (deeperQ p k_1) (K (cQb true) m h) (∃ (y : Nat), I y /\ mu y < mu x /\ eQ (sQi (↑k : Int)) /\ eQ (sQp 2 0) /\ eQ (sQi (↑v.args.len : Int)) /\ sQi 
    (IntKind.i64.wrap ((↑x : Int) + 1)) = sQi (↑y : Int) /\ eQ (oQ 43 (List.map At.val (QV.enc v))) /\ m = m /\ h = h /\ True)) (K (cQb false) m h))
theorem f42_vc (N : Nat) (v : QV) (k : Nat) (m : MH) (h : PH) (K : CV → MH → PH → Prop) : f42_nice N v k m h K = (fnVC (f42_ctx N v k m h) Tryz.f42 (bodyOf Tryz.f42) (entry Tryz.f42.ntmps [aQ v, cI k] m h) K) := by kernel_rfl
def f19_nice (N : Nat) (v : QV) (m : MH) (h : PH) (K : CV → MH → PH → Prop) : Prop :=
    ∃ (v_1 : QV), ∃ (p : Query), ∃ (k : Int), [cQa (QV.enc v), cQi 0, cQi 24] = [cQa (QV.enc v_1), cQi k, cQi 24] /\ RepQ h p v_1 /\ SizeOf.sizeOf p < N /\ 0 <= k /\ k <= 24 /\ branch 
    (decide (nodesQ p k <= 24)) (∃ (v_2 : QV), ∃ (p : Query), ∃ (k : Nat), [cQa (QV.enc v), cQi 8] = [cQa (QV.enc v_2), cQi (↑k : Int)] /\ RepQ h p v_2 /\ SizeOf.sizeOf p < N /\ k <= 
    100 /\ K (CV.val (Value.bool !deeperQ p k)) m h) (K (cQb false) m h)
theorem f19_vc (N : Nat) (v : QV) (m : MH) (h : PH) (K : CV → MH → PH → Prop) : f19_nice N v m h K = (fnVC (ctx2 [(41, NodesQS N), (42, DeeperQS N)] [] [] [] false) Tryz.f19 (bodyOf Tryz.f19) (entry Tryz.f19.ntmps [aQ v] m h) K) := by kernel_rfl
def f48_nice (op : Int) (m : MH) (h : PH) (K : CV → MH → PH → Prop) : Prop :=
    branch (op == 1) (K (cQi 0) m h) (branch (op == 2) (K (cQi 1) m h) (branch (op == 3) (K (cQi 1) m h) (branch (op == 9) (K (cQi 1) m h) (branch (op == 4) (K (cQi 2) m h) (branch (op 
    == 5) (K (cQi 2) m h) (branch (op == 6) (K (cQi 2) m h) (branch (op == 7) (K (cQi 2) m h) (branch (op == 8) (K (cQi 2) m h) (branch (op == 10) (K (cQi 2) m h) (K (cQi (Int.negSucc 
    0)) m h))))))))))
theorem f48_vc (op : Int) (m : MH) (h : PH) (K : CV → MH → PH → Prop) : f48_nice op m h K = (fnVC (ctx2 [] [] [] [] false) Tryz.f48 (bodyOf Tryz.f48) (entry Tryz.f48.ntmps [cI op] m h) K) := by kernel_rfl
def f103_nice (s : Sl) (n : Int) (m : MH) (h : PH) (K : CV → MH → PH → Prop) : Prop :=
    branch (decide (n ≥ 0)) (K (cQb (decide (n < (↑s.len : Int)))) m h) (K (cQb false) m h)
theorem f103_vc (s : Sl) (n : Int) (m : MH) (h : PH) (K : CV → MH → PH → Prop) : f103_nice s n m h K = (fnVC (ctx2 [] [] [] [] false) Tryz.f103 (bodyOf Tryz.f103) (entry Tryz.f103.ntmps [cS s, cI n] m h) K) := by kernel_rfl
theorem f41_ok {N : Nat} {v : QV} {p : Query} {k : Int} {m : MH} {h : PH} {K : CV → MH → PH → Prop} (hr : RepQ h p v) (hN : SizeOf.sizeOf p < N + 1) (h0 : 0 ≤ k) (h1 : k ≤ 24) (hK : K (cI (nodesQ p k)) m h) : f41_nice N v k m h K := by
  have hargs := hr.args
  have hlen := hargs.slen
  have hl := hargs.len
  refine ⟨fun x => x.1 ≤ p.args.length ∧ 0 ≤ x.2 ∧ x.2 ≤ 25 ∧ nodesQs (p.args.drop x.1) x.2 = nodesQ p k, fun x => p.args.length - x.1, ⟨(0, k + 1), ⟨by simp, by simp; omega, by simp; omega, ?_⟩, ?_⟩, ?_⟩
  · cases p; simp [nodesQ, Query.args]
  · rw [wrap_id (by omega) (by omega)]; exact MT
  rintro ⟨i, n⟩ ⟨hi, hn0, hn1, he⟩
  dsimp only at hi hn0 hn1 he ⊢
  refine branch_dec (fun hlt => branch_dec (fun hn => ?_) (fun hn => retI hK ?_)) (fun hge => retI hK ?_)
  · obtain ⟨q, hq⟩ := getx hlen hlt
    obtain ⟨b, o, u, ea, hrd, hru⟩ := hargs.at hq
    have hb := nodesQ_bound q n hn
    rw [drop_cons hq, nodesQs, if_pos hn] at he
    refine ⟨b, o, ea, by omega, hlt, u, .imm hrd, u, q, n, rfl, hru, ?_, hn0, hn, (i + 1, nodesQ q n), ⟨by dsimp only; omega, by dsimp only; omega, by dsimp only; omega, he⟩, by dsimp only; omega, MT⟩
    have := qargs_lt (List.mem_of_getElem? hq); omega
  · rw [← he, nodesQs_over _ hn]
  · rw [← he, List.drop_of_length_le (by omega)]; simp [nodesQs]
theorem f41_all : ∀ N, Sound Tryz.prog 41 (NodesQS N)
  | 0 => by
    refine fn_sound (fn := Tryz.f41) (c := bodyOf Tryz.f41) Tryz.func41 rfl (by decide) ?_
    rintro cvs m h K ⟨v, p, k, rfl, hr, hN, _⟩
    omega
  | N + 1 => by
    refine fn_sound (fn := Tryz.f41) (c := bodyOf Tryz.f41) Tryz.func41 rfl (by decide) ?_
    rintro cvs m h K ⟨v, p, k, rfl, hr, hN, h0, h1, hK⟩
    refine ⟨f41_ctx N v m h, rfl, specs_cons (f41_all N) specs_nil, ?_⟩
    rw [← f41_vc N v k m h K]
    exact f41_ok hr hN h0 h1 hK
theorem f42_ok {N : Nat} {v : QV} {p : Query} {k : Nat} {m : MH} {h : PH} {K : CV → MH → PH → Prop} (hr : RepQ h p v) (hN : SizeOf.sizeOf p < N + 1) (h1 : k ≤ 100) (hK : K (cB (deeperQ p k)) m h) : f42_nice N v k m h K := by
  have hargs := hr.args
  have hlen := hargs.slen
  have hl := hargs.len
  refine branch_intro (fun hk => retB hK ?_) (fun hk => ?_)
  · have : k = 0 := by have : (k : Int) = 0 := (by simpa using hk); omega
    subst this; cases p; simp [deeperQ]
  · have hk : k ≠ 0 := by intro e; subst e; simp at hk
    have hdk : deeperQ p k = p.args.any (deeperQ · (k - 1)) := by
      obtain ⟨k', rfl⟩ : ∃ k', k = k' + 1 := ⟨k - 1, by omega⟩
      cases p; simp [deeperQ, deeperQs_any, Query.args]
    rw [hdk] at hK
    refine ⟨fun i => i ≤ p.args.length ∧ (p.args.take i).any (deeperQ · (k - 1)) = false, fun i => p.args.length - i, ⟨0, ⟨by omega, by simp⟩, MT⟩, fun i hi => branch_dec (fun hlt => ?_) (fun hge => retB hK ?_)⟩
    · obtain ⟨q, hq⟩ := getx hlen hlt
      obtain ⟨b, o, u, ea, hrd, hru⟩ := hargs.at hq
      refine ⟨b, o, ea, by omega, hlt, u, .imm hrd, u, q, k - 1, ?_, hru, ?_, by omega, branch_intro (fun hd => retB hK ?_) (fun hd => ?_)⟩
      · rw [wrap_id (by omega) (by omega), show ((k - 1 : Nat) : Int) = (k : Int) - 1 by omega]
      · have := qargs_lt (List.mem_of_getElem? hq); omega
      · rw [List.any_eq_true]; exact ⟨q, List.mem_of_getElem? hq, hd⟩
      · refine ⟨i + 1, ⟨by omega, ?_⟩, by show p.args.length - (i + 1) < p.args.length - i; omega, MT⟩
        rw [List.take_add_one, List.any_append, hi.2, hq]; simpa using hd
    · have := hi.2
      rwa [List.take_of_length_le (by omega)] at this
theorem f42_all : ∀ N, Sound Tryz.prog 42 (DeeperQS N)
  | 0 => by
    refine fn_sound (fn := Tryz.f42) (c := bodyOf Tryz.f42) Tryz.func42 rfl (by decide) ?_
    rintro cvs m h K ⟨v, p, k, rfl, hr, hN, _⟩
    omega
  | N + 1 => by
    refine fn_sound (fn := Tryz.f42) (c := bodyOf Tryz.f42) Tryz.func42 rfl (by decide) ?_
    rintro cvs m h K ⟨v, p, k, rfl, hr, hN, h1, hK⟩
    refine ⟨f42_ctx N v k m h, rfl, specs_cons (f42_all N) specs_nil, ?_⟩
    rw [← f42_vc N v k m h K]
    exact f42_ok hr hN h1 hK
theorem f19_ok {v : QV} {p : Query} {m : MH} {h : PH} {K : CV → MH → PH → Prop} (hr : RepQ h p v) (hK : K (cB (smallQ p)) m h) : f19_nice (SizeOf.sizeOf p + 1) v m h K := by
  refine ⟨v, p, 0, rfl, hr, by omega, by omega, by omega, branch_intro (fun h1 => ⟨v, p, 8, rfl, hr, by omega, by omega, retB hK ?_⟩) (fun h1 => retB hK ?_)⟩
  · simp only [smallQ, h1, Bool.true_and]
  · simp only [smallQ, h1, Bool.false_and]
theorem f48_ok {op : Int} {m : MH} {h : PH} {K : CV → MH → PH → Prop} (hK : K (cI (arity op)) m h) : f48_nice op m h K := by
  unfold f48_nice
  repeat' (first | (refine branch_intro (fun _ => ?_) (fun _ => ?_)) | (refine retI hK ?_; simp only [arity]; simp only [*, Bool.or_false, Bool.false_or, Bool.or_true, Bool.true_or, Bool.and_true, Bool.true_and, Bool.and_false, Bool.false_and, Bool.not_true, Bool.not_false, Bool.false_eq_true, if_true, if_false, ↓reduceIte]; done) | (refine retI hK ?_; simp only [arity]; simp only [*, Bool.or_false, Bool.false_or, Bool.or_true, Bool.true_or, Bool.and_true, Bool.true_and, Bool.and_false, Bool.false_and, Bool.not_true, Bool.not_false, Bool.false_eq_true, if_true, if_false, ↓reduceIte]; rfl))
theorem f103_ok {s : Sl} {l : List Int} {n : Int} {m : MH} {h : PH} {K : CV → MH → PH → Prop} (hs : Ints h s l) (hK : K (cB (inL l n)) m h) : f103_nice s n m h K := by
  have hl := hs.slen
  refine branch_dec (fun h1 => retB hK ?_) (fun h1 => retB hK ?_)
  · have h1 : 0 ≤ n := h1
    simp only [inL, hl, decide_eq_true h1, Bool.true_and]
  · have h1 : ¬ 0 ≤ n := by omega
    simp only [inL, decide_eq_false h1, Bool.false_and]
theorem f19_sound : Sound Tryz.prog 19 SmallQS := by
  refine fn_sound (fn := Tryz.f19) (c := bodyOf Tryz.f19) Tryz.func19 rfl (by decide) ?_
  rintro cvs m h K ⟨v, p, rfl, hr, hK⟩
  refine ⟨ctx2 [(41, NodesQS (SizeOf.sizeOf p + 1)), (42, DeeperQS (SizeOf.sizeOf p + 1))] [] [] [] false, rfl, specs_cons (f41_all _) (specs_cons (f42_all _) specs_nil), ?_⟩
  rw [← f19_vc (SizeOf.sizeOf p + 1) v m h K]
  exact f19_ok hr hK
theorem f48_sound : Sound Tryz.prog 48 ArityS := by
  refine fn_sound (fn := Tryz.f48) (c := bodyOf Tryz.f48) Tryz.func48 rfl (by decide) ?_
  rintro cvs m h K ⟨op, rfl, hK⟩
  refine ⟨ctx2 [] [] [] [] false, rfl, specs_nil, ?_⟩
  rw [← f48_vc op m h K]
  exact f48_ok hK
theorem f103_sound : Sound Tryz.prog 103 InS := by
  refine fn_sound (fn := Tryz.f103) (c := bodyOf Tryz.f103) Tryz.func103 rfl (by decide) ?_
  rintro cvs m h K ⟨s, l, n, rfl, hs, hK⟩
  refine ⟨ctx2 [] [] [] [] false, rfl, specs_nil, ?_⟩
  rw [← f103_vc s n m h K]
  exact f103_ok hs hK
end Go.Ps
namespace Go.Ps
open Go Go.Vc Go.Proofs
def PairT (a b : List Int) (pre : List (Int × Int)) (p : Int × Int) : Prop := inL a p.1 = true ∧ inL b p.2 = true ∧ a.getD p.1.toNat 0 = b.getD p.2.toNat 0 ∧ ∀ q ∈ pre, q.1 ≠ p.1 ∧ q.2 ≠ p.2
def GroupT (a : List Int) (pre : List Int) (c : Int) : Prop := inL a c = true ∧ c ∉ pre
def OrderT (a : List Int) (_ : List (Int × Bool)) (o : Int × Bool) : Prop := inL a o.1 = true
structure RankOk (a : List Int) (group : List Int) (order : List (Int × Bool)) (limit : Int) : Prop where
  group_ : Good (GroupT a) group
  order_ : Good (OrderT a) order
  len_ : order.length ≤ 12
  low : 0 ≤ limit
  high : limit ≤ 100
def PairedS : Vc.Spec := fun cvs m h K => ∃ s t u on a b, cvs = [cS s, cS t, cS u] ∧ Pairs h s on ∧ Ints h t a ∧ Ints h u b ∧ ∀ r : Bool, (r = true ↔ Good (PairT a b) on) → K (cB r) m h
def RankedS : Vc.Spec := fun cvs m h K => ∃ v t g o a, cvs = [aQ v, cS t] ∧ Ints h v.group g ∧ Sorts h v.order o ∧ Ints h t a ∧ ∀ r : Bool, (r = true ↔ RankOk a g o v.limit) → K (cB r) m h
noncomputable def f104_ctx (s t u : Sl) (m : MH) (h : PH) : Ctx :=
  ctx2 [(103, InS)] [(2, { A := Nat, st := fun i => mkSt 66 69 [(0, sv s), (1, sv t), (2, sv u), (10, sv s), (11, iv s.len), (12, iv i)] [] m h }),
    (7, { A := Nat × Nat × (Int × Int), st := fun ⟨i, k, p⟩ => mkSt 66 69 [(0, sv s), (1, sv t), (2, sv u), (7, iv i), (8, .at (.ptr 8 0)), (9, iv k), (10, sv s), (11, iv s.len), (12, iv i)] [(8, .cells 78 [.val (.int .i64 p.1), .val (.int .i64 p.2)])] m h })] [] [] false
noncomputable def f105_ctx (v : QV) (t : Sl) (m : MH) (h : PH) : Ctx :=
  ctx2 [(103, InS)] [(2, { A := Nat, st := fun i => mkSt 62 64 [(1, sv t), (2, .at (.ptr 2 0)), (11, sv v.group), (12, iv v.group.len), (13, iv i)] [(2, .cells 43 (v.enc.map .val))] m h }),
    (7, { A := Nat × Nat × Int, st := fun ⟨i, k, c⟩ => mkSt 62 64 [(1, sv t), (2, .at (.ptr 2 0)), (5, iv i), (6, iv c), (7, iv k), (11, sv v.group), (12, iv v.group.len), (13, iv i)] [(2, .cells 43 (v.enc.map .val))] m h }),
    (13, { A := Nat, st := fun i => mkSt 62 64 [(1, sv t), (2, .at (.ptr 2 0)), (36, sv v.order), (37, iv v.order.len), (38, iv i)] [(2, .cells 43 (v.enc.map .val))] m h })] [] [] false
def f104_nice (s t u : Sl) (m : MH) (h : PH) (K : CV → MH → PH → Prop) : Prop :=
    ∃ (I : Nat -> Prop), ∃ (mu : Nat -> Nat), (∃ (x : Nat), I x /\ eQ (sQs s) /\ eQ (sQs t) /\ eQ (sQs u) /\ eQ (sQs s) /\ eQ (sQi (↑s.len : Int)) /\ sQi 0 = sQi (↑x : Int) /\ m = m /\ 
    h = h /\ True) /\ ∀ (x : Nat), I x -> branch (decide ((↑x : Int) < (↑s.len : Int))) (∃ (b : Nat), ∃ (off : Nat), s.a = some (Addr.mk b off none) /\ 0 <= (↑x : Int) /\ (↑x : Int) < 
    (↑s.len : Int) /\ ∃ (y : Int × Int), RdAt m h b (off + (↑x : Int).toNat * 2) [vQi y.1, vQi y.2] /\ (0 : Int) <= 0 /\ (0 : Int) < 2 /\ ∃ (s_1 : Sl), ∃ (l : List Int), ∃ (n : Int), 
    [cQs t, cQi y.1] = [cQs s_1, cQi n] /\ Ints h s_1 l /\ branch (!inL l n) (K (cQb false) m h) ((0 : Int) <= 1 /\ (1 : Int) < 2 /\ ∃ (s_2 : Sl), ∃ (l : List Int), ∃ (n : Int), [cQs 
    u, cQi y.2] = [cQs s_2, cQi n] /\ Ints h s_2 l /\ branch (!inL l n) (K (cQb false) m h) ((0 : Int) <= 0 /\ (0 : Int) < 2 /\ ∃ (b : Nat), ∃ (off : Nat), t.a = some (Addr.mk b off 
    none) /\ 0 <= y.1 /\ y.1 < (↑t.len : Int) /\ ∃ (y_1 : Int), RdAt m h b (off + y.1.toNat * 1) [vQi y_1] /\ (0 : Int) <= 1 /\ (1 : Int) < 2 /\ ∃ (b : Nat), ∃ (off : Nat), u.a = some 
    (Addr.mk b off none) /\ 0 <= y.2 /\ y.2 < (↑u.len : Int) /\ ∃ (y_2 : Int), RdAt m h b (off + y.2.toNat * 1) [vQi y_2] /\ branch (y_1 != y_2) (K (cQb false) m h) (∃ (I_1 : Nat × Nat 
    × Int × Int -> Prop), ∃ (mu_1 : Nat × Nat × Int × Int -> Nat), (∃ (x_1 : Nat × Nat × Int × Int), I_1 x_1 /\ eQ (sQs s) /\ eQ (sQs t) /\ eQ (sQs u) /\ sQi (↑x : Int) = sQi (↑x_1.1 : 
    Int) /\ eQ (sQp 8 0) /\ sQi 0 = sQi (↑x_1.2.1 : Int) /\ eQ (sQs s) /\ eQ (sQi (↑s.len : Int)) /\ sQi (↑x : Int) = sQi (↑x_1.1 : Int) /\ oQ 78 [aQi y.1, aQi y.2] = oQ 78 [aQi 
    x_1.2.2.1, aQi x_1.2.2.2] /\ m = m /\ h = h /\ True) /\ ∀ (x_1 : Nat × Nat × Int × Int), I_1 x_1 -> branch (decide ((↑x_1.2.1 : Int) < (↑x_1.1 : Int))) (∃ (b : Nat), ∃ (off : Nat), 
    s.a = some (Addr.mk b off none) /\ 0 <= (↑x_1.2.1 : Int) /\ (↑x_1.2.1 : Int) < (↑s.len : Int) /\ (0 : Int) <= 0 /\ (0 : Int) < 2 /\ ∃ (y : Int), RdAt m h b (off + (↑x_1.2.1 : 
    Int).toNat * 2 + 0) [vQi y] /\ (0 : Int) <= 0 /\ (0 : Int) < 2 /\ branch (y == x_1.2.2.1) (K (cQb false) m h) (∃ (b : Nat), ∃ (off : Nat), s.a = some (Addr.mk b off none) /\ 0 <= 
    (↑x_1.2.1 : Int) /\ (↑x_1.2.1 : Int) < (↑s.len : Int) /\ (0 : Int) <= 1 /\ (1 : Int) < 2 /\ ∃ (y : Int), RdAt m h b (off + (↑x_1.2.1 : Int).toNat * 2 + 1) [vQi y] /\ (0 : Int) <= 1 
    /\ (1 : Int) < 2 /\ branch (y == x_1.2.2.2) (K (cQb false) m h) (∃ (y : Nat × Nat × Int × Int), I_1 y /\ mu_1 y < mu_1 x_1 /\ eQ (sQs s) /\ eQ (sQs t) /\ eQ (sQs u) /\ sQi (↑x_1.1 
    : Int) = sQi (↑y.1 : Int) /\ eQ (sQp 8 0) /\ sQi (IntKind.i64.wrap ((↑x_1.2.1 : Int) + 1)) = sQi (↑y.2.1 : Int) /\ eQ (sQs s) /\ eQ (sQi (↑s.len : Int)) /\ sQi (↑x_1.1 : Int) = sQi 
    (↑y.1 : Int) /\ oQ 78 [aQi x_1.2.2.1, aQi x_1.2.2.2] = oQ 78 [aQi y.2.2.1, aQi y.2.2.2] /\ m = m /\ h = h /\ True))) (∃ (y : Nat), I y /\ mu y < mu x /\ eQ (sQs s) /\ eQ (sQs t) /\ 
    eQ (sQs u) /\ eQ (sQs s) /\ eQ (sQi (↑s.len : Int)) /\ sQi (IntKind.i64.wrap ((↑x_1.1 : Int) + 1)) = sQi (↑y : Int) /\ m = m /\ h = h /\ True))))) (K (cQb true) m h)
theorem f104_vc (s t u : Sl) (m : MH) (h : PH) (K : CV → MH → PH → Prop) : f104_nice s t u m h K = (fnVC (f104_ctx s t u m h) Tryz.f104 (bodyOf Tryz.f104) (entry Tryz.f104.ntmps [cS s, cS t, cS u] m h) K) := by kernel_rfl
def f105_nice (v : QV) (t : Sl) (m : MH) (h : PH) (K : CV → MH → PH → Prop) : Prop :=
    ∃ (I : Nat -> Prop), ∃ (mu : Nat -> Nat), (∃ (x : Nat), I x /\ eQ (sQs t) /\ eQ (sQp 2 0) /\ eQ (sQs v.group) /\ eQ (sQi (↑v.group.len : Int)) /\ sQi 0 = sQi (↑x : Int) /\ eQ (oQ 
    43 (List.map At.val (QV.enc v))) /\ m = m /\ h = h /\ True) /\ ∀ (x : Nat), I x -> branch (decide ((↑x : Int) < (↑v.group.len : Int))) (∃ (b : Nat), ∃ (off : Nat), v.group.a = some 
    (Addr.mk b off none) /\ 0 <= (↑x : Int) /\ (↑x : Int) < (↑v.group.len : Int) /\ ∃ (y : Int), RdAt m h b (off + (↑x : Int).toNat * 1) [vQi y] /\ ∃ (s : Sl), ∃ (l : List Int), ∃ (n : 
    Int), [cQs t, cQi y] = [cQs s, cQi n] /\ Ints h s l /\ branch (!inL l n) (K (cQb false) m h) (∃ (I_1 : Nat × Nat × Int -> Prop), ∃ (mu_1 : Nat × Nat × Int -> Nat), (∃ (x_1 : Nat × 
    Nat × Int), I_1 x_1 /\ eQ (sQs t) /\ eQ (sQp 2 0) /\ sQi (↑x : Int) = sQi (↑x_1.1 : Int) /\ sQi y = sQi x_1.2.2 /\ sQi 0 = sQi (↑x_1.2.1 : Int) /\ eQ (sQs v.group) /\ eQ (sQi 
    (↑v.group.len : Int)) /\ sQi (↑x : Int) = sQi (↑x_1.1 : Int) /\ eQ (oQ 43 (List.map At.val (QV.enc v))) /\ m = m /\ h = h /\ True) /\ ∀ (x_1 : Nat × Nat × Int), I_1 x_1 -> branch 
    (decide ((↑x_1.2.1 : Int) < (↑x_1.1 : Int))) (∃ (b : Nat), ∃ (off : Nat), v.group.a = some (Addr.mk b off none) /\ 0 <= (↑x_1.2.1 : Int) /\ (↑x_1.2.1 : Int) < (↑v.group.len : Int) 
    /\ ∃ (y : Int), RdAt m h b (off + (↑x_1.2.1 : Int).toNat * 1) [vQi y] /\ branch (y == x_1.2.2) (K (cQb false) m h) (∃ (y : Nat × Nat × Int), I_1 y /\ mu_1 y < mu_1 x_1 /\ eQ (sQs 
    t) /\ eQ (sQp 2 0) /\ sQi (↑x_1.1 : Int) = sQi (↑y.1 : Int) /\ sQi x_1.2.2 = sQi y.2.2 /\ sQi (IntKind.i64.wrap ((↑x_1.2.1 : Int) + 1)) = sQi (↑y.2.1 : Int) /\ eQ (sQs v.group) /\ 
    eQ (sQi (↑v.group.len : Int)) /\ sQi (↑x_1.1 : Int) = sQi (↑y.1 : Int) /\ eQ (oQ 43 (List.map At.val (QV.enc v))) /\ m = m /\ h = h /\ True)) (∃ (y : Nat), I y /\ mu y < mu x /\ eQ 
    (sQs t) /\ eQ (sQp 2 0) /\ eQ (sQs v.group) /\ eQ (sQi (↑v.group.len : Int)) /\ sQi (IntKind.i64.wrap ((↑x_1.1 : Int) + 1)) = sQi (↑y : Int) /\ eQ (oQ 43 (List.map At.val (QV.enc 
    v))) /\ m = m /\ h = h /\ True))) (∃ (I : Nat -> Prop), ∃ (mu : Nat -> Nat), (∃ (x : Nat), I x /\ eQ (sQs t) /\ eQ (sQp 2 0) /\ eQ (sQs v.order) /\ eQ (sQi (↑v.order.len : Int)) /\ 
    sQi 0 = sQi (↑x : Int) /\ eQ (oQ 43 (List.map At.val (QV.enc v))) /\ m = m /\ h = h /\ True) /\ ∀ (x : Nat), I x -> branch (decide ((↑x : Int) < (↑v.order.len : Int))) (∃ (b : 
    Nat), ∃ (off : Nat), v.order.a = some (Addr.mk b off none) /\ 0 <= (↑x : Int) /\ (↑x : Int) < (↑v.order.len : Int) /\ ∃ (y : Int × Bool), RdAt m h b (off + (↑x : Int).toNat * 2) 
    [vQi y.1, Value.bool y.2] /\ ∃ (s : Sl), ∃ (l : List Int), ∃ (n : Int), [cQs t, cQi y.1] = [cQs s, cQi n] /\ Ints h s l /\ branch (!inL l n) (K (cQb false) m h) (∃ (y : Nat), I y 
    /\ mu y < mu x /\ eQ (sQs t) /\ eQ (sQp 2 0) /\ eQ (sQs v.order) /\ eQ (sQi (↑v.order.len : Int)) /\ sQi (IntKind.i64.wrap ((↑x : Int) + 1)) = sQi (↑y : Int) /\ eQ (oQ 43 (List.map 
    At.val (QV.enc v))) /\ m = m /\ h = h /\ True)) (branch (decide ((↑v.order.len : Int) <= 12)) (branch (decide (v.limit ≥ 0)) (K (cQb (decide (v.limit <= 100))) m h) (K (cQb false) 
    m h)) (K (cQb false) m h)))
theorem f105_vc (v : QV) (t : Sl) (m : MH) (h : PH) (K : CV → MH → PH → Prop) : f105_nice v t m h K = (fnVC (f105_ctx v t m h) Tryz.f105 (bodyOf Tryz.f105) (entry Tryz.f105.ntmps [aQ v, cS t] m h) K) := by kernel_rfl
theorem mem_take {α : Type} {l : List α} {i k : Nat} {x : α} (hx : l[i]? = some x) (hi : i < k) : x ∈ l.take k := List.mem_of_getElem? (i := i) (by rw [List.getElem?_take, if_pos hi, hx])
theorem take_mem {α : Type} {l : List α} {i : Nat} {x y : α} (hx : l[i]? = some x) (hy : y ∈ l.take (i + 1)) : y ∈ l.take i ∨ y = x := by
  rw [List.take_add_one, hx, List.mem_append] at hy
  rcases hy with h | h
  · exact .inl h
  · simp at h; exact .inr h
theorem inL_iff {l : List Int} {n : Int} : inL l n = true ↔ 0 ≤ n ∧ n < l.length := by simp [inL]
theorem f104_ok {s t u : Sl} {on : List (Int × Int)} {a b : List Int} {m : MH} {h : PH} {K : CV → MH → PH → Prop} (hs : Pairs h s on) (ht : Ints h t a) (hu : Ints h u b) (hK : ∀ r : Bool, (r = true ↔ Good (PairT a b) on) → K (cB r) m h) : f104_nice s t u m h K := by
  have hl := hs.slen
  have hlen := hs.len
  have ta := ht.slen
  have ub := hu.slen
  refine ⟨fun i => i ≤ on.length ∧ GoodUpto (PairT a b) on i, fun i => on.length - i, ⟨0, ⟨by omega, .zero⟩, MT⟩, fun i ⟨hi, hg⟩ => branch_dec (fun hlt => ?_) (fun hge => hK true ⟨fun _ => hg.all (by omega), fun _ => rfl⟩)⟩
  obtain ⟨p, hp⟩ := getx hl hlt
  obtain ⟨b1, o1, e1, r1⟩ := hs.at hp
  have bad : ¬ PairT a b (on.take i) p → K (.val (.bool false)) m h := fun hn => hK false ⟨fun e => (by cases e), fun e => (Good.not hp hn e).elim⟩
  refine ⟨b1, o1, e1, by omega, hlt, p, .imm r1, by omega, by omega, t, a, p.1, rfl, ht, branch_intro (fun h1 => bad fun hh => ?_) (fun h1 => ⟨by omega, by omega, u, b, p.2, rfl, hu, branch_intro (fun h2 => bad fun hh => ?_) (fun h2 => ?_)⟩)⟩
  · rw [hh.1] at h1; cases h1
  · rw [hh.2.1] at h2; cases h2
  have i1 : inL a p.1 = true := by simpa using h1
  have i2 : inL b p.2 = true := by simpa using h2
  have i1' := inL_iff.1 i1
  have i2' := inL_iff.1 i2
  obtain ⟨b2, o2, e2, r2⟩ := ht.inb i1'.1 i1'.2
  obtain ⟨b3, o3, e3, r3⟩ := hu.inb i2'.1 i2'.2
  refine ⟨by omega, by omega, b2, o2, e2, by omega, by omega, _, .imm r2, by omega, by omega, b3, o3, e3, by omega, by omega, _, .imm r3, branch_intro (fun h3 => bad fun hh => ?_) (fun h3 => ?_)⟩
  · rw [hh.2.2.1] at h3; simp at h3
  refine ⟨fun ⟨i', k, p'⟩ => i' = i ∧ p' = p ∧ k ≤ i ∧ ∀ q ∈ on.take k, q.1 ≠ p.1 ∧ q.2 ≠ p.2, fun ⟨_, k, _⟩ => i - k, ⟨(i, 0, p), ⟨rfl, rfl, by omega, fun q hq => by simp at hq⟩, MT⟩, ?_⟩
  rintro ⟨i, k, p⟩ ⟨rfl, rfl, hk, hno⟩
  dsimp only
  refine branch_dec (fun hlt2 => ?_) (fun hge2 => ?_)
  · obtain ⟨q, hq⟩ : ∃ q, on[k]? = some q := ⟨on[k]'(by omega), List.getElem?_eq_getElem _⟩
    obtain ⟨b4, o4, e4, r4⟩ := hs.at hq
    refine ⟨b4, o4, e4, by omega, by omega, by omega, by omega, q.1, .imm (RdCells.part r4 0 1), by omega, by omega, branch_intro (fun h4 => bad fun hh => ?_) (fun h4 => ⟨b4, o4, e4, by omega, by omega, by omega, by omega, q.2, .imm (RdCells.part r4 1 1), by omega, by omega, branch_intro (fun h5 => bad fun hh => ?_) (fun h5 => ?_)⟩)⟩
    · exact (hh.2.2.2 q (mem_take hq (by omega))).1 (by simpa using h4)
    · exact (hh.2.2.2 q (mem_take hq (by omega))).2 (by simpa using h5)
    · refine ⟨(i, k + 1, p), ⟨rfl, rfl, by show k + 1 ≤ i; omega, fun q' hq' => ?_⟩, by show i - (k + 1) < i - k; omega, MT⟩
      rcases take_mem hq hq' with e | rfl
      · exact hno q' e
      · exact ⟨by simpa using h4, by simpa using h5⟩
  · have : k = i := by omega
    subst this
    exact ⟨k + 1, ⟨by omega, hg.succ hp ⟨i1, i2, by simpa using h3, hno⟩⟩, by show on.length - (k + 1) < on.length - k; omega, MT⟩
theorem f105_ok {v : QV} {t : Sl} {g : List Int} {o : List (Int × Bool)} {a : List Int} {m : MH} {h : PH} {K : CV → MH → PH → Prop} (hg : Ints h v.group g) (ho : Sorts h v.order o) (ht : Ints h t a) (hK : ∀ r : Bool, (r = true ↔ RankOk a g o v.limit) → K (cB r) m h) : f105_nice v t m h K := by
  have gl := hg.slen
  have glen := hg.len
  have ol := ho.slen
  have olen := ho.len
  have bad : ¬ RankOk a g o v.limit → K (.val (.bool false)) m h := fun hn => hK false ⟨fun e => (by cases e), fun e => (hn e).elim⟩
  refine ⟨fun i => i ≤ g.length ∧ GoodUpto (GroupT a) g i, fun i => g.length - i, ⟨0, ⟨by omega, .zero⟩, MT⟩, fun i ⟨hi, hgi⟩ => branch_dec (fun hlt => ?_) (fun hge => ?_)⟩
  · obtain ⟨c, hc⟩ := getx gl hlt
    obtain ⟨b1, o1, e1, r1⟩ := hg.at' hc
    refine ⟨b1, o1, e1, by omega, hlt, c, .imm r1, t, a, c, rfl, ht, branch_intro (fun h1 => bad fun hh => Good.not hc (fun hx => ?_) hh.group_) (fun h1 => ?_)⟩
    · rw [hx.1] at h1; cases h1
    refine ⟨fun ⟨i', k, c'⟩ => i' = i ∧ c' = c ∧ k ≤ i ∧ c ∉ g.take k, fun ⟨_, k, _⟩ => i - k, ⟨(i, 0, c), ⟨rfl, rfl, by omega, by simp⟩, MT⟩, ?_⟩
    rintro ⟨i, k, c⟩ ⟨rfl, rfl, hk, hno⟩
    dsimp only
    refine branch_dec (fun hlt2 => ?_) (fun hge2 => ?_)
    · obtain ⟨q, hq⟩ : ∃ q, g[k]? = some q := ⟨g[k]'(by omega), List.getElem?_eq_getElem _⟩
      obtain ⟨b4, o4, e4, r4⟩ := hg.at' hq
      refine ⟨b4, o4, e4, by omega, by omega, q, .imm r4, branch_intro (fun h4 => bad fun hh => Good.not hc (fun hx => ?_) hh.group_) (fun h4 => ?_)⟩
      · refine hx.2 ?_
        have : q = c := by simpa using h4
        rw [← this]; exact mem_take hq (by omega)
      · refine ⟨(i, k + 1, c), ⟨rfl, rfl, by show k + 1 ≤ i; omega, fun hq' => ?_⟩, by show i - (k + 1) < i - k; omega, MT⟩
        rcases take_mem hq hq' with e | rfl
        · exact hno e
        · simp at h4
    · have : k = i := by omega
      subst this
      exact ⟨k + 1, ⟨by omega, hgi.succ hc ⟨by simpa using h1, hno⟩⟩, by show g.length - (k + 1) < g.length - k; omega, MT⟩
  have gg := hgi.all (by omega)
  clear hi hgi hge
  refine ⟨fun i => i ≤ o.length ∧ GoodUpto (OrderT a) o i, fun i => o.length - i, ⟨0, ⟨by omega, .zero⟩, MT⟩, fun i ⟨hi, hoi⟩ => branch_dec (fun hlt => ?_) (fun hge => ?_)⟩
  · obtain ⟨c, hc⟩ := getx ol hlt
    obtain ⟨b1, o1, e1, r1⟩ := ho.at hc
    refine ⟨b1, o1, e1, by omega, hlt, c, .imm r1, t, a, c.1, rfl, ht, branch_intro (fun h1 => bad fun hh => Good.not hc (fun hx => ?_) hh.order_) (fun h1 => ⟨i + 1, ⟨by omega, hoi.succ hc (by simpa [OrderT] using h1)⟩, by show o.length - (i + 1) < o.length - i; omega, MT⟩)⟩
    rw [show inL a c.1 = true from hx] at h1; cases h1
  have oo := hoi.all (by omega)
  refine branch_dec (fun h1 => branch_dec (fun h2 => ?_) (fun h2 => bad fun hh => ?_)) (fun h1 => bad fun hh => ?_)
  · refine hK (decide (v.limit ≤ 100)) ⟨fun e => ⟨gg, oo, by omega, h2, by simpa using e⟩, fun e => decide_eq_true e.high⟩
  · have := hh.low; omega
  · have := hh.len_; omega
theorem f104_sound : Sound Tryz.prog 104 PairedS := by
  refine fn_sound (fn := Tryz.f104) (c := bodyOf Tryz.f104) Tryz.func104 rfl (by decide) ?_
  rintro cvs m h K ⟨s, t, u, on, a, b, rfl, hs, ht, hu, hK⟩
  refine ⟨f104_ctx s t u m h, rfl, specs_cons f103_sound specs_nil, ?_⟩
  rw [← f104_vc s t u m h K]
  exact f104_ok hs ht hu hK
theorem f105_sound : Sound Tryz.prog 105 RankedS := by
  refine fn_sound (fn := Tryz.f105) (c := bodyOf Tryz.f105) Tryz.func105 rfl (by decide) ?_
  rintro cvs m h K ⟨v, t, g, o, a, rfl, hg, ho, ht, hK⟩
  refine ⟨f105_ctx v t m h, rfl, specs_cons f103_sound specs_nil, ?_⟩
  rw [← f105_vc v t m h K]
  exact f105_ok hg ho ht hK
end Go.Ps
namespace Go.Ps
open Go Go.Vc Go.Proofs
def zeroP : Pred := .mk 0 0 zeroO zeroO []
def UnusedOk : Query → Prop
  | .mk op ta w co on gr od li _ => (op = 1 ∨ ta = 0) ∧ (op = 2 ∨ w = zeroP) ∧ (op = 3 ∨ co = []) ∧ (op = 4 ∨ op = 5 ∨ on = []) ∧ (op = 9 ∨ op = 10 ∨ (gr = [] ∧ od = [] ∧ li = 0))
def limK (l : List Int) : List Int × Int := if l.length ≤ 12 then (l, 0) else ([], 2)
def errK (e : Int) : List Int × Int := ([], e)
open Classical in
noncomputable def nodeR (s : Sch) (ps : List Int) (q : Query) (a b : List Int) : List Int × Int :=
  if arity (match q with | .mk op .. => op) < 0 ∨ ¬ UnusedOk q then errK 100 else
  match q with
  | .mk op ta w co on gr od li _ =>
    if op = 1 then (if 0 ≤ ta ∧ ta < s.tables.length then limK (kindsT s ta) else errK 100)
    else if op = 2 then (if predErr a ps w = 0 then limK a else errK (predErr a ps w))
    else if op = 3 then (if co ≠ [] ∧ Good (fun _ c => inL a c = true) co then limK (co.map fun c => a.getD c.toNat 0) else errK 100)
    else if op = 4 then (if Good (PairT a b) on then limK (a ++ b) else errK 100)
    else if op = 5 then (if Good (PairT a b) on then limK a else errK 100)
    else if op = 9 then (if RankOk a gr od li then limK a else errK 100)
    else if op = 10 then (if a = b ∧ RankOk a gr od li then limK a else errK 100)
    else (if a = b then limK a else errK 100)
def UnusedS : Vc.Spec := fun cvs m h K => ∃ v q, cvs = [aQ v] ∧ RepQ h q v ∧ ∀ r : Bool, (r = true ↔ UnusedOk q) → K (cB r) m h
/-- A list of numbers and an error come back. -/
def KR (K : CV → MH → PH → Prop) (m : MH) (h : PH) (r : List Int × Int) : Prop := ∀ sl h', PH.le h h' → Ints h' sl r.1 → K (.tup [cS sl, cI r.2]) m h'
def NodeS : Vc.Spec := fun cvs m h K => ∃ sc p v a b s ps q la lb, cvs = [aS sc, cS p, aQ v, cS a, cS b] ∧ RepS h s sc ∧ small8 s ∧ Ints h p ps ∧ RepQ h q v ∧ Ints h a la ∧ Ints h b lb ∧ la.length ≤ 12 ∧ lb.length ≤ 12 ∧ KR K m h (nodeR s ps q la lb)
noncomputable def f75_ctx (m : MH) : Ctx :=
  ctx2 [(48, ArityS), (102, UnusedS), (52, KindsOfS), (57, PredCheckS), (103, InS), (104, PairedS), (105, RankedS), (36, SameInts)]
   [(20, { A := Nat × Sl × Sl × List Int × PH, st := fun ⟨i, a, co, l, h⟩ => mkSt 121 126 [(3, sv a), (12, .at (.lst 94)), (78, sv co), (79, iv co.len), (80, iv i)] [(94, .lst 3 1 (l.map eI))] m h })] [] [] false
noncomputable def f102_ctx (v : QV) (m : MH) (h : PH) : Ctx :=
  ctx3 [(50, EqPA)] [] [(2, { A := Bool, st := fun r => mkSt 78 79 [(1, .at (.ptr 1 0)), (3, bv r)] [(1, .cells 43 (v.enc.map .val))] m h })]
   [(2, [(9, { A := Bool × Bool, st := fun x => mkSt 78 79 [(1, .at (.ptr 1 0)), (3, bv x.1), (20, bv x.2)] [(1, .cells 43 (v.enc.map .val))] m h }),
     (11, { A := Bool × Bool, st := fun x => mkSt 78 79 [(1, .at (.ptr 1 0)), (3, bv x.1), (31, bv x.2)] [(1, .cells 43 (v.enc.map .val))] m h }),
     (11, { A := Bool × Bool, st := fun x => mkSt 78 79 [(1, .at (.ptr 1 0)), (3, bv x.1), (42, bv x.2)] [(1, .cells 43 (v.enc.map .val))] m h }),
     (16, { A := Bool × Bool, st := fun x => mkSt 78 79 [(1, .at (.ptr 1 0)), (3, bv x.1), (58, bv x.2)] [(1, .cells 43 (v.enc.map .val))] m h })])] [] false
def f102_nice (v : QV) (m : MH) (h : PH) (K : CV → MH → PH → Prop) : Prop :=
    ∃ (I : Bool -> Prop), branch (v.op == 9) (∃ (x : Bool), I x /\ eQ (sQp 1 0) /\ sQb true = sQb x /\ eQ (oQ 43 (List.map At.val (QV.enc v))) /\ m = m /\ h = h /\ True) (∃ (x : Bool), 
    I x /\ eQ (sQp 1 0) /\ sQb (v.op == 10) = sQb x /\ eQ (oQ 43 (List.map At.val (QV.enc v))) /\ m = m /\ h = h /\ True) /\ ∀ (x : Bool), I x -> ∃ (I : Bool × Bool -> Prop), branch 
    (v.op == 1) (∃ (x_1 : Bool × Bool), I x_1 /\ eQ (sQp 1 0) /\ sQb x = sQb x_1.1 /\ sQb true = sQb x_1.2 /\ eQ (oQ 43 (List.map At.val (QV.enc v))) /\ m = m /\ h = h /\ True) (∃ (x_1 
    : Bool × Bool), I x_1 /\ eQ (sQp 1 0) /\ sQb x = sQb x_1.1 /\ sQb (v.table == 0) = sQb x_1.2 /\ eQ (oQ 43 (List.map At.val (QV.enc v))) /\ m = m /\ h = h /\ True) /\ ∀ (x : Bool × 
    Bool), I x -> ∃ (I : Bool × Bool -> Prop), branch x.2 (branch (v.op == 2) (∃ (x_1 : Bool × Bool), I x_1 /\ eQ (sQp 1 0) /\ sQb x.1 = sQb x_1.1 /\ sQb true = sQb x_1.2 /\ eQ (oQ 43 
    (List.map At.val (QV.enc v))) /\ m = m /\ h = h /\ True) (∃ (v_1 : PV), ∃ (w : PV), ∃ (p : Pred), ∃ (q : Pred), [cQa (PV.enc v.where_), cQa [vQi 0, vQi 0, vQi 0, vQi 0, vQi 0, vQi 
    0, vQz, vQi 0, vQi 0, vQi 0, vQi 0, vQz, vQn]] = [cQa (PV.enc v_1), cQa (PV.enc w)] /\ RepP h p v_1 /\ RepP h q w /\ ∀ (r : Bool), (r = true ↔ p = q) -> ∃ (x_1 : Bool × Bool), I 
    x_1 /\ eQ (sQp 1 0) /\ sQb x.1 = sQb x_1.1 /\ sQb r = sQb x_1.2 /\ eQ (oQ 43 (List.map At.val (QV.enc v))) /\ m = m /\ h = h /\ True)) (∃ (x_1 : Bool × Bool), I x_1 /\ eQ (sQp 1 0) 
    /\ sQb x.1 = sQb x_1.1 /\ sQb false = sQb x_1.2 /\ eQ (oQ 43 (List.map At.val (QV.enc v))) /\ m = m /\ h = h /\ True) /\ ∀ (x : Bool × Bool), I x -> ∃ (I : Bool × Bool -> Prop), 
    branch x.2 (branch (v.op == 3) (∃ (x_1 : Bool × Bool), I x_1 /\ eQ (sQp 1 0) /\ sQb x.1 = sQb x_1.1 /\ sQb true = sQb x_1.2 /\ eQ (oQ 43 (List.map At.val (QV.enc v))) /\ m = m /\ h 
    = h /\ True) (∃ (x_1 : Bool × Bool), I x_1 /\ eQ (sQp 1 0) /\ sQb x.1 = sQb x_1.1 /\ sQb ((↑v.columns.len : Int) == 0) = sQb x_1.2 /\ eQ (oQ 43 (List.map At.val (QV.enc v))) /\ m = 
    m /\ h = h /\ True)) (∃ (x_1 : Bool × Bool), I x_1 /\ eQ (sQp 1 0) /\ sQb x.1 = sQb x_1.1 /\ sQb false = sQb x_1.2 /\ eQ (oQ 43 (List.map At.val (QV.enc v))) /\ m = m /\ h = h /\ 
    True) /\ ∀ (x : Bool × Bool), I x -> ∃ (I : Bool × Bool -> Prop), branch x.2 (branch (v.op == 4) (∃ (x_1 : Bool × Bool), I x_1 /\ eQ (sQp 1 0) /\ sQb x.1 = sQb x_1.1 /\ sQb true = 
    sQb x_1.2 /\ eQ (oQ 43 (List.map At.val (QV.enc v))) /\ m = m /\ h = h /\ True) (branch (v.op == 5) (∃ (x_1 : Bool × Bool), I x_1 /\ eQ (sQp 1 0) /\ sQb x.1 = sQb x_1.1 /\ sQb true 
    = sQb x_1.2 /\ eQ (oQ 43 (List.map At.val (QV.enc v))) /\ m = m /\ h = h /\ True) (∃ (x_1 : Bool × Bool), I x_1 /\ eQ (sQp 1 0) /\ sQb x.1 = sQb x_1.1 /\ sQb ((↑v.on.len : Int) == 
    0) = sQb x_1.2 /\ eQ (oQ 43 (List.map At.val (QV.enc v))) /\ m = m /\ h = h /\ True))) (∃ (x_1 : Bool × Bool), I x_1 /\ eQ (sQp 1 0) /\ sQb x.1 = sQb x_1.1 /\ sQb false = sQb x_1.2 
    /\ eQ (oQ 43 (List.map At.val (QV.enc v))) /\ m = m /\ h = h /\ True) /\ ∀ (x : Bool × Bool), I x -> branch x.2 (branch x.1 (K (cQb true) m h) (branch ((↑v.group.len : Int) == 0) 
    (branch ((↑v.order.len : Int) == 0) (K (cQb (v.limit == 0)) m h) (K (cQb false) m h)) (K (cQb false) m h))) (K (cQb false) m h)
theorem f102_vc (v : QV) (m : MH) (h : PH) (K : CV → MH → PH → Prop) : f102_nice v m h K = (fnVC (f102_ctx v m h) Tryz.f102 (bodyOf Tryz.f102) (entry Tryz.f102.ntmps [aQ v] m h) K) := by kernel_rfl
def f75_nice (sc : SchV) (p : Sl) (v : QV) (a b : Sl) (m : MH) (h : PH) (K : CV → MH → PH → Prop) : Prop :=
    ∃ (op : Int), [cQi v.op] = [cQi op] /\ branch (decide (arity op < 0)) (K (CV.tup [cQn, cQi 100]) m h) (∃ (v_1 : QV), ∃ (q : Query), [cQa (QV.enc v)] = [cQa (QV.enc v_1)] /\ RepQ h 
    q v_1 /\ ∀ (r : Bool), (r = true ↔ UnusedOk q) -> branch (!r) (K (CV.tup [cQn, cQi 100]) m h) (∃ (ys : List (List Value)), RowsOk 1 ys /\ RowIn h (Sl.mk a.a a.len a.cap) 1 ys /\ 
    ys.length * 8 <= 140737488355328 /\ ys.length <= 140737488355328 /\ branch (v.op == 1) (branch (decide (v.table < 0)) (K (CV.tup [cQn, cQi 100]) m h) (branch (decide (v.table ≥ 
    (↑sc.tables.len : Int))) (K (CV.tup [cQn, cQi 100]) m h) (∃ (v_2 : SchV), ∃ (s : Sch), ∃ (t : Int), [cQa [vQi sc.version, vQs sc.tables], cQi v.table] = [cQa [vQi v_2.version, vQs 
    v_2.tables], cQi t] /\ RepS h s v_2 /\ small8 s /\ ∀ (sl : Sl) (h' : PH), h.le h' -> Ints h' sl (kindsT s t) -> branch (decide ((↑sl.len : Int) > 12)) (K (CV.tup [cQn, cQi 2]) m 
    h') (K (CV.tup [cQs sl, cQi 0]) m h')))) (branch (v.op == 2) (∃ (s : Sl), ∃ (t : Sl), ∃ (v_2 : PV), ∃ (cols : List Int), ∃ (params : List Int), ∃ (p_1 : Pred), [cQs a, cQs p, cQa 
    (PV.enc v.where_)] = [cQs s, cQs t, cQa (PV.enc v_2)] /\ Ints h s cols /\ Ints h t params /\ RepP h p_1 v_2 /\ branch (predErr cols params p_1 != 0) (K (CV.tup [cQn, cQi (predErr 
    cols params p_1)]) m h) (branch (decide ((↑ys.length : Int) > 12)) (K (CV.tup [cQn, cQi 2]) m h) (∀ (s : Sl) (h' : PH), h.le h' -> RowIn h' s 1 ys -> K (CV.tup [cQs s, cQi 0]) m 
    h'))) (branch (v.op == 3) (branch ((↑v.columns.len : Int) == 0) (K (CV.tup [cQn, cQi 100]) m h) (∃ (I : Nat × Sl × Sl × List Int × PH -> Prop), ∃ (mu : Nat × Sl × Sl × List Int × 
    PH -> Nat), (∃ (x : Nat × Sl × Sl × List Int × PH), I x /\ sQs a = sQs x.2.1 /\ eQ (sQl 94) /\ sQs v.columns = sQs x.2.2.1 /\ sQi (↑v.columns.len : Int) = sQi (↑x.2.2.1.len : Int) 
    /\ sQi 0 = sQi (↑x.1 : Int) /\ some (Own.lst 3 1 []) = some (Own.lst 3 1 (List.map eI x.2.2.2.1)) /\ m = m /\ h = x.2.2.2.2 /\ True) /\ ∀ (x : Nat × Sl × Sl × List Int × PH), I x 
    -> branch (decide ((↑x.1 : Int) < (↑x.2.2.1.len : Int))) (∃ (b : Nat), ∃ (off : Nat), x.2.2.1.a = some (Addr.mk b off none) /\ 0 <= (↑x.1 : Int) /\ (↑x.1 : Int) < (↑x.2.2.1.len : 
    Int) /\ ∃ (y : Int), RdAt m x.2.2.2.2 b (off + (↑x.1 : Int).toNat * 1) [vQi y] /\ ∃ (s : Sl), ∃ (l : List Int), ∃ (n : Int), [cQs x.2.1, cQi y] = [cQs s, cQi n] /\ Ints x.2.2.2.2 s 
    l /\ branch (!inL l n) (K (CV.tup [cQn, cQi 100]) m x.2.2.2.2) (∃ (b : Nat), ∃ (off : Nat), x.2.1.a = some (Addr.mk b off none) /\ 0 <= y /\ y < (↑x.2.1.len : Int) /\ ∃ (y_1 : 
    Int), RdAt m x.2.2.2.2 b (off + y.toNat * 1) [vQi y_1] /\ ((List.map eI x.2.2.2.1).length + 1) * 8 <= 140737488355328 /\ (List.map eI x.2.2.2.1).length < 140737488355328 /\ ∃ (y : 
    Nat × Sl × Sl × List Int × PH), I y /\ mu y < mu x /\ sQs x.2.1 = sQs y.2.1 /\ eQ (sQl 94) /\ sQs x.2.2.1 = sQs y.2.2.1 /\ sQi (↑x.2.2.1.len : Int) = sQi (↑y.2.2.1.len : Int) /\ 
    sQi (IntKind.i64.wrap ((↑x.1 : Int) + 1)) = sQi (↑y.1 : Int) /\ some (Own.lst 3 1 (List.map eI x.2.2.2.1 ++ [[vQi y_1]])) = some (Own.lst 3 1 (List.map eI y.2.2.2.1)) /\ m = m /\ 
    x.2.2.2.2 = y.2.2.2.2 /\ True)) (branch (decide ((↑(List.map eI x.2.2.2.1).length : Int) > 12)) (K (CV.tup [cQn, cQi 2]) m x.2.2.2.2) (∀ (s : Sl) (h' : PH), x.2.2.2.2.le h' -> 
    RowIn h' s 1 (List.map eI x.2.2.2.1) -> K (CV.tup [cQs s, cQi 0]) m h')))) (branch (v.op == 4) (∃ (s : Sl), ∃ (t : Sl), ∃ (u : Sl), ∃ (on : List (Int × Int)), ∃ (a_2 : List Int), ∃ 
    (b_1 : List Int), [cQs v.on, cQs a, cQs b] = [cQs s, cQs t, cQs u] /\ Pairs h s on /\ Ints h t a_2 /\ Ints h u b_1 /\ ∀ (r : Bool), (r = true ↔ Good (PairT a_2 b_1) on) -> branch 
    (!r) (K (CV.tup [cQn, cQi 100]) m h) (branch (v.op == 4) (∃ (ys_1 : List (List Value)), RowsOk 1 ys_1 /\ RowIn h (Sl.mk b.a b.len b.cap) 1 ys_1 /\ (ys.length + ys_1.length) * 8 <= 
    140737488355328 /\ ys.length + ys_1.length <= 140737488355328 /\ branch (decide ((↑(ys ++ ys_1).length : Int) > 12)) (K (CV.tup [cQn, cQi 2]) m h) (∀ (s : Sl) (h' : PH), h.le h' -> 
    RowIn h' s 1 (ys ++ ys_1) -> K (CV.tup [cQs s, cQi 0]) m h')) (branch (decide ((↑ys.length : Int) > 12)) (K (CV.tup [cQn, cQi 2]) m h) (∀ (s : Sl) (h' : PH), h.le h' -> RowIn h' s 
    1 ys -> K (CV.tup [cQs s, cQi 0]) m h')))) (branch (v.op == 5) (∃ (s : Sl), ∃ (t : Sl), ∃ (u : Sl), ∃ (on : List (Int × Int)), ∃ (a_2 : List Int), ∃ (b_1 : List Int), [cQs v.on, 
    cQs a, cQs b] = [cQs s, cQs t, cQs u] /\ Pairs h s on /\ Ints h t a_2 /\ Ints h u b_1 /\ ∀ (r : Bool), (r = true ↔ Good (PairT a_2 b_1) on) -> branch (!r) (K (CV.tup [cQn, cQi 
    100]) m h) (branch (v.op == 4) (∃ (ys_1 : List (List Value)), RowsOk 1 ys_1 /\ RowIn h (Sl.mk b.a b.len b.cap) 1 ys_1 /\ (ys.length + ys_1.length) * 8 <= 140737488355328 /\ 
    ys.length + ys_1.length <= 140737488355328 /\ branch (decide ((↑(ys ++ ys_1).length : Int) > 12)) (K (CV.tup [cQn, cQi 2]) m h) (∀ (s : Sl) (h' : PH), h.le h' -> RowIn h' s 1 (ys 
    ++ ys_1) -> K (CV.tup [cQs s, cQi 0]) m h')) (branch (decide ((↑ys.length : Int) > 12)) (K (CV.tup [cQn, cQi 2]) m h) (∀ (s : Sl) (h' : PH), h.le h' -> RowIn h' s 1 ys -> K (CV.tup 
    [cQs s, cQi 0]) m h')))) (branch (v.op == 9) (∃ (v_2 : QV), ∃ (t : Sl), ∃ (g : List Int), ∃ (o : List (Int × Bool)), ∃ (a_2 : List Int), [cQa (QV.enc v), cQs a] = [cQa (QV.enc 
    v_2), cQs t] /\ Ints h v_2.group g /\ Sorts h v_2.order o /\ Ints h t a_2 /\ ∀ (r : Bool), (r = true ↔ RankOk a_2 g o v_2.limit) -> branch (!r) (K (CV.tup [cQn, cQi 100]) m h) 
    (branch (decide ((↑ys.length : Int) > 12)) (K (CV.tup [cQn, cQi 2]) m h) (∀ (s : Sl) (h' : PH), h.le h' -> RowIn h' s 1 ys -> K (CV.tup [cQs s, cQi 0]) m h'))) (∃ (s : Sl), ∃ (t : 
    Sl), ∃ (a_2 : List Int), ∃ (b_1 : List Int), [cQs a, cQs b] = [cQs s, cQs t] /\ Ints h s a_2 /\ Ints h t b_1 /\ ∀ (r : Bool), (r = true ↔ a_2 = b_1) -> branch (!r) (K (CV.tup [cQn, 
    cQi 100]) m h) (branch (v.op == 10) (∃ (v_2 : QV), ∃ (t : Sl), ∃ (g : List Int), ∃ (o : List (Int × Bool)), ∃ (a_4 : List Int), [cQa (QV.enc v), cQs a] = [cQa (QV.enc v_2), cQs t] 
    /\ Ints h v_2.group g /\ Sorts h v_2.order o /\ Ints h t a_4 /\ ∀ (r : Bool), (r = true ↔ RankOk a_4 g o v_2.limit) -> branch (!r) (K (CV.tup [cQn, cQi 100]) m h) (branch (decide 
    ((↑ys.length : Int) > 12)) (K (CV.tup [cQn, cQi 2]) m h) (∀ (s : Sl) (h' : PH), h.le h' -> RowIn h' s 1 ys -> K (CV.tup [cQs s, cQi 0]) m h'))) (branch (decide ((↑ys.length : Int) 
    > 12)) (K (CV.tup [cQn, cQi 2]) m h) (∀ (s : Sl) (h' : PH), h.le h' -> RowIn h' s 1 ys -> K (CV.tup [cQs s, cQi 0]) m h')))))))))))
theorem f75_vc (sc : SchV) (p : Sl) (v : QV) (a b : Sl) (m : MH) (h : PH) (K : CV → MH → PH → Prop) : f75_nice sc p v a b m h K = (fnVC (f75_ctx m) Tryz.f75 (bodyOf Tryz.f75) (entry Tryz.f75.ntmps [aS sc, cS p, aQ v, cS a, cS b] m h) K) := by kernel_rfl
theorem len0 {α : Type} {n : Nat} {l : List α} (h : n = l.length) : ((n : Int) == 0) = true ↔ l = [] := by
  rw [beq_iff_eq, h, ← List.length_eq_zero_iff]; omega
theorem repZero (h : PH) : RepP h zeroP ⟨0, 0, zeroO, zeroO, ⟨none, 0, 0⟩⟩ := RepP.mk (v := ⟨0, 0, zeroO, zeroO, ⟨none, 0, 0⟩⟩) (.nil _ _ _ _)
theorem f102_ok {v : QV} {q : Query} {m : MH} {h : PH} {K : CV → MH → PH → Prop} (hq : RepQ h q v) (hK : ∀ r : Bool, (r = true ↔ UnusedOk q) → K (cB r) m h) : f102_nice v m h K := by
  obtain ⟨op, ta, w, co, on, gr, od, li, args⟩ := q
  have a := hq.parts
  have e0 := a.op_
  have e1 := a.table_
  have e2 := a.limit_
  have l1 := len0 a.columns_.slen
  have l2 := len0 a.on_.slen
  have l3 := len0 a.group_.slen
  have l4 := len0 a.order_.slen
  simp only [UnusedOk] at hK
  subst e0 e1 e2
  refine ⟨fun r => (r = true ↔ v.op = 9 ∨ v.op = 10), branch_intro (fun h1 => ⟨true, by simp at h1; simp [h1], MT⟩) (fun h1 => ⟨_, ?_, MT⟩), fun r hr => ?_⟩
  · simp only [beq_eq_false_iff_ne] at h1; simp [h1]
  refine ⟨fun x => x.1 = r ∧ (x.2 = true ↔ (v.op = 1 ∨ v.table = 0)), branch_intro (fun h1 => ⟨(r, true), ⟨rfl, by simp at h1; simp [h1]⟩, MT⟩) (fun h1 => ⟨(r, _), ⟨rfl, ?_⟩, MT⟩), ?_⟩
  · simp only [beq_eq_false_iff_ne] at h1; simp [h1]
  rintro ⟨r, c⟩ ⟨rfl, hc⟩
  dsimp only at hc hr ⊢
  refine ⟨fun x => x.1 = r ∧ (x.2 = true ↔ (v.op = 1 ∨ v.table = 0) ∧ (v.op = 2 ∨ w = zeroP)), branch_intro (fun h1 => branch_intro (fun h2 => ⟨(r, true), ⟨rfl, ⟨fun _ => ⟨hc.1 h1, .inl (by simpa using h2)⟩, fun _ => rfl⟩⟩, MT⟩) (fun h2 => ⟨v.where_, ⟨0, 0, zeroO, zeroO, ⟨none, 0, 0⟩⟩, w, zeroP, rfl, a.where_, repZero h, fun r' hr' => ⟨(r, r'), ⟨rfl, ?_⟩, MT⟩⟩)) (fun h1 => ⟨(r, false), ⟨rfl, ?_⟩, MT⟩), ?_⟩
  · simp only [beq_eq_false_iff_ne] at h2; simp only [hr', hc.1 h1, h2, true_and, false_or]
  · rw [h1] at hc; simp only [Bool.false_eq_true, false_iff] at hc ⊢; exact fun e => hc e.1
  clear hc c
  rintro ⟨r, c⟩ ⟨rfl, hc⟩
  dsimp only at hc hr ⊢
  refine ⟨fun x => x.1 = r ∧ (x.2 = true ↔ (v.op = 1 ∨ v.table = 0) ∧ (v.op = 2 ∨ w = zeroP) ∧ (v.op = 3 ∨ co = [])), branch_intro (fun h1 => branch_intro (fun h2 => ⟨(r, true), ⟨rfl, ⟨fun _ => ⟨(hc.1 h1).1, (hc.1 h1).2, .inl (by simpa using h2)⟩, fun _ => rfl⟩⟩, MT⟩) (fun h2 => ⟨(r, _), ⟨rfl, ?_⟩, MT⟩)) (fun h1 => ⟨(r, false), ⟨rfl, ?_⟩, MT⟩), ?_⟩
  · simp only [beq_eq_false_iff_ne] at h2; simp only [l1, hc.1 h1, h2, true_and, false_or]
  · rw [h1] at hc; simp only [Bool.false_eq_true, false_iff] at hc ⊢; exact fun e => hc ⟨e.1, e.2.1⟩
  clear hc c
  rintro ⟨r, c⟩ ⟨rfl, hc⟩
  dsimp only at hc hr ⊢
  refine ⟨fun x => x.1 = r ∧ (x.2 = true ↔ (v.op = 1 ∨ v.table = 0) ∧ (v.op = 2 ∨ w = zeroP) ∧ (v.op = 3 ∨ co = []) ∧ (v.op = 4 ∨ v.op = 5 ∨ on = [])), branch_intro (fun h1 => branch_intro (fun h2 => ⟨(r, true), ⟨rfl, ⟨fun _ => ⟨(hc.1 h1).1, (hc.1 h1).2.1, (hc.1 h1).2.2, .inl (by simpa using h2)⟩, fun _ => rfl⟩⟩, MT⟩) (fun h2 => branch_intro (fun h3 => ⟨(r, true), ⟨rfl, ⟨fun _ => ⟨(hc.1 h1).1, (hc.1 h1).2.1, (hc.1 h1).2.2, .inr (.inl (by simpa using h3))⟩, fun _ => rfl⟩⟩, MT⟩) (fun h3 => ⟨(r, _), ⟨rfl, ?_⟩, MT⟩))) (fun h1 => ⟨(r, false), ⟨rfl, ?_⟩, MT⟩), ?_⟩
  · simp only [beq_eq_false_iff_ne] at h2 h3; simp only [l2, hc.1 h1, h2, h3, true_and, false_or]
  · rw [h1] at hc; simp only [Bool.false_eq_true, false_iff] at hc ⊢; exact fun e => hc ⟨e.1, e.2.1, e.2.2.1⟩
  clear hc c
  rintro ⟨r, c⟩ ⟨rfl, hc⟩
  dsimp only at hc hr ⊢
  refine branch_intro (fun h1 => branch_intro (fun h2 => hK true ⟨fun _ => ?_, fun _ => rfl⟩) (fun h2 => branch_intro (fun h3 => branch_intro (fun h4 => hK _ ?_) (fun h4 => hK false ?_)) (fun h3 => hK false ?_))) (fun h1 => hK false ?_)
  · obtain ⟨p1, p2, p3, p4⟩ := hc.1 h1
    refine ⟨p1, p2, p3, p4, ?_⟩
    rcases hr.1 h2 with e | e
    · exact .inl e
    · exact .inr (.inl e)
  · obtain ⟨p1, p2, p3, p4⟩ := hc.1 h1
    have nr : ¬ (v.op = 9 ∨ v.op = 10) := fun e => by rw [hr.2 e] at h2; cases h2
    rw [beq_iff_eq]
    refine ⟨fun e => ⟨p1, p2, p3, p4, .inr (.inr ⟨l3.1 h3, l4.1 h4, e⟩)⟩, fun e => ?_⟩
    rcases e.2.2.2.2 with e | e | e
    · exact (nr (.inl e)).elim
    · exact (nr (.inr e)).elim
    · exact e.2.2
  · have nr : ¬ (v.op = 9 ∨ v.op = 10) := fun e => by rw [hr.2 e] at h2; cases h2
    refine ⟨fun e => (by cases e), fun e => ?_⟩
    rcases e.2.2.2.2 with e | e | e
    · exact (nr (.inl e)).elim
    · exact (nr (.inr e)).elim
    · rw [l4.2 e.2.1] at h4; cases h4
  · have nr : ¬ (v.op = 9 ∨ v.op = 10) := fun e => by rw [hr.2 e] at h2; cases h2
    refine ⟨fun e => (by cases e), fun e => ?_⟩
    rcases e.2.2.2.2 with e | e | e
    · exact (nr (.inl e)).elim
    · exact (nr (.inr e)).elim
    · rw [l3.2 e.1] at h3; cases h3
  · refine ⟨fun e => (by cases e), fun e => ?_⟩
    rw [hc.2 ⟨e.1, e.2.1, e.2.2.1, e.2.2.2.1⟩] at h1; cases h1
theorem f102_sound : Sound Tryz.prog 102 UnusedS := by
  refine fn_sound (fn := Tryz.f102) (c := bodyOf Tryz.f102) Tryz.func102 rfl (by decide) ?_
  rintro cvs m h K ⟨v, q, rfl, hq, hK⟩
  refine ⟨f102_ctx v m h, rfl, specs_cons f50_sound specs_nil, ?_⟩
  rw [← f102_vc v m h K]
  exact f102_ok hq hK
theorem rowsOk_ints (l : List Int) : RowsOk 1 (l.map eI) := by
  constructor
  · intro e he; obtain ⟨x, _, rfl⟩ := List.mem_map.1 he; rfl
  · intro e he u hu; obtain ⟨x, _, rfl⟩ := List.mem_map.1 he; simp [eI] at hu; subst hu; rfl
theorem KR.err {K : CV → MH → PH → Prop} {m : MH} {h h' : PH} {r : List Int × Int} {e : Int} (hK : KR K m h r) (hle : PH.le h h') (he : r = errK e) : K (.tup [.val (.slice none 0 0), .val (.int .i64 e)]) m h' := by
  subst he
  exact hK ⟨none, 0, 0⟩ h' hle ⟨.nil _ _, by simp [errK]⟩
theorem KR.big {K : CV → MH → PH → Prop} {m : MH} {h h' : PH} {r : List Int × Int} {l : List Int} (hK : KR K m h r) (hle : PH.le h h') (he : r = limK l) (hl : 12 < l.length) : K (.tup [.val (.slice none 0 0), .val (.int .i64 2)]) m h' :=
  hK.err hle (by rw [he, limK, if_neg (by omega)]; rfl)
theorem KR.ok {K : CV → MH → PH → Prop} {m : MH} {h h' : PH} {r : List Int × Int} {l : List Int} {sl : Sl} (hK : KR K m h r) (hle : PH.le h h') (he : r = limK l) (hl : l.length ≤ 12) (hi : RowIn h' sl 1 (l.map eI)) : K (.tup [.val (.slice sl.a sl.len sl.cap), .val (.int .i64 0)]) m h' := by
  rw [he, limK, if_pos hl] at hK
  exact hK sl h' hle ⟨hi, by show l.length ≤ 17592186044416; omega⟩
theorem f75_ok {sc : SchV} {p : Sl} {v : QV} {a b : Sl} {s : Sch} {ps : List Int} {q : Query} {la lb : List Int} {m : MH} {h : PH} {K : CV → MH → PH → Prop} (hs : RepS h s sc) (h8 : small8 s) (hp : Ints h p ps) (hq : RepQ h q v) (ha : Ints h a la) (hb : Ints h b lb) (la12 : la.length ≤ 12) (lb12 : lb.length ≤ 12) (hK : KR K m h (nodeR s ps q la lb)) : f75_nice sc p v a b m h K := by
  have hqr := hq
  obtain ⟨op, ta, w, co, on, gr, od, li, args⟩ := q
  have x := hq.parts
  have e0 := x.op_
  have e1 := x.table_
  have e2 := x.limit_
  have hsl := hs.tables.slen
  have hal := ha.slen
  have hcl := x.columns_.slen
  have hclen := x.columns_.len
  subst e0 e1 e2
  refine ⟨v.op, rfl, branch_dec (fun h1 => hK.err (.refl _) ?_) (fun h1 => ⟨v, _, rfl, hqr, fun r hr => branch_intro (fun h2 => hK.err (.refl _) ?_) (fun h2 => ?_)⟩)⟩
  · unfold nodeR; rw [if_pos (.inl h1)]
  · unfold nodeR; rw [if_pos (.inr fun e => by rw [hr.2 e] at h2; cases h2)]
  have hu : UnusedOk (.mk v.op v.table w co on gr od v.limit args) := hr.1 (by simpa using h2)
  unfold nodeR at hK
  rw [if_neg (fun e => e.elim h1 (fun e => e hu))] at hK
  dsimp only at hK
  clear hr h2
  refine ⟨la.map eI, rowsOk_ints _, ha.row, by simp; omega, by simp; omega, branch_intro (fun c1 => ?_) (fun c1 => branch_intro (fun c2 => ?_) (fun c2 => branch_intro (fun c3 => ?_) (fun c3 => branch_intro (fun c4 => ?_) (fun c4 => branch_intro (fun c5 => ?_) (fun c5 => branch_intro (fun c6 => ?_) (fun c6 => ?_))))))⟩
  · rw [beq_iff_eq] at c1
    rw [if_pos c1] at hK
    refine branch_dec (fun d1 => hK.err (.refl _) (if_neg (by omega))) (fun d1 => branch_dec (fun d2 => hK.err (.refl _) (if_neg (by omega))) (fun d2 => ⟨sc, s, v.table, rfl, hs, h8, fun sl h' hle hi => ?_⟩))
    rw [if_pos (by omega)] at hK
    have := hi.slen
    exact branch_dec (fun d3 => hK.big hle rfl (by omega)) (fun d3 => hK.ok hle rfl (by omega) hi.row)
  · rw [beq_eq_false_iff_ne] at c1
    rw [beq_iff_eq] at c2
    rw [if_neg c1, if_pos c2] at hK
    refine ⟨a, p, v.where_, la, ps, w, rfl, ha, hp, x.where_, branch_intro (fun d1 => hK.err (.refl _) (if_neg (by simpa using d1))) (fun d1 => ?_)⟩
    rw [if_pos (by simpa using d1)] at hK
    exact branch_dec (fun d3 => hK.big (.refl _) rfl (by simp at d3; omega)) (fun d3 sl h' hle hi => hK.ok hle rfl (by omega) hi)
  · rw [beq_eq_false_iff_ne] at c1 c2
    rw [beq_iff_eq] at c3
    rw [if_neg c1, if_neg c2, if_pos c3] at hK
    refine branch_intro (fun d1 => hK.err (.refl _) (if_neg fun e => e.1 ((len0 hcl).1 d1))) (fun d1 => ?_)
    have hne : co ≠ [] := fun e => by rw [(len0 hcl).2 e] at d1; cases d1
    refine ⟨fun ⟨i, a', co', l, hx⟩ => a' = a ∧ co' = v.columns ∧ hx = h ∧ i ≤ co.length ∧ l = (co.take i).map (fun c => la.getD c.toNat 0) ∧ GoodUpto (fun _ c => inL la c = true) co i, fun ⟨i, _, _, _, _⟩ => co.length - i, ⟨(0, a, v.columns, [], h), ⟨rfl, rfl, rfl, by omega, by simp, .zero⟩, MT⟩, ?_⟩
    rintro ⟨i, a, _, l, h⟩ ⟨rfl, rfl, rfl, hi, rfl, hg⟩
    dsimp only
    refine branch_dec (fun hlt => ?_) (fun hge => ?_)
    · obtain ⟨c, hc⟩ := getx hcl hlt
      obtain ⟨b1, o1, ea1, r1⟩ := x.columns_.at' hc
      refine ⟨b1, o1, ea1, by omega, hlt, c, .imm r1, a, la, c, rfl, ha, branch_intro (fun d2 => hK.err (.refl _) (if_neg fun e => ?_)) (fun d2 => ?_)⟩
      · have := e.2 i c hc; rw [this] at d2; cases d2
      have d2 : inL la c = true := by simpa using d2
      have d3 := inL_iff.1 d2
      obtain ⟨b2, o2, ea2, r2⟩ := ha.inb d3.1 d3.2
      refine ⟨b2, o2, ea2, by omega, by omega, _, .imm r2, ?_, ?_, (i + 1, a, v.columns, (co.take (i + 1)).map (fun c => la.getD c.toNat 0), h), ⟨rfl, rfl, rfl, by omega, rfl, hg.succ hc d2⟩, by show co.length - (i + 1) < co.length - i; omega, ?_⟩
      · simp; omega
      · simp; omega
      · rw [map_take_succ hc, List.map_append]
        exact MT
    · rw [if_pos ⟨hne, hg.all (by omega)⟩] at hK
      rw [List.take_of_length_le (by omega)]
      exact branch_dec (fun d3 => hK.big (.refl _) rfl (by simp at d3 ⊢; omega)) (fun d3 sl h' hle hi => hK.ok hle rfl (by simp at d3 ⊢; omega) hi)
  · rw [beq_eq_false_iff_ne] at c1 c2 c3
    have c4' := beq_iff_eq.1 c4
    rw [if_neg c1, if_neg c2, if_neg c3, if_pos c4'] at hK
    refine ⟨v.on, a, b, on, la, lb, rfl, x.on_, ha, hb, fun r hr => branch_intro (fun d1 => hK.err (.refl _) (if_neg fun e => ?_)) (fun d1 => branch_intro (fun _ => ⟨lb.map eI, rowsOk_ints _, hb.row, by simp; omega, by simp; omega, ?_⟩) (fun d2 => ?_))⟩
    · rw [hr.2 e] at d1; cases d1
    · rw [if_pos (hr.1 (by simpa using d1))] at hK
      rw [← List.map_append]
      exact branch_dec (fun d3 => hK.big (.refl _) rfl (by simp at d3 ⊢; omega)) (fun d3 sl h' hle hi => hK.ok hle rfl (by simp at d3 ⊢; omega) hi)
    · rw [c4] at d2; cases d2
  · rw [beq_eq_false_iff_ne] at c1 c2 c3
    have c4' := beq_eq_false_iff_ne.1 c4
    rw [beq_iff_eq] at c5
    rw [if_neg c1, if_neg c2, if_neg c3, if_neg c4', if_pos c5] at hK
    refine ⟨v.on, a, b, on, la, lb, rfl, x.on_, ha, hb, fun r hr => branch_intro (fun d1 => hK.err (.refl _) (if_neg fun e => ?_)) (fun d1 => branch_intro (fun d2 => ?_) (fun d2 => ?_))⟩
    · rw [hr.2 e] at d1; cases d1
    · rw [c4] at d2; cases d2
    · rw [if_pos (hr.1 (by simpa using d1))] at hK
      exact branch_dec (fun d3 => hK.big (.refl _) rfl (by simp at d3; omega)) (fun d3 sl h' hle hi => hK.ok hle rfl (by omega) hi)
  · rw [beq_eq_false_iff_ne] at c1 c2 c3 c4 c5
    rw [beq_iff_eq] at c6
    rw [if_neg c1, if_neg c2, if_neg c3, if_neg c4, if_neg c5, if_pos c6] at hK
    refine ⟨v, a, gr, od, la, rfl, x.group_, x.order_, ha, fun r hr => branch_intro (fun d1 => hK.err (.refl _) (if_neg fun e => ?_)) (fun d1 => ?_)⟩
    · rw [hr.2 e] at d1; cases d1
    rw [if_pos (hr.1 (by simpa using d1))] at hK
    exact branch_dec (fun d3 => hK.big (.refl _) rfl (by simp at d3; omega)) (fun d3 sl h' hle hi => hK.ok hle rfl (by omega) hi)
  · rw [beq_eq_false_iff_ne] at c1 c2 c3 c4 c5 c6
    rw [if_neg c1, if_neg c2, if_neg c3, if_neg c4, if_neg c5, if_neg c6] at hK
    refine ⟨a, b, la, lb, rfl, ha, hb, fun r hr => branch_intro (fun d1 => hK.err (.refl _) ?_) (fun d1 => branch_intro (fun d2 => ⟨v, a, gr, od, la, rfl, x.group_, x.order_, ha, fun r2 hr2 => branch_intro (fun d4 => hK.err (.refl _) ?_) (fun d4 => ?_)⟩) (fun d2 => ?_))⟩
    · have hne : ¬ la = lb := fun e => by rw [hr.2 e] at d1; cases d1
      by_cases h10 : v.op = 10
      · rw [if_pos h10, if_neg (fun e => hne e.1)]
      · rw [if_neg h10, if_neg hne]
    · rw [beq_iff_eq] at d2
      rw [if_pos d2, if_neg fun e => by rw [hr2.2 e.2] at d4; cases d4]
    · rw [beq_iff_eq] at d2
      rw [if_pos d2, if_pos ⟨hr.1 (by simpa using d1), hr2.1 (by simpa using d4)⟩] at hK
      exact branch_dec (fun d3 => hK.big (.refl _) rfl (by simp at d3; omega)) (fun d3 sl h' hle hi => hK.ok hle rfl (by omega) hi)
    · rw [beq_eq_false_iff_ne] at d2
      rw [if_neg d2, if_pos (hr.1 (by simpa using d1))] at hK
      exact branch_dec (fun d3 => hK.big (.refl _) rfl (by simp at d3; omega)) (fun d3 sl h' hle hi => hK.ok hle rfl (by omega) hi)
theorem f75_sound : Sound Tryz.prog 75 NodeS := by
  refine fn_sound (fn := Tryz.f75) (c := bodyOf Tryz.f75) Tryz.func75 rfl (by decide) ?_
  rintro cvs m h K ⟨sc, p, v, a, b, s, ps, q, la, lb, rfl, hs, h8, hp, hq, ha, hb, h1, h2, hK⟩
  refine ⟨f75_ctx m, rfl, specs_cons f48_sound (specs_cons f102_sound (specs_cons f52_sound (specs_cons f57_sound (specs_cons f103_sound (specs_cons f104_sound (specs_cons f105_sound (specs_cons f36_sound specs_nil))))))), ?_⟩
  rw [← f75_vc sc p v a b m h K]
  exact f75_ok hs h8 hp hq ha hb h1 h2 hK
end Go.Ps
namespace Go.Ps
open Go Go.Vc Go.Proofs
mutual
noncomputable def kindsQ (s : Sch) (ps : List Int) : Query → List Int × Int
  | .mk op ta w co on gr od li args =>
    match kindsQs s ps args with
    | (ks, e) => if e = 0 then (if (ks.length : Int) = arity op then nodeR s ps (.mk op ta w co on gr od li args) (ks.getD 0 []) (ks.getD 1 []) else errK 100) else errK e
noncomputable def kindsQs (s : Sch) (ps : List Int) : List Query → List (List Int) × Int
  | [] => ([], 0)
  | q :: qs =>
    match kindsQ s ps q with
    | (k, e) => if e = 0 then (match kindsQs s ps qs with | (ks, e') => if e' = 0 then (k :: ks, 0) else ([], e')) else ([], e)
end
theorem kindsQs_ok {s : Sch} {ps : List Int} : ∀ {qs : List Query} {ks : List (List Int)}, qs.map (kindsQ s ps) = ks.map (fun k => (k, 0)) → kindsQs s ps qs = (ks, 0)
  | [], [], _ => by simp [kindsQs]
  | q :: qs, k :: ks, h => by
    simp only [List.map_cons, List.cons.injEq] at h
    simp only [kindsQs, h.1, kindsQs_ok h.2, if_true]
  | [], _ :: _, h => by simp at h
  | _ :: _, [], h => by simp at h
theorem kindsQs_err {s : Sch} {ps : List Int} {e : Int} (he : e ≠ 0) : ∀ {qs : List Query} {ks : List (List Int)} {i : Nat} {q : Query}, (qs.take i).map (kindsQ s ps) = ks.map (fun k => (k, 0)) → qs[i]? = some q → (kindsQ s ps q).2 = e → kindsQs s ps qs = ([], e)
  | [], _, _, _, _, h, _ => by simp at h
  | q :: qs, _, 0, q', _, h, h2 => by
    simp at h; subst h
    simp only [kindsQs, h2, if_neg he]
  | q :: qs, [], i + 1, _, h, _, _ => by simp at h
  | q :: qs, k :: ks, i + 1, q', h, hq, h2 => by
    simp only [List.take_succ_cons, List.map_cons, List.cons.injEq] at h
    have := kindsQs_err he h.2 (by simpa using hq) h2
    simp only [kindsQs, h.1, this, if_true, if_neg he]
/-- Every list of kinds that a node has is short. -/
theorem limK_len (l : List Int) : (limK l).1.length ≤ 12 := by unfold limK; split <;> simp_all
theorem nodeR_len (s : Sch) (ps : List Int) (q : Query) (a b : List Int) : (nodeR s ps q a b).1.length ≤ 12 := by
  obtain ⟨op, ta, w, co, on, gr, od, li, args⟩ := q
  unfold nodeR
  dsimp only
  repeat' split
  all_goals first | exact limK_len _ | (simp [errK]; done)
theorem kindsQ_len (s : Sch) (ps : List Int) (q : Query) : (kindsQ s ps q).1.length ≤ 12 := by
  obtain ⟨op, ta, w, co, on, gr, od, li, args⟩ := q
  simp only [kindsQ]
  repeat' split
  all_goals first | exact nodeR_len .. | simp [errK]
noncomputable def queryR (s : Sch) (ps : List Int) (q : Query) : List Int × Int :=
  if schErr s = 0 then (if ps.all colKind = true then (if smallQ q = true then kindsQ s ps q else errK 2) else errK 1) else errK (schErr s)
/-- Slices that hold these lists. -/
def Slices (h : PH) (ss : List Sl) (ks : List (List Int)) : Prop := ss.length = ks.length ∧ ∀ (j : Nat) s k, ss[j]? = some s → ks[j]? = some k → Ints h s k
theorem Slices.mono {h h' : PH} {ss : List Sl} {ks : List (List Int)} (x : Slices h ss ks) (le : PH.le h h') : Slices h' ss ks := ⟨x.1, fun j s k h1 h2 => (x.2 j s k h1 h2).mono le⟩
theorem Slices.snoc {h : PH} {ss : List Sl} {ks : List (List Int)} {s : Sl} {k : List Int} (x : Slices h ss ks) (hi : Ints h s k) : Slices h (ss ++ [s]) (ks ++ [k]) := by
  refine ⟨by simp [x.1], fun j s' k' h1 h2 => ?_⟩
  by_cases hj : j < ss.length
  · rw [List.getElem?_append_left hj] at h1
    rw [List.getElem?_append_left (by rw [← x.1]; exact hj)] at h2
    exact x.2 j s' k' h1 h2
  · rw [List.getElem?_append_right (by omega)] at h1
    rw [List.getElem?_append_right (by have := x.1; omega), ← x.1] at h2
    cases e : j - ss.length with
    | zero => rw [e] at h1 h2; simp at h1 h2; subst h1 h2; exact hi
    | succ n => rw [e] at h1; simp at h1
def KindsQS (N : Nat) : Vc.Spec := fun cvs m h K => ∃ sc p v s ps q, cvs = [aS sc, cS p, aQ v] ∧ RepS h s sc ∧ small8 s ∧ Ints h p ps ∧ RepQ h q v ∧ SizeOf.sizeOf q < N ∧ KR K m h (kindsQ s ps q)
def QueryCheckS : Vc.Spec := fun cvs m h K => ∃ sc p v s ps q, cvs = [aS sc, cS p, aQ v] ∧ RepS h s sc ∧ Ints h p ps ∧ RepQ h q v ∧ KR K m h (queryR s ps q)
noncomputable def f55_ctx (N : Nat) (sc : SchV) (p : Sl) (v : QV) (m : MH) : Ctx :=
  ctx2 [(55, KindsQS N), (48, ArityS), (75, NodeS)] [(3, { A := Nat × List Sl × PH, st := fun ⟨i, ss, h⟩ => mkSt 58 61 [(1, sv p), (3, .at (.ptr 3 0)), (5, .at (.ptr 5 0)), (8, .at (.lst 35)), (14, iv v.args.len), (15, iv i)] [(3, .cells 28 (sc.enc.map .val)), (5, .cells 43 (v.enc.map .val)), (35, .lst 39 1 (ss.map eS))] m h })] [] [] false
def f55_nice (N : Nat) (sc : SchV) (p : Sl) (v : QV) (m : MH) (h : PH) (K : CV → MH → PH → Prop) : Prop :=
    ∃ (I : Nat × List Sl × PH -> Prop), ∃ (mu : Nat × List Sl × PH -> Nat), (∃ (x : Nat × List Sl × PH), I x /\ eQ (sQs p) /\ eQ (sQp 3 0) /\ eQ (sQp 5 0) /\ eQ (sQl 35) /\ eQ (sQi 
    (↑v.args.len : Int)) /\ sQi 0 = sQi (↑x.1 : Int) /\ eQ (oQ 28 [aQi sc.version, aQs sc.tables]) /\ eQ (oQ 43 (List.map At.val (QV.enc v))) /\ some (Own.lst 39 1 []) = some (Own.lst 
    39 1 (List.map eS x.2.1)) /\ m = m /\ h = x.2.2 /\ True) /\ ∀ (x : Nat × List Sl × PH), I x -> branch (decide ((↑x.1 : Int) < (↑v.args.len : Int))) (∃ (b : Nat), ∃ (off : Nat), 
    v.args.a = some (Addr.mk b off none) /\ 0 <= (↑x.1 : Int) /\ (↑x.1 : Int) < (↑v.args.len : Int) /\ ∃ (y : QV), RdAt m x.2.2 b (off + (↑x.1 : Int).toNat * 21) (QV.enc y) /\ ∃ (sc_1 
    : SchV), ∃ (p_1 : Sl), ∃ (v_1 : QV), ∃ (s : Sch), ∃ (ps : List Int), ∃ (q : Query), [cQa [vQi sc.version, vQs sc.tables], cQs p, cQa (QV.enc y)] = [cQa [vQi sc_1.version, vQs 
    sc_1.tables], cQs p_1, cQa (QV.enc v_1)] /\ RepS x.2.2 s sc_1 /\ small8 s /\ Ints x.2.2 p_1 ps /\ RepQ x.2.2 q v_1 /\ SizeOf.sizeOf q < N /\ ∀ (sl : Sl) (h' : PH), x.2.2.le h' -> 
    Ints h' sl (kindsQ s ps q).1 -> branch ((kindsQ s ps q).2 != 0) (K (CV.tup [cQn, CV.val (vQi (kindsQ s ps q).2)]) m h') (((List.map eS x.2.1).length + 1) * 24 <= 140737488355328 /\ 
    (List.map eS x.2.1).length < 140737488355328 /\ ∃ (y : Nat × List Sl × PH), I y /\ mu y < mu x /\ eQ (sQs p) /\ eQ (sQp 3 0) /\ eQ (sQp 5 0) /\ eQ (sQl 35) /\ eQ (sQi (↑v.args.len 
    : Int)) /\ sQi (IntKind.i64.wrap ((↑x.1 : Int) + 1)) = sQi (↑y.1 : Int) /\ eQ (oQ 28 [aQi sc.version, aQs sc.tables]) /\ eQ (oQ 43 (List.map At.val (QV.enc v))) /\ some (Own.lst 39 
    1 (List.map eS x.2.1 ++ [[vQs sl]])) = some (Own.lst 39 1 (List.map eS y.2.1)) /\ m = m /\ h' = y.2.2 /\ True)) (∃ (op : Int), [cQi v.op] = [cQi op] /\ branch ((↑(List.map eS 
    x.2.1).length : Int) != arity op) (K (CV.tup [cQn, cQi 100]) m x.2.2) (((List.map eS x.2.1).length + 2) * 24 <= 140737488355328 /\ (List.map eS x.2.1).length + 2 <= 140737488355328 
    /\ (0 : Int) <= 0 /\ 0 < (↑(List.map eS x.2.1 ++ [[vQn], [vQn]]).length : Int) /\ ∃ (e : List Value), (List.map eS x.2.1 ++ [[vQn], [vQn]])[0]? = some e /\ ∃ (y : Sl), List.take 1 
    (List.drop 0 e) = [vQs y] /\ (0 : Int) <= 1 /\ 1 < (↑(List.map eS x.2.1 ++ [[vQn], [vQn]]).length : Int) /\ ∃ (e : List Value), (List.map eS x.2.1 ++ [[vQn], [vQn]])[1]? = some e 
    /\ ∃ (y_1 : Sl), List.take 1 (List.drop 0 e) = [vQs y_1] /\ ∃ (sc_1 : SchV), ∃ (p_1 : Sl), ∃ (v_1 : QV), ∃ (a : Sl), ∃ (b : Sl), ∃ (s : Sch), ∃ (ps : List Int), ∃ (q : Query), ∃ 
    (la : List Int), ∃ (lb : List Int), [cQa [vQi sc.version, vQs sc.tables], cQs p, cQa (QV.enc v), cQs y, cQs y_1] = [cQa [vQi sc_1.version, vQs sc_1.tables], cQs p_1, cQa (QV.enc 
    v_1), cQs a, cQs b] /\ RepS x.2.2 s sc_1 /\ small8 s /\ Ints x.2.2 p_1 ps /\ RepQ x.2.2 q v_1 /\ Ints x.2.2 a la /\ Ints x.2.2 b lb /\ la.length <= 12 /\ lb.length <= 12 /\ ∀ (sl : 
    Sl) (h' : PH), x.2.2.le h' -> Ints h' sl (nodeR s ps q la lb).1 -> K (CV.tup [cQs sl, CV.val (vQi (nodeR s ps q la lb).2)]) m h'))
theorem f55_vc (N : Nat) (sc : SchV) (p : Sl) (v : QV) (m : MH) (h : PH) (K : CV → MH → PH → Prop) : f55_nice N sc p v m h K = (fnVC (f55_ctx N sc p v m) Tryz.f55 (bodyOf Tryz.f55) (entry Tryz.f55.ntmps [aS sc, cS p, aQ v] m h) K) := by kernel_rfl
def f26_nice (N : Nat) (sc : SchV) (p : Sl) (v : QV) (m : MH) (h : PH) (K : CV → MH → PH → Prop) : Prop :=
    ∃ (v_1 : SchV), ∃ (s : Sch), [cQa [vQi sc.version, vQs sc.tables]] = [cQa [vQi v_1.version, vQs v_1.tables]] /\ RepS h s v_1 /\ branch (schErr s != 0) (K (CV.tup [cQn, cQi (schErr 
    s)]) m h) (∃ (s : Sl), ∃ (l : List Int), [cQs p] = [cQs s] /\ Ints h s l /\ branch (!l.all colKind) (K (CV.tup [cQn, cQi 1]) m h) (∃ (v_2 : QV), ∃ (p_1 : Query), [cQa (QV.enc v)] = 
    [cQa (QV.enc v_2)] /\ RepQ h p_1 v_2 /\ branch (!smallQ p_1) (K (CV.tup [cQn, cQi 2]) m h) (∃ (sc_1 : SchV), ∃ (p_2 : Sl), ∃ (v_3 : QV), ∃ (s : Sch), ∃ (ps : List Int), ∃ (q : 
    Query), [cQa [vQi sc.version, vQs sc.tables], cQs p, cQa (QV.enc v)] = [cQa [vQi sc_1.version, vQs sc_1.tables], cQs p_2, cQa (QV.enc v_3)] /\ RepS h s sc_1 /\ small8 s /\ Ints h 
    p_2 ps /\ RepQ h q v_3 /\ SizeOf.sizeOf q < N /\ ∀ (sl : Sl) (h' : PH), h.le h' -> Ints h' sl (kindsQ s ps q).1 -> K (CV.tup [cQs sl, CV.val (vQi (kindsQ s ps q).2)]) m h')))
theorem f26_vc (N : Nat) (sc : SchV) (p : Sl) (v : QV) (m : MH) (h : PH) (K : CV → MH → PH → Prop) : f26_nice N sc p v m h K = (fnVC (ctx2 [(53, SchCheckS), (54, KindsS), (19, SmallQS), (55, KindsQS N)] [] [] [] false) Tryz.f26 (bodyOf Tryz.f26) (entry Tryz.f26.ntmps [aS sc, cS p, aQ v] m h) K) := by kernel_rfl
theorem kinds_len {s : Sch} {ps : List Int} {qs : List Query} {ks : List (List Int)} (h : qs.map (kindsQ s ps) = ks.map (fun k => (k, 0))) (j : Nat) : (ks.getD j []).length ≤ 12 := by
  rw [List.getD_eq_getElem?_getD]
  cases e : ks[j]? with
  | none => simp
  | some k =>
    have h1 : (qs.map (kindsQ s ps))[j]? = some (k, 0) := by rw [h]; simp [e]
    rw [List.getElem?_map, Option.map_eq_some_iff] at h1
    obtain ⟨q, _, h2⟩ := h1
    have := kindsQ_len s ps q
    rw [h2] at this
    simpa using this
theorem Slices.pick {h : PH} {ss : List Sl} {ks : List (List Int)} (x : Slices h ss ks) (j : Nat) (hj : j < ss.length + 2) : ∃ y : Sl, (ss.map eS ++ [[.slice none 0 0], [.slice none 0 0]])[j]? = some [.slice y.a y.len y.cap] ∧ Ints h y (ks.getD j []) := by
  by_cases h1 : j < ss.length
  · refine ⟨ss[j], ?_, ?_⟩
    · rw [List.getElem?_append_left (by simpa using h1)]; simp [h1, eS]
    · have h2 : j < ks.length := by rw [← x.1]; exact h1
      rw [List.getD_eq_getElem?_getD, List.getElem?_eq_getElem h2]
      exact x.2 j _ _ (List.getElem?_eq_getElem h1) (List.getElem?_eq_getElem h2)
  · refine ⟨⟨none, 0, 0⟩, ?_, ?_⟩
    · rw [List.getElem?_append_right (by simpa using h1)]
      simp only [List.length_map]
      have : j - ss.length = 0 ∨ j - ss.length = 1 := by omega
      rcases this with e | e <;> rw [e] <;> rfl
    · rw [List.getD_eq_getElem?_getD, List.getElem?_eq_none (by have := x.1; omega)]
      exact ⟨.nil _ _, by simp⟩
theorem f55_ok {N : Nat} {sc : SchV} {p : Sl} {v : QV} {s : Sch} {ps : List Int} {q : Query} {m : MH} {h : PH} {K : CV → MH → PH → Prop} (hs : RepS h s sc) (h8 : small8 s) (hp : Ints h p ps) (hq : RepQ h q v) (hN : SizeOf.sizeOf q < N + 1) (hK : KR K m h (kindsQ s ps q)) : f55_nice N sc p v m h K := by
  have hlt := @qargs_lt q
  have hqr := hq
  obtain ⟨op, ta, w, co, on, gr, od, li, args⟩ := q
  have x := hq.parts
  have e0 := x.op_
  have hl := x.args_.slen
  have hlen := x.args_.len
  simp only [Query.args] at hlt
  simp only [kindsQ] at hK
  refine ⟨fun ⟨i, ss, hx⟩ => i ≤ args.length ∧ PH.le h hx ∧ ∃ ks, Slices hx ss ks ∧ (args.take i).map (kindsQ s ps) = ks.map (fun k => (k, 0)), fun ⟨i, _, _⟩ => args.length - i, ⟨(0, [], h), ⟨by omega, .refl _, [], ⟨rfl, fun j s k h1 => by simp at h1⟩, by simp⟩, MT⟩, ?_⟩
  rintro ⟨i, ss, hx⟩ ⟨hi, hle, ks, hS, hks⟩
  have hkl : ks.length = i := by have := congrArg List.length hks; simp at this; omega
  have hsl : ss.length = i := by rw [hS.1, hkl]
  dsimp only
  refine branch_dec (fun hlt2 => ?_) (fun hge => ?_)
  · obtain ⟨q', hq'⟩ := getx hl hlt2
    obtain ⟨b1, o1, u, ea1, r1, hru⟩ := (x.args_.mono hle).at hq'
    refine ⟨b1, o1, ea1, by omega, hlt2, u, .imm r1, sc, p, u, s, ps, q', rfl, hs.mono hle, h8, hp.mono hle, hru, ?_, fun sl h' hle' hi' => branch_intro (fun h1 => ?_) (fun h1 => ?_)⟩
    · have := hlt (List.mem_of_getElem? hq'); omega
    · have he : (kindsQ s ps q').2 ≠ 0 := by simpa using h1
      rw [kindsQs_err he hks hq' rfl] at hK
      exact hK.err (hle.trans hle') (if_neg he)
    · have he : (kindsQ s ps q').2 = 0 := by simpa using h1
      refine ⟨by simp; omega, by simp; omega, (i + 1, ss ++ [sl], h'), ⟨by omega, hle.trans hle', ks ++ [(kindsQ s ps q').1], (hS.mono hle').snoc hi', ?_⟩, by show args.length - (i + 1) < args.length - i; omega, ?_⟩
      · rw [map_take_succ hq', hks, List.map_append]
        simp only [List.map_cons, List.map_nil]
        rw [← he]
      · rw [List.map_append]; exact MT
  · rw [List.take_of_length_le (by omega)] at hks
    rw [kindsQs_ok hks] at hK
    simp only [if_true] at hK
    refine ⟨v.op, rfl, branch_intro (fun h1 => hK.err hle (if_neg fun e => ?_)) (fun h1 => ?_)⟩
    · rw [e0] at h1; simp at h1; omega
    have h1 : (ss.length : Int) = arity op := by rw [e0] at h1; simpa using h1
    rw [if_pos (by omega)] at hK
    obtain ⟨y0, hy0, i0⟩ := hS.pick 0 (by omega)
    obtain ⟨y1, hy1, i1⟩ := hS.pick 1 (by omega)
    exact ⟨by simp; omega, by simp; omega, by omega, by simp; omega, _, hy0, y0, rfl, by omega, by simp; omega, _, hy1, y1, rfl, sc, p, v, y0, y1, s, ps, _, _, _, rfl, hs.mono hle, h8, hp.mono hle, hqr.mono hle, i0, i1, kinds_len hks 0, kinds_len hks 1, fun sl h' hle' hi => hK sl h' (hle.trans hle') hi⟩
theorem f55_all : ∀ N, Sound Tryz.prog 55 (KindsQS N)
  | 0 => by
    refine fn_sound (fn := Tryz.f55) (c := bodyOf Tryz.f55) Tryz.func55 rfl (by decide) ?_
    rintro cvs m h K ⟨sc, p, v, s, ps, q, rfl, _, _, _, _, hN, _⟩
    omega
  | N + 1 => by
    refine fn_sound (fn := Tryz.f55) (c := bodyOf Tryz.f55) Tryz.func55 rfl (by decide) ?_
    rintro cvs m h K ⟨sc, p, v, s, ps, q, rfl, hs, h8, hp, hq, hN, hK⟩
    refine ⟨f55_ctx N sc p v m, rfl, specs_cons (f55_all N) (specs_cons f48_sound (specs_cons f75_sound specs_nil)), ?_⟩
    rw [← f55_vc N sc p v m h K]
    exact f55_ok hs h8 hp hq hN hK
theorem small8_of {s : Sch} (h : schErr s = 0) : small8 s := by
  have hl : SchLim s := Classical.byContradiction fun hn => by rw [schErr_lim hn] at h; cases h
  intro t ht
  obtain ⟨j, hj⟩ := List.mem_iff_getElem?.1 ht
  exact (hl.2 j t hj).1
theorem f26_ok {sc : SchV} {p : Sl} {v : QV} {s : Sch} {ps : List Int} {q : Query} {m : MH} {h : PH} {K : CV → MH → PH → Prop} (hs : RepS h s sc) (hp : Ints h p ps) (hq : RepQ h q v) (hK : KR K m h (queryR s ps q)) : f26_nice (SizeOf.sizeOf q + 1) sc p v m h K := by
  unfold queryR at hK
  refine ⟨sc, s, rfl, hs, branch_intro (fun h1 => hK.err (.refl _) (if_neg (by simpa using h1))) (fun h1 => ?_)⟩
  have h1 : schErr s = 0 := by simpa using h1
  rw [if_pos h1] at hK
  refine ⟨p, ps, rfl, hp, branch_intro (fun h2 => hK.err (.refl _) (if_neg fun e => by rw [e] at h2; cases h2)) (fun h2 => ?_)⟩
  rw [if_pos (by rw [Bool.not_eq_false'] at h2; exact h2)] at hK
  refine ⟨v, q, rfl, hq, branch_intro (fun h3 => hK.err (.refl _) (if_neg fun e => by rw [e] at h3; cases h3)) (fun h3 => ?_)⟩
  rw [if_pos (by rw [Bool.not_eq_false'] at h3; exact h3)] at hK
  exact ⟨sc, p, v, s, ps, q, rfl, hs, small8_of h1, hp, hq, by omega, hK⟩
theorem f26_sound : Sound Tryz.prog 26 QueryCheckS := by
  refine fn_sound (fn := Tryz.f26) (c := bodyOf Tryz.f26) Tryz.func26 rfl (by decide) ?_
  rintro cvs m h K ⟨sc, p, v, s, ps, q, rfl, hs, hp, hq, hK⟩
  refine ⟨ctx2 [(53, SchCheckS), (54, KindsS), (19, SmallQS), (55, KindsQS (SizeOf.sizeOf q + 1))] [] [] [] false, rfl, specs_cons f53_sound (specs_cons f54_sound (specs_cons f19_sound (specs_cons (f55_all _) specs_nil))), ?_⟩
  rw [← f26_vc (SizeOf.sizeOf q + 1) sc p v m h K]
  exact f26_ok hs hp hq hK
end Go.Ps
