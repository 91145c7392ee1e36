/-
  Part 2 of a proof that a law of the given program returns true: a condition generator that is proved sound, and contracts of functions. No condition of its own. Own work, joined by a program (pack2.py).
-/
import Derived.Test.YtogokeienebdfaaGreatDoorProg
import Derived.IntWalk
import Derived.ChangeKeysEq
import Derived.Test.YtogokeienebdfaaGreatDoorMa
namespace Go.Vc
open Go
def Yd (P : Program) (ops : Array Oper) (w : World) (o : Oper) (v : Value) (a : Act) : Prop :=
 (Region.wanted o (yielded ops a.tmps) = true ∧ (execOp a.eval o).run P w = .ok (.value v) w) ∨ (Region.wanted o (yielded ops a.tmps) = false ∧ v = undef)
structure Ssa (ops : Array Oper) : Prop where
 look : ∀ (i k : Nat) (oi ok : Oper) (d : Nat), ops[i]? = some oi → ops[k]? = some ok → ok.dst = some d → d ∈ oi.looksAt ops → waits oi k = true
 dst : ∀ (i k : Nat) (oi ok : Oper) (d : Nat), ops[i]? = some oi → ops[k]? = some ok → ok.dst = some d → i ≠ k → oi.dst ≠ some d
 topo : ∀ (i : Nat) (oi : Oper) (k : Nat), ops[i]? = some oi → waits oi k = true → k < i
 sel : ∀ (j : Nat) (o : Oper) cs b, ops[j]? = some o → o.op ≠ .select cs b
theorem waits_iff {o : Oper} {k : Nat} : waits o k = true ↔ ∃ e ∈ o.after, Region.binds .any e = true ∧ e.on = k := by
 unfold waits
 rw [List.any_eq_true]
 constructor
 · rintro ⟨e, he, h⟩
   simp only [Bool.and_eq_true] at h
   exact ⟨e, by simpa using he, h.1, Nat.eq_of_beq_eq_true h.2⟩
 · rintro ⟨e, he, h1, h2⟩
   exact ⟨e, by simpa using he, by simp [h1, h2]⟩
theorem ssa_of {ops : Array Oper} (h : ssaB ops = true) (hs : Region.noSelect ops = true) : Ssa ops := by
 unfold ssaB at h
 simp only [List.all_eq_true, List.mem_range] at h
 have key : ∀ (i k : Nat) (oi ok : Oper) (d : Nat), ops[i]? = some oi → ops[k]? = some ok → ok.dst = some d →
  ((!(oi.looksAt ops).contains d || waits oi k) && (Nat.beq i k || !(oi.dst == some d))) = true := by
  intro i k oi ok d hi hk hd
  have hil : i < ops.toList.length := by have := (Array.getElem?_eq_some_iff.1 hi).1; simpa using this
  have hkl : k < ops.toList.length := by have := (Array.getElem?_eq_some_iff.1 hk).1; simpa using this
  have h1 := h i hil
  rw [nth_eq, Array.getElem?_toList, hi] at h1
  simp only [Bool.and_eq_true, List.all_eq_true, List.mem_range] at h1
  have h2 := h1.2 k hkl
  rw [nth_eq, Array.getElem?_toList, hk] at h2
  simp only [hd] at h2
  simpa using h2
 refine ⟨?_, ?_, ?_, Region.noSelect_spec hs⟩
 · intro i k oi ok d hi hk hd hl
   have := key i k oi ok d hi hk hd
   simp only [Bool.and_eq_true, Bool.or_eq_true, Bool.not_eq_true', List.contains_eq_mem, decide_eq_false_iff_not] at this
   rcases this.1 with h1 | h1
   · exact (h1 hl).elim
   · exact h1
 · intro i k oi ok d hi hk hd hne
   have := key i k oi ok d hi hk hd
   simp only [Bool.and_eq_true, Bool.or_eq_true] at this
   rcases this.2 with h1 | h1
   · exact (hne (Nat.eq_of_beq_eq_true h1)).elim
   · simpa using h1
 · intro i oi k hi hw
   have hil : i < ops.toList.length := by have := (Array.getElem?_eq_some_iff.1 hi).1; simpa using this
   have h1 := h i hil
   rw [nth_eq, Array.getElem?_toList, hi] at h1
   simp only [Bool.and_eq_true, List.all_eq_true] at h1
   obtain ⟨e, he, hb, rfl⟩ := waits_iff.1 hw
   have := h1.1 e (by simpa using he)
   simp only [hb, Bool.not_true, Bool.false_or] at this
   rw [← Nat.blt_eq]; exact this
theorem ready_iff {ops : Array Oper} {listed : Array Bool} {j : Nat} : j ∈ Region.ready .any ops listed ↔ listed.getD j true = false ∧ ∃ o, ops[j]? = some o ∧ ∀ k, waits o k = true → listed.getD k false = true := by
 rw [mem_ready]
 constructor
 · rintro ⟨h1, o, ho, h2⟩
   refine ⟨h1, o, ho, fun k hk => ?_⟩
   obtain ⟨e, he, hb, rfl⟩ := waits_iff.1 hk
   exact h2 e he hb
 · rintro ⟨h1, o, ho, h2⟩
   exact ⟨h1, o, ho, fun e he hb => h2 e.on (waits_iff.2 ⟨e, he, hb, rfl⟩)⟩
theorem getD_ft {l : Array Bool} {i : Nat} (h : l.getD i true = false) : l.getD i false = false ∧ i < l.size := by
 by_cases hi : i < l.size
 · simp [Array.getD, hi] at h ⊢; exact h
 · simp [Array.getD, hi] at h
theorem getD_set_same {l : Array Bool} {i : Nat} (h : i < l.size) : (l.setIfInBounds i true).getD i false = true := by
 simp [Array.getD, h]
theorem exec_agree {ops : Array Oper} {o : Oper} {ar ac : Act} (hs : ∀ cs b, o.op ≠ .select cs b) (h : ∀ t ∈ o.looksAt ops, ar.tmps[t]? = ac.tmps[t]?) :
 execOp ar.eval o = execOp ac.eval o ∧ Region.wanted o (yielded ops ar.tmps) = Region.wanted o (yielded ops ac.tmps) := by
 constructor
 · refine execOp_congr o hs fun x hx => ?_
   cases x with
   | tmp t =>
    have : t ∈ o.looksAt ops := List.mem_append_left _ (List.mem_filterMap.2 ⟨.tmp t, by simpa using hx, rfl⟩)
    simp only [Act.eval, Array.getD_eq_getD_getElem?, h t this]
   | const v => rfl
   | global g => rfl
   | func f => rfl
 · unfold Region.wanted
   split
   · rfl
   · rename_i j want hg
     have : yielded ops ar.tmps j = yielded ops ac.tmps j := by
      unfold yielded
      cases hd : (ops[j]?).bind (·.dst) with
      | none => rfl
      | some d =>
       have hm : d ∈ o.looksAt ops := by
        unfold Oper.looksAt
        refine List.mem_append_right _ ?_
        simp [hg, hd]
       simp only [Option.bind_some, h d hm]
     rw [this]
theorem put_get {a : Act} {d : Option Tmp} {v : Value} {t : Nat} (h : d ≠ some t) : (a.put d v).tmps[t]? = a.tmps[t]? := by
 cases d with
 | none => rfl
 | some e =>
  have : e ≠ t := fun x => h (by rw [x])
  simp [Act.put, Array.getElem?_setIfInBounds_ne this]
theorem put_put (a : Act) (d : Option Tmp) (u v : Value) : (a.put d u).put d v = a.put d v := by
 cases d with
 | none => rfl
 | some e => simp [Act.put]
structure Sim (P : Program) (ops : Array Oper) (L Cl : Array Bool) (ar ac : Act) (w : World) : Prop where
 szL : L.size = ops.size
 szC : Cl.size = ops.size
 sub : ∀ i, L.getD i false = true → Cl.getD i false = true
 rd : ∀ (i : Nat) (o : Oper), ops[i]? = some o → Cl.getD i false = true → L.getD i false = false → isRd o.op = true
 clC : ∀ (i : Nat) (o : Oper), ops[i]? = some o → Cl.getD i false = true → ∀ k, waits o k = true → Cl.getD k false = true
 tsz : ar.tmps.size = ac.tmps.size
 df : ar.defers = ac.defers
 agree : ∀ t, (∀ (i : Nat) (o : Oper), ops[i]? = some o → Cl.getD i false = true → L.getD i false = false → o.dst ≠ some t) → ar.tmps[t]? = ac.tmps[t]?
 pend : ∀ (i : Nat) (o : Oper), ops[i]? = some o → Cl.getD i false = true → L.getD i false = false → ∃ v, (∀ w'', (memOp P o = false ∨ w'' = w) → Yd P ops w'' o v ac) ∧ ac.put o.dst v = ac
section
variable {P : Program} {ops : Array Oper} {L Cl : Array Bool} {ar ac : Act} {w : World}
theorem Yd.congr {o : Oper} {v : Value} {a a' : Act} {w : World} (h : Yd P ops w o v a) (he : execOp a'.eval o = execOp a.eval o) (hw : Region.wanted o (yielded ops a'.tmps) = Region.wanted o (yielded ops a.tmps)) : Yd P ops w o v a' := by
 unfold Yd at *
 rw [he, hw]
 exact h
theorem Sim.looks (hs : Ssa ops) (h : Sim P ops L Cl ar ac w) {i : Nat} {o : Oper} (ho : ops[i]? = some o) (hr : ∀ k, waits o k = true → L.getD k false = true) : ∀ t ∈ o.looksAt ops, ar.tmps[t]? = ac.tmps[t]? := by
 intro t ht
 refine h.agree t (fun k ok hk _ hL hd => ?_)
 have := hr k (hs.look i k o ok t ho hk hd ht)
 rw [this] at hL
 cases hL
theorem Sim.stepA (h : Sim P ops L Cl ar ac w) {i : Nat} {o : Oper} (ho : ops[i]? = some o) (hC : Cl.getD i false = true) {v : Value} (hv : ac.put o.dst v = ac) :
 Sim P ops (L.setIfInBounds i true) Cl (ar.put o.dst v) ac w := by
 have hsz : i < L.size := by rw [h.szL]; exact (Array.getElem?_eq_some_iff.1 ho).1
 have hsub : ∀ k, (L.setIfInBounds i true).getD k false = false → L.getD k false = false ∧ k ≠ i := by
  intro k hk
  by_cases e : i = k
  · subst e; rw [getD_set_same hsz] at hk; cases hk
  · rw [getD_set_ne false e] at hk; exact ⟨hk, fun x => e x.symm⟩
 refine ⟨by simpa using h.szL, h.szC, ?_, fun k ok hk hCk hLk => h.rd k ok hk hCk (hsub k hLk).1, h.clC, ?_, ?_, ?_, fun k ok hk hCk hLk => h.pend k ok hk hCk (hsub k hLk).1⟩
 · intro k hk
   by_cases e : i = k
   · subst e; exact hC
   · rw [getD_set_ne false e] at hk; exact h.sub k hk
 · rw [← h.tsz]; cases o.dst <;> simp [Act.put]
 · rw [← h.df]; cases o.dst <;> rfl
 · intro t ht
   by_cases e : o.dst = some t
   · rw [e] at hv ⊢
     rw [← hv]
     simp only [Act.put, Array.getElem?_setIfInBounds_self, h.tsz]
   · rw [put_get e]
     refine h.agree t (fun k ok hk hCk hLk => ?_)
     by_cases ek : i = k
     · subst ek; rw [ho] at hk; cases hk; exact e
     · exact ht k ok hk hCk (by rw [getD_set_ne false ek]; exact hLk)
theorem Sim.take (hs : Ssa ops) (h : Sim P ops L Cl ar ac w) {k : Nat} {o : Oper} (ho : ops[k]? = some o) (hC : Cl.getD k false = false) (hr : ∀ j, waits o j = true → Cl.getD j false = true) (hrd : isRd o.op = true) {v : Value}
 (hv : ∀ w'', (memOp P o = false ∨ w'' = w) → Yd P ops w'' o v ac) : Sim P ops L (Cl.setIfInBounds k true) ar (ac.put o.dst v) w := by
 have hsz : k < Cl.size := by rw [h.szC]; exact (Array.getElem?_eq_some_iff.1 ho).1
 have hcase : ∀ j, (Cl.setIfInBounds k true).getD j false = true → j = k ∨ Cl.getD j false = true := by
  intro j hj
  by_cases e : k = j
  · exact .inl e.symm
  · rw [getD_set_ne false e] at hj; exact .inr hj
 have hLk : L.getD k false = false := by
  cases hl : L.getD k false with
  | false => rfl
  | true => rw [h.sub k hl] at hC; cases hC
 have hup : ∀ j, Cl.getD j false = true → (Cl.setIfInBounds k true).getD j false = true := by
  intro j hj
  exact getD_set_true hj
 have hnl : ∀ d, o.dst = some d → d ∉ o.looksAt ops := fun d hd hm => by
  have := hs.topo k o k ho (hs.look k k o o d ho ho hd hm)
  omega
 refine ⟨h.szL, by simpa using h.szC, fun i hi => hup i (h.sub i hi), ?_, ?_, ?_, ?_, ?_, ?_⟩
 · intro i oi hi hCi hLi
   rcases hcase i hCi with rfl | hCi
   · rw [ho] at hi; cases hi; exact hrd
   · exact h.rd i oi hi hCi hLi
 · intro i oi hi hCi j hj
   rcases hcase i hCi with rfl | hCi
   · rw [ho] at hi; cases hi; exact hup j (hr j hj)
   · exact hup j (h.clC i oi hi hCi j hj)
 · rw [h.tsz]; cases o.dst <;> simp [Act.put]
 · rw [h.df]; cases o.dst <;> rfl
 · intro t ht
   have e : o.dst ≠ some t := ht k o ho (getD_set_same hsz) hLk
   rw [put_get e]
   exact h.agree t (fun i oi hi hCi hLi => ht i oi hi (hup i hCi) hLi)
 · intro i oi hi hCi hLi
   by_cases e : i = k
   · subst e
     rw [ho] at hi
     cases hi
     refine ⟨v, fun w'' hw => (hv w'' hw).congr (execOp_put o (hs.sel i o · · ho) ac o.dst v hnl) (wanted_put o ac o.dst v hnl), put_put _ _ _ _⟩
   · have hCi' := (hcase i hCi).resolve_left e
     obtain ⟨u, hu, hpu⟩ := h.pend i oi hi hCi' hLi
     have hnl' : ∀ d, o.dst = some d → d ∉ oi.looksAt ops := fun d hd hm => by
      have := h.clC i oi hi hCi' k (hs.look i k oi o d hi ho hd hm)
      rw [this] at hC
      cases hC
     refine ⟨u, fun w'' hw => (hu w'' hw).congr (execOp_put oi (hs.sel i oi · · hi) ac o.dst v hnl') (wanted_put oi ac o.dst v hnl'), ?_⟩
     rw [Act.put_comm ac v u (fun d hd => hs.dst i k oi o d hi ho hd e), hpu]
theorem wp_transfer {o : Oper} {a1 a2 : Act} {w : World} {next1 next2 : Act → World → Prop} {Q : Exit → Act → World → Prop} (he : execOp a2.eval o = execOp a1.eval o) (h : o.wp P a1 w next1 Q)
 (hv : ∀ v w', next1 (a1.put o.dst v) w' → next2 (a2.put o.dst v) w') (hd : ∀ d w', ¬ next1 (({ a1 with defers := d :: a1.defers } : Act).put o.dst undef) w') (hQ : ∀ c a w, ¬ Q (.panic c) a w) : o.wp P a2 w next2 Q := by
 unfold Oper.wp at *
 rw [he]
 generalize (execOp a1.eval o).run P w = r at *
 cases r with
 | ok n w' =>
  cases n <;> simp only [Oper.upon] at h ⊢
  case value u => exact hv u w' h
  case skip => exact hv undef w' h
  case defer d => exact (hd d w' h).elim
  case enter f args =>
   refine Calls.mono h fun e w'' he' => ?_
   cases e with
   | returned u => exact hv u w'' he'
   | panicked c => exact (hQ _ _ _ he').elim
   | outgrown => exact he'
  case row row args => exact Rows.mono h fun u w'' he' => hv u w'' he'
 | halt x w' =>
  cases x <;> simp only [Oper.upon] at h ⊢
  case panic u => exact (hQ _ _ _ h).elim
theorem Sim.stepB (hs : Ssa ops) (h : Sim P ops L Cl ar ac w) {j : Nat} {o : Oper} (ho : ops[j]? = some o) (hC : Cl.getD j false = false) (hr : ∀ k, waits o k = true → L.getD k false = true) (u : Value) (w' : World)
 (hpend : ∀ (i : Nat) (oi : Oper) (v : Value), ops[i]? = some oi → Cl.getD i false = true → L.getD i false = false → Yd P ops w oi v ac → Yd P ops w' oi v ac ∨ memOp P oi = false) :
 Sim P ops (L.setIfInBounds j true) (Cl.setIfInBounds j true) (ar.put o.dst u) (ac.put o.dst u) w' := by
 have hszC : j < Cl.size := by rw [h.szC]; exact (Array.getElem?_eq_some_iff.1 ho).1
 have hszL : j < L.size := by rw [h.szL]; exact (Array.getElem?_eq_some_iff.1 ho).1
 have hcase : ∀ i, (Cl.setIfInBounds j true).getD i false = true → i = j ∨ Cl.getD i false = true := by
  intro i hi
  by_cases e : j = i
  · exact .inl e.symm
  · rw [getD_set_ne false e] at hi; exact .inr hi
 have hLcase : ∀ i, (L.setIfInBounds j true).getD i false = false → i ≠ j ∧ L.getD i false = false := by
  intro i hi
  by_cases e : j = i
  · subst e; rw [getD_set_same hszL] at hi; cases hi
  · rw [getD_set_ne false e] at hi; exact ⟨fun x => e x.symm, hi⟩
 have hup : ∀ i, Cl.getD i false = true → (Cl.setIfInBounds j true).getD i false = true := fun i hi => getD_set_true hi
 refine ⟨by simpa using h.szL, by simpa using h.szC, ?_, ?_, ?_, ?_, ?_, ?_, ?_⟩
 · intro i hi
   by_cases e : j = i
   · subst e; exact getD_set_same hszC
   · rw [getD_set_ne false e] at hi; exact hup i (h.sub i hi)
 · intro i oi hi hCi hLi
   obtain ⟨hne, hLi'⟩ := hLcase i hLi
   exact h.rd i oi hi ((hcase i hCi).resolve_left hne) hLi'
 · intro i oi hi hCi k hk
   rcases hcase i hCi with rfl | hCi
   · rw [ho] at hi; cases hi; exact hup k (h.sub k (hr k hk))
   · exact hup k (h.clC i oi hi hCi k hk)
 · cases o.dst <;> simp [Act.put, h.tsz]
 · have := h.df
   cases o.dst <;> exact this
 · intro t ht
   by_cases e : o.dst = some t
   · rw [e]
     simp only [Act.put, Array.getElem?_setIfInBounds_self, h.tsz]
   · rw [put_get e, put_get e]
     refine h.agree t (fun i oi hi hCi hLi => ht i oi hi (hup i hCi) ?_)
     have hne : j ≠ i := fun x => by subst x; rw [hC] at hCi; cases hCi
     rw [getD_set_ne false hne]; exact hLi
 · intro i oi hi hCi hLi
   obtain ⟨hne, hLi'⟩ := hLcase i hLi
   have hCi' := (hcase i hCi).resolve_left hne
   obtain ⟨v, hv, hpv⟩ := h.pend i oi hi hCi' hLi'
   have hnl : ∀ d, o.dst = some d → d ∉ oi.looksAt ops := fun d hd hm => by
    have := h.clC i oi hi hCi' j (hs.look i j oi o d hi ho hd hm)
    rw [this] at hC
    cases hC
   refine ⟨v, fun w'' hw => ?_, ?_⟩
   · have hy : Yd P ops w'' oi v ac := by
      rcases hw with hw | hw
      · exact hv w'' (.inl hw)
      · rw [hw]
        rcases hpend i oi v hi hCi' hLi' (hv w (.inr rfl)) with h1 | h1
        · exact h1
        · exact hv w' (.inl h1)
     exact hy.congr (execOp_put oi (hs.sel i oi · · hi) ac o.dst u hnl) (wanted_put oi ac o.dst u hnl)
   · rw [Act.put_comm ac u v (fun d hd => hs.dst i j oi o d hi ho hd hne), hpv]
end
section
variable {B : Base} {C : Ctx} {ι : Nat → Value} {σ : St} {a : Act} {w : World}
theorem stab1_split {P : Program} {fl : Bool} {σ : St} {oj oi : Oper} {K : Prop} (h : stab1 P fl σ oj oi K) : stab1 P fl σ oj oi True ∧ K := by
 unfold stab1 at h ⊢
 repeat' split at h
 all_goals first | exact h.elim | skip
 all_goals simp_all
theorem stabVC_get {P : Program} {fl : Bool} {ops : Array Oper} {listed : Array Bool} {σ : St} {oj : Oper} : ∀ (l : List Oper) (s : Nat) {K : Prop}, stabVC P fl ops listed σ oj s l K →
 K ∧ ∀ (i : Nat) (oi : Oper), l[i]? = some oi → listed.getD (s + i) false = true → isRd oi.op = true → waits oj (s + i) = false → isUndef ops σ oi = false → stab1 P fl σ oj oi True
 | [], s, K, h => ⟨h, fun i oi hi => by simp at hi⟩
 | o :: l, s, K, h => by
  have key : (stabVC P fl ops listed σ oj (s + 1) l K) ∧ (listed.getD s false = true → isRd o.op = true → waits oj s = false → isUndef ops σ o = false → stab1 P fl σ oj o True) := by
   simp only [stabVC] at h
   split at h
   · obtain ⟨h1, h2⟩ := stab1_split h
     exact ⟨h2, fun _ _ _ _ => h1⟩
   · rename_i hn
     refine ⟨h, fun h1 h2 h3 h4 => ?_⟩
     exact (hn h1 h2 h3 h4).elim
  obtain ⟨hK, ih⟩ := stabVC_get l (s + 1) key.1
  refine ⟨hK, fun i oi hi h1 h2 h3 h4 => ?_⟩
  cases i with
  | zero => simp at hi; subst hi; exact key.2 (by simpa using h1) h2 (by simpa using h3) h4
  | succ i =>
   simp only [List.getElem?_cons_succ] at hi
   exact ih i oi hi (by rw [show s + 1 + i = s + (i + 1) by omega]; exact h1) h2 (by rw [show s + 1 + i = s + (i + 1) by omega]; exact h3) h4
theorem stab2_split {σ : St} {oj oi : Oper} {τ : St} {K : Prop} (h : stab2 σ oj oi τ K) : stab2 σ oj oi τ True ∧ K := by
 unfold stab2 at h ⊢
 repeat' split at h
 all_goals simp_all
theorem stab2VC_get {ops : Array Oper} {listed : Array Bool} {σ : St} {oj : Oper} {τ : St} : ∀ (l : List Oper) (s : Nat) {K : Prop}, stab2VC ops listed σ oj τ s l K →
 K ∧ ∀ (i : Nat) (oi : Oper), l[i]? = some oi → listed.getD (s + i) false = true → isRd oi.op = true → waits oj (s + i) = false → isUndef ops σ oi = false → stab2 σ oj oi τ True
 | [], s, K, h => ⟨h, fun i oi hi => by simp at hi⟩
 | o :: l, s, K, h => by
  have key : (stab2VC ops listed σ oj τ (s + 1) l K) ∧ (listed.getD s false = true → isRd o.op = true → waits oj s = false → isUndef ops σ o = false → stab2 σ oj o τ True) := by
   simp only [stab2VC] at h
   split at h
   · obtain ⟨h1, h2⟩ := stab2_split h
     exact ⟨h2, fun _ _ _ _ => h1⟩
   · rename_i hn
     refine ⟨h, fun h1 h2 h3 h4 => ?_⟩
     exact (hn h1 h2 h3 h4).elim
  obtain ⟨hK, ih⟩ := stab2VC_get l (s + 1) key.1
  refine ⟨hK, fun i oi hi h1 h2 h3 h4 => ?_⟩
  cases i with
  | zero => simp at hi; subst hi; exact key.2 (by simpa using h1) h2 (by simpa using h3) h4
  | succ i =>
   simp only [List.getElem?_cons_succ] at hi
   exact ih i oi hi (by rw [show s + 1 + i = s + (i + 1) by omega]; exact h1) h2 (by rw [show s + 1 + i = s + (i + 1) by omega]; exact h3) h4
theorem isUndef_spec {ops : Array Oper} {oi : Oper} (hM : Models B ι σ a w) (h : isUndef ops σ oi = true) : Region.wanted oi (yielded ops a.tmps) = false := by
 unfold isUndef at h
 split at h
 · cases h
 · rename_i j want hg
   split at h
   · cases h
   · rename_i g hj
     split at h
     · cases h
     · rename_i d hd
       split at h
       · rename_i t ht
         rw [wanted_of hg hj hd (tmps_of_ev hM ht)]
         split at h
         · rfl
         · rfl
         · cases h
       · rename_i xs ht
         exact wanted_undef hg hj hd (tmps_undef hM ht)
       · cases h
theorem argsApart_spec (hM : Models B ι σ a w) {k : Nat} {ow : Own} (hown : nth σ.own k = some (some ow)) {b : Nat} (hb : blk (ι k) = some b) : ∀ {l : List Operand}, argsApart σ k l = true → ∀ x ∈ l, ∀ j, (σ.ev x = .at (.lst j) ∨ ∃ off, σ.ev x = .at (.ptr j off)) → blk (ι j) ≠ some b
 | [], _, x, hx => by cases hx
 | y :: r, h, x, hx => by
  simp only [argsApart, Bool.and_eq_true] at h
  rcases List.mem_cons.1 hx with rfl | hx
  · intro j hj hbj
    have h1 := h.1
    rcases hj with hj | ⟨off, hj⟩
    all_goals
     simp only [hj] at h1
     split at h1
     · rename_i o' ho'
       have := hM.dist j k _ _ b ho' hown hbj hb
       subst this
       simp at h1
     · cases h1
  · exact argsApart_spec hM hown hb h.2 x hx
theorem persist {ops : Array Oper} {fl : Bool} {oj oi : Oper} {v : Value} {w' : World} (hM : Models B ι σ a w) (hk : Keep σ ι oj w w') (hst : stab1 C.P fl σ oj oi True) (hpost : fl = true → ∃ τ : St, WRel B τ.m τ.h w' ∧ stab2 σ oj oi τ True) (hy : Yd C.P ops w oi v a) : Yd C.P ops w' oi v a ∨ memOp C.P oi = false := by
 unfold stab1 at hst
 split at hst
 · rename_i hm; exact .inr hm
 · left
   rcases hy with ⟨hw, hrun⟩ | hy
   · left
     refine ⟨hw, ?_⟩
     split at hst
     · rename_i T x hop
       split at hst
       · exact hst.elim
       · rename_i hT
         have hev := hM.ev x
         have gen : ∀ (b off : Nat) (cs : List Value), a.eval x = .pointer (some ⟨b, off, none⟩) → cs.length = C.P.cellsOf T → (∀ j u, cs[j]? = some u → w.cell? ⟨b, off + j, none⟩ = some u) → (∀ j u, cs[j]? = some u → w'.cell? ⟨b, off + j, none⟩ = some u) →
          (execOp a.eval oi).run C.P w' = .ok (.value v) w' := by
          intro b off cs hx hl hc hc'
          have h1 := run_loadVar hT hl hc
          have h2 := run_loadVar hT hl hc'
          have e1 : (execOp a.eval oi).run C.P w = .ok (.value (mkV C.P T cs)) w := by
           unfold execOp
           simp only [hop, hx, Instr.loadAt, Instr.sureAddr, Sem.run_bind, Sem.run_pure, Result.andThen_ok, h1]
          have e2 : (execOp a.eval oi).run C.P w' = .ok (.value (mkV C.P T cs)) w' := by
           unfold execOp
           simp only [hop, hx, Instr.loadAt, Instr.sureAddr, Sem.run_bind, Sem.run_pure, Result.andThen_ok, h2]
          rw [e1] at hrun
          simp only [Result.ok.injEq, Next.value.injEq, and_true] at hrun
          rw [e2, hrun]
         split at hst
         · rename_i k off hx
           rw [hx] at hev
           split at hst
           · rename_i T' cs hown
             split at hst
             · rename_i ht hle
               have hle := Nat.le_of_ble_eq_true hle
               obtain ⟨b, vs, hι, hh, hdc⟩ := own_cells hM hown
               obtain ⟨b', hb', hpt⟩ := hev
               rw [hι] at hb'
               simp only [Value.pointer.injEq, Option.some.injEq, Addr.mk.injEq] at hb'
               obtain ⟨rfl, -, -⟩ := hb'
               have hh' := hk.cells k T' cs b hown ht hι
               rw [hh] at hh'
               have hvs : cs.length = vs.toList.length := hdc.length
               refine gen b off ((vs.toList.drop off).take (C.P.cellsOf T)) hpt (by simp at hvs ⊢; omega) (fun j u hu => ?_) (fun j u hu => ?_)
               · rw [cell_of_heap hh]; exact sub_cells hu
               · rw [cell_of_heap hh']; exact sub_cells hu
             · exact hst.elim
           · exact hst.elim
         · rename_i b off d hx hd
           rw [hx] at hev
           have hev : a.eval x = .pointer (some ⟨b, off, none⟩) := hev
           split at hst
           · rename_i cs hcs
             split at hst
             · rename_i l hl
               split at hst
               · rename_i hlen
                 split at hst
                 · rename_i hgr
                   have hc := rdAt_cells hM.wrel hst.1
                   refine gen b off l hev (Nat.eq_of_beq_eq_true hlen) hc (fun j u hu => ?_)
                   have h1 := hc j u hu
                   cases hgr2 : grows oj.op with
                   | false =>
                    rw [hgr2, Bool.false_or] at hgr
                    obtain ⟨τ, hwτ, h2⟩ := hpost hgr
                    unfold stab2 at h2
                    simp only [hop, hx, hd, hcs, hl, hgr2] at h2
                    exact rdAt_cells hwτ h2.1 j u hu
                   | true =>
                   have hgr := hgr2
                   rw [← h1]
                   exact World.cell?_of_block (w := w) (w' := w') (a := ⟨b, off + j, none⟩) (hk.ext hgr b (World.block_lt_of_cell? w ⟨b, off + j, none⟩ h1))
                 · refine gen b off l hev (Nat.eq_of_beq_eq_true hlen) (fun j u hu => hM.wrel.hsat _ _ _ (hst.1.rd j u hu)) (fun j u hu => hk.imm _ _ _ (hst.1.rd j u hu))
               · exact hst.elim
             · exact hst.elim
           · exact hst.elim
         · rename_i k i sz off d hx hd
           rw [hx] at hev
           split at hst
           · rename_i E' s xs cs hown hcs
             split at hst
             · rename_i l hl hs hap
               have hs := Nat.eq_of_beq_eq_true hs
               subst hs
               split at hst
               · rename_i hlen
                 obtain ⟨e, he, hel⟩ := hst.1
                 obtain ⟨hrows, hrow⟩ := own_lst hM hown
                 obtain ⟨b, n, c, hι, hp⟩ := hev
                 have blkSame : ∀ b, blk (ι k) = some b → w'.heap[b]? = w.heap[b]? := by
                  intro b hb
                  have hlt := blk_lt (hM.own k _ hown) hb
                  unfold apartB at hap
                  rw [Bool.or_eq_true] at hap
                  rcases hap with hap | hap
                  · exact hk.ext hap b hlt
                  · split at hap
                    · rename_i l hl
                      refine hk.args l b hl hlt (hM.fresh k _ b hown hb).2.1 ?_
                      exact argsApart_spec hM hown hb hap
                    · cases hap
                 have hrow' : w'.ownsRow 0 E' s (ι k) xs.length xs.flatten := ((hM.own k _ hown).world (fun b hb => blkSame b hb)).2
                 have rd : ∀ w1 : World, w1.ownsRow 0 E' s (ι k) xs.length xs.flatten → ∀ j u, l[j]? = some u → w1.cell? ⟨b, i * s + off + j, none⟩ = some u := by
                  intro w1 h1 j u hu
                  rw [← hel] at hu
                  have hv' := sub_cells hu
                  have hf := flatten_get hrows.len he _ _ hv'
                  have := h1.cells (g := b) (by rw [hι]; rfl) _ _ hf
                  rw [Addr.add_none] at this
                  rw [← this]
                  congr 1
                  simp only [Addr.mk.injEq, and_true, true_and]
                  omega
                 exact gen b (i * s + off) l hp (Nat.eq_of_beq_eq_true hlen) (rd w hrow) (rd w' hrow')
               · exact hst.elim
             · exact hst.elim
           · exact hst.elim
         · exact hst.elim
     · rename_i src dst x hop
       have hev := hM.ev x
       split at hst
       · rename_i k d hx hd
         rw [hx] at hev
         have hev : a.eval x = ι k := hev
         split at hst
         · rename_i E' sz xs s hown hs
           split at hst
           · rename_i E hsrc hdst
             split at hst
             · rename_i hE
               split at hst
               · rename_i hap
                 have hxs := hst.1
                 obtain ⟨hrows, hrow⟩ := own_lst hM hown
                 have hbl : xs = bytesVal s.data.toList := hxs
                 have blkSame : ∀ b, blk (ι k) = some b → w'.heap[b]? = w.heap[b]? := by
                  intro b hb
                  have hlt := blk_lt (hM.own k _ hown) hb
                  unfold apartB at hap
                  rw [Bool.or_eq_true] at hap
                  rcases hap with hap | hap
                  · exact hk.ext hap b hlt
                  · split at hap
                    · rename_i l hl
                      refine hk.args l b hl hlt (hM.fresh k _ b hown hb).2.1 ?_
                      exact argsApart_spec hM hown hb hap
                    · cases hap
                 have hrow' : w'.ownsRow 0 E' sz (ι k) xs.length xs.flatten := ((hM.own k _ hown).world (fun b hb => blkSame b hb)).2
                 have go : ∀ w1 : World, w1.ownsRow 0 E' sz (ι k) xs.length xs.flatten → (execOp a.eval oi).run C.P w1 = .ok (.value (.string ⟨s.data.toList.toArray⟩)) w1 := by
                  intro w1 h1
                  subst hbl
                  exact run_convert_own hop hsrc hE hdst hev h1
                 rw [go w hrow] at hrun
                 rw [go w' hrow']
                 simp only [Result.ok.injEq, Next.value.injEq, and_true] at hrun
                 rw [hrun]
               · exact hst.elim
             · exact hst.elim
           · exact hst.elim
         · exact hst.elim
       · exact hst.elim
     · exact hst.elim
   · exact .inr hy
theorem allVC_get {g : Nat → Prop} : ∀ {l : List Nat}, allVC g l → ∀ j ∈ l, g j
 | [], _, j, hj => by cases hj
 | [i], h, j, hj => by simp at hj; subst hj; exact h
 | i :: k :: r, h, j, hj => by
  rcases List.mem_cons.1 hj with rfl | hj
  · exact h.1
  · exact allVC_get h.2 j hj
theorem firstRd_some {ops : Array Oper} : ∀ {l : List Nat} {i : Nat} {o : Oper}, firstRd ops l = some (i, o) → i ∈ l ∧ ops[i]? = some o ∧ isRd o.op = true
 | [], i, o, h => by simp [firstRd] at h
 | k :: r, i, o, h => by
  simp only [firstRd] at h
  split at h
  · rename_i ok hok
    split at h
    · rename_i hr
      simp only [Option.some.injEq, Prod.mk.injEq] at h
      obtain ⟨rfl, rfl⟩ := h
      rw [nth_eq, Array.getElem?_toList] at hok
      exact ⟨List.mem_cons_self, hok, hr⟩
    · obtain ⟨h1, h2⟩ := firstRd_some h
      exact ⟨List.mem_cons_of_mem _ h1, h2⟩
  · obtain ⟨h1, h2⟩ := firstRd_some h
    exact ⟨List.mem_cons_of_mem _ h1, h2⟩
def unlisted (ops : Array Oper) (L : Array Bool) : Nat := ((List.range ops.size).filter fun i => !L.getD i false).length
theorem unlisted_set {ops : Array Oper} {L : Array Bool} {i : Nat} (hsz : L.size = ops.size) (hi : i < ops.size) (hL : L.getD i false = false) : unlisted ops (L.setIfInBounds i true) + 1 = unlisted ops L := by
 unfold unlisted
 have key : ∀ (l : List Nat), l.Nodup → (l.filter fun j => !(L.setIfInBounds i true).getD j false).length + (if i ∈ l then 1 else 0) = (l.filter fun j => !L.getD j false).length := by
  intro l
  induction l with
  | nil => intro _; simp
  | cons j r ih =>
   intro hnd
   have hnd' := List.nodup_cons.1 hnd
   have := ih hnd'.2
   by_cases e : i = j
   · subst e
     have h1 : (L.setIfInBounds i true).getD i false = true := getD_set_same (by omega)
     have h2 : i ∉ r := hnd'.1
     simp only [List.filter_cons, h1, hL, Bool.not_true, Bool.not_false, if_true, Bool.false_eq_true, if_false, List.length_cons, List.mem_cons_self]
     simp only [h2, if_false] at this
     omega
   · have h1 : (L.setIfInBounds i true).getD j false = L.getD j false := getD_set_ne false e
     have h2 : (i ∈ j :: r) ↔ i ∈ r := by simp [e]
     simp only [List.filter_cons, h1]
     split
     · simp only [List.length_cons, h2]; omega
     · simp only [h2]; exact this
 have := key (List.range ops.size) List.nodup_range
 rw [if_pos (List.mem_range.2 hi)] at this
 exact this
theorem all_of_ready_nil {ops : Array Oper} {L : Array Bool} (hs : Ssa ops) (hsz : L.size = ops.size) (h : Region.ready .any ops L = []) : ∀ i, i < ops.size → L.getD i false = true := by
 intro i
 induction i using Nat.strongRecOn with
 | _ i ih =>
  intro hi
  cases hL : L.getD i false with
  | true => rfl
  | false =>
   exfalso
   have ho : ops[i]? = some ops[i] := Array.getElem?_eq_getElem hi
   have : i ∈ Region.ready .any ops L := by
    rw [ready_iff]
    refine ⟨?_, _, ho, fun k hk => ih k (hs.topo i _ k ho hk) (Nat.lt_trans (hs.topo i _ k ho hk) hi)⟩
    have hiL : i < L.size := by omega
    simp [Array.getD, hiL] at hL ⊢
    exact hL
   rw [h] at this
   cases this
theorem ready_nil_of_all {ops : Array Oper} {L : Array Bool} (h : ∀ i, i < ops.size → L.getD i false = true) : Region.ready .any ops L = [] := by
 cases hr : Region.ready .any ops L with
 | nil => rfl
 | cons i r =>
  exfalso
  have : i ∈ Region.ready .any ops L := by rw [hr]; exact List.mem_cons_self
  obtain ⟨h1, o, ho, _⟩ := ready_iff.1 this
  have hi := (Array.getElem?_eq_some_iff.1 ho).1
  have := h i hi
  rw [(getD_ft h1).1] at this
  cases this
theorem Sim.eq_of_all {P : Program} {ops : Array Oper} {L Cl : Array Bool} {ar ac : Act} (h : Sim P ops L Cl ar ac w) (hall : ∀ i, i < ops.size → L.getD i false = true) : ar = ac := by
 have ht : ar.tmps = ac.tmps := by
  apply Array.ext_getElem?
  intro t
  refine h.agree t (fun i o ho _ hL => ?_)
  have := hall i (Array.getElem?_eq_some_iff.1 ho).1
  rw [hL] at this; cases this
 have hd := h.df
 cases ar; cases ac
 simp at ht hd
 rw [ht, hd]
theorem anyVC_nil {ops : Array Oper} {R : St → Prop} {n : Nat} {Cl : Array Bool} (h : anyVC C ops n Cl σ R) (hr : Region.ready .any ops Cl = []) : R σ := by
 cases n <;> simp only [anyVC, hr] at h <;> exact h
theorem againRd_get {ops : Array Oper} {listed : Array Bool} {σ : St} {oj : Oper} {τ : St} {K : Prop} (h : againRd C ops listed σ oj τ K) :
 (againB C = true → ∀ (i : Nat) (oi : Oper), ops.toList[i]? = some oi → listed.getD (0 + i) false = true → isRd oi.op = true → waits oj (0 + i) = false → isUndef ops σ oi = false → stab2 σ oj oi τ True) ∧ K := by
 unfold againRd at h
 split at h
 · rename_i e
   obtain ⟨h1, h2⟩ := stab2VC_get _ 0 h
   exact ⟨fun _ => h2, h1⟩
 · rename_i e
   refine ⟨fun e2 => ?_, h⟩
   rw [e] at e2
   cases e2
theorem any_sound (hspecs : ∀ g S, assoc C.specs g = some S → Sound C.P g S) {ops : Array Oper} (hs : Ssa ops) {Q : Exit → Act → World → Prop} {R : St → Prop} (hQ : ∀ ι σ a w, Models B ι σ a w → R σ → Q .normal a w)
 (hQp : ∀ c a w, ¬ Q (.panic c) a w) :
 ∀ (n : Nat) (fuel : Nat) (Cl : Array Bool) (ι : Nat → Value) (σ : St) (ac : Act) (w : World), Models B ι σ ac w → anyVC C ops n Cl σ R → ∀ (L : Array Bool) (ar : Act), Sim C.P ops L Cl ar ac w → unlisted ops L = fuel →
  wpAny C.P .any ops Q fuel L ar w := by
 have fin : ∀ (n : Nat) (Cl : Array Bool) (ι : Nat → Value) (σ : St) (ac : Act) (w : World), Models B ι σ ac w → anyVC C ops n Cl σ R → ∀ (L : Array Bool) (ar : Act), Sim C.P ops L Cl ar ac w → Region.ready .any ops L = [] → Q .normal ar w := by
  intro n Cl ι σ ac w hM h L ar sim hr
  have hall := all_of_ready_nil hs sim.szL hr
  rw [sim.eq_of_all hall]
  exact hQ ι σ ac w hM (anyVC_nil h (ready_nil_of_all (fun i hi => sim.sub i (hall i hi))))
 have zero : ∀ (n : Nat) (Cl : Array Bool) (ι : Nat → Value) (σ : St) (ac : Act) (w : World), Models B ι σ ac w → anyVC C ops n Cl σ R → ∀ (L : Array Bool) (ar : Act), Sim C.P ops L Cl ar ac w → unlisted ops L = 0 → wpAny C.P .any ops Q 0 L ar w := by
  intro n Cl ι σ ac w hM h L ar sim hf
  have hall : ∀ i, i < ops.size → L.getD i false = true := by
   intro i hi
   unfold unlisted at hf
   have hnil := List.eq_nil_of_length_eq_zero hf
   cases hL : L.getD i false with
   | true => rfl
   | false =>
    have : i ∈ (List.range ops.size).filter fun i => !L.getD i false := List.mem_filter.2 ⟨List.mem_range.2 hi, by simp [hL]⟩
    rw [hnil] at this; cases this
  have hr := ready_nil_of_all hall
  exact ⟨hr, fin n Cl ι σ ac w hM h L ar sim hr⟩
 have stepP : ∀ (n fuel : Nat), (∀ (Cl : Array Bool) (ι : Nat → Value) (σ : St) (ac : Act) (w : World), Models B ι σ ac w → anyVC C ops n Cl σ R → ∀ (L : Array Bool) (ar : Act), Sim C.P ops L Cl ar ac w → unlisted ops L = fuel → wpAny C.P .any ops Q fuel L ar w) →
  ∀ (Cl : Array Bool) (ι : Nat → Value) (σ : St) (ac : Act) (w : World), Models B ι σ ac w → anyVC C ops n Cl σ R → ∀ (L : Array Bool) (ar : Act), Sim C.P ops L Cl ar ac w → unlisted ops L = fuel + 1 →
   ∀ i ∈ Region.ready .any ops L, Cl.getD i false = true → wpOp C.P ops Q i (wpAny C.P .any ops Q fuel (L.setIfInBounds i true)) ar w := by
  intro n fuel ih Cl ι σ ac w hM h L ar sim hf i hi hC
  obtain ⟨hun, o, ho, hw⟩ := ready_iff.1 hi
  obtain ⟨hL, hlt⟩ := getD_ft hun
  obtain ⟨v, hv, hpv⟩ := sim.pend i o ho hC hL
  obtain ⟨he, hwe⟩ := exec_agree (hs.sel i o · · ho) (sim.looks hs ho hw)
  have hy : Yd C.P ops w o v ar := (hv w (.inr rfl)).congr he hwe
  have hnext : wpAny C.P .any ops Q fuel (L.setIfInBounds i true) (ar.put o.dst v) w :=
   ih Cl ι σ ac w hM h _ _ (sim.stepA ho hC hpv) (by have := unlisted_set sim.szL (by have := sim.szL; omega) hL; omega)
  unfold wpOp
  simp only [ho]
  rcases hy with ⟨hwt, hrun⟩ | ⟨hwt, rfl⟩
  · rw [if_pos hwt]
    left
    unfold Oper.wp
    rw [hrun, Oper.upon_value]
    exact hnext
  · rw [if_neg (by simp [hwt])]
    exact hnext
 intro n
 induction n with
 | zero =>
  intro fuel
  induction fuel with
  | zero => exact zero 0
  | succ fuel ihf =>
   intro Cl ι σ ac w hM h L ar sim hf
   refine ⟨fin 0 Cl ι σ ac w hM h L ar sim, fun i hi => ?_⟩
   cases hC : Cl.getD i false with
   | true => exact stepP 0 fuel ihf Cl ι σ ac w hM h L ar sim hf i hi hC
   | false =>
    exfalso
    obtain ⟨hun, o, ho, hw⟩ := ready_iff.1 hi
    have hiC : i ∈ Region.ready .any ops Cl := by
     rw [ready_iff]
     refine ⟨?_, o, ho, fun k hk => sim.sub k (hw k hk)⟩
     have : i < Cl.size := by rw [sim.szC]; exact (Array.getElem?_eq_some_iff.1 ho).1
     simp [Array.getD, this] at hC ⊢
     exact hC
    simp only [anyVC] at h
    split at h
    · rename_i hr; rw [hr] at hiC; cases hiC
    · exact h
 | succ n ihn =>
  intro fuel
  induction fuel with
  | zero => exact zero (n + 1)
  | succ fuel ihf =>
   intro Cl ι σ ac w hM h L ar sim hf
   refine ⟨fin (n + 1) Cl ι σ ac w hM h L ar sim, fun i hi => ?_⟩
   cases hC : Cl.getD i false with
   | true => exact stepP (n + 1) fuel ihf Cl ι σ ac w hM h L ar sim hf i hi hC
   | false =>
    obtain ⟨hun, o, ho, hw⟩ := ready_iff.1 hi
    obtain ⟨hLi, hlt⟩ := getD_ft hun
    have hiC : i ∈ Region.ready .any ops Cl := by
     rw [ready_iff]
     refine ⟨?_, o, ho, fun k hk => sim.sub k (hw k hk)⟩
     have : i < Cl.size := by rw [sim.szC]; exact (Array.getElem?_eq_some_iff.1 ho).1
     simp [Array.getD, this] at hC ⊢
     exact hC
    simp only [anyVC] at h
    split at h
    · rename_i hr; rw [hr] at hiC; cases hiC
    · split at h
      ·
       rename_i k ok hfr
       obtain ⟨hkr, hok, hkrd⟩ := firstRd_some hfr
       obtain ⟨hkun, ok', hok', hkw⟩ := ready_iff.1 hkr
       rw [hok] at hok'
       cases hok'
       obtain ⟨hkC, hklt⟩ := getD_ft hkun
       obtain ⟨σ1, hM1, hfz, hc⟩ := guard_cases hM h
       rcases hc with ⟨hwt, h⟩ | ⟨hwt, h⟩
       · obtain ⟨v, x, hrun, hx, hK⟩ := op_rdr hM1 hkrd h
         have hsim := sim.take hs hok hkC hkw hkrd (v := v) (fun w'' hw'' => .inl ⟨hwt, hrun w'' hw''⟩)
         exact (ihn (fuel + 1) _ ι _ _ w (hM1.put ok.dst hx) hK L ar hsim hf).2 i hi
       · have hsim := sim.take hs hok hkC hkw hkrd (v := undef) (fun w'' _ => .inr ⟨hwt, rfl⟩)
         exact (ihn (fuel + 1) _ ι _ _ w (hM1.put ok.dst (x := .at (.val undef)) rfl) h L ar hsim hf).2 i hi
      ·
       have hg := allVC_get h i hiC
       split at hg
       · rename_i o' ho'
         rw [nth_eq, Array.getElem?_toList, ho] at ho'
         cases ho'
         obtain ⟨hg, hstab⟩ := stabVC_get _ 0 hg
         obtain ⟨he, hwe⟩ := exec_agree (hs.sel i o · · ho) (sim.looks hs ho hw)
         have hgw := guard_sound hspecs hM hg (fun a' w' => ∃ ι' σ', Models B ι' σ' a' w' ∧ againRd C ops Cl σ o σ' (anyVC C ops n (Cl.setIfInBounds i true) σ' R) ∧ Keep σ ι o w w') Q (fun ι' σ' a' w' h1 h2 h3 => ⟨ι', σ', h1, h2, h3⟩)
         have hB : ∀ (u : Value) (w' : World), (∃ ι' σ', Models B ι' σ' (ac.put o.dst u) w' ∧ againRd C ops Cl σ o σ' (anyVC C ops n (Cl.setIfInBounds i true) σ' R) ∧ Keep σ ι o w w') →
          wpAny C.P .any ops Q fuel (L.setIfInBounds i true) (ar.put o.dst u) w' := by
          rintro u w' ⟨ι', σ', hM', h', hk'⟩
          obtain ⟨hpo, h'⟩ := againRd_get h'
          refine ihn fuel _ ι' σ' _ w' hM' h' _ _ (sim.stepB hs ho hC hw u w' ?_) (by have := unlisted_set sim.szL (by have := sim.szL; omega) hLi; omega)
          intro j oj v hj hCj hLj hy
          cases hun' : isUndef ops σ oj with
          | true =>
           have := isUndef_spec hM hun'
           rcases hy with ⟨h1, _⟩ | h1
           · rw [this] at h1; cases h1
           · exact .inl (.inr h1)
          | false =>
           have hnw : waits o j = false := by
            cases hwj : waits o j with
            | false => rfl
            | true => rw [hw j hwj] at hLj; cases hLj
           have hst := hstab j oj (by rw [Array.getElem?_toList]; exact hj) (by simpa using hCj) (sim.rd j oj hj hCj hLj) (by simpa using hnw) hun'
           exact persist hM hk' hst (fun e => ⟨σ', hM'.wrel, hpo e j oj (by rw [Array.getElem?_toList]; exact hj) (by simpa using hCj) (sim.rd j oj hj hCj hLj) (by simpa using hnw) hun'⟩) hy
         unfold GWp at hgw
         unfold wpOp
         simp only [ho]
         rw [hwe]
         split
         · rename_i hwt
           rw [if_pos hwt] at hgw
           left
           refine wp_transfer he hgw hB ?_ hQp
           rintro d w' ⟨ι', σ', hM', _⟩
           have := hM'.defers
           rw [← hM.defers] at this
           cases hd : o.dst <;> simp [Act.put, hd] at this
         · rename_i hwt
           rw [if_neg hwt] at hgw
           exact hB undef w hgw
       · exact hg.elim
theorem Models.drew {B : Base} {ι : Nat → Value} {σ : St} {a : Act} {w : World} (h : Models B ι σ a w) (k : Nat) : Models B ι σ a { w with drawn := k } := by
 refine ⟨h.slots, h.defers, fun j o hj => (h.own j o hj).world (fun _ _ => rfl), h.dist, h.fresh, ?_, h.one⟩
 have hw := h.wrel
 exact ⟨hw.tape, hw.os, hw.output, hw.size, hw.frame, hw.hsat, hw.msat, hw.disj, hw.hle, hw.hold, hw.mfr⟩
end
end Go.Vc
namespace Go.Vc
open Go
section
variable {B : Base} {C : Ctx} {ι : Nat → Value} {σ : St} {a : Act} {w : World}
theorem matchSl_sound : ∀ {xs ys : List SV} {vs : List Value} {K : Prop}, matchSl xs ys K → DenS ι xs vs → DenS ι ys vs ∧ K
 | [], [], vs, K, h, hd => ⟨hd, h⟩
 | x :: xs, y :: ys, [], K, _, hd => hd.elim
 | x :: xs, y :: ys, v :: vs, K, h, hd => by
  unfold matchSl at h
  split at h
  · rename_i h1 h2; cases h1
  · rename_i x' xs' ys' h1 h2
    simp only [List.cons.injEq] at h1 h2
    obtain ⟨rfl, rfl⟩ := h1
    obtain ⟨rfl, rfl⟩ := h2
    have := matchSl_sound h hd.2
    exact ⟨⟨trivial, this.1⟩, this.2⟩
  · rename_i x' xs' y' ys' _ h1 h2
    simp only [List.cons.injEq] at h1 h2
    obtain ⟨rfl, rfl⟩ := h1
    obtain ⟨rfl, rfl⟩ := h2
    obtain ⟨rfl, h⟩ := h
    have := matchSl_sound h hd.2
    exact ⟨⟨hd.1, this.1⟩, this.2⟩
  · exact h.elim
 | [], _ :: _, _, K, h, _ => by simp [matchSl] at h
 | _ :: _, [], _, K, h, _ => by simp [matchSl] at h
theorem matchOwn_sound : ∀ {xs ys : List (Option Own)} {K : Prop}, matchOwn xs ys K → (∀ k o, nth ys k = some (some o) → nth xs k = some (some o)) ∧ K
 | [], [], K, h => ⟨fun k o hk => by simp [nth] at hk, h⟩
 | x :: xs, none :: ys, K, h => by
  simp only [matchOwn] at h
  obtain ⟨h1, h2⟩ := matchOwn_sound h
  refine ⟨fun k o hk => ?_, h2⟩
  cases k with
  | zero => simp [nth] at hk
  | succ k => exact h1 k o hk
 | x :: xs, some y :: ys, K, h => by
  simp only [matchOwn] at h
  obtain ⟨rfl, h⟩ := h
  obtain ⟨h1, h2⟩ := matchOwn_sound h
  refine ⟨fun k o hk => ?_, h2⟩
  cases k with
  | zero => exact hk
  | succ k => exact h1 k o hk
 | [], _ :: _, K, h => by simp [matchOwn] at h
 | _ :: _, [], K, h => by simp [matchOwn] at h
theorem Models.setSlot (hM : Models B ι σ a w) {i : Nat} {x : SV} {v : Value} (hv : a.tmps[i]? = some v) (hx : Den ι x v) : Models B ι (σ.put (some i) x) a w := by
 refine ⟨?_, hM.defers, hM.own, hM.dist, hM.fresh, hM.wrel, hM.one⟩
 have := hM.slots.set i hx
 show DenS ι (σ.sl.set i x) a.tmps.toList
 have e : a.tmps.toList.set i v = a.tmps.toList := by
  apply List.ext_getElem?
  intro j
  rw [List.getElem?_set]
  split
  · rename_i hj
    subst hj
    rw [Array.getElem?_toList, hv]
    split
    · rfl
    · rename_i hlt
      simp at hlt
      rw [Array.getElem?_eq_none hlt] at hv
      cases hv
  · rfl
 rw [e] at this
 exact this
theorem Models.nilList (hM : Models B ι σ a w) (k E sz : Nat) : Models B (upd ι k (.slice none 0 0)) ((σ.kill k).setOwn k (some (.lst E sz []))) a w := by
 refine hM.place k _ _ (WExt.refl _ _) ⟨rowsOk_nil sz, World.ownsRow_nil w 0 E sz⟩ rfl (fun b hb => by simp [blk] at hb)
theorem convSl_sound (τ : St) : ∀ (ys : List SV) (i : Nat) (ι : Nat → Value) (σ : St), Models B ι σ a w → ∃ ι', Models B ι' (convSl τ ys i σ) a w
 | [], i, ι, σ, hM => ⟨ι, hM⟩
 | y :: ys, i, ι, σ, hM => by
  simp only [convSl]
  split
  · rename_i k
    split
    · rename_i hs
      split
      · rename_i E sz xs hτ hσ
        have hv : a.tmps[i]? = some (.slice none 0 0) := by
         rw [nth_eq] at hs
         obtain ⟨v, hv, hd⟩ := hM.slots.get i _ hs
         rw [Array.getElem?_toList] at hv
         have hd : v = .slice none 0 0 := hd
         rw [hv, hd]
        exact convSl_sound τ ys (i + 1) _ _ ((hM.nilList k E sz).setSlot hv (x := .at (.lst k)) (by show _ = _; simp))
      · exact convSl_sound τ ys (i + 1) ι σ hM
    · exact convSl_sound τ ys (i + 1) ι σ hM
  · exact convSl_sound τ ys (i + 1) ι σ hM
theorem convCells_sound (τ : St) (q : Nat) : ∀ (ys : List At) (j : Nat) (ι : Nat → Value) (σ : St), Models B ι σ a w → ∃ ι', Models B ι' (convCells τ q ys j σ) a w
 | [], j, ι, σ, hM => ⟨ι, hM⟩
 | y :: ys, j, ι, σ, hM => by
  simp only [convCells]
  split
  · rename_i k
    split
    · rename_i T cs hq
      split
      · rename_i hj
        split
        · rename_i E sz xs hτ hσ
          have hqk : q ≠ k := fun e => by subst e; rw [hσ] at hq; cases hq
          have h1 := hM.nilList k E sz
          have hq1 : nth ((σ.kill k).setOwn k (some (.lst E sz []))).own q = some (some (.cells T (cs.map (At.sub k (fun _ => .junk))))) := by
           simp only [kill_eq, St.setOwn, St.sub, nth_set, nth_map, hqk, false_and, if_false, hq]
           rfl
          obtain ⟨b, vs, hι, hh, hd⟩ := own_cells h1 hq1
          have hvj : vs.toList[j]? = some (.slice none 0 0) := by
           obtain ⟨b0, vs0, hι0, hh0, hd0⟩ := own_cells hM hq
           rw [nth_eq] at hj
           obtain ⟨v, hv, hdv⟩ := hd0.get j _ hj
           have hdv : v = .slice none 0 0 := hdv
           rw [upd_ne _ _ hqk, hι0] at hι
           simp only [Value.pointer.injEq, Option.some.injEq, Addr.mk.injEq] at hι
           obtain ⟨rfl, -, -⟩ := hι
           rw [hh0] at hh
           simp only [Option.some.injEq, Obj.cells.injEq] at hh
           rw [← hh.1, hv, hdv]
          have hset : vs.toList.set j (.slice none 0 0) = vs.toList := by
           apply List.ext_getElem?
           intro t
           rw [List.getElem?_set]
           split
           · rename_i e
             subst e
             rw [hvj]
             split
             · rfl
             · rename_i hlt
               rw [List.getElem?_eq_none (Nat.le_of_not_lt hlt)] at hvj
               cases hvj
           · rfl
          have h2 : Models B (upd ι k (.slice none 0 0)) (setCellOwn ((σ.kill k).setOwn k (some (.lst E sz []))) q j (.lst k)) a w := by
           unfold setCellOwn
           rw [hq1]
           refine h1.rewrite hq1 (WExt.refl _ _) ⟨b, vs, hι, hh, ?_⟩
           have := hd.set j (x := .lst k) (v := .slice none 0 0) (by show _ = _; simp)
           rwa [hset] at this
          exact convCells_sound τ q ys (j + 1) _ _ h2
        · exact convCells_sound τ q ys (j + 1) ι σ hM
      · exact convCells_sound τ q ys (j + 1) ι σ hM
    · exact convCells_sound τ q ys (j + 1) ι σ hM
  · exact convCells_sound τ q ys (j + 1) ι σ hM
theorem convOwn_sound (τ : St) : ∀ (ys : List (Option Own)) (q : Nat) (ι : Nat → Value) (σ : St), Models B ι σ a w → ∃ ι', Models B ι' (convOwn τ ys q σ) a w
 | [], q, ι, σ, hM => ⟨ι, hM⟩
 | y :: ys, q, ι, σ, hM => by
  simp only [convOwn]
  split
  · rename_i T cs
    obtain ⟨ι', hM'⟩ := convCells_sound τ q cs 0 ι σ hM
    exact convOwn_sound τ ys (q + 1) ι' _ hM'
  · exact convOwn_sound τ ys (q + 1) ι σ hM
theorem match_sound {τ : St} {K : Prop} (hM : Models B ι σ a w) (h : matchSt σ τ K) : ∃ ι', Models B ι' τ a w ∧ K := by
 obtain ⟨ι1, hM1⟩ := convSl_sound τ τ.sl 0 ι σ hM
 obtain ⟨ι2, hM2⟩ := convOwn_sound τ τ.own 0 ι1 _ hM1
 have hM2 : Models B ι2 (conv σ τ) a w := hM2
 unfold matchSt at h
 obtain ⟨hsl, h⟩ := matchSl_sound h hM2.slots
 obtain ⟨hown, hm, hh, hK⟩ := matchOwn_sound h
 refine ⟨ι2, ⟨hsl, hM2.defers, fun k o hk => hM2.own k o (hown k o hk), fun k k' o o' b hk hk' hb hb' => hM2.dist k k' o o' b (hown k o hk) (hown k' o' hk') hb hb', ?_, ?_, hM2.one⟩, hK⟩
 · intro k o b hk hb
   rw [← hm, ← hh]
   exact hM2.fresh k o b (hown k o hk) hb
 · rw [← hm, ← hh]
   exact hM2.wrel
theorem Models.froze (hM : Models B ι σ a w) {m2 : MH} {h2 : PH} (hF : Froze σ.m σ.h m2 h2) : Models B ι { σ with m := m2, h := h2 } a w := by
 have hw := hM.wrel
 refine ⟨hM.slots, hM.defers, hM.own, hM.dist, fun k o b hk hb => ?_, ?_, hM.one⟩
 · obtain ⟨f1, f2, f3⟩ := hM.fresh k o b hk hb
   refine ⟨f1, ?_, fun i => ?_⟩
   · show m2 b = none
     cases e2 : m2 b with
     | none => rfl
     | some o => rw [hF.sub b o e2] at f2; cases f2
   · show h2 b i = none
     cases e2 : h2 b i with
     | none => rfl
     | some v =>
      rcases hF.new b i v e2 with h3 | ⟨cs, E, fz, h3, _, _⟩
      · rw [f3 i] at h3; cases h3
      · rw [f2] at h3; cases h3
 · refine ⟨hw.tape, hw.os, hw.output, hw.size, hw.frame, fun b o v e => ?_, fun b o e => hw.msat b o (hF.sub b o e), fun b o e i => ?_, fun b o v e => hF.le.le b o v (hw.hle b o v e), fun b h1 h2' => ?_, fun b o e => hw.mfr b o (hF.sub b o e)⟩
   · rcases hF.new b o v e with h3 | ⟨cs, E, fz, h3, h4, _⟩
     · exact hw.hsat b o v h3
     · rw [cell_of_heap (hw.msat b _ h3), Array.getElem?_toList]; exact h4
   · show h2 b i = none
     have e : m2 b = some o := e
     cases e2 : h2 b i with
     | none => rfl
     | some v =>
      rcases hF.new b i v e2 with h3 | ⟨cs, E, fz, h3, h4, h5⟩
      · rw [hw.disj b o (hF.sub b o e) i] at h3; cases h3
      · rw [h5] at e; cases e
   · funext i
     have e := congrFun (hw.hold b h1 h2') i
     show h2 b i = B.h0 b i
     cases e2 : B.h0 b i with
     | some v => exact hF.le.le b i v (hw.hle b i v e2)
     | none =>
      cases e3 : h2 b i with
      | none => rfl
      | some v =>
       rcases hF.new b i v e3 with h3 | ⟨cs, E, fz, h3, h4, h5⟩
       · rw [e, e2] at h3; cases h3
       · rcases hw.mfr b _ h3 with h6 | h6
         · omega
         · exact (h2' h6).elim
theorem matchF_sound {τ : St} {K : Prop} (hM : Models B ι σ a w) (h : matchF σ τ K) : ∃ ι', Models B ι' τ a w ∧ K := by
 obtain ⟨ι1, hM1⟩ := convSl_sound τ τ.sl 0 ι σ hM
 obtain ⟨ι2, hM2⟩ := convOwn_sound τ τ.own 0 ι1 _ hM1
 have hM2 : Models B ι2 (conv σ τ) a w := hM2
 unfold matchF at h
 obtain ⟨hsl, h⟩ := matchSl_sound h hM2.slots
 obtain ⟨hown, hF, hK⟩ := matchOwn_sound h
 have hM3 := hM2.froze hF
 exact ⟨ι2, ⟨hsl, hM2.defers, fun k o hk => hM2.own k o (hown k o hk), fun k k' o o' b hk hk' hb hb' => hM2.dist k k' o o' b (hown k o hk) (hown k' o' hk') hb hb', fun k o b hk hb => hM3.fresh k o b (hown k o hk) hb, hM3.wrel, hM2.one⟩, hK⟩
theorem reach_sound {c : StAnn} {R : c.A → Prop} (hM : Models B ι σ a w) (h : reachVC c R σ) : ∃ x ι', R x ∧ Models B ι' (c.st x) a w := by
 unfold reachVC at h
 split at h
 · obtain ⟨x, hx, hm⟩ := h
   obtain ⟨ι2, hM2, _⟩ := match_sound hM hm
   exact ⟨x, ι2, hx, hM2⟩
 · obtain ⟨x, hx, hm⟩ := h ⟨hM.wrel.disj⟩
   obtain ⟨ι2, hM2, _⟩ := matchF_sound hM hm
   exact ⟨x, ι2, hx, hM2⟩
theorem again_sound {c : StAnn} {I S : c.A → Prop} (hM : Models B ι σ a w) (h : againVC c I S σ) : ∃ x ι', I x ∧ S x ∧ Models B ι' (c.st x) a w := by
 unfold againVC at h
 split at h
 · obtain ⟨x, hx, hs, hm⟩ := h
   obtain ⟨ι2, hM2, _⟩ := match_sound hM hm
   exact ⟨x, ι2, hx, hs, hM2⟩
 · obtain ⟨x, hx, hs, hm⟩ := h ⟨hM.wrel.disj⟩
   obtain ⟨ι2, hM2, _⟩ := matchF_sound hM hm
   exact ⟨x, ι2, hx, hs, hM2⟩
def QD (B : Base) (Q : SExit → St → Prop) : Exit → Act → World → Prop
 | .normal, a, w => ∃ ι σ, Models B ι σ a w ∧ Q .normal σ
 | .exit id, a, w => ∃ ι σ, Models B ι σ a w ∧ Q (.exit id) σ
 | .ret, a, w => ∃ ι σ, Models B ι σ a w ∧ Q .ret σ
 | _, _, _ => False
theorem seg_sound (hspecs : ∀ g S, assoc C.specs g = some S → Sound C.P g S) {ops : Array Oper} {Q : SExit → St → Prop} :
 ∀ (segs : List (Nat × StAnn)) (l : List Oper) (s : Nat) (ι : Nat → Value) (σ : St) (a : Act) (w : World), (∀ j, l[j]? = ops.toList[s + j]?) → Models B ι σ a w → segVC C ops segs l σ (Q .normal) → wpOpsIn Fence.wide 0 C.P ops (QD B Q) (List.range' s l.length) a w
 | [], l, s, ι, σ, a, w, hl, hM, h => by
  have := seq_sound' hspecs (ops := ops) (Q := QD B Q) (R := Q .normal) (rest := []) (fun ι σ a w hM h => ⟨ι, σ, hM, h⟩) l s ι σ a w (fun j _ => hl j) hM h
  simpa using this
 | (n, ann) :: segs, l, s, ι, σ, a, w, hl, hM, h => by
  obtain ⟨I, h1, h2⟩ := h
  have := seq_sound' hspecs (ops := ops) (Q := QD B Q) (R := fun τ => ∃ x, I x ∧ matchSt τ (ann.st x) True) (rest := List.range' (s + (l.take n).length) (l.drop n).length) (fun ι' σ' a' w' hM' hx => by
   obtain ⟨x, hx, hm⟩ := hx
   obtain ⟨ι2, hM2, _⟩ := match_sound hM' hm
   refine seg_sound hspecs segs (l.drop n) (s + (l.take n).length) ι2 _ a' w' (fun j => ?_) hM2 (h2 x hx)
   rw [List.getElem?_drop, hl]
   by_cases hn : n ≤ l.length
   · congr 1; simp; omega
   · have e1 : l[n + j]? = none := List.getElem?_eq_none (by omega)
     have e2 : l[l.length + j]? = none := List.getElem?_eq_none (by omega)
     rw [hl] at e1 e2
     rw [e1, show s + (List.take n l).length + j = s + (l.length + j) by simp; omega, e2]) (l.take n) s ι σ a w (fun j hj => by
     rw [← hl, List.getElem?_take]
     rw [if_pos (by simp at hj; omega)]) hM h1
  rwa [List.range'_append_1, ← List.length_append, List.take_append_drop] at this
theorem vc_sound (hspecs : ∀ g S, assoc C.specs g = some S → Sound C.P g S) : ∀ (c : Code) (σ : St) (Q : SExit → St → Prop) (ι : Nat → Value) (a : Act) (w : World), Models B ι σ a w → VC C c σ Q → c.wp C.P (QD B Q) a w := by
 intro c
 induction c with
 | skip => intro σ Q ι a w hM h; exact wp_skip ⟨ι, σ, hM, h⟩
 | label l => intro σ Q ι a w hM h; exact wp_label ⟨ι, σ, hM, h⟩
 | exit id => intro σ Q ι a w hM h; exact wp_exit ⟨ι, σ, hM, h⟩
 | ret => intro σ Q ι a w hM h; exact wp_ret ⟨ι, σ, hM, h⟩
 | goto l => intro σ Q ι a w hM h; exact h.elim
 | refuse why => intro σ Q ι a w hM h; exact h.elim
 | scope body ih => intro σ Q ι a w hM h; exact h.elim
 | rangeFunc f ps x y ihx ihy => intro σ Q ι a w hM h; exact h.elim
 | region id ops draw =>
  intro σ Q ι a w hM h
  cases draw with
  | false =>
   refine (wpIn_wide (n := 0)).1 (wpIn_region ?_)
   have := seg_sound hspecs (ops := ops) (Q := Q) (segsOf C id) ops.toList 0 ι σ a w (fun j => by simp) hM h
   rw [List.range_eq_range']
   simpa using this
  | true =>
   simp only [VC] at h
   split at h
   · rename_i h1 h2 h3
     have hs := ssa_of h1 h2
     refine wp_region_any h3 ?_
     refine any_sound hspecs hs (Q := QD B Q) (R := Q .normal) (fun ι σ a w hM h => ⟨ι, σ, hM, h⟩) (fun c a w h => h) ops.size ops.size _ ι σ a _ (hM.drew (w.drawn + 1)) h _ a ?_ ?_
     · have hno : ∀ i, (Array.replicate ops.size false).getD i false = true → False := by
        intro i hi
        by_cases hlt : i < ops.size
        · simp [Array.getD, hlt] at hi
        · simp [Array.getD, hlt] at hi
       exact ⟨by simp, by simp, fun i hi => hi, fun i o _ hi => (hno i hi).elim, fun i o _ hi => (hno i hi).elim, rfl, rfl, fun t _ => rfl, fun i o _ hi => (hno i hi).elim⟩
     · unfold unlisted
       rw [List.filter_eq_self.2]
       · simp
       · intro i hi
         by_cases hlt : i < ops.size <;> simp [Array.getD, hlt]
   · exact h.elim
 | seq x y ihx ihy =>
  intro σ Q ι a w hM h
  simp only [VC] at h
  split at h
  · obtain ⟨h, hall⟩ := h
    refine wp_seq (wp_mono (ihx σ _ ι a w hM h) ?_)
    intro e a' w' hq
    cases e with
    | normal =>
     obtain ⟨ι', σ', hM', x, hx, hm⟩ := hq
     show y.wp C.P (QD B Q) a' w'
     obtain ⟨ι2, hM2, _⟩ := match_sound hM' hm
     exact ihy _ Q ι2 a' w' hM2 (hall x hx)
    | exit id => exact hq
    | ret => exact hq
    | goto l => exact hq
    | panic ch => exact hq
    | outgrown => exact hq
  · split at h
    · obtain ⟨I, h, hall⟩ := h
      refine wp_seq (wp_mono (ihx σ _ ι a w hM h) ?_)
      intro e a' w' hq
      cases e with
      | normal =>
       obtain ⟨ι', σ', hM', hm⟩ := hq
       show y.wp C.P (QD B Q) a' w'
       obtain ⟨x, ι2, hx, hM2⟩ := reach_sound hM' hm
       exact ihy _ Q ι2 a' w' hM2 (hall x hx)
      | exit id => exact hq
      | ret => exact hq
      | goto l => exact hq
      | panic ch => exact hq
      | outgrown => exact hq
    · refine wp_seq (wp_mono (ihx σ _ ι a w hM h) ?_)
      intro e a' w' hq
      cases e with
      | normal =>
       obtain ⟨ι', σ', hM', h'⟩ := hq
       show y.wp C.P (QD B Q) a' w'
       exact ihy σ' Q ι' a' w' hM' h'
      | exit id => exact hq
      | ret => exact hq
      | goto l => exact hq
      | panic ch => exact hq
      | outgrown => exact hq
 | cond c x y ihx ihy =>
  intro σ Q ι a w hM h
  simp only [VC] at h
  split at h
  · rename_i t hc
    have hev := hM.ev c
    rw [hc] at hev
    have hev : a.eval c = .bool t := hev
    rcases branch_elim h with ⟨rfl, h⟩ | ⟨rfl, h⟩
    · exact wp_cond_true hev (ihx _ Q ι a w (hM.setTmp hc) h)
    · exact wp_cond_false hev (ihy _ Q ι a w (hM.setTmp hc) h)
  · exact h.elim
 | block id c ih =>
  intro σ Q ι a w hM h
  refine wp_block (wp_mono (ih σ _ ι a w hM h) ?_)
  intro e a' w' hq
  cases e with
  | normal => exact hq
  | exit i =>
   obtain ⟨ι', σ', hM', h'⟩ := hq
   show if i = id then _ else _
   simp only at h'
   split at h'
   · rename_i hb
     rw [if_pos (Nat.eq_of_beq_eq_true hb)]
     exact ⟨ι', σ', hM', h'⟩
   · rename_i hb
     rw [if_neg (fun e => by subst e; simp at hb)]
     exact ⟨ι', σ', hM', h'⟩
  | ret => exact hq
  | goto l => exact hq
  | panic ch => exact hq
  | outgrown => exact hq
 | loop c ih =>
  intro σ Q ι a w hM h
  simp only [VC] at h
  split at h
  · rename_i l hl
    obtain ⟨⟨x, hx, hm⟩, hall⟩ := h
    obtain ⟨ι2, hM2, _⟩ := match_sound hM hm
    refine wp_loop_ghost (fun n a w => ∃ x ι, l.inv x ∧ l.mu x = n ∧ Models B ι (l.st x) a w) (l.mu x) ⟨x, ι2, hx, rfl, hM2⟩ ?_
    rintro n a' w' ⟨x', ι', hx', rfl, hM'⟩
    refine wp_mono (ih _ _ ι' a' w' hM' (hall x' hx')) ?_
    intro e a'' w'' hq
    cases e with
    | normal =>
     obtain ⟨ι3, σ3, hM3, y, hy, hlt, hmy⟩ := hq
     obtain ⟨ι4, hM4, _⟩ := match_sound hM3 hmy
     exact ⟨l.mu y, hlt, y, ι4, hy, rfl, hM4⟩
    | exit id => exact hq
    | ret => exact hq
    | goto l => exact hq
    | panic ch => exact hq
    | outgrown => exact hq
  · split at h
    · rename_i l hl
      obtain ⟨I, mu, hm, hall⟩ := h
      obtain ⟨x, ι2, hx, hM2⟩ := reach_sound hM hm
      refine wp_loop_ghost (fun n a w => ∃ x ι, I x ∧ mu x = n ∧ Models B ι (l.st x) a w) (mu x) ⟨x, ι2, hx, rfl, hM2⟩ ?_
      rintro n a' w' ⟨x', ι', hx', rfl, hM'⟩
      refine wp_mono (ih _ _ ι' a' w' hM' (hall x' hx')) ?_
      intro e a'' w'' hq
      cases e with
      | normal =>
       obtain ⟨ι3, σ3, hM3, hmy⟩ := hq
       obtain ⟨y, ι4, hy, hlt, hM4⟩ := again_sound hM3 hmy
       exact ⟨mu y, hlt, y, ι4, hy, rfl, hM4⟩
      | exit id => exact hq
      | ret => exact hq
      | goto l => exact hq
      | panic ch => exact hq
      | outgrown => exact hq
    · exact h.elim
end
end Go.Vc
namespace Go.Vc
open Go
section
variable {B : Base} {C : Ctx} {ι : Nat → Value} {σ : St} {a : Act} {w : World}
def getRes (tmps : Array Value) : ResultVar → Sem Value
 | .tmp t => pure (tmps.getD t undef)
 | .cell a t => do loadVar t (← asAddr (tmps.getD a undef))
theorem results_eq (fn : Func) (tmps : Array Value) : results fn tmps = (do let vs ← fn.results.mapM (getRes tmps); pure (if h : vs.size = 1 then vs[0] else .tuple vs)) := by
 unfold results
 congr 1
theorem resSV_sound (hM : Models B ι σ a w) {r : ResultVar} {x : SV} (h : resSV C σ r = some x) : ∃ v, (getRes a.tmps r).run C.P w = .ok v w ∧ Den ι x v := by
 cases r with
 | tmp t =>
  simp only [resSV, Option.some.injEq] at h
  subst h
  exact ⟨_, rfl, hM.ev (.tmp t)⟩
 | cell ad T =>
  have hev := hM.ev (.tmp ad)
  simp only [resSV] at h
  split at h
  · rename_i k off hx
    rw [hx] at hev
    split at h
    · rename_i T' cs hk
      split at h
      · rename_i hle hT
        have hle := Nat.le_of_ble_eq_true hle
        simp only [Option.some.injEq] at h
        subst h
        obtain ⟨b, vs, hι, hh, hd⟩ := own_cells hM hk
        obtain ⟨b', hb', hp⟩ := hev
        rw [hι] at hb'
        simp only [Value.pointer.injEq, Option.some.injEq, Addr.mk.injEq] at hb'
        obtain ⟨rfl, -, -⟩ := hb'
        have hd' := (hd.drop off).take (C.P.cellsOf T)
        have hvs : cs.length = vs.toList.length := hd.length
        have hl := run_loadVar (w := w) (b := b) (off := off) (cs := (vs.toList.drop off).take (C.P.cellsOf T)) hT (by simp at hvs ⊢; omega) (fun j v hv => by rw [cell_of_heap hh]; exact sub_cells hv)
        refine ⟨_, ?_, den_mk hd'⟩
        have hp' : a.tmps.getD ad undef = .pointer (some ⟨b, off, none⟩) := hp
        simp only [getRes, hp', asAddr, Sem.run_bind, Sem.run_pure, Result.andThen_ok, hl]
      · cases h
    · cases h
  · cases h
theorem resAll_sound (hM : Models B ι σ a w) : ∀ (l : List ResultVar) (xs : List SV), resAll C σ l = some xs → ∃ vs, (l.mapM (getRes a.tmps)).run C.P w = .ok vs w ∧ DenS ι xs vs
 | [], xs, h => by
  simp [resAll] at h; subst h
  exact ⟨[], by simp, trivial⟩
 | r :: l, xs, h => by
  simp only [resAll] at h
  split at h
  · rename_i x xs' hx hxs
    simp only [Option.some.injEq] at h
    subst h
    obtain ⟨v, hv, hd⟩ := resSV_sound hM hx
    obtain ⟨vs, hvs, hds⟩ := resAll_sound hM l xs' hxs
    exact ⟨v :: vs, by simp [List.mapM_cons, hv, hvs], hd, hds⟩
  · cases h
theorem closeRes_sound (hM : Models B ι σ a w) {mv : Bool} : ∀ (xs : List SV) (ts : List TypeId) (rs : List CV) (vs : List Value), closeRes C.P σ mv xs ts = some rs → DenS ι xs vs →
 rs.length = vs.length ∧ (mv = false → rs = vs.map .val) ∧ ∀ (i : Nat) (r : CV) (v : Value), rs[i]? = some r → vs[i]? = some v → CVOk w r v ∧ ∀ b, cvBlk r v = some b → ∃ k ow, nth σ.own k = some (some ow) ∧ blk (ι k) = some b
 | [], ts, rs, [], h, _ => by
  simp [closeRes] at h; subst h
  exact ⟨rfl, fun _ => rfl, fun i r v hr => by simp at hr⟩
 | [], _, _, _ :: _, _, hd => hd.elim
 | x :: xs, _, _, [], _, hd => hd.elim
 | x :: xs, ts, rs, v :: vs, h, hd => by
  simp only [closeRes] at h
  split at h
  · cases h
  · rename_i l hl
    obtain ⟨ih1, ih2, ih3⟩ := closeRes_sound hM xs ts.tail l vs hl hd.2
    have fin : ∀ (c0 : CV), rs = c0 :: l → (mv = false → c0 = .val v) → CVOk w c0 v → (∀ b, cvBlk c0 v = some b → ∃ k ow, nth σ.own k = some (some ow) ∧ blk (ι k) = some b) →
     rs.length = (v :: vs).length ∧ (mv = false → rs = (v :: vs).map .val) ∧ ∀ (i : Nat) (r : CV) (u : Value), rs[i]? = some r → (v :: vs)[i]? = some u → CVOk w r u ∧ ∀ b, cvBlk r u = some b → ∃ k ow, nth σ.own k = some (some ow) ∧ blk (ι k) = some b := by
     intro c0 hrs h1 h2 h3
     subst hrs
     refine ⟨by simp [ih1], fun hm => by rw [h1 hm, ih2 hm]; rfl, fun i r u hr hu => ?_⟩
     cases i with
     | zero => simp at hr hu; subst hr hu; exact ⟨h2, h3⟩
     | succ i => simp only [List.getElem?_cons_succ] at hr hu; exact ih3 i r u hr hu
    split at h
    · split at h
      · rename_i k
        have hv : v = ι k := hd.1
        split at h
        · rename_i E sz ys hk
          simp only [Option.some.injEq] at h
          obtain ⟨hr, ho⟩ := own_lst hM hk
          exact fin _ h.symm (fun e => by cases e) ⟨hr, by rw [hv]; exact ho⟩ (fun b hb => ⟨k, _, hk, by rw [← hv]; exact hb⟩)
        · cases h
      · have hv : v = .slice none 0 0 := hd.1
        split at h
        · rename_i E z hE
          simp only [Option.some.injEq] at h
          refine fin _ h.symm (fun e => by cases e) ⟨rowsOk_nil _, by rw [hv]; exact World.ownsRow_nil w 0 E _⟩ (fun b hb => ?_)
          rw [hv] at hb
          simp [cvBlk, blk] at hb
        · cases h
      · cases h
    · split at h
      · rename_i u hu
        simp only [Option.some.injEq] at h
        have hv := (hd.1).val? hu
        exact fin _ h.symm (fun _ => by rw [hv]) hv (fun b hb => by simp [cvBlk] at hb)
      · cases h
theorem ret_sound (hM : Models B ι σ a w) {fn : Func} {K : CV → MH → PH → Prop} (h : retVC C fn K σ) :
 ∃ u, (results fn a.tmps).run C.P w = .ok u w ∧ ∃ r m' h', K r m' h' ∧ CVOk w r u ∧ WRel B m' h' w ∧ ∀ b, cvBlk r u = some b → (B.w0.heap.size ≤ b ∨ B.E b) ∧ m' b = none ∧ ∀ i, h' b i = none := by
 unfold retVC at h
 split at h
 · exact h.elim
 · rename_i xs hxs
   obtain ⟨τ', hMτ', h, _⟩ := freeze_sound _ _ hM h
   obtain ⟨τ, hMτ, h, _⟩ := lend_sound _ _ hMτ' h
   split at h
   · exact h.elim
   · rename_i ys hys
     obtain ⟨vs, hvs, hds⟩ := resAll_sound hMτ _ _ hys
     have hres : (results fn a.tmps).run C.P w = .ok (if h : vs.toArray.size = 1 then vs.toArray[0] else .tuple vs.toArray) w := by
      rw [results_eq, Array.mapM_eq_mapM_toList]
      simp [hvs]
     have blocks : ∀ (rs : List CV) (r : CV) (v : Value), closeRes C.P τ C.retMove ys fn.resultTypes.toList = some rs → (∃ i : Nat, rs[i]? = some r ∧ vs[i]? = some v) → CVOk w r v ∧ ∀ b, cvBlk r v = some b → (B.w0.heap.size ≤ b ∨ B.E b) ∧ τ.m b = none ∧ ∀ i, τ.h b i = none := by
      rintro rs r v hrs ⟨i, hr, hv⟩
      obtain ⟨_, _, h3⟩ := closeRes_sound hMτ _ _ _ _ hrs hds
      obtain ⟨h4, h5⟩ := h3 i r v hr hv
      refine ⟨h4, fun b hb => ?_⟩
      obtain ⟨k, ow, hk, hbk⟩ := h5 b hb
      exact hMτ.fresh k ow b hk hbk
     split at h
     · rename_i r hr
       obtain ⟨hlen, _, _⟩ := closeRes_sound hMτ _ _ _ _ hr hds
       simp at hlen
       obtain ⟨v, rfl⟩ : ∃ v, vs = [v] := by
        match vs, hlen with
        | [v], _ => exact ⟨v, rfl⟩
       obtain ⟨h4, h5⟩ := blocks _ r v hr ⟨0, rfl, rfl⟩
       refine ⟨v, by simpa using hres, r, τ.m, τ.h, h, h4, hMτ.wrel, h5⟩
     · rename_i rs hne hrs
       split at h
       · exact h.elim
       · rename_i hmv
         obtain ⟨hlen, hval, _⟩ := closeRes_sound hMτ _ _ _ _ hrs hds
         have hnl : vs.length ≠ 1 := by
          intro e
          rw [e] at hlen
          match rs, hlen with
          | [r], _ => exact hne r rfl
         refine ⟨.tuple vs.toArray, by rw [hres, dif_neg (by simpa using hnl)], .tup rs, τ.m, τ.h, h, ⟨vs.toArray, rfl, by simpa using hval hmv⟩, hMτ.wrel, fun b hb => by simp [cvBlk] at hb⟩
     · exact h.elim
def iota0 (n : Nat) (cvs : List CV) (vs : List Value) (k : Nat) : Value :=
 match cvs[k - n]?, vs[k - n]? with
 | some (.lst _ _ _), some v => v
 | _, _ => .slice none 0 0
theorem argsOk_get {w : World} : ∀ {cvs : List CV} {vs : List Value}, ArgsOk w cvs vs → cvs.length = vs.length ∧ ∀ (i : Nat) (c : CV) (v : Value), cvs[i]? = some c → vs[i]? = some v → CVOk w c v
 | [], [], _ => ⟨rfl, fun i c v h => by simp at h⟩
 | c :: cs, v :: vs, h => by
  obtain ⟨h1, h2⟩ := argsOk_get h.2
  refine ⟨by simp [h1], fun i c' v' hc hv => ?_⟩
  cases i with
  | zero => simp at hc hv; subst hc hv; exact h.1
  | succ i => simp at hc hv; exact h2 i c' v' hc hv
 | [], _ :: _, h => h.elim
 | _ :: _, [], h => h.elim
theorem entrySl_den {n : Nat} {all : List CV} {avs : List Value} {w : World} : ∀ (i : Nat) (cvs : List CV) (vs : List Value), ArgsOk w cvs vs → (∀ j : Nat, cvs[j]? = all[i + j]?) → (∀ j : Nat, vs[j]? = avs[i + j]?) →
 DenS (iota0 n all avs) (entrySl n i cvs) vs
 | i, [], [], _, _, _ => trivial
 | i, c :: cvs, v :: vs, h, h1, h2 => by
  have ih := entrySl_den (n := n) (all := all) (avs := avs) (i + 1) cvs vs h.2 (fun j => by have := h1 (j + 1); simp only [List.getElem?_cons_succ] at this; rw [this]; congr 1; omega) (fun j => by have := h2 (j + 1); simp only [List.getElem?_cons_succ] at this; rw [this]; congr 1; omega)
  cases c with
  | val u => exact ⟨h.1, ih⟩
  | lst E sz xs =>
   refine ⟨?_, ih⟩
   show v = iota0 n all avs (n + i)
   have e1 := h1 0
   have e2 := h2 0
   simp at e1 e2
   unfold iota0
   rw [show n + i - n = i by omega, ← e1, ← e2]
  | tup rs => exact ⟨trivial, ih⟩
 | i, [], _ :: _, h, _, _ => h.elim
 | i, _ :: _, [], h, _, _ => h.elim
theorem entryOwn_get : ∀ (cvs : List CV) (k : Nat) (o : Own), nth (entryOwn cvs) k = some (some o) → ∃ E sz xs, cvs[k]? = some (.lst E sz xs) ∧ o = .lst E sz xs
 | [], k, o, h => by simp [entryOwn, nth] at h
 | c :: cvs, 0, o, h => by
  cases c <;> simp [entryOwn, nth] at h
  rename_i E sz xs
  exact ⟨E, sz, xs, rfl, h.symm⟩
 | c :: cvs, k + 1, o, h => by
  have : nth (entryOwn cvs) k = some (some o) := by cases c <;> simpa [entryOwn, nth] using h
  obtain ⟨E, sz, xs, h1, h2⟩ := entryOwn_get cvs k o this
  exact ⟨E, sz, xs, by simpa using h1, h2⟩
theorem denS_junk {ι : Nat → Value} : ∀ (n : Nat) (vs : List Value), vs.length = n → DenS ι (List.replicate n (.at .junk)) vs
 | 0, [], _ => trivial
 | n + 1, v :: vs, h => ⟨trivial, denS_junk n vs (by simpa using h)⟩
 | 0, _ :: _, h => by simp at h
 | _ + 1, [], h => by simp at h
theorem DenS.append {ι : Nat → Value} : ∀ {xs xs' : List SV} {vs vs' : List Value}, DenS ι xs vs → DenS ι xs' vs' → DenS ι (xs ++ xs') (vs ++ vs')
 | [], _, [], _, _, h' => by simpa using h'
 | _ :: _, _, _ :: _, _, h, h' => ⟨h.1, DenS.append h.2 h'⟩
 | [], _, _ :: _, _, h, _ => h.elim
 | _ :: _, _, [], _, h, _ => h.elim
theorem entry_models {w : World} {m : MH} {h : PH} {cvs : List CV} {vs : List Value} (n : Nat) (hp : CallPre w m h cvs vs) :
 Models ⟨w, Moved m cvs vs, h, []⟩ (iota0 n cvs vs) (entry n cvs m h) { tmps := vs.toArray ++ Array.replicate (n - vs.toArray.size) undef, defers := [] } w := by
 obtain ⟨hlen, hget⟩ := argsOk_get hp.args
 have hown : ∀ k o, nth (entry n cvs m h).own k = some (some o) → n ≤ k ∧ ∃ E sz xs, cvs[k - n]? = some (.lst E sz xs) ∧ o = .lst E sz xs ∧ ∃ v, vs[k - n]? = some v ∧ iota0 n cvs vs k = v ∧ CVOk w (.lst E sz xs) v := by
  intro k o hk
  simp only [entry] at hk
  rw [nth_eq] at hk
  by_cases hkn : k < n
  · rw [List.getElem?_append_left (by simpa using hkn)] at hk
    simp [hkn] at hk
  · rw [List.getElem?_append_right (by simpa using Nat.le_of_not_lt hkn)] at hk
    simp only [List.length_replicate] at hk
    rw [← nth_eq] at hk
    obtain ⟨E, sz, xs, h1, h2⟩ := entryOwn_get cvs (k - n) o hk
    have hlt : k - n < vs.length := by
     rw [← hlen]; exact (List.getElem?_eq_some_iff.1 h1).1
    have hv : vs[k - n]? = some vs[k - n] := List.getElem?_eq_getElem hlt
    refine ⟨by omega, E, sz, xs, h1, h2, _, hv, ?_, hget _ _ _ h1 hv⟩
    unfold iota0
    rw [h1, hv]
 refine ⟨?_, rfl, ?_, ?_, ?_, ?_, ?_⟩
 · have h1 := entrySl_den (n := n) (all := cvs) (avs := vs) 0 cvs vs hp.args (fun j => by simp) (fun j => by simp)
   show DenS _ (entrySl n 0 cvs ++ List.replicate (n - cvs.length) (.at .junk)) _
   have : (vs.toArray ++ Array.replicate (n - vs.toArray.size) undef).toList = vs ++ List.replicate (n - vs.length) undef := by simp
   rw [this]
   exact h1.append (denS_junk _ _ (by simp [hlen]))
 · intro k o hk
   obtain ⟨hkn, E, sz, xs, h1, rfl, v, hv, hι, hok⟩ := hown k o hk
   rw [hι]
   exact hok
 · intro k k' o o' b hk hk' hb hb'
   obtain ⟨hkn, E, sz, xs, h1, rfl, v, hv, hι, hok⟩ := hown k o hk
   obtain ⟨hkn', E', sz', xs', h1', rfl, v', hv', hι', hok'⟩ := hown k' o' hk'
   rw [hι] at hb
   rw [hι'] at hb'
   have := hp.sep (k - n) (k' - n) _ _ v v' b h1 hv h1' hv' hb hb'
   omega
 · intro k o b hk hb
   obtain ⟨hkn, E, sz, xs, h1, rfl, v, hv, hι, hok⟩ := hown k o hk
   rw [hι] at hb
   obtain ⟨f1, f2⟩ := hp.free (k - n) _ v b h1 hv hb
   exact ⟨.inr (.inr ⟨k - n, _, v, h1, hv, hb⟩), f1, f2⟩
 · refine ⟨rfl, rfl, rfl, Nat.le_refl _, fun _ _ _ => rfl, hp.hsat, hp.msat, hp.disj, fun _ _ _ h => h, fun _ _ _ => rfl, fun b ob hb => .inr (.inl (by have hb : m b = some ob := hb; rw [hb]; simp))⟩
 · intro k
   unfold iota0
   split
   · rename_i E sz xs v h1 h2
     exact ownsRow_one (hget _ _ _ h1 h2).2
   · rfl
theorem fn_sound {P : Program} {f : FuncId} {fn : Func} {c : Code} (hf : P.funcs[f]? = some fn) (hb : fn.body = some c) (hname : (fn.name == "runtime.NumGoroutine") = false) {S : Spec}
 (hvc : ∀ cvs m h K, S cvs m h K → ∃ C : Ctx, C.P = P ∧ (∀ g S, assoc C.specs g = some S → Sound P g S) ∧ fnVC C fn c (entry fn.ntmps cvs m h) K) : Sound P f S := by
 refine ⟨⟨fn, hf, by rw [hb]; rfl, hname⟩, ?_⟩
 intro cvs vs m h w K hS hp
 obtain ⟨C, rfl, hspecs, hv⟩ := hvc cvs m h K hS
 refine calls_of_wp hf hb ?_
 refine wp_mono (vc_sound hspecs c _ _ _ _ w (entry_models fn.ntmps hp) hv) ?_
 intro e a' w' hq
 have key : (∃ ι σ, Models ⟨w, Moved m cvs vs, h, []⟩ ι σ a' w' ∧ retVC C fn K σ) → a'.defers = [] ∧ ∃ v, (results fn a'.tmps).run C.P w' = .ok v w' ∧ ∃ r u m' h', Ending.returned v = .returned u ∧ K r m' h' ∧ CVOk w' r u ∧ WRel ⟨w, Moved m cvs vs, h, []⟩ m' h' w' ∧
  ∀ b, cvBlk r u = some b → (w.heap.size ≤ b ∨ Moved m cvs vs b) ∧ m' b = none ∧ ∀ i, h' b i = none := by
  rintro ⟨ι, σ, hM, hr⟩
  obtain ⟨u, hu, r, m', h', h1, h2, h3, h4⟩ := ret_sound hM hr
  exact ⟨hM.defers, u, hu, r, u, m', h', rfl, h1, h2, h3, h4⟩
 cases e with
 | normal => exact key hq
 | ret => exact key hq
 | exit id => obtain ⟨_, _, _, h⟩ := hq; exact h.elim
 | goto l => exact hq.elim
 | panic ch => exact hq.elim
 | outgrown => exact hq.elim
theorem fn_sound' {P : Program} {f : FuncId} {fn : Func} {c : Code} (hf : P.funcs[f]? = some fn) (hb : fn.body = some c) (hname : (fn.name == "runtime.NumGoroutine") = false) {S : Spec}
 (hvc : ∀ cvs m h K, S cvs m h K → ∃ C : Ctx, C.P = P ∧ (∀ g S, assoc C.specs g = some S → Sound P g S) ∧ fnVC C fn c (entry fn.ntmps cvs m h) (fun r m' h' => ∃ m2 h2, (∀ b o, m2 b = some o → m' b = some o) ∧ PH.le h h2 ∧ PH.le h2 h' ∧ K r m2 h2)) : Sound P f S := by
 have h0 := fn_sound hf hb hname (S := fun cvs m h K => ∃ K', S cvs m h K' ∧ K = fun r m' h' => ∃ m2 h2, (∀ b o, m2 b = some o → m' b = some o) ∧ PH.le h h2 ∧ PH.le h2 h' ∧ K' r m2 h2) (by
  rintro cvs m h K ⟨K', hS, rfl⟩
  exact hvc cvs m h K' hS)
 refine ⟨h0.1, fun cvs vs m h w K hS hp => ?_⟩
 refine (h0.2 cvs vs m h w _ ⟨K, hS, rfl⟩ hp).mono ?_
 rintro e w' ⟨r, u, m', h', he, ⟨m2, h2, k1, k2, k3, hK⟩, hok, hw, hfr⟩
 have hnone : ∀ b i, h' b i = none → h2 b i = none := by
  intro b i e
  cases e2 : h2 b i with
  | none => rfl
  | some v => rw [k3.le b i v e2] at e; cases e
 refine ⟨r, u, m2, h2, he, hK, hok, ?_, fun b hb => ?_⟩
 · refine ⟨hw.tape, hw.os, hw.output, hw.size, hw.frame, fun b o v e => hw.hsat b o v (k3.le b o v e), fun b o e => hw.msat b o (k1 b o e), fun b o e i => hnone b i (hw.disj b o (k1 b o e) i), k2.le, fun b h1 h2' => ?_, fun b o e => hw.mfr b o (k1 b o e)⟩
   funext i
   have e := congrFun (hw.hold b h1 h2') i
   show h2 b i = h b i
   cases e2 : h b i with
   | some v => exact (k2.le b i v e2)
   | none => exact hnone b i (by rw [e]; exact e2)
 · obtain ⟨f1, f2, f3⟩ := hfr b hb
   refine ⟨f1, ?_, fun i => hnone b i (f3 i)⟩
   cases e2 : m2 b with
   | none => rfl
   | some o => rw [k1 b o e2] at f2; cases f2
def Strong (h : PH) (K : CV → MH → PH → Prop) : CV → MH → PH → Prop := fun r m' h' => (∀ b o, m' b = some o → ∀ i, h' b i = none) → ∃ m2 h2, (∀ b o, m2 b = some o → m' b = some o) ∧ PH.le h h2 ∧
 (∀ b i v, h2 b i = some v → h' b i = some v ∨ ∃ cs E fz, m' b = some (.cells cs E fz) ∧ cs[i]? = some v ∧ m2 b = none) ∧ K r m2 h2
theorem fn_sound2 {P : Program} {f : FuncId} {fn : Func} {c : Code} (hf : P.funcs[f]? = some fn) (hb : fn.body = some c) (hname : (fn.name == "runtime.NumGoroutine") = false) {S : Spec}
 (hvc : ∀ cvs m h K, S cvs m h K → ∃ C : Ctx, C.P = P ∧ (∀ g S, assoc C.specs g = some S → Sound P g S) ∧ fnVC C fn c (entry fn.ntmps cvs m h) (Strong h K)) : Sound P f S := by
 have h0 := fn_sound hf hb hname (S := fun cvs m h K => ∃ K', S cvs m h K' ∧ K = Strong h K') (by
  rintro cvs m h K ⟨K', hS, rfl⟩
  exact hvc cvs m h K' hS)
 refine ⟨h0.1, fun cvs vs m h w K hS hp => ?_⟩
 refine (h0.2 cvs vs m h w _ ⟨K, hS, rfl⟩ hp).mono ?_
 rintro e w' ⟨r, u, m', h', he, hStr, hok, hw, hfr⟩
 obtain ⟨m2, h2, k1, k2, k3, hK⟩ := hStr hw.disj
 refine ⟨r, u, m2, h2, he, hK, hok, ?_, fun b hb => ?_⟩
 · refine ⟨hw.tape, hw.os, hw.output, hw.size, hw.frame, fun b o v e => ?_, fun b o e => hw.msat b o (k1 b o e), fun b o e i => ?_, k2.le, fun b h1 h2' => ?_, fun b o e => hw.mfr b o (k1 b o e)⟩
   · rcases k3 b o v e with h3 | ⟨cs, E, fz, h3, h4, _⟩
     · exact hw.hsat b o v h3
     · rw [cell_of_heap (hw.msat b _ h3), Array.getElem?_toList]; exact h4
   · cases e2 : h2 b i with
     | none => rfl
     | some v =>
      rcases k3 b i v e2 with h3 | ⟨cs, E, fz, h3, h4, h5⟩
      · rw [hw.disj b o (k1 b o e) i] at h3; cases h3
      · rw [h5] at e; cases e
   · funext i
     have e := congrFun (hw.hold b h1 h2') i
     show h2 b i = h b i
     cases e2 : h b i with
     | some v => exact (k2.le b i v e2)
     | none =>
      cases e3 : h2 b i with
      | none => rfl
      | some v =>
       rcases k3 b i v e3 with h3 | ⟨cs, E, fz, h3, h4, h5⟩
       · rw [e] at h3
         have : h b i = some v := h3
         rw [e2] at this; cases this
       · rcases hw.mfr b _ h3 with h6 | h6
         · have h6 : w.heap.size ≤ b := h6
           have h1 : b < w.heap.size := h1
           omega
         · exact (h2' h6).elim
 · obtain ⟨f1, f2, f3⟩ := hfr b hb
   refine ⟨f1, ?_, fun i => ?_⟩
   · cases e2 : m2 b with
     | none => rfl
     | some o => rw [k1 b o e2] at f2; cases f2
   · cases e2 : h2 b i with
     | none => rfl
     | some v =>
      rcases k3 b i v e2 with h3 | ⟨cs, E, fz, h3, _, _⟩
      · rw [f3 i] at h3; cases h3
      · rw [f2] at h3; cases h3
end
end Go.Vc
namespace Go.Vc
open Go
theorem branch_intro {c : Bool} {A B : Prop} (h1 : c = true → A) (h2 : c = false → B) : branch c A B := by
 cases c
 · exact h2 rfl
 · exact h1 rfl
theorem branch_dec {p : Prop} [Decidable p] {A B : Prop} (h1 : p → A) (h2 : ¬p → B) : branch (decide p) A B :=
 branch_intro (fun h => h1 (of_decide_eq_true h)) (fun h => h2 (of_decide_eq_false h))
theorem wrap_id {n : Int} (h1 : -9223372036854775808 ≤ n) (h2 : n < 9223372036854775808) : IntKind.i64.wrap n = n := by
 rw [IntKind.wrap_i64]; omega
theorem RdAt.of_m {m : MH} {h : PH} {b off : Nat} {cs : Array Value} {E : TypeId} {fz : Nat × Nat} {l : List Value} (hm : m b = some (.cells cs E fz)) (hl : (cs.toList.drop off).take l.length = l) : RdAt m h b off l := .lent cs E fz hm hl
end Go.Vc
namespace Go.Ps
open Go Go.Vc Go.Proofs
noncomputable section
variable {K : CV → MH → PH → Prop} {m : MH} {h : PH} {ps : List Int} {cb : Nat} {l : List Int} {i : Nat} {N : Nat} {m' : MH} {h' : PH} {co : List Int} {gr : List Int} {od : List (Int × Bool)} {ta : Int} {li : Int} {xs : List (List Value)} {sz : Nat} {k : Nat} {ks : List (List Int)} {rs : List Int} {r : Sl} {a : List Int} {b : Nat}
structure VV where
 kind : Int
 int : Int
 text : ByteArray
structure OV where
 kind : Int
 index : Int
 value : VV
structure PV where
 op : Int
 cmp : Int
 left : OV
 right : OV
 args : Sl
structure QV where
 op : Int
 table : Int
 where_ : PV
 columns : Sl
 on : Sl
 group : Sl
 order : Sl
 limit : Int
 args : Sl
variable {v : QV}
structure SV2 where
 op : Int
 table : Int
 where_ : PV
 columns : Sl
 on : Sl
 group : Sl
 order : Sl
 limit : Int
 left : Int
 right : Int
structure ColV where
 name : ByteArray
 kind : Int
structure RefV where
 columns : Sl
 table : Int
structure TabV where
 name : ByteArray
 columns : Sl
 key : Int
 references : Sl
 checks : Sl
structure SchV where
 version : Int
 tables : Sl
variable {sc : SchV}
abbrev vQi (n : Int) : Value := .int .i64 n
abbrev vQs (s : Sl) : Value := .slice s.a s.len s.cap
abbrev vQn : Value := .slice none 0 0
abbrev vQz : Value := .string ⟨⟨[]⟩⟩
abbrev vQp (b o : Nat) : Value := .pointer (some ⟨b, o, none⟩)
abbrev aQi (n : Int) : At := .val (.int .i64 n)
abbrev aQs (s : Sl) : At := .val (.slice s.a s.len s.cap)
abbrev aQn : At := .val (.slice none 0 0)
abbrev aQz : At := .val (.string ⟨⟨[]⟩⟩)
abbrev sQi (n : Int) : SV := .at (.val (.int .i64 n))
abbrev sQs (s : Sl) : SV := .at (.val (.slice s.a s.len s.cap))
abbrev sQn : SV := .at (.val (.slice none 0 0))
abbrev sQp (b o : Nat) : SV := .at (.ptr b o)
abbrev sQo (b o : Nat) : SV := .at (.val (.pointer (some ⟨b, o, none⟩)))
abbrev sQb (b : Bool) : SV := .at (.val (.bool b))
abbrev sQl (k : Nat) : SV := .at (.lst k)
abbrev cQi (n : Int) : CV := .val (.int .i64 n)
abbrev cQb (b : Bool) : CV := .val (.bool b)
abbrev cQs (s : Sl) : CV := .val (.slice s.a s.len s.cap)
abbrev cQn : CV := .val (.slice none 0 0)
abbrev cQp (b o : Nat) : CV := .val (.pointer (some ⟨b, o, none⟩))
abbrev cQa (l : List Value) : CV := .val (.agg ⟨l⟩)
abbrev oQ (T : TypeId) (l : List At) : Option Own := some (.cells T l)
abbrev eQ {α : Type} (x : α) : Prop := x = x
abbrev eP (k : Nat) : Prop := sQp k 0 = sQp k 0
abbrev eL (k : Nat) : Prop := sQl k = sQl k
abbrev aQt (s : ByteArray) : At := .val (.string s)
abbrev zQ : List At := [aQi 0, aQi 0, aQi 0, aQi 0, aQi 0, aQi 0, aQi 0, aQi 0, aQz, aQi 0, aQi 0, aQi 0, aQi 0, aQz, aQn, aQn, aQn, aQn, aQn, aQi 0, aQn]
abbrev zP : List At := [aQi 0, aQi 0, aQi 0, aQi 0, aQi 0, aQi 0, aQz, aQi 0, aQi 0, aQi 0, aQi 0, aQz, aQn]
def eI (n : Int) : List Value := [.int .i64 n]
def eS (s : Sl) : List Value := [.slice s.a s.len s.cap]
def VV.enc (v : VV) : List Value := [.int .i64 v.kind, .int .i64 v.int, .string v.text]
def OV.enc (o : OV) : List Value := [.int .i64 o.kind, .int .i64 o.index, .int .i64 o.value.kind, .int .i64 o.value.int, .string o.value.text]
def PV.enc (p : PV) : List Value :=
 [.int .i64 p.op, .int .i64 p.cmp,
  .int .i64 p.left.kind, .int .i64 p.left.index, .int .i64 p.left.value.kind, .int .i64 p.left.value.int, .string p.left.value.text,
  .int .i64 p.right.kind, .int .i64 p.right.index, .int .i64 p.right.value.kind, .int .i64 p.right.value.int, .string p.right.value.text,
  .slice p.args.a p.args.len p.args.cap]
def QV.enc (q : QV) : List Value :=
 [.int .i64 q.op, .int .i64 q.table,
  .int .i64 q.where_.op, .int .i64 q.where_.cmp,
  .int .i64 q.where_.left.kind, .int .i64 q.where_.left.index, .int .i64 q.where_.left.value.kind, .int .i64 q.where_.left.value.int, .string q.where_.left.value.text,
  .int .i64 q.where_.right.kind, .int .i64 q.where_.right.index, .int .i64 q.where_.right.value.kind, .int .i64 q.where_.right.value.int, .string q.where_.right.value.text,
  .slice q.where_.args.a q.where_.args.len q.where_.args.cap,
  .slice q.columns.a q.columns.len q.columns.cap, .slice q.on.a q.on.len q.on.cap, .slice q.group.a q.group.len q.group.cap, .slice q.order.a q.order.len q.order.cap,
  .int .i64 q.limit, .slice q.args.a q.args.len q.args.cap]
def SV2.enc (q : SV2) : List Value :=
 [.int .i64 q.op, .int .i64 q.table,
  .int .i64 q.where_.op, .int .i64 q.where_.cmp,
  .int .i64 q.where_.left.kind, .int .i64 q.where_.left.index, .int .i64 q.where_.left.value.kind, .int .i64 q.where_.left.value.int, .string q.where_.left.value.text,
  .int .i64 q.where_.right.kind, .int .i64 q.where_.right.index, .int .i64 q.where_.right.value.kind, .int .i64 q.where_.right.value.int, .string q.where_.right.value.text,
  .slice q.where_.args.a q.where_.args.len q.where_.args.cap,
  .slice q.columns.a q.columns.len q.columns.cap, .slice q.on.a q.on.len q.on.cap, .slice q.group.a q.group.len q.group.cap, .slice q.order.a q.order.len q.order.cap,
  .int .i64 q.limit, .int .i64 q.left, .int .i64 q.right]
def ColV.enc (c : ColV) : List Value := [.string c.name, .int .i64 c.kind]
def RefV.enc (r : RefV) : List Value := [.slice r.columns.a r.columns.len r.columns.cap, .int .i64 r.table]
def TabV.enc (t : TabV) : List Value := [.string t.name, .slice t.columns.a t.columns.len t.columns.cap, .int .i64 t.key, .slice t.references.a t.references.len t.references.cap, .slice t.checks.a t.checks.len t.checks.cap]
def SchV.enc (s : SchV) : List Value := [.int .i64 s.version, .slice s.tables.a s.tables.len s.tables.cap]
abbrev zV : List Value := [vQi 0, vQi 0, vQi 0, vQi 0, vQi 0, vQi 0, vQi 0, vQi 0, vQz, vQi 0, vQi 0, vQi 0, vQi 0, vQz, vQn, vQn, vQn, vQn, vQn, vQi 0, vQn]
abbrev pQ (p : PV) (r : List At) : List At := aQi p.op :: aQi p.cmp :: aQi p.left.kind :: aQi p.left.index :: aQi p.left.value.kind :: aQi p.left.value.int :: aQt p.left.value.text :: aQi p.right.kind :: aQi p.right.index :: aQi p.right.value.kind :: aQi p.right.value.int :: aQt p.right.value.text :: aQs p.args :: r
abbrev qQ (q : QV) (x : At) : List At := aQi q.op :: aQi q.table :: pQ q.where_ [aQs q.columns, aQs q.on, aQs q.group, aQs q.order, aQi q.limit, x]
def pairEnc (p : Int × Int) : List Value := [.int .i64 p.1, .int .i64 p.2]
def sortEnc (p : Int × Bool) : List Value := [.int .i64 p.1, .bool p.2]
def dI : Dec := ⟨Int, eI⟩
def dS : Dec := ⟨Sl, eS⟩
def dB : Dec := ⟨Bool, fun b => [.bool b]⟩
def dU8 : Dec := ⟨UInt8, fun b => [.int .u8 b.toNat]⟩
def dStr : Dec := ⟨ByteArray, fun s => [.string s]⟩
def encF : Option Nat → Value
 | none => .nilFunc
 | some f => .func (.func f) #[] #[]
def dF : Dec := ⟨Option Nat, fun f => [encF f]⟩
structure NV where
 s : SchV
 params : Sl
 q : QV
 args : Sl
def NV.enc (n : NV) : List Value := n.s.enc ++ eS n.params ++ n.q.enc ++ eS n.args
def dec : TypeId → Dec := fun T => match T with
 | 2 => dI
 | 3 => dI
 | 4 => dB
 | 5 => dU8
 | 9 => dStr
 | 50 => dI
 | 22 => dS
 | 23 => dS
 | 26 => dS
 | 36 => dS
 | 39 => dS
 | 40 => dS
 | 41 => dS
 | 47 => dS
 | 69 => dS
 | 70 => dS
 | 108 => dS
 | 88 => ⟨Nat, fun b => [.map (some b)]⟩
 | 28 => ⟨SchV, SchV.enc⟩
 | 33 => ⟨VV, VV.enc⟩
 | 35 => ⟨OV, OV.enc⟩
 | 38 => ⟨PV, PV.enc⟩
 | 43 => ⟨QV, QV.enc⟩
 | 60 => ⟨SV2, SV2.enc⟩
 | 72 => ⟨TabV, TabV.enc⟩
 | 78 => ⟨Int × Int, pairEnc⟩
 | 80 => ⟨Int × Bool, sortEnc⟩
 | 84 => ⟨ColV, ColV.enc⟩
 | 86 => ⟨RefV, RefV.enc⟩
 | 155 => ⟨NV, NV.enc⟩
 | 156 => dF
 | _ => ⟨Unit, fun _ => []⟩
def bodyOf (f : Func) : Code := match f.body with | some c => c | none => .skip
def ctx (specs : List (Nat × Vc.Spec)) (loops : List (Nat × LoopAnn)) (cuts : List (Nat × CutAnn)) (moves : List (Nat × List Nat)) (retMove : Bool) : Ctx :=
 { P := Tryz.prog, loops2 := [], cuts2 := [], rcuts := [], heapT := [], specs := specs, dec := dec, loops := loops, cuts := cuts, moves := moves, retMove := retMove, yield := none }
def ctx2 (specs : List (Nat × Vc.Spec)) (loops : List (Nat × StAnn)) (cuts : List (Nat × StAnn)) (moves : List (Nat × List Nat)) (retMove : Bool) : Ctx :=
 { P := Tryz.prog, loops2 := loops, cuts2 := cuts, rcuts := [], heapT := [], specs := specs, dec := dec, loops := [], cuts := [], moves := moves, retMove := retMove, yield := none }
def ctx3 (specs : List (Nat × Vc.Spec)) (loops : List (Nat × StAnn)) (cuts : List (Nat × StAnn)) (rcuts : List (Nat × List (Nat × StAnn))) (moves : List (Nat × List Nat)) (retMove : Bool) : Ctx :=
 { P := Tryz.prog, loops2 := loops, cuts2 := cuts, rcuts := rcuts, heapT := [], specs := specs, dec := dec, loops := [], cuts := [], moves := moves, retMove := retMove, yield := none }
def ctx4 (specs : List (Nat × Vc.Spec)) (loops : List (Nat × StAnn)) (cuts : List (Nat × StAnn)) (rcuts : List (Nat × List (Nat × StAnn))) (heapT : List TypeId) (moves : List (Nat × List Nat)) (retMove : Bool) : Ctx :=
 { P := Tryz.prog, loops2 := loops, cuts2 := cuts, rcuts := rcuts, heapT := heapT, specs := specs, dec := dec, loops := [], cuts := [], moves := moves, retMove := retMove, yield := none }
theorem specs_nil : ∀ g S, assoc ([] : List (Nat × Vc.Spec)) g = some S → Sound Tryz.prog g S := fun g S h => by simp [assoc] at h
theorem specs_cons {g0 : Nat} {S0 : Vc.Spec} {r : List (Nat × Vc.Spec)} (h0 : Sound Tryz.prog g0 S0) (hr : ∀ g S, assoc r g = some S → Sound Tryz.prog g S) : ∀ g S, assoc ((g0, S0) :: r) g = some S → Sound Tryz.prog g S := by
 intro g S h
 simp only [assoc] at h
 split at h
 · rename_i hb
   have := Nat.eq_of_beq_eq_true hb
   subst this
   simp at h
   subst h
   exact h0
 · exact hr g S h
def cInt (n : Int) : List UInt8 → Int × List UInt8
 | [] => (0, [])
 | b :: r => if n < 1 then (0, b :: r) else ((b.toNat : Int) % n, r)
structure CaseAt (m : MH) (h : PH) (cb : Nat) (r : List UInt8) : Prop where
 ex : ∃ (s : Sl) (cs : List UInt8) (k : Nat), m cb = some (.cells #[.slice s.a s.len s.cap, .int .i64 k] 68 (0, 0)) ∧ RowIn h s 1 (bytesVal cs) ∧ k ≤ cs.length ∧ cs.length ≤ 1000 ∧ r = cs.drop k
structure MOther (m m' : MH) (cb : Nat) : Prop where
 other : ∀ b, b ≠ cb → m' b = m b
end
end Go.Ps
namespace Go.Vc
open Go
theorem PH.le.refl (h : PH) : PH.le h h := ⟨fun _ _ _ e => e⟩
theorem PH.le.trans {h h' h'' : PH} (a : PH.le h h') (b : PH.le h' h'') : PH.le h h'' := ⟨fun x y v e => b.le x y v (a.le x y v e)⟩
theorem RdCells.mono {h h' : PH} {b o : Nat} {l : List Value} (r : RdCells h b o l) (le : PH.le h h') : RdCells h' b o l := ⟨fun i v e => le.le _ _ _ (r.rd i v e)⟩
theorem RowIn.mono {h h' : PH} {s : Sl} {sz : Nat} {xs : List (List Value)} (r : RowIn h s sz xs) (le : PH.le h h') : RowIn h' s sz xs :=
 ⟨r.len, r.row.imp id fun ⟨b, o, e, k⟩ => ⟨b, o, e, fun i x hx => (k i x hx).mono le⟩, r.cap⟩
theorem RowIn.get {h : PH} {s : Sl} {sz : Nat} {xs : List (List Value)} (r : RowIn h s sz xs) {i : Nat} {e : List Value} (hi : xs[i]? = some e) :
 ∃ b o, s.a = some ⟨b, o, none⟩ ∧ RdCells h b (o + i * sz) e := by
 rcases r.row with rfl | ⟨b, o, ha, k⟩
 · simp at hi
 · exact ⟨b, o, ha, k i e hi⟩
theorem RowIn.nil (h : PH) (sz : Nat) : RowIn h ⟨none, 0, 0⟩ sz [] := ⟨rfl, .inl rfl, Nat.le_refl _⟩
end Go.Vc
namespace Go.Ps
open Go Go.Vc Go.Proofs
noncomputable section
variable {K : CV → MH → PH → Prop} {m : MH} {h : PH} {ps : List Int} {cb : Nat} {sc : SchV} {v : QV} {l : List Int} {i : Nat} {N : Nat} {m' : MH} {h' : PH} {co : List Int} {gr : List Int} {od : List (Int × Bool)} {ta : Int} {li : Int} {xs : List (List Value)} {sz : Nat} {k : Nat} {ks : List (List Int)} {rs : List Int} {r : Sl} {a : List Int} {b : Nat}
structure Ints (h : PH) (s : Sl) (l : List Int) : Prop where
 row : RowIn h s 1 (l.map eI)
 len : l.length ≤ 17592186044416
theorem Ints.mono {s : Sl} (r : Ints h s l) (le : PH.le h h') : Ints h' s l := ⟨r.row.mono le, r.len⟩
theorem Ints.slen {s : Sl} (r : Ints h s l) : s.len = l.length := by have := r.row.len; simpa using this
structure Pairs (h : PH) (s : Sl) (l : List (Int × Int)) : Prop where
 row : RowIn h s 2 (l.map pairEnc)
 len : l.length ≤ 8796093022208
theorem Pairs.mono {s : Sl} {l : List (Int × Int)} (r : Pairs h s l) (le : PH.le h h') : Pairs h' s l := ⟨r.row.mono le, r.len⟩
theorem Pairs.slen {s : Sl} {l : List (Int × Int)} (r : Pairs h s l) : s.len = l.length := by have := r.row.len; simpa using this
structure Sorts (h : PH) (s : Sl) (l : List (Int × Bool)) : Prop where
 row : RowIn h s 2 (l.map sortEnc)
 len : l.length ≤ 8796093022208
theorem Sorts.mono {s : Sl} {l : List (Int × Bool)} (r : Sorts h s l) (le : PH.le h h') : Sorts h' s l := ⟨r.row.mono le, r.len⟩
theorem Sorts.slen {s : Sl} {l : List (Int × Bool)} (r : Sorts h s l) : s.len = l.length := by have := r.row.len; simpa using this
inductive Pred where
 | mk (op cmp : Int) (left right : OV) (args : List Pred)
variable {p : Pred} {w : Pred}
mutual
def RepP (h : PH) : Pred → PV → Prop
 | .mk op cmp l r args, v => v.op = op ∧ v.cmp = cmp ∧ v.left = l ∧ v.right = r ∧ args.length ≤ 502633886983 ∧ ∃ vs : List PV, RowIn h v.args 13 (vs.map PV.enc) ∧ RepPs h args vs
def RepPs (h : PH) : List Pred → List PV → Prop
 | [], vs => vs = []
 | p :: ps, vs => ∃ v vs', vs = v :: vs' ∧ RepP h p v ∧ RepPs h ps vs'
end
mutual
theorem RepP.mono {h h' : PH} (le : PH.le h h') : ∀ {p : Pred} {v : PV}, RepP h p v → RepP h' p v
 | .mk .., _, ⟨h1, h2, h3, h4, h5, vs, h6, h7⟩ => ⟨h1, h2, h3, h4, h5, vs, h6.mono le, RepPs.mono le h7⟩
theorem RepPs.mono {h h' : PH} (le : PH.le h h') : ∀ {ps : List Pred} {vs : List PV}, RepPs h ps vs → RepPs h' ps vs
 | [], _, h => h
 | _ :: _, _, ⟨v, vs', h1, h2, h3⟩ => ⟨v, vs', h1, RepP.mono le h2, RepPs.mono le h3⟩
end
theorem RepPs.length {h : PH} : ∀ {ps : List Pred} {vs : List PV}, RepPs h ps vs → vs.length = ps.length
 | [], _, h => by rw [show _ = [] from h]; rfl
 | _ :: _, _, ⟨_, _, h1, _, h3⟩ => by rw [h1]; simp [RepPs.length h3]
theorem RepPs.get {h : PH} : ∀ {ps : List Pred} {vs : List PV}, RepPs h ps vs → ∀ {i : Nat} {p : Pred}, ps[i]? = some p → ∃ v, vs[i]? = some v ∧ RepP h p v
 | [], _, _, i, p, e => by simp at e
 | p0 :: ps, _, ⟨v, vs', rfl, h2, h3⟩, 0, p, e => by simp at e; subst e; exact ⟨v, rfl, h2⟩
 | p0 :: ps, _, ⟨v, vs', rfl, h2, h3⟩, i + 1, p, e => by simp at e; simpa using RepPs.get h3 e
inductive Query where
 | mk (op table : Int) (wher : Pred) (columns : List Int) (on : List (Int × Int)) (group : List Int) (order : List (Int × Bool)) (limit : Int) (args : List Query)
variable {q : Query}
mutual
def RepQ (h : PH) : Query → QV → Prop
 | .mk op table w columns on group order limit args, v => v.op = op ∧ v.table = table ∧ RepP h w v.where_ ∧ Ints h v.columns columns ∧ Pairs h v.on on ∧ Ints h v.group group ∧ Sorts h v.order order ∧ v.limit = limit ∧
  args.length ≤ 502633886983 ∧ ∃ vs : List QV, RowIn h v.args 21 (vs.map QV.enc) ∧ RepQs h args vs
def RepQs (h : PH) : List Query → List QV → Prop
 | [], vs => vs = []
 | p :: ps, vs => ∃ v vs', vs = v :: vs' ∧ RepQ h p v ∧ RepQs h ps vs'
end
mutual
theorem RepQ.mono {h h' : PH} (le : PH.le h h') : ∀ {p : Query} {v : QV}, RepQ h p v → RepQ h' p v
 | .mk .., _, ⟨h1, h2, h3, h4, h5, h6, h7, h8, h9, vs, h10, h11⟩ => ⟨h1, h2, h3.mono le, h4.mono le, h5.mono le, h6.mono le, h7.mono le, h8, h9, vs, h10.mono le, RepQs.mono le h11⟩
theorem RepQs.mono {h h' : PH} (le : PH.le h h') : ∀ {ps : List Query} {vs : List QV}, RepQs h ps vs → RepQs h' ps vs
 | [], _, h => h
 | _ :: _, _, ⟨v, vs', h1, h2, h3⟩ => ⟨v, vs', h1, RepQ.mono le h2, RepQs.mono le h3⟩
end
theorem RepQs.length {h : PH} : ∀ {ps : List Query} {vs : List QV}, RepQs h ps vs → vs.length = ps.length
 | [], _, h => by rw [show _ = [] from h]; rfl
 | _ :: _, _, ⟨_, _, h1, _, h3⟩ => by rw [h1]; simp [RepQs.length h3]
theorem RepQs.get {h : PH} : ∀ {ps : List Query} {vs : List QV}, RepQs h ps vs → ∀ {i : Nat} {p : Query}, ps[i]? = some p → ∃ v, vs[i]? = some v ∧ RepQ h p v
 | [], _, _, i, p, e => by simp at e
 | p0 :: ps, _, ⟨v, vs', rfl, h2, h3⟩, 0, p, e => by simp at e; subst e; exact ⟨v, rfl, h2⟩
 | p0 :: ps, _, ⟨v, vs', rfl, h2, h3⟩, i + 1, p, e => by simp at e; simpa using RepQs.get h3 e
def iv (n : Int) : SV := .at (.val (.int .i64 n))
def sv (s : Sl) : SV := .at (.val (.slice s.a s.len s.cap))
def bv (b : Bool) : SV := .at (.val (.bool b))
def vv (v : Value) : SV := .at (.val v)
def cS (s : Sl) : CV := .val (.slice s.a s.len s.cap)
def cI (n : Int) : CV := .val (.int .i64 n)
def cB (b : Bool) : CV := .val (.bool b)
def cP (b : Nat) : CV := .val (.pointer (some ⟨b, 0, none⟩))
def loop1 (id : Nat) (st : Nat → St) (inv : Nat → Prop) (mu : Nat → Nat) : Nat × LoopAnn := (id, { A := Nat, st := st, inv := inv, mu := mu })
theorem wrapS (h : i ≤ 140737488355328) : IntKind.i64.wrap ((i : Int) + 1) = ((i + 1 : Nat) : Int) := by
 rw [wrap_id (by omega) (by omega)]; rfl
theorem Ints.at {s : Sl} (r : Ints h s l) {x : Int} (hi : l[i]? = some x) : ∃ b o, s.a = some ⟨b, o, none⟩ ∧ RdCells h b (o + i) [.int .i64 x] := by
 obtain ⟨b, o, h1, h2⟩ := r.row.get (i := i) (e := eI x) (by simp [hi])
 exact ⟨b, o, h1, by simpa [eI] using h2⟩
theorem MT {p : Prop} (h : p := by repeat' (first | with_reducible rfl | exact trivial | refine ⟨?_, ?_⟩ | rfl | (rw [wrapS (by omega)]; done) | (rw [wrapS (by omega)]))) : p := h
def colKind (k : Int) : Bool := k == 3 || k == 4 || k == 5
def noText (t : ByteArray) : Bool := t.toList == []
def validV (v : VV) : Bool :=
 if v.kind == 1 || v.kind == 2 then v.int == 0 && noText v.text
 else if v.kind == 3 then (v.int == 0 || v.int == 1) && noText v.text
 else if v.kind == 4 then noText v.text
 else if v.kind == 5 then v.int == 0 && (v.text.size : Int) ≤ 64
 else false
def realV (v : VV) : Bool := validV v && v.kind ≥ 3
def aV (v : VV) : CV := .val (.agg #[.int .i64 v.kind, .int .i64 v.int, .string v.text])
def KindS : Vc.Spec := fun cvs m h K => ∃ k, cvs = [cI k] ∧ K (cB (colKind k)) m h
def ValidS : Vc.Spec := fun cvs m h K => ∃ v, cvs = [aV v] ∧ K (cB (validV v)) m h
def RealS : Vc.Spec := fun cvs m h K => ∃ v, cvs = [aV v] ∧ K (cB (realV v)) m h
def KindsS : Vc.Spec := fun cvs m h K => ∃ s l, cvs = [cS s] ∧ Ints h s l ∧ K (cB (l.all colKind)) m h
def f54_ctx (s : Sl) (l : List Int) (m : MH) (h : PH) : Ctx :=
 ctx [(78, KindS)] [loop1 2 (fun i => mkSt 15 16 [(5, sv s), (6, iv s.len), (7, iv i)] [] m h) (fun i => i ≤ l.length ∧ (l.take i).all colKind = true) (fun i => l.length - i)] [] [] false
def f87_ctx (s : Sl) (l : List Int) (m : MH) (h : PH) : Ctx :=
 ctx [] [loop1 2 (fun i => mkSt 22 23 [(5, sv s), (6, iv s.len), (7, iv i)] [] m h) (fun i => i ≤ l.length ∧ (l.take i).all colKind = true) (fun i => l.length - i)] [] [] false
def f78_nice (k : Int) (m : MH) (h : PH) (K : CV → MH → PH → Prop) : Prop :=
 branch (k == 3) (K (cQb true) m h) (branch (k == 4) (K (cQb true) m h) (K (cQb (k == 5)) m h))
theorem f78_vc (k : Int) (m : MH) (h : PH) (K : CV → MH → PH → Prop) : f78_nice k m h K = (fnVC (ctx [] [] [] [] false) Tryz.f78 (bodyOf Tryz.f78) (entry Tryz.f78.ntmps [cI k] m h) K) := by kernel_rfl
def f132_nice (v : VV) (m : MH) (h : PH) (K : CV → MH → PH → Prop) : Prop :=
 branch (v.kind == 1) (branch (v.int == 0) (K (cQb (v.text.toList == [])) m h) (K (cQb false) m h)) (branch (v.kind == 2) (branch (v.int == 0) (K (cQb (v.text.toList == [])) m h) (K
 (cQb false) m h)) (branch (v.kind == 3) (branch (v.int == 0) (K (cQb (v.text.toList == [])) m h) (branch (v.int == 1) (K (cQb (v.text.toList == [])) m h) (K (cQb false) m h)))
 (branch (v.kind == 4) (K (cQb (v.text.toList == [])) m h) (branch (v.kind == 5) (branch (v.int == 0) (K (cQb (decide ((↑v.text.size : Int) <= 64))) m h) (K (cQb false) m h)) (K
 (cQb false) m h)))))
theorem f132_vc (v : VV) (m : MH) (h : PH) (K : CV → MH → PH → Prop) : f132_nice v m h K = (fnVC (ctx [] [] [] [] false) Tryz.f132 (bodyOf Tryz.f132) (entry Tryz.f132.ntmps [aV v] m h) K) := by kernel_rfl
def f124_nice (v : VV) (m : MH) (h : PH) (K : CV → MH → PH → Prop) : Prop :=
 ∃ (v_1 : VV), [cQa (VV.enc v)] = [cQa (VV.enc v_1)] /\ branch (validV v_1) (K (cQb (decide (v.kind ≥ 3))) m h) (K (cQb false) m h)
theorem f124_vc (v : VV) (m : MH) (h : PH) (K : CV → MH → PH → Prop) : f124_nice v m h K = (fnVC (ctx [(132, ValidS)] [] [] [] false) Tryz.f124 (bodyOf Tryz.f124) (entry Tryz.f124.ntmps [aV v] m h) K) := by kernel_rfl
def f125_nice (v : VV) (m : MH) (h : PH) (K : CV → MH → PH → Prop) : Prop :=
 ∃ (v_1 : VV), [cQa (VV.enc v)] = [cQa (VV.enc v_1)] /\ branch (validV v_1) (branch (v.kind != 1) (K (cQb (v.kind != 2)) m h) (K (cQb false) m h)) (K (cQb false) m h)
theorem f125_vc (v : VV) (m : MH) (h : PH) (K : CV → MH → PH → Prop) : f125_nice v m h K = (fnVC (ctx [(133, ValidS)] [] [] [] false) Tryz.f125 (bodyOf Tryz.f125) (entry Tryz.f125.ntmps [aV v] m h) K) := by kernel_rfl
def f54_nice (s : Sl) (l : List Int) (m : MH) (h : PH) (K : CV → MH → PH → Prop) : Prop :=
 (∃ (x : Nat), (x <= l.length /\ (List.take x l).all colKind = true) /\ eQ (sQs s) /\ eQ (sQi ↑s.len) /\ sQi 0 = sQi ↑x /\ m = m /\ h = h /\ True) /\ ∀ (x : Nat), x <= l.length /\
 (List.take x l).all colKind = true -> branch (decide ((↑x : Int) < ↑s.len)) (∃ (b off : Nat), s.a = some (Addr.mk b off none) /\ 0 <= (↑x : Int) /\ (↑x : Int) < ↑s.len /\ ∃ (y :
 Int), RdAt m h b (off + (↑x : Int).toNat * 1) [vQi y] /\ ∃ (k : Int), [cQi y] = [cQi k] /\ branch (!colKind k) (K (cQb false) m h) (∃ (y : Nat), (y <= l.length /\ (List.take y
 l).all colKind = true) /\ l.length - y < l.length - x /\ eQ (sQs s) /\ eQ (sQi ↑s.len) /\ sQi (IntKind.i64.wrap ((↑x : Int) + 1)) = sQi ↑y /\ m = m /\ h = h /\ True)) (K (cQb true)
 m h)
theorem f54_vc (s : Sl) (l : List Int) (m : MH) (h : PH) (K : CV → MH → PH → Prop) : f54_nice s l m h K = (fnVC (f54_ctx s l m h) Tryz.f54 (bodyOf Tryz.f54) (entry Tryz.f54.ntmps [cS s] m h) K) := by kernel_rfl
def f87_nice (s : Sl) (l : List Int) (m : MH) (h : PH) (K : CV → MH → PH → Prop) : Prop :=
 (∃ (x : Nat), (x <= l.length /\ (List.take x l).all colKind = true) /\ eQ (sQs s) /\ eQ (sQi ↑s.len) /\ sQi 0 = sQi ↑x /\ m = m /\ h = h /\ True) /\ ∀ (x : Nat), x <= l.length /\
 (List.take x l).all colKind = true -> branch (decide ((↑x : Int) < ↑s.len)) (∃ (b off : Nat), s.a = some (Addr.mk b off none) /\ 0 <= (↑x : Int) /\ (↑x : Int) < ↑s.len /\ ∃ (y :
 Int), RdAt m h b (off + (↑x : Int).toNat * 1) [vQi y] /\ branch (y != 3) (branch (y != 4) (branch (y != 5) (K (cQb false) m h) (∃ (y : Nat), (y <= l.length /\ (List.take y l).all
 colKind = true) /\ l.length - y < l.length - x /\ eQ (sQs s) /\ eQ (sQi ↑s.len) /\ sQi (IntKind.i64.wrap ((↑x : Int) + 1)) = sQi ↑y /\ m = m /\ h = h /\ True)) (∃ (y : Nat), (y <=
 l.length /\ (List.take y l).all colKind = true) /\ l.length - y < l.length - x /\ eQ (sQs s) /\ eQ (sQi ↑s.len) /\ sQi (IntKind.i64.wrap ((↑x : Int) + 1)) = sQi ↑y /\ m = m /\ h =
 h /\ True)) (∃ (y : Nat), (y <= l.length /\ (List.take y l).all colKind = true) /\ l.length - y < l.length - x /\ eQ (sQs s) /\ eQ (sQi ↑s.len) /\ sQi (IntKind.i64.wrap ((↑x : Int)
 + 1)) = sQi ↑y /\ m = m /\ h = h /\ True)) (K (cQb true) m h)
theorem f87_vc (s : Sl) (l : List Int) (m : MH) (h : PH) (K : CV → MH → PH → Prop) : f87_nice s l m h K = (fnVC (f87_ctx s l m h) Tryz.f87 (bodyOf Tryz.f87) (entry Tryz.f87.ntmps [cS s] m h) K) := by kernel_rfl
theorem f133_vc (v : VV) (m : MH) (h : PH) (K : CV → MH → PH → Prop) : f132_nice v m h K = fnVC (ctx [] [] [] [] false) Tryz.f133 (bodyOf Tryz.f133) (entry Tryz.f133.ntmps [aV v] m h) K := by kernel_rfl
theorem retB {x y : Bool} (hK : K (cB x) m h) (e : x = y) : K (.val (.bool y)) m h := e ▸ hK
theorem f78_ok {k : Int} (hK : K (cB (colKind k)) m h) : f78_nice k m h K := by
 unfold f78_nice
 repeat' (first | (refine branch_intro (fun _ => ?_) (fun _ => ?_)) | (refine retB hK ?_; simp_all [colKind]))
theorem f132_ok {v : VV} (hK : K (cB (validV v)) m h) : f132_nice v m h K := by
 unfold f132_nice
 repeat' (first | (refine branch_intro (fun _ => ?_) (fun _ => ?_)) | (refine retB hK ?_; simp_all [validV, noText]))
theorem f78_sound : Sound Tryz.prog 78 KindS := by
 refine fn_sound (fn := Tryz.f78) (c := bodyOf Tryz.f78) Tryz.func78 rfl (by decide) ?_
 rintro cvs m h K ⟨k, rfl, hK⟩
 refine ⟨ctx [] [] [] [] false, rfl, specs_nil, ?_⟩
 rw [← f78_vc k m h K]
 exact f78_ok hK
theorem f132_sound : Sound Tryz.prog 132 ValidS := by
 refine fn_sound (fn := Tryz.f132) (c := bodyOf Tryz.f132) Tryz.func132 rfl (by decide) ?_
 rintro cvs m h K ⟨v, rfl, hK⟩
 refine ⟨ctx [] [] [] [] false, rfl, specs_nil, ?_⟩
 rw [← f132_vc v m h K]
 exact f132_ok hK
theorem f133_sound : Sound Tryz.prog 133 ValidS := by
 refine fn_sound (fn := Tryz.f133) (c := bodyOf Tryz.f133) Tryz.func133 rfl (by decide) ?_
 rintro cvs m h K ⟨v, rfl, hK⟩
 refine ⟨ctx [] [] [] [] false, rfl, specs_nil, ?_⟩
 rw [← f133_vc v m h K]
 exact f132_ok hK
theorem f124_ok {v : VV} (hK : K (cB (realV v)) m h) : f124_nice v m h K := by
 refine ⟨v, rfl, ?_⟩
 repeat' (first | (refine branch_intro (fun _ => ?_) (fun _ => ?_)) | (refine retB hK ?_; simp_all [realV]))
theorem f125_ok {v : VV} (hK : K (cB (realV v)) m h) : f125_nice v m h K := by
 refine ⟨v, rfl, ?_⟩
 refine branch_intro (fun h1 => branch_intro (fun h2 => retB hK ?_) (fun h2 => retB hK ?_)) (fun h1 => retB hK ?_)
 · have h2 : v.kind ≠ 1 := by simpa using h2
   by_cases h3 : v.kind = 2
   · simp [realV, h1, h3]
   · have : 3 ≤ v.kind := by
      simp only [validV] at h1
      repeat' split at h1
      all_goals first | (simp_all; done) | skip
      all_goals simp_all
     simp [realV, h1, h3, this]
 · have h2 : v.kind = 1 := by simpa using h2
   simp [realV, h2]
 · simp [realV, h1]
theorem f124_sound : Sound Tryz.prog 124 RealS := by
 refine fn_sound (fn := Tryz.f124) (c := bodyOf Tryz.f124) Tryz.func124 rfl (by decide) ?_
 rintro cvs m h K ⟨v, rfl, hK⟩
 refine ⟨ctx [(132, ValidS)] [] [] [] false, rfl, specs_cons f132_sound specs_nil, ?_⟩
 rw [← f124_vc v m h K]
 exact f124_ok hK
theorem f125_sound : Sound Tryz.prog 125 RealS := by
 refine fn_sound (fn := Tryz.f125) (c := bodyOf Tryz.f125) Tryz.func125 rfl (by decide) ?_
 rintro cvs m h K ⟨v, rfl, hK⟩
 refine ⟨ctx [(133, ValidS)] [] [] [] false, rfl, specs_cons f133_sound specs_nil, ?_⟩
 rw [← f125_vc v m h K]
 exact f125_ok hK
theorem all_take {α : Type} {p : α → Bool} {l : List α} {x : α} (hx : l[i]? = some x) : (l.take (i + 1)).all p = ((l.take i).all p && p x) := by
 rw [List.take_add_one, List.all_append, hx]; simp
theorem all_bad {α : Type} {p : α → Bool} {l : List α} {x : α} (hx : l[i]? = some x) (hp : p x = false) : l.all p = false := by
 rw [List.all_eq_false]
 exact ⟨x, List.mem_of_getElem? hx, by simp [hp]⟩
theorem f54_ok {s : Sl} (hl : Ints h s l) (hK : K (cB (l.all colKind)) m h) : f54_nice s l m h K := by
 have hs := hl.slen
 have hb := hl.len
 refine ⟨⟨0, ⟨by omega, by simp⟩, rfl, rfl, rfl, rfl, rfl, trivial⟩, fun i hi => branch_dec (fun hlt => ?_) (fun hge => ?_)⟩
 · obtain ⟨x, hx⟩ : ∃ x, l[i]? = some x := ⟨l[i]'(by omega), List.getElem?_eq_getElem _⟩
   obtain ⟨b1, o1, e1, r1⟩ := hl.at hx
   refine ⟨b1, o1, e1, by omega, hlt, x, .imm (by simpa using r1), x, rfl, branch_intro (fun hc => retB hK ?_) (fun hc => ?_)⟩
   · exact all_bad hx (by simpa using hc)
   · refine ⟨i + 1, ⟨by omega, ?_⟩, by omega, rfl, rfl, by rw [wrapS (by omega)], rfl, rfl, trivial⟩
     rw [all_take hx, hi.2]
     simpa using hc
 · refine retB hK ?_
   have := hi.2
   rwa [List.take_of_length_le (by omega)] at this
theorem f87_ok {s : Sl} (hl : Ints h s l) (hK : K (cB (l.all colKind)) m h) : f87_nice s l m h K := by
 have hs := hl.slen
 have hb := hl.len
 refine ⟨⟨0, ⟨by omega, by simp⟩, rfl, rfl, rfl, rfl, rfl, trivial⟩, fun i hi => branch_dec (fun hlt => ?_) (fun hge => ?_)⟩
 · obtain ⟨x, hx⟩ : ∃ x, l[i]? = some x := ⟨l[i]'(by omega), List.getElem?_eq_getElem _⟩
   obtain ⟨b1, o1, e1, r1⟩ := hl.at hx
   have good : colKind x = true → (l.take (i + 1)).all colKind = true := fun hc => by rw [all_take hx, hi.2, hc]; rfl
   refine ⟨b1, o1, e1, by omega, hlt, x, .imm (by simpa using r1), ?_⟩
   have next : colKind x = true → ∃ (y : Nat), (y ≤ l.length ∧ (l.take y).all colKind = true) ∧ l.length - y < l.length - i ∧ y = i + 1 := fun hc => ⟨i + 1, ⟨by omega, good hc⟩, by omega, rfl⟩
   repeat' (first | (refine branch_intro (fun _ => ?_) (fun _ => ?_)) | (refine retB hK (all_bad hx ?_); simp_all [colKind]; done) | (refine ⟨i + 1, ⟨by omega, good (by simp_all [colKind])⟩, by omega, rfl, rfl, by rw [wrapS (by omega)], rfl, rfl, trivial⟩))
 · refine retB hK ?_
   have := hi.2
   rwa [List.take_of_length_le (by omega)] at this
theorem f54_sound : Sound Tryz.prog 54 KindsS := by
 refine fn_sound (fn := Tryz.f54) (c := bodyOf Tryz.f54) Tryz.func54 rfl (by decide) ?_
 rintro cvs m h K ⟨s, l, rfl, hl, hK⟩
 refine ⟨f54_ctx s l m h, rfl, specs_cons f78_sound specs_nil, ?_⟩
 rw [← f54_vc s l m h K]
 exact f54_ok hl hK
theorem f87_sound : Sound Tryz.prog 87 KindsS := by
 refine fn_sound (fn := Tryz.f87) (c := bodyOf Tryz.f87) Tryz.func87 rfl (by decide) ?_
 rintro cvs m h K ⟨s, l, rfl, hl, hK⟩
 refine ⟨f87_ctx s l m h, rfl, specs_nil, ?_⟩
 rw [← f87_vc s l m h K]
 exact f87_ok hl hK
def eqV (a b : VV) : Bool := a.kind == b.kind && (a.int == b.int && (a.text.toList == b.text.toList && true))
def eqO (a b : OV) : Bool := a.kind == b.kind && (a.index == b.index && (eqV a.value b.value && true))
theorem eqFields_cons {f : Field} {fs : List Field} {d : Nat} {xs ys : Array Value} {w : World} {x y : Value} {r r' : Bool} (hn : (f.name == "_") = false) (hx : semVal Tryz.prog (part f.type xs f.offset) = some x) (hy : semVal Tryz.prog (part f.type ys f.offset) = some y)
 (he : (Op.equalIn d f.type x y).run Tryz.prog w = .ok r w) (hr : (Op.eqFields d xs ys fs).run Tryz.prog w = .ok r' w) : (Op.eqFields d xs ys (f :: fs)).run Tryz.prog w = .ok (r && r') w := by
 have hn : f.name ≠ "_" := by simpa using hn
 simp only [Op.eqFields, if_pos hn, Sem.run_bind, semVal_run _ _ _ hx, semVal_run _ _ _ hy, Result.andThen_ok, he]
 cases r
 · simp
 · simpa using hr
def fld (t k : Nat) : Field := (Tryz.prog.fieldsOf t).toList.getD k default
theorem eqV_run (a b : VV) (d : Nat) (w : World) : (Op.equalIn (d + 2) 33 (.agg #[.int .i64 a.kind, .int .i64 a.int, .string a.text]) (.agg #[.int .i64 b.kind, .int .i64 b.int, .string b.text])).run Tryz.prog w = .ok (eqV a b) w := by
 rw [run_equalIn_struct w (d + 1) 33 _ _ (by kernel_rfl) (by kernel_rfl), show (Tryz.prog.fieldsOf 33).toList = [fld 33 0, fld 33 1, fld 33 2] by kernel_rfl]
 refine eqFields_cons (x := .int .i64 a.kind) (y := .int .i64 b.kind) (by kernel_rfl) (by kernel_rfl) (by kernel_rfl) (run_equalIn_int w d _ .i64 .i64 _ _ (by kernel_rfl)) ?_
 refine eqFields_cons (x := .int .i64 a.int) (y := .int .i64 b.int) (by kernel_rfl) (by kernel_rfl) (by kernel_rfl) (run_equalIn_int w d _ .i64 .i64 _ _ (by kernel_rfl)) ?_
 refine eqFields_cons (x := .string a.text) (y := .string b.text) (by kernel_rfl) (by kernel_rfl) (by kernel_rfl) (run_equalIn_string w d _ _ _ (by kernel_rfl)) ?_
 simp [Op.eqFields]
theorem eqO_run (a b : OV) (d : Nat) (w : World) : (Op.equalIn (d + 3) 35 (.agg #[.int .i64 a.kind, .int .i64 a.index, .int .i64 a.value.kind, .int .i64 a.value.int, .string a.value.text]) (.agg #[.int .i64 b.kind, .int .i64 b.index, .int .i64 b.value.kind, .int .i64 b.value.int, .string b.value.text])).run Tryz.prog w = .ok (eqO a b) w := by
 rw [run_equalIn_struct w (d + 2) 35 _ _ (by kernel_rfl) (by kernel_rfl), show (Tryz.prog.fieldsOf 35).toList = [fld 35 0, fld 35 1, fld 35 2] by kernel_rfl]
 refine eqFields_cons (x := .int .i64 a.kind) (y := .int .i64 b.kind) (by kernel_rfl) (by kernel_rfl) (by kernel_rfl) (run_equalIn_int w (d + 1) _ .i64 .i64 _ _ (by kernel_rfl)) ?_
 refine eqFields_cons (x := .int .i64 a.index) (y := .int .i64 b.index) (by kernel_rfl) (by kernel_rfl) (by kernel_rfl) (run_equalIn_int w (d + 1) _ .i64 .i64 _ _ (by kernel_rfl)) ?_
 refine eqFields_cons (x := .agg #[.int .i64 a.value.kind, .int .i64 a.value.int, .string a.value.text]) (y := .agg #[.int .i64 b.value.kind, .int .i64 b.value.int, .string b.value.text]) (by kernel_rfl) (by kernel_rfl) (by kernel_rfl) ?_ ?_
 · rw [show (fld 35 2).type = 33 by kernel_rfl]; exact eqV_run a.value b.value d w
 · simp [Op.eqFields]
theorem eqV_law (a b : VV) : StructEq Tryz.prog 33 (.agg #[.int .i64 a.kind, .int .i64 a.int, .string a.text]) (.agg #[.int .i64 b.kind, .int .i64 b.int, .string b.text]) (eqV a b) :=
 ⟨by kernel_rfl, fun w => eqV_run a b 9998 w⟩
theorem eqO_law (a b : OV) : StructEq Tryz.prog 35 (.agg #[.int .i64 a.kind, .int .i64 a.index, .int .i64 a.value.kind, .int .i64 a.value.int, .string a.value.text]) (.agg #[.int .i64 b.kind, .int .i64 b.index, .int .i64 b.value.kind, .int .i64 b.value.int, .string b.value.text]) (eqO a b) :=
 ⟨by kernel_rfl, fun w => eqO_run a b 9997 w⟩
theorem bytes_ext {a b : ByteArray} (h : a.toList = b.toList) : a = b := by
 rw [ByteArray.toList_eq, ByteArray.toList_eq] at h
 cases a; cases b
 simp only [ByteArray.mk.injEq]
 exact Array.toList_inj.1 h
theorem eqV_iff {a b : VV} : eqV a b = true ↔ a = b := by
 obtain ⟨k, i, t⟩ := a
 obtain ⟨k', i', t'⟩ := b
 simp only [eqV, Bool.and_true, Bool.and_eq_true, beq_iff_eq, VV.mk.injEq]
 exact ⟨fun ⟨h1, h2, h3⟩ => ⟨h1, h2, bytes_ext h3⟩, fun ⟨h1, h2, h3⟩ => ⟨h1, h2, by rw [h3]⟩⟩
theorem eqO_iff {a b : OV} : eqO a b = true ↔ a = b := by
 obtain ⟨k, i, t⟩ := a
 obtain ⟨k', i', t'⟩ := b
 simp only [eqO, Bool.and_true, Bool.and_eq_true, beq_iff_eq, OV.mk.injEq, eqV_iff]
def zeroV : VV := ⟨0, 0, ⟨#[]⟩⟩
def zeroO : OV := ⟨0, 0, zeroV⟩
def atKind (l : List Int) (o : OV) : Int := if o.index < 0 || o.index ≥ l.length || !eqV o.value zeroV then 0 else l.getD o.index.toNat 0
def kindOf (cols params : List Int) (o : OV) : Int :=
 if o.kind == 3 then (if o.index != 0 || !realV o.value then 0 else o.value.kind)
 else if o.kind == 2 then atKind params o
 else if o.kind == 1 then atKind cols o
 else 0
def plainV (v : PV) : Bool := v.cmp == 0 && eqO v.left zeroO && eqO v.right zeroO
def aO (o : OV) : CV := .val (.agg #[.int .i64 o.kind, .int .i64 o.index, .int .i64 o.value.kind, .int .i64 o.value.int, .string o.value.text])
def aP (p : PV) : CV := .val (.agg #[.int .i64 p.op, .int .i64 p.cmp,
 .int .i64 p.left.kind, .int .i64 p.left.index, .int .i64 p.left.value.kind, .int .i64 p.left.value.int, .string p.left.value.text,
 .int .i64 p.right.kind, .int .i64 p.right.index, .int .i64 p.right.value.kind, .int .i64 p.right.value.int, .string p.right.value.text,
 .slice p.args.a p.args.len p.args.cap])
def a2S (s t : Sl) : CV := .val (.agg #[.slice s.a s.len s.cap, .slice t.a t.len t.cap])
def PlainS : Vc.Spec := fun cvs m h K => ∃ v, cvs = [aP v] ∧ K (cB (plainV v)) m h
def KindOfS : Vc.Spec := fun cvs m h K => ∃ s t cols params o, cvs = [cS s, cS t, aO o] ∧ Ints h s cols ∧ Ints h t params ∧ K (cI (kindOf cols params o)) m h
def KindOf2S : Vc.Spec := fun cvs m h K => ∃ s t cols params o, cvs = [a2S s t, aO o] ∧ Ints h s cols ∧ Ints h t params ∧ K (cI (kindOf cols params o)) m h
def f109_nice (v : PV) (m : MH) (h : PH) (K : CV → MH → PH → Prop) : Prop :=
 branch (v.cmp == 0) (∃ (r : Bool), StructEq Tryz.prog 35 (Value.agg (Array.mk (OV.enc v.left))) (Value.agg (Array.mk [vQi 0, vQi 0, vQi 0, vQi 0, vQz])) r /\ branch r (∃ (r :
 Bool), StructEq Tryz.prog 35 (Value.agg (Array.mk (OV.enc v.right))) (Value.agg (Array.mk [vQi 0, vQi 0, vQi 0, vQi 0, vQz])) r /\ K (cQb r) m h) (K (cQb false) m h)) (K (cQb
 false) m h)
theorem f109_vc (v : PV) (m : MH) (h : PH) (K : CV → MH → PH → Prop) : f109_nice v m h K = (fnVC (ctx [] [] [] [] false) Tryz.f109 (bodyOf Tryz.f109) (entry Tryz.f109.ntmps [aP v] m h) K) := by kernel_rfl
def f110_nice (s t : Sl) (o : OV) (m : MH) (h : PH) (K : CV → MH → PH → Prop) : Prop :=
 branch (o.kind == 3) (branch (o.index != 0) (K (cQi 0) m h) (∃ (v : VV), [cQa (VV.enc o.value)] = [cQa (VV.enc v)] /\ branch (!realV v) (K (cQi 0) m h) (K (cQi o.value.kind) m h)))
 (branch (o.kind == 2) (branch (decide (o.index < 0)) (K (cQi 0) m h) (branch (decide (o.index ≥ (↑t.len : Int))) (K (cQi 0) m h) (∃ (r : Bool), StructEq Tryz.prog 33 (Value.agg
 (Array.mk (VV.enc o.value))) (Value.agg (Array.mk [vQi 0, vQi 0, vQz])) r /\ branch (!r) (K (cQi 0) m h) (∃ (b off : Nat), t.a = some (Addr.mk b off none) /\ 0 <= o.index /\
 o.index < (↑t.len : Int) /\ ∃ (y : Int), RdAt m h b (off + o.index.toNat * 1) [vQi y] /\ K (cQi y) m h)))) (branch (o.kind == 1) (branch (decide (o.index < 0)) (K (cQi 0) m h)
 (branch (decide (o.index ≥ (↑s.len : Int))) (K (cQi 0) m h) (∃ (r : Bool), StructEq Tryz.prog 33 (Value.agg (Array.mk (VV.enc o.value))) (Value.agg (Array.mk [vQi 0, vQi 0, vQz]))
 r /\ branch (!r) (K (cQi 0) m h) (∃ (b off : Nat), s.a = some (Addr.mk b off none) /\ 0 <= o.index /\ o.index < (↑s.len : Int) /\ ∃ (y : Int), RdAt m h b (off + o.index.toNat * 1)
 [vQi y] /\ K (cQi y) m h)))) (K (cQi 0) m h)))
theorem f110_vc (s t : Sl) (o : OV) (m : MH) (h : PH) (K : CV → MH → PH → Prop) : f110_nice s t o m h K = (fnVC (ctx [(124, RealS)] [] [] [] false) Tryz.f110 (bodyOf Tryz.f110) (entry Tryz.f110.ntmps [cS s, cS t, aO o] m h) K) := by kernel_rfl
theorem f111_vc (s t : Sl) (o : OV) (m : MH) (h : PH) (K : CV → MH → PH → Prop) : f110_nice s t o m h K = (fnVC (ctx [(125, RealS)] [] [] [] false) Tryz.f111 (bodyOf Tryz.f111) (entry Tryz.f111.ntmps [a2S s t, aO o] m h) K) := by kernel_rfl
theorem retI {x y : Int} (hK : K (cI x) m h) (e : x = y) : K (.val (.int .i64 y)) m h := e ▸ hK
theorem f109_ok {v : PV} (hK : K (cB (plainV v)) m h) : f109_nice v m h K := by
 unfold f109_nice
 refine branch_intro (fun h1 => ⟨eqO v.left zeroO, eqO_law v.left zeroO, branch_intro (fun h2 => ⟨eqO v.right zeroO, eqO_law v.right zeroO, retB hK ?_⟩) (fun h2 => retB hK ?_)⟩) (fun h1 => retB hK ?_)
 all_goals simp_all [plainV]
theorem Ints.inb {s : Sl} (r : Ints h s l) {n : Int} (h0 : 0 ≤ n) (h1 : n < (l.length : Int)) : ∃ b o, s.a = some ⟨b, o, none⟩ ∧ RdCells h b (o + n.toNat * 1) [.int .i64 (l.getD n.toNat 0)] := by
 have hx : l[n.toNat]? = some (l.getD n.toNat 0) := by
  rw [List.getD_eq_getElem?_getD, List.getElem?_eq_getElem (by omega)]; simp
 obtain ⟨b, o, e, r⟩ := r.at hx
 exact ⟨b, o, e, by simpa using r⟩
theorem f110_ok {s t : Sl} {cols params : List Int} {o : OV} (hs : Ints h s cols) (ht : Ints h t params) (hK : K (cI (kindOf cols params o)) m h) : f110_nice s t o m h K := by
 have es := hs.slen
 have et := ht.slen
 unfold f110_nice
 refine branch_intro (fun h1 => branch_intro (fun h2 => retI hK ?_) (fun h2 => ⟨o.value, rfl, branch_intro (fun h3 => retI hK ?_) (fun h3 => retI hK ?_)⟩)) (fun h1 => branch_intro (fun h2 => ?_) (fun h2 => branch_intro (fun h3 => ?_) (fun h3 => retI hK ?_)))
 · simp_all [kindOf]
 · simp_all [kindOf]
 · simp_all [kindOf]
 · have hk : kindOf cols params o = atKind params o := by simp_all [kindOf]
   rw [hk] at hK
   refine branch_dec (fun h3 => retI hK ?_) (fun h3 => branch_dec (fun h4 => retI hK ?_) (fun h4 => ⟨eqV o.value zeroV, eqV_law o.value zeroV, branch_intro (fun h5 => retI hK ?_) (fun h5 => ?_)⟩))
   · simp [atKind, h3]
   · rw [et] at h4; simp [atKind, h4]
   · simp only [Bool.not_eq_true'] at h5; simp [atKind, h5]
   · obtain ⟨b, off, e, r⟩ := ht.inb (n := o.index) (by omega) (by omega)
     refine ⟨b, off, e, by omega, by omega, _, .imm r, retI hK ?_⟩
     have h4' : ¬ o.index ≥ params.length := by omega
     simp only [Bool.not_eq_false'] at h5
     simp [atKind, h3, h4', h5]
 · have hk : kindOf cols params o = atKind cols o := by simp_all [kindOf]
   rw [hk] at hK
   refine branch_dec (fun h3 => retI hK ?_) (fun h3 => branch_dec (fun h4 => retI hK ?_) (fun h4 => ⟨eqV o.value zeroV, eqV_law o.value zeroV, branch_intro (fun h5 => retI hK ?_) (fun h5 => ?_)⟩))
   · simp [atKind, h3]
   · rw [es] at h4; simp [atKind, h4]
   · simp only [Bool.not_eq_true'] at h5; simp [atKind, h5]
   · obtain ⟨b, off, e, r⟩ := hs.inb (n := o.index) (by omega) (by omega)
     refine ⟨b, off, e, by omega, by omega, _, .imm r, retI hK ?_⟩
     have h4' : ¬ o.index ≥ cols.length := by omega
     simp only [Bool.not_eq_false'] at h5
     simp [atKind, h3, h4', h5]
 · simp_all [kindOf]
theorem f109_sound : Sound Tryz.prog 109 PlainS := by
 refine fn_sound (fn := Tryz.f109) (c := bodyOf Tryz.f109) Tryz.func109 rfl (by decide) ?_
 rintro cvs m h K ⟨v, rfl, hK⟩
 refine ⟨ctx [] [] [] [] false, rfl, specs_nil, ?_⟩
 rw [← f109_vc v m h K]
 exact f109_ok hK
theorem f110_sound : Sound Tryz.prog 110 KindOfS := by
 refine fn_sound (fn := Tryz.f110) (c := bodyOf Tryz.f110) Tryz.func110 rfl (by decide) ?_
 rintro cvs m h K ⟨s, t, cols, params, o, rfl, hs, ht, hK⟩
 refine ⟨ctx [(124, RealS)] [] [] [] false, rfl, specs_cons f124_sound specs_nil, ?_⟩
 rw [← f110_vc s t o m h K]
 exact f110_ok hs ht hK
theorem f111_sound : Sound Tryz.prog 111 KindOf2S := by
 refine fn_sound (fn := Tryz.f111) (c := bodyOf Tryz.f111) Tryz.func111 rfl (by decide) ?_
 rintro cvs m h K ⟨s, t, cols, params, o, rfl, hs, ht, hK⟩
 refine ⟨ctx [(125, RealS)] [] [] [] false, rfl, specs_cons f125_sound specs_nil, ?_⟩
 rw [← f111_vc s t o m h K]
 exact f110_ok hs ht hK
def Pred.args : Pred → List Pred
 | .mk _ _ _ _ l => l
mutual
def nodesF : Pred → Int → Int
 | .mk _ _ _ _ args, n => nodesFs args (n + 1)
def nodesFs : List Pred → Int → Int
 | [], n => n
 | p :: ps, n => if n ≤ 24 then nodesFs ps (nodesF p n) else n
end
mutual
def deeperF : Pred → Nat → Bool
 | .mk _ _ _ _ _, 0 => true
 | .mk _ _ _ _ args, n + 1 => deeperFs args n
def deeperFs : List Pred → Nat → Bool
 | [], _ => false
 | p :: ps, n => deeperF p n || deeperFs ps n
end
mutual
theorem nodesF_bound : ∀ (p : Pred) (n : Int), n ≤ 24 → n < nodesF p n ∧ nodesF p n ≤ 25
 | .mk _ _ _ _ args, n, h => by
  have := nodesFs_bound args (n + 1) (by omega)
  simp only [nodesF]; omega
theorem nodesFs_bound : ∀ (ps : List Pred) (n : Int), n ≤ 25 → n ≤ nodesFs ps n ∧ nodesFs ps n ≤ 25
 | [], n, h => by simp only [nodesFs]; omega
 | p :: ps, n, h => by
  simp only [nodesFs]
  split
  · rename_i h1
    have h2 := nodesF_bound p n h1
    have h3 := nodesFs_bound ps (nodesF p n) h2.2
    omega
  · omega
end
theorem nodesFs_over (ps : List Pred) {n : Int} (h : ¬ n ≤ 24) : nodesFs ps n = n := by
 cases ps
 · simp [nodesFs]
 · simp only [nodesFs, if_neg h]
theorem deeperFs_any (n : Nat) : ∀ ps : List Pred, deeperFs ps n = ps.any (deeperF · n)
 | [] => by simp [deeperFs]
 | p :: ps => by simp [deeperFs, deeperFs_any n ps]
theorem args_lt {p : Pred} {q : Pred} (h : q ∈ p.args) : SizeOf.sizeOf q < SizeOf.sizeOf p := by
 cases p with
 | mk op cmp l r args =>
  have := List.sizeOf_lt_of_mem h
  simp only [Pred.args] at this
  simp only [Pred.mk.sizeOf_spec]
  omega
theorem RepP.open {v : PV} (r : RepP h p v) : p.args.length ≤ 502633886983 ∧ v.args.len = p.args.length ∧ ∀ (i : Nat) (q : Pred), p.args[i]? = some q → ∃ b o u, v.args.a = some ⟨b, o, none⟩ ∧ RdCells h b (o + i * 13) (PV.enc u) ∧ RepP h q u := by
 cases p with
 | mk op cmp l r' args =>
  obtain ⟨h1, h2, h3, h4, h5, vs, h6, h7⟩ := r
  have hl := h7.length
  refine ⟨h5, ?_, fun i q hq => ?_⟩
  · have := h6.len; simp at this; simp only [Pred.args]; omega
  · obtain ⟨u, hu, hr⟩ := h7.get hq
    obtain ⟨b, o, e, r⟩ := h6.get (i := i) (e := PV.enc u) (by simp [hu])
    exact ⟨b, o, u, e, r, hr⟩
def NodesS (N : Nat) : Vc.Spec := fun cvs m h K => ∃ v p k, cvs = [aP v, cI k] ∧ RepP h p v ∧ SizeOf.sizeOf p < N ∧ 0 ≤ k ∧ k ≤ 24 ∧ K (cI (nodesF p k)) m h
def DeeperS (N : Nat) : Vc.Spec := fun cvs m h K => ∃ v p, ∃ k : Nat, cvs = [aP v, cI k] ∧ RepP h p v ∧ SizeOf.sizeOf p < N ∧ k ≤ 100 ∧ K (cB (deeperF p k)) m h
def f81_ctx (N : Nat) (v : PV) (p : Pred) (k : Int) (m : MH) (h : PH) : Ctx :=
 ctx [(81, NodesS N)] [(3, { A := Nat × Int, st := fun x => mkSt 27 29 [(1, iv x.2), (2, .at (.ptr 2 0)), (5, iv x.1)] [(2, .cells 38 (v.enc.map .val))] m h, inv := fun x => x.1 ≤ p.args.length ∧ 0 ≤ x.2 ∧ x.2 ≤ 25 ∧ nodesFs (p.args.drop x.1) x.2 = nodesF p k, mu := fun x => p.args.length - x.1 })] [] [] false
def f82_ctx (N : Nat) (v : PV) (p : Pred) (k : Nat) (m : MH) (h : PH) : Ctx :=
 ctx [(82, DeeperS N)] [loop1 4 (fun i => mkSt 23 25 [(1, iv k), (2, .at (.ptr 2 0)), (10, iv v.args.len), (11, iv i)] [(2, .cells 38 (v.enc.map .val))] m h) (fun i => i ≤ p.args.length ∧ (p.args.take i).any (deeperF · (k - 1)) = false) (fun i => p.args.length - i)] [] [] false
def f81_nice (N : Nat) (v : PV) (p : Pred) (k : Int) (m : MH) (h : PH) (K : CV → MH → PH → Prop) : Prop :=
 (∃ (x : Nat × Int), (x.1 <= p.args.length /\ 0 <= x.2 /\ x.2 <= 25 /\ nodesFs (List.drop x.1 p.args) x.2 = nodesF p k) /\ sQi (IntKind.i64.wrap (k + 1)) = sQi x.2 /\ eP 2 /\ sQi 0
 = sQi ↑x.1 /\ eQ (oQ 38 (List.map At.val (PV.enc v))) /\ m = m /\ h = h /\ True) /\ ∀ (x : Nat × Int), x.1 <= p.args.length /\ 0 <= x.2 /\ x.2 <= 25 /\ nodesFs (List.drop x.1
 p.args) x.2 = nodesF p k -> branch (decide ((↑x.1 : Int) < ↑v.args.len)) (branch (decide (x.2 <= 24)) (∃ (b off : Nat), v.args.a = some (Addr.mk b off none) /\ 0 <= (↑x.1 : Int) /\
 (↑x.1 : Int) < ↑v.args.len /\ ∃ (y : PV), RdAt m h b (off + (↑x.1 : Int).toNat * 13) (PV.enc y) /\ ∃ (v_1 : PV) (p_1 : Pred) (k_1 : Int), [cQa (PV.enc y), cQi x.2] = [cQa (PV.enc
 v_1), cQi k_1] /\ RepP h p_1 v_1 /\ SizeOf.sizeOf p_1 < N /\ 0 <= k_1 /\ k_1 <= 24 /\ ∃ (y : Nat × Int), (y.1 <= p.args.length /\ 0 <= y.2 /\ y.2 <= 25 /\ nodesFs (List.drop y.1
 p.args) y.2 = nodesF p k) /\ p.args.length - y.1 < p.args.length - x.1 /\ sQi (nodesF p_1 k_1) = sQi y.2 /\ eP 2 /\ sQi (IntKind.i64.wrap ((↑x.1 : Int) + 1)) = sQi ↑y.1 /\ eQ (oQ
 38 (List.map At.val (PV.enc v))) /\ m = m /\ h = h /\ True) (K (cQi x.2) m h)) (K (cQi x.2) m h)
theorem f81_vc (N : Nat) (v : PV) (p : Pred) (k : Int) (m : MH) (h : PH) (K : CV → MH → PH → Prop) : f81_nice N v p k m h K = (fnVC (f81_ctx N v p k m h) Tryz.f81 (bodyOf Tryz.f81) (entry Tryz.f81.ntmps [aP v, cI k] m h) K) := by kernel_rfl
def f82_nice (N : Nat) (v : PV) (p : Pred) (k : Nat) (m : MH) (h : PH) (K : CV → MH → PH → Prop) : Prop :=
 branch ((↑k : Int) == 0) (K (cQb true) m h) ((∃ (x : Nat), (x <= p.args.length /\ ((List.take x p.args).any fun (x : Pred) => deeperF x (k - 1)) = false) /\ eQ (sQi ↑k) /\ eP 2 /\
 eQ (sQi ↑v.args.len) /\ sQi 0 = sQi ↑x /\ eQ (oQ 38 (List.map At.val (PV.enc v))) /\ m = m /\ h = h /\ True) /\ ∀ (x : Nat), x <= p.args.length /\ ((List.take x p.args).any fun (x
 : Pred) => deeperF x (k - 1)) = false -> branch (decide ((↑x : Int) < ↑v.args.len)) (∃ (b off : Nat), v.args.a = some (Addr.mk b off none) /\ 0 <= (↑x : Int) /\ (↑x : Int) <
 ↑v.args.len /\ ∃ (y : PV), RdAt m h b (off + (↑x : Int).toNat * 13) (PV.enc y) /\ ∃ (v_1 : PV) (p_1 : Pred) (k_1 : Nat), [cQa (PV.enc y), cQi (IntKind.i64.wrap ((↑k : Int) - 1))] =
 [cQa (PV.enc v_1), cQi ↑k_1] /\ RepP h p_1 v_1 /\ SizeOf.sizeOf p_1 < N /\ k_1 <= 100 /\ branch (deeperF p_1 k_1) (K (cQb true) m h) (∃ (y : Nat), (y <= p.args.length /\
 ((List.take y p.args).any fun (x : Pred) => deeperF x (k - 1)) = false) /\ p.args.length - y < p.args.length - x /\ eQ (sQi ↑k) /\ eP 2 /\ eQ (sQi ↑v.args.len) /\ sQi
 (IntKind.i64.wrap ((↑x : Int) + 1)) = sQi ↑y /\ eQ (oQ 38 (List.map At.val (PV.enc v))) /\ m = m /\ h = h /\ True)) (K (cQb false) m h))
theorem f82_vc (N : Nat) (v : PV) (p : Pred) (k : Nat) (m : MH) (h : PH) (K : CV → MH → PH → Prop) : f82_nice N v p k m h K = (fnVC (f82_ctx N v p k m h) Tryz.f82 (bodyOf Tryz.f82) (entry Tryz.f82.ntmps [aP v, cI k] m h) K) := by kernel_rfl
theorem f81_ok {v : PV} {k : Int} (hr : RepP h p v) (hN : SizeOf.sizeOf p < N + 1) (h0 : 0 ≤ k) (h1 : k ≤ 24) (hK : K (cI (nodesF p k)) m h) : f81_nice N v p k m h K := by
 obtain ⟨hl, hlen, hget⟩ := hr.open
 refine ⟨⟨(0, k + 1), ⟨by simp, by simp; omega, by simp; omega, ?_⟩, by rw [wrap_id (by omega) (by omega)], rfl, rfl, rfl, rfl, rfl, trivial⟩, ?_⟩
 · cases p; simp [nodesF, Pred.args]
 rintro ⟨i, n⟩ ⟨hi, hn0, hn1, he⟩
 simp only at hi hn0 hn1 he
 refine branch_dec (fun hlt => branch_dec (fun hn => ?_) (fun hn => retI hK ?_)) (fun hge => retI hK ?_)
 · simp only at hlt hn
   obtain ⟨q, hq⟩ : ∃ q, p.args[i]? = some q := ⟨p.args[i]'(by omega), List.getElem?_eq_getElem _⟩
   obtain ⟨b, o, u, ea, hrd, hru⟩ := hget i q hq
   have hd : p.args.drop i = q :: p.args.drop (i + 1) := by
    rw [List.drop_eq_getElem_cons (by omega)]; rw [List.getElem?_eq_getElem (by omega)] at hq; simp at hq; rw [hq]
   have hb := nodesF_bound q n hn
   refine ⟨b, o, ea, by simp, by simpa using hlt, u, .imm (by simpa using hrd), u, q, n, rfl, hru, ?_, hn0, hn, (i + 1, nodesF q n), ⟨by simp only; omega, by simp only; omega, by simp only; omega, ?_⟩, by simp only; omega, rfl, rfl, by rw [wrapS (by omega)], rfl, rfl, rfl, trivial⟩
   · have := args_lt (List.mem_of_getElem? hq); omega
   · rw [hd, nodesFs, if_pos hn] at he; exact he
 · rw [← he, nodesFs_over _ hn]
 · rw [← he, List.drop_of_length_le (by simp only at hge; omega)]; simp [nodesFs]
theorem f81_all : ∀ N, Sound Tryz.prog 81 (NodesS N)
 | 0 => by
  refine fn_sound (fn := Tryz.f81) (c := bodyOf Tryz.f81) Tryz.func81 rfl (by decide) ?_
  rintro cvs m h K ⟨v, p, k, rfl, hr, hN, _⟩
  omega
 | N + 1 => by
  refine fn_sound (fn := Tryz.f81) (c := bodyOf Tryz.f81) Tryz.func81 rfl (by decide) ?_
  rintro cvs m h K ⟨v, p, k, rfl, hr, hN, h0, h1, hK⟩
  refine ⟨f81_ctx N v p k m h, rfl, specs_cons (f81_all N) specs_nil, ?_⟩
  rw [← f81_vc N v p k m h K]
  exact f81_ok hr hN h0 h1 hK
theorem f82_ok {v : PV} (hr : RepP h p v) (hN : SizeOf.sizeOf p < N + 1) (h1 : k ≤ 100) (hK : K (cB (deeperF p k)) m h) : f82_nice N v p k m h K := by
 obtain ⟨hl, hlen, hget⟩ := hr.open
 refine branch_intro (fun hk => retB hK ?_) (fun hk => ?_)
 · have : k = 0 := by have : (k : Int) = 0 := (by simpa using hk); omega
   subst this; cases p; simp [deeperF]
 · have hk : k ≠ 0 := by intro e; subst e; simp at hk
   have hdk : deeperF p k = p.args.any (deeperF · (k - 1)) := by
    obtain ⟨k', rfl⟩ : ∃ k', k = k' + 1 := ⟨k - 1, by omega⟩
    cases p; simp [deeperF, deeperFs_any, Pred.args]
   rw [hdk] at hK
   refine ⟨⟨0, ⟨by omega, by simp⟩, rfl, rfl, rfl, rfl, rfl, rfl, rfl, trivial⟩, fun i hi => branch_dec (fun hlt => ?_) (fun hge => retB hK ?_)⟩
   · obtain ⟨q, hq⟩ : ∃ q, p.args[i]? = some q := ⟨p.args[i]'(by omega), List.getElem?_eq_getElem _⟩
     obtain ⟨b, o, u, ea, hrd, hru⟩ := hget i q hq
     refine ⟨b, o, ea, by omega, hlt, u, .imm (by simpa using hrd), u, q, k - 1, ?_, hru, ?_, by omega, branch_intro (fun hd => retB hK ?_) (fun hd => ?_)⟩
     · rw [wrap_id (by omega) (by omega), show ((k - 1 : Nat) : Int) = (k : Int) - 1 by omega]
     · have := args_lt (List.mem_of_getElem? hq); omega
     · rw [List.any_eq_true]; exact ⟨q, List.mem_of_getElem? hq, hd⟩
     · refine ⟨i + 1, ⟨by omega, ?_⟩, by omega, rfl, rfl, rfl, by rw [wrapS (by omega)], rfl, rfl, rfl, trivial⟩
       rw [List.take_add_one, List.any_append, hi.2, hq]; simpa using hd
   · have := hi.2
     rwa [List.take_of_length_le (by omega)] at this
theorem f82_all : ∀ N, Sound Tryz.prog 82 (DeeperS N)
 | 0 => by
  refine fn_sound (fn := Tryz.f82) (c := bodyOf Tryz.f82) Tryz.func82 rfl (by decide) ?_
  rintro cvs m h K ⟨v, p, k, rfl, hr, hN, _⟩
  omega
 | N + 1 => by
  refine fn_sound (fn := Tryz.f82) (c := bodyOf Tryz.f82) Tryz.func82 rfl (by decide) ?_
  rintro cvs m h K ⟨v, p, k, rfl, hr, hN, h1, hK⟩
  refine ⟨f82_ctx N v p k m h, rfl, specs_cons (f82_all N) specs_nil, ?_⟩
  rw [← f82_vc N v p k m h K]
  exact f82_ok hr hN h1 hK
def plainF (cmp : Int) (l r : OV) : Bool := cmp == 0 && eqO l zeroO && eqO r zeroO
mutual
def validF (cols params : List Int) : Pred → Bool
 | .mk op cmp l r args =>
  if op == 1 || op == 2 then plainF cmp l r && args.length == 0
  else if op == 3 then args.length == 0 && cmp ≥ 1 && cmp ≤ 6 && kindOf cols params l != 0 && kindOf cols params l == kindOf cols params r
  else if op == 4 || op == 5 || (op == 6 && args.length == 1) then plainF cmp l r && validFs cols params args
  else false
def validFs (cols params : List Int) : List Pred → Bool
 | [] => true
 | p :: ps => validF cols params p && validFs cols params ps
end
theorem validFs_all (cols params : List Int) : ∀ ps : List Pred, validFs cols params ps = ps.all (validF cols params)
 | [] => by simp [validFs]
 | p :: ps => by simp [validFs, validFs_all cols params ps]
structure Tail (cols params : List Int) (v : PV) (p : Pred) : Prop where
 eq : validF cols params p = (plainV v && p.args.all (validF cols params))
def ValidPS (N : Nat) : Vc.Spec := fun cvs m h K => ∃ s t cols params v p, cvs = [cS s, cS t, aP v] ∧ Ints h s cols ∧ Ints h t params ∧ RepP h p v ∧ SizeOf.sizeOf p < N ∧ K (cB (validF cols params p)) m h
def ValidP2S (N : Nat) : Vc.Spec := fun cvs m h K => ∃ s t cols params v p, cvs = [a2S s t, aP v] ∧ Ints h s cols ∧ Ints h t params ∧ RepP h p v ∧ SizeOf.sizeOf p < N ∧ K (cB (validF cols params p)) m h
def f83_ctx (N : Nat) (s t : Sl) (cols params : List Int) (v : PV) (p : Pred) (m : MH) (h : PH) : Ctx :=
 ctx [(83, ValidPS N), (109, PlainS), (110, KindOfS)]
  [loop1 17 (fun i => mkSt 84 87 [(0, sv s), (1, sv t), (5, .at (.ptr 5 0)), (70, iv v.args.len), (71, iv i)] [(5, .cells 38 (v.enc.map .val))] m h) (fun i => i ≤ p.args.length ∧ (p.args.take i).all (validF cols params) = true) (fun i => p.args.length - i)]
  [(14, { A := Unit, st := fun _ => mkSt 84 87 [(0, sv s), (1, sv t), (5, .at (.ptr 5 0))] [(5, .cells 38 (v.enc.map .val))] m h, inv := fun _ => Tail cols params v p })] [] false
def f89_ctx (N : Nat) (s t : Sl) (cols params : List Int) (v : PV) (p : Pred) (m : MH) (h : PH) : Ctx :=
 ctx [(89, ValidP2S N), (111, KindOf2S)]
  [loop1 18 (fun i => mkSt 87 89 [(2, .at (.ptr 2 0)), (3, .at (.ptr 3 0)), (76, sv v.args), (77, iv v.args.len), (78, iv i)] [(2, .cells 150 [.val (.slice s.a s.len s.cap), .val (.slice t.a t.len t.cap)]), (3, .cells 38 (v.enc.map .val))] m h) (fun i => i ≤ p.args.length ∧ (p.args.take i).all (validF cols params) = true) (fun i => p.args.length - i)]
  [(15, { A := Unit, st := fun _ => mkSt 87 89 [(2, .at (.ptr 2 0)), (3, .at (.ptr 3 0))] [(2, .cells 150 [.val (.slice s.a s.len s.cap), .val (.slice t.a t.len t.cap)]), (3, .cells 38 (v.enc.map .val))] m h, inv := fun _ => Tail cols params v p })] [] false
def f83_nice (N : Nat) (s t : Sl) (cols params : List Int) (v : PV) (p : Pred) (m : MH) (h : PH) (K : CV → MH → PH → Prop) : Prop :=
 branch (v.op == 1) (∃ (v_1 : PV), [cQa (PV.enc v)] = [cQa (PV.enc v_1)] /\ branch (plainV v_1) (K (cQb ((↑v.args.len : Int) == 0)) m h) (K (cQb false) m h)) (branch (v.op == 2) (∃
 (v_1 : PV), [cQa (PV.enc v)] = [cQa (PV.enc v_1)] /\ branch (plainV v_1) (K (cQb ((↑v.args.len : Int) == 0)) m h) (K (cQb false) m h)) (branch (v.op == 3) (∃ (s_1 t_1 : Sl), ∃
 (cols params : List Int) (o : OV), [cQs s, cQs t, cQa (OV.enc v.left)] = [cQs s_1, cQs t_1, cQa (OV.enc o)] /\ Ints h s_1 cols /\ Ints h t_1 params /\ branch ((↑v.args.len : Int)
 == 0) (branch (decide (v.cmp ≥ 1)) (branch (decide (v.cmp <= 6)) (branch (kindOf cols params o != 0) (∃ (s_2 t_2 : Sl), ∃ (cols_1 params_1 : List Int) (o_1 : OV), [cQs s, cQs t,
 cQa (OV.enc v.right)] = [cQs s_2, cQs t_2, cQa (OV.enc o_1)] /\ Ints h s_2 cols_1 /\ Ints h t_2 params_1 /\ K (cQb (kindOf cols params o == kindOf cols_1 params_1 o_1)) m h) (K
 (cQb false) m h)) (K (cQb false) m h)) (K (cQb false) m h)) (K (cQb false) m h)) (branch (v.op == 4) (∃ (x : Unit), Tail cols params v p /\ eQ (sQs s) /\ eQ (sQs t) /\ eP 5 /\ eQ
 (oQ 38 (List.map At.val (PV.enc v))) /\ m = m /\ h = h /\ True) (branch (v.op == 5) (∃ (x : Unit), Tail cols params v p /\ eQ (sQs s) /\ eQ (sQs t) /\ eP 5 /\ eQ (oQ 38 (List.map
 At.val (PV.enc v))) /\ m = m /\ h = h /\ True) (branch (v.op == 6) (branch ((↑v.args.len : Int) != 1) (K (cQb false) m h) (∃ (x : Unit), Tail cols params v p /\ eQ (sQs s) /\ eQ
 (sQs t) /\ eP 5 /\ eQ (oQ 38 (List.map At.val (PV.enc v))) /\ m = m /\ h = h /\ True)) (K (cQb false) m h)))))) /\ ∀ (x : Unit), Tail cols params v p -> ∃ (v_1 : PV), [cQa (PV.enc
 v)] = [cQa (PV.enc v_1)] /\ branch (!plainV v_1) (K (cQb false) m h) ((∃ (x : Nat), (x <= p.args.length /\ (List.take x p.args).all (validF cols params) = true) /\ eQ (sQs s) /\ eQ
 (sQs t) /\ eP 5 /\ eQ (sQi ↑v.args.len) /\ sQi 0 = sQi ↑x /\ eQ (oQ 38 (List.map At.val (PV.enc v))) /\ m = m /\ h = h /\ True) /\ ∀ (x : Nat), x <= p.args.length /\ (List.take x
 p.args).all (validF cols params) = true -> branch (decide ((↑x : Int) < ↑v.args.len)) (∃ (b off : Nat), v.args.a = some (Addr.mk b off none) /\ 0 <= (↑x : Int) /\ (↑x : Int) <
 ↑v.args.len /\ ∃ (y : PV), RdAt m h b (off + (↑x : Int).toNat * 13) (PV.enc y) /\ ∃ (s_1 t_1 : Sl), ∃ (cols_1 params_1 : List Int) (v_2 : PV) (p_1 : Pred), [cQs s, cQs t, cQa
 (PV.enc y)] = [cQs s_1, cQs t_1, cQa (PV.enc v_2)] /\ Ints h s_1 cols_1 /\ Ints h t_1 params_1 /\ RepP h p_1 v_2 /\ SizeOf.sizeOf p_1 < N /\ branch (!validF cols_1 params_1 p_1) (K
 (cQb false) m h) (∃ (y : Nat), (y <= p.args.length /\ (List.take y p.args).all (validF cols params) = true) /\ p.args.length - y < p.args.length - x /\ eQ (sQs s) /\ eQ (sQs t) /\
 eP 5 /\ eQ (sQi ↑v.args.len) /\ sQi (IntKind.i64.wrap ((↑x : Int) + 1)) = sQi ↑y /\ eQ (oQ 38 (List.map At.val (PV.enc v))) /\ m = m /\ h = h /\ True)) (K (cQb true) m h))
theorem f83_vc (N : Nat) (s t : Sl) (cols params : List Int) (v : PV) (p : Pred) (m : MH) (h : PH) (K : CV → MH → PH → Prop) : f83_nice N s t cols params v p m h K = (fnVC (f83_ctx N s t cols params v p m h) Tryz.f83 (bodyOf Tryz.f83) (entry Tryz.f83.ntmps [cS s, cS t, aP v] m h) K) := by kernel_rfl
def f89_nice (N : Nat) (s t : Sl) (cols params : List Int) (v : PV) (p : Pred) (m : MH) (h : PH) (K : CV → MH → PH → Prop) : Prop :=
 branch (v.op == 3) (∃ (s_1 t_1 : Sl), ∃ (cols params : List Int) (o : OV), [cQa [vQs s, vQs t], cQa (OV.enc v.left)] = [cQa [vQs s_1, vQs t_1], cQa (OV.enc o)] /\ Ints h s_1 cols
 /\ Ints h t_1 params /\ ∃ (s_2 t_2 : Sl), ∃ (cols_1 params_1 : List Int) (o_1 : OV), [cQa [vQs s, vQs t], cQa (OV.enc v.right)] = [cQa [vQs s_2, vQs t_2], cQa (OV.enc o_1)] /\ Ints
 h s_2 cols_1 /\ Ints h t_2 params_1 /\ branch ((↑v.args.len : Int) == 0) (branch (decide (v.cmp ≥ 1)) (branch (decide (v.cmp <= 6)) (branch (kindOf cols params o != 0) (K (cQb
 (kindOf cols params o == kindOf cols_1 params_1 o_1)) m h) (K (cQb false) m h)) (K (cQb false) m h)) (K (cQb false) m h)) (K (cQb false) m h)) (branch (v.op == 1) (branch
 ((↑v.args.len : Int) != 0) (K (cQb false) m h) (∃ (x : Unit), Tail cols params v p /\ eP 2 /\ eP 3 /\ eQ (oQ 150 [aQs s, aQs t]) /\ eQ (oQ 38 (List.map At.val (PV.enc v))) /\ m = m
 /\ h = h /\ True)) (branch (v.op == 2) (branch ((↑v.args.len : Int) != 0) (K (cQb false) m h) (∃ (x : Unit), Tail cols params v p /\ eP 2 /\ eP 3 /\ eQ (oQ 150 [aQs s, aQs t]) /\
 eQ (oQ 38 (List.map At.val (PV.enc v))) /\ m = m /\ h = h /\ True)) (branch (v.op == 6) (branch ((↑v.args.len : Int) != 1) (K (cQb false) m h) (∃ (x : Unit), Tail cols params v p
 /\ eP 2 /\ eP 3 /\ eQ (oQ 150 [aQs s, aQs t]) /\ eQ (oQ 38 (List.map At.val (PV.enc v))) /\ m = m /\ h = h /\ True)) (branch (v.op == 4) (∃ (x : Unit), Tail cols params v p /\ eP 2
 /\ eP 3 /\ eQ (oQ 150 [aQs s, aQs t]) /\ eQ (oQ 38 (List.map At.val (PV.enc v))) /\ m = m /\ h = h /\ True) (branch (v.op == 5) (∃ (x : Unit), Tail cols params v p /\ eP 2 /\ eP 3
 /\ eQ (oQ 150 [aQs s, aQs t]) /\ eQ (oQ 38 (List.map At.val (PV.enc v))) /\ m = m /\ h = h /\ True) (K (cQb false) m h)))))) /\ ∀ (x : Unit), Tail cols params v p -> branch (v.cmp
 != 0) (K (cQb false) m h) (∃ (r : Bool), StructEq Tryz.prog 35 (Value.agg (Array.mk (OV.enc v.left))) (Value.agg (Array.mk [vQi 0, vQi 0, vQi 0, vQi 0, vQz])) r /\ branch (!r) (K
 (cQb false) m h) (∃ (r : Bool), StructEq Tryz.prog 35 (Value.agg (Array.mk (OV.enc v.right))) (Value.agg (Array.mk [vQi 0, vQi 0, vQi 0, vQi 0, vQz])) r /\ branch (!r) (K (cQb
 false) m h) ((∃ (x : Nat), (x <= p.args.length /\ (List.take x p.args).all (validF cols params) = true) /\ eP 2 /\ eP 3 /\ eQ (sQs v.args) /\ eQ (sQi ↑v.args.len) /\ sQi 0 = sQi ↑x
 /\ eQ (oQ 150 [aQs s, aQs t]) /\ eQ (oQ 38 (List.map At.val (PV.enc v))) /\ m = m /\ h = h /\ True) /\ ∀ (x : Nat), x <= p.args.length /\ (List.take x p.args).all (validF cols
 params) = true -> branch (decide ((↑x : Int) < ↑v.args.len)) (∃ (b off : Nat), v.args.a = some (Addr.mk b off none) /\ 0 <= (↑x : Int) /\ (↑x : Int) < ↑v.args.len /\ ∃ (y : PV),
 RdAt m h b (off + (↑x : Int).toNat * 13) (PV.enc y) /\ ∃ (s_1 t_1 : Sl), ∃ (cols_1 params_1 : List Int) (v_1 : PV) (p_1 : Pred), [cQa [vQs s, vQs t], cQa (PV.enc y)] = [cQa [vQs
 s_1, vQs t_1], cQa (PV.enc v_1)] /\ Ints h s_1 cols_1 /\ Ints h t_1 params_1 /\ RepP h p_1 v_1 /\ SizeOf.sizeOf p_1 < N /\ branch (!validF cols_1 params_1 p_1) (K (cQb false) m h)
 (∃ (y : Nat), (y <= p.args.length /\ (List.take y p.args).all (validF cols params) = true) /\ p.args.length - y < p.args.length - x /\ eP 2 /\ eP 3 /\ eQ (sQs v.args) /\ eQ (sQi
 ↑v.args.len) /\ sQi (IntKind.i64.wrap ((↑x : Int) + 1)) = sQi ↑y /\ eQ (oQ 150 [aQs s, aQs t]) /\ eQ (oQ 38 (List.map At.val (PV.enc v))) /\ m = m /\ h = h /\ True)) (K (cQb true)
 m h))))
theorem f89_vc (N : Nat) (s t : Sl) (cols params : List Int) (v : PV) (p : Pred) (m : MH) (h : PH) (K : CV → MH → PH → Prop) : f89_nice N s t cols params v p m h K = (fnVC (f89_ctx N s t cols params v p m h) Tryz.f89 (bodyOf Tryz.f89) (entry Tryz.f89.ntmps [a2S s t, aP v] m h) K) := by kernel_rfl
theorem RepP.top {v : PV} (r : RepP h p v) : p = .mk v.op v.cmp v.left v.right p.args := by
 cases p with
 | mk op cmp l r' args => obtain ⟨h1, h2, h3, h4, _⟩ := r; simp [Pred.args, h1, h2, h3, h4]
theorem validF_open {cols params : List Int} {h : PH} {p : Pred} {v : PV} (r : RepP h p v) : validF cols params p = if v.op == 1 || v.op == 2 then plainV v && p.args.length == 0
 else if v.op == 3 then p.args.length == 0 && v.cmp ≥ 1 && v.cmp ≤ 6 && kindOf cols params v.left != 0 && kindOf cols params v.left == kindOf cols params v.right
 else if v.op == 4 || v.op == 5 || (v.op == 6 && p.args.length == 1) then plainV v && p.args.all (validF cols params)
 else false := by
 have := r.top
 generalize p.args = xs at this ⊢
 subst this
 rw [validF, validFs_all]; rfl
theorem int_len {n : Nat} {k : Nat} : ((n : Int) == (k : Int)) = (n == k) := by
 apply Bool.eq_iff_iff.2; rw [beq_iff_eq, beq_iff_eq]; omega
theorem f83_ok {s t : Sl} {cols params : List Int} {v : PV} (hs : Ints h s cols) (ht : Ints h t params) (hr : RepP h p v) (hN : SizeOf.sizeOf p < N + 1) (hK : K (cB (validF cols params p)) m h) : f83_nice N s t cols params v p m h K := by
 obtain ⟨hl, hlen, hget⟩ := hr.open
 have hv := validF_open (cols := cols) (params := params) hr
 have hz : ((v.args.len : Int) == 0) = (p.args.length == 0) := by rw [hlen]; exact int_len (k := 0)
 have h1 : ((v.args.len : Int) != 1) = (p.args.length != 1) := by rw [hlen]; simp only [bne]; rw [show (1 : Int) = ((1 : Nat) : Int) from rfl, int_len]
 unfold f83_nice
 refine ⟨?_, ?_⟩
 · refine branch_intro (fun e => ⟨v, rfl, branch_intro (fun e2 => retB hK ?_) (fun e2 => retB hK ?_)⟩) (fun e => branch_intro (fun e1 => ⟨v, rfl, branch_intro (fun e2 => retB hK ?_) (fun e2 => retB hK ?_)⟩) (fun e1 => branch_intro (fun e2 => ⟨s, t, cols, params, v.left, rfl, hs, ht, ?_⟩) (fun e2 => ?_)))
   · rw [hv, hz]; simp [e, e2]
   · rw [hv]; simp [e, e2]
   · rw [hv, hz]; simp [e1, e2]
   · rw [hv]; simp [e1, e2]
   · have hv3 : validF cols params p = (p.args.length == 0 && v.cmp ≥ 1 && v.cmp ≤ 6 && kindOf cols params v.left != 0 && kindOf cols params v.left == kindOf cols params v.right) := by rw [hv]; simp [e, e1, e2]
     rw [hv3] at hK
     refine branch_intro (fun e3 => branch_intro (fun e4 => branch_intro (fun e5 => branch_intro (fun e6 => ⟨s, t, cols, params, v.right, rfl, hs, ht, retB hK ?_⟩) (fun e6 => retB hK ?_)) (fun e5 => retB hK ?_)) (fun e4 => retB hK ?_)) (fun e3 => retB hK ?_)
     all_goals (rw [hz] at e3; simp only [beq_iff_eq, decide_eq_true_eq, decide_eq_false_iff_not] at *; simp [*])
   · refine branch_intro (fun e3 => ⟨(), ⟨by rw [hv]; simp [e, e1, e2, e3]⟩, rfl, rfl, rfl, rfl, rfl, rfl, trivial⟩) (fun e3 => branch_intro (fun e4 => ⟨(), ⟨by rw [hv]; simp [e, e1, e2, e4]⟩, rfl, rfl, rfl, rfl, rfl, rfl, trivial⟩) (fun e4 => branch_intro (fun e5 => branch_intro (fun e6 => retB hK ?_) (fun e6 => ⟨(), ⟨?_⟩, rfl, rfl, rfl, rfl, rfl, rfl, trivial⟩)) (fun e5 => retB hK ?_)))
     · rw [h1] at e6; rw [hv]; simp_all
     · rw [h1] at e6; rw [hv]; simp_all
     · rw [hv]; simp_all
 · intro _ htl
   rw [htl.eq] at hK
   refine ⟨v, rfl, branch_intro (fun e => retB hK ?_) (fun e => ?_)⟩
   · simp_all
   · have e : plainV v = true := by simpa using e
     rw [e, Bool.true_and] at hK
     refine ⟨⟨0, ⟨by omega, by simp⟩, rfl, rfl, rfl, rfl, rfl, rfl, rfl, rfl, trivial⟩, fun i hi => branch_dec (fun hlt => ?_) (fun hge => retB hK ?_)⟩
     · obtain ⟨q, hq⟩ : ∃ q, p.args[i]? = some q := ⟨p.args[i]'(by omega), List.getElem?_eq_getElem _⟩
       obtain ⟨b, o, u, ea, hrd, hru⟩ := hget i q hq
       refine ⟨b, o, ea, by omega, hlt, u, .imm (by simpa using hrd), s, t, cols, params, u, q, rfl, hs, ht, hru, ?_, branch_intro (fun hd => retB hK ?_) (fun hd => ?_)⟩
       · have := args_lt (List.mem_of_getElem? hq); omega
       · exact all_bad hq (by simpa using hd)
       · refine ⟨i + 1, ⟨by omega, ?_⟩, by omega, rfl, rfl, rfl, rfl, by rw [wrapS (by omega)], rfl, rfl, rfl, trivial⟩
         rw [all_take hq, hi.2]; simpa using hd
     · have := hi.2
       rwa [List.take_of_length_le (by omega)] at this
theorem f83_all : ∀ N, Sound Tryz.prog 83 (ValidPS N)
 | 0 => by
  refine fn_sound (fn := Tryz.f83) (c := bodyOf Tryz.f83) Tryz.func83 rfl (by decide) ?_
  rintro cvs m h K ⟨s, t, cols, params, v, p, rfl, _, _, hr, hN, _⟩
  omega
 | N + 1 => by
  refine fn_sound (fn := Tryz.f83) (c := bodyOf Tryz.f83) Tryz.func83 rfl (by decide) ?_
  rintro cvs m h K ⟨s, t, cols, params, v, p, rfl, hs, ht, hr, hN, hK⟩
  refine ⟨f83_ctx N s t cols params v p m h, rfl, specs_cons (f83_all N) (specs_cons f109_sound (specs_cons f110_sound specs_nil)), ?_⟩
  rw [← f83_vc N s t cols params v p m h K]
  exact f83_ok hs ht hr hN hK
theorem f89_ok {s t : Sl} {cols params : List Int} {v : PV} (hs : Ints h s cols) (ht : Ints h t params) (hr : RepP h p v) (hN : SizeOf.sizeOf p < N + 1) (hK : K (cB (validF cols params p)) m h) : f89_nice N s t cols params v p m h K := by
 obtain ⟨hl, hlen, hget⟩ := hr.open
 have hv := validF_open (cols := cols) (params := params) hr
 have hz : ((v.args.len : Int) == 0) = (p.args.length == 0) := by rw [hlen]; exact int_len (k := 0)
 have hz' : ((v.args.len : Int) != 0) = (p.args.length != 0) := by simp only [bne]; rw [hz]
 have h1 : ((v.args.len : Int) != 1) = (p.args.length != 1) := by rw [hlen]; simp only [bne]; rw [show (1 : Int) = ((1 : Nat) : Int) from rfl, int_len]
 have hnil : p.args.length = 0 → p.args.all (validF cols params) = true := fun e => by rw [List.eq_nil_of_length_eq_zero e]; rfl
 unfold f89_nice
 refine ⟨?_, ?_⟩
 · refine branch_intro (fun e2 => ⟨s, t, cols, params, v.left, rfl, hs, ht, s, t, cols, params, v.right, rfl, hs, ht, ?_⟩) (fun e2 => branch_intro (fun e => branch_intro (fun e3 => retB hK ?_) (fun e3 => ⟨(), ⟨?_⟩, rfl, rfl, rfl, rfl, rfl, rfl, trivial⟩)) (fun e => branch_intro (fun e1 => branch_intro (fun e3 => retB hK ?_) (fun e3 => ⟨(), ⟨?_⟩, rfl, rfl, rfl, rfl, rfl, rfl, trivial⟩)) (fun e1 => branch_intro (fun e5 => branch_intro (fun e6 => retB hK ?_) (fun e6 => ⟨(), ⟨?_⟩, rfl, rfl, rfl, rfl, rfl, rfl, trivial⟩)) (fun e5 => branch_intro (fun e3 => ⟨(), ⟨?_⟩, rfl, rfl, rfl, rfl, rfl, rfl, trivial⟩) (fun e3 => branch_intro (fun e4 => ⟨(), ⟨?_⟩, rfl, rfl, rfl, rfl, rfl, rfl, trivial⟩) (fun e4 => retB hK ?_))))))
   · have e2' : v.op = 3 := by simpa using e2
     have hv3 : validF cols params p = (p.args.length == 0 && v.cmp ≥ 1 && v.cmp ≤ 6 && kindOf cols params v.left != 0 && kindOf cols params v.left == kindOf cols params v.right) := by rw [hv]; simp [e2']
     rw [hv3] at hK
     refine branch_intro (fun e3 => branch_intro (fun e4 => branch_intro (fun e5 => branch_intro (fun e6 => retB hK ?_) (fun e6 => retB hK ?_)) (fun e5 => retB hK ?_)) (fun e4 => retB hK ?_)) (fun e3 => retB hK ?_)
     all_goals (rw [hz] at e3; simp only [beq_iff_eq, decide_eq_true_eq, decide_eq_false_iff_not] at *; simp [*])
   · rw [hz'] at e3; rw [hv]; simp_all
   · rw [hz'] at e3; rw [hv]
     have e3' : p.args.length = 0 := by simpa using e3
     rw [hnil e3', e3']; simp [e]
   · rw [hz'] at e3; rw [hv]; simp_all
   · rw [hz'] at e3; rw [hv]
     have e3' : p.args.length = 0 := by simpa using e3
     rw [hnil e3', e3']; simp [e1]
   · rw [h1] at e6; rw [hv]; simp_all
   · rw [h1] at e6; rw [hv]; simp_all
   · rw [hv]; simp [e, e1, e2, e3]
   · rw [hv]; simp [e, e1, e2, e4]
   · rw [hv]; simp_all
 · intro _ htl
   rw [htl.eq] at hK
   refine branch_intro (fun e => retB hK ?_) (fun e => ⟨eqO v.left zeroO, eqO_law v.left zeroO, branch_intro (fun e1 => retB hK ?_) (fun e1 => ⟨eqO v.right zeroO, eqO_law v.right zeroO, branch_intro (fun e2 => retB hK ?_) (fun e2 => ?_)⟩)⟩)
   · simp_all [plainV]
   · simp_all [plainV]
   · simp_all [plainV]
   · have e : plainV v = true := by simp_all [plainV]
     rw [e, Bool.true_and] at hK
     refine ⟨⟨0, ⟨by omega, by simp⟩, rfl, rfl, rfl, rfl, rfl, rfl, rfl, rfl, rfl, trivial⟩, fun i hi => branch_dec (fun hlt => ?_) (fun hge => retB hK ?_)⟩
     · obtain ⟨q, hq⟩ : ∃ q, p.args[i]? = some q := ⟨p.args[i]'(by omega), List.getElem?_eq_getElem _⟩
       obtain ⟨b, o, u, ea, hrd, hru⟩ := hget i q hq
       refine ⟨b, o, ea, by omega, hlt, u, .imm (by simpa using hrd), s, t, cols, params, u, q, rfl, hs, ht, hru, ?_, branch_intro (fun hd => retB hK ?_) (fun hd => ?_)⟩
       · have := args_lt (List.mem_of_getElem? hq); omega
       · exact all_bad hq (by simpa using hd)
       · refine ⟨i + 1, ⟨by omega, ?_⟩, by omega, rfl, rfl, rfl, rfl, by rw [wrapS (by omega)], rfl, rfl, rfl, rfl, trivial⟩
         rw [all_take hq, hi.2]; simpa using hd
     · have := hi.2
       rwa [List.take_of_length_le (by omega)] at this
theorem f89_all : ∀ N, Sound Tryz.prog 89 (ValidP2S N)
 | 0 => by
  refine fn_sound (fn := Tryz.f89) (c := bodyOf Tryz.f89) Tryz.func89 rfl (by decide) ?_
  rintro cvs m h K ⟨s, t, cols, params, v, p, rfl, _, _, hr, hN, _⟩
  omega
 | N + 1 => by
  refine fn_sound (fn := Tryz.f89) (c := bodyOf Tryz.f89) Tryz.func89 rfl (by decide) ?_
  rintro cvs m h K ⟨s, t, cols, params, v, p, rfl, hs, ht, hr, hN, hK⟩
  refine ⟨f89_ctx N s t cols params v p m h, rfl, specs_cons (f89_all N) (specs_cons f111_sound specs_nil), ?_⟩
  rw [← f89_vc N s t cols params v p m h K]
  exact f89_ok hs ht hr hN hK
theorem drop_cons {α : Type} {l : List α} {x : α} (h : l[i]? = some x) : l.drop i = x :: l.drop (i + 1) := by
 have hi : i < l.length := (List.getElem?_eq_some_iff.1 h).1
 rw [List.drop_eq_getElem_cons hi]
 rw [List.getElem?_eq_getElem hi] at h
 simp at h
 rw [h]
mutual
def smallF : Pred → Nat → Int → Bool × Int
 | .mk _ _ _ _ args, k, b => if b < 1 then (false, b - 1) else match k with | 0 => (false, b - 1) | k + 1 => smallFs args k (b - 1)
def smallFs : List Pred → Nat → Int → Bool × Int
 | [], _, b => (true, b)
 | p :: ps, k, b => match smallF p k b with | (false, b') => (false, b') | (true, b') => smallFs ps k b'
end
mutual
def szF : Pred → Int
 | .mk _ _ _ _ args => 1 + szFs args
def szFs : List Pred → Int
 | [] => 0
 | p :: ps => szF p + szFs ps
end
mutual
theorem szF_pos : ∀ p : Pred, 1 ≤ szF p
 | .mk _ _ _ _ args => by have := szFs_pos args; simp only [szF]; omega
theorem szFs_pos : ∀ ps : List Pred, 0 ≤ szFs ps
 | [] => by simp [szFs]
 | p :: ps => by have := szF_pos p; have := szFs_pos ps; simp only [szFs]; omega
end
mutual
theorem nodesF_eq : ∀ (p : Pred) (n : Int), n ≤ 24 → (n + szF p ≤ 24 → nodesF p n = n + szF p) ∧ (24 < n + szF p → nodesF p n = 25)
 | .mk _ _ _ _ args, n, h => by
  obtain ⟨h1, h2⟩ := nodesFs_eq args (n + 1) (by omega)
  simp only [nodesF, szF]
  exact ⟨fun e => by rw [h1 (by omega)]; omega, fun e => h2 (by omega)⟩
theorem nodesFs_eq : ∀ (ps : List Pred) (n : Int), n ≤ 25 → (n + szFs ps ≤ 24 → nodesFs ps n = n + szFs ps) ∧ (24 < n + szFs ps → nodesFs ps n = 25)
 | [], n, h => by
  simp only [nodesFs, szFs]
  omega
 | p :: ps, n, h => by
  have h1 := szF_pos p
  have h2 := szFs_pos ps
  simp only [nodesFs, szFs]
  by_cases h3 : n ≤ 24
  · rw [if_pos h3]
    have h4 := nodesF_eq p n h3
    have h5 := (nodesF_bound p n h3).2
    have h6 := nodesFs_eq ps _ h5
    by_cases h7 : n + szF p ≤ 24
    · have h8 := h4.1 h7
      rw [h8] at h6 ⊢
      exact ⟨fun e => by rw [h6.1 (by omega)]; omega, fun e => h6.2 (by omega)⟩
    · have h8 := h4.2 (by omega)
      rw [h8] at h6 ⊢
      exact ⟨fun e => by omega, fun e => h6.2 (by omega)⟩
  · rw [if_neg h3]; omega
end
mutual
theorem smallF_eq : ∀ (p : Pred) (k : Nat) (b : Int), 0 ≤ b → ((smallF p k b).1 = true ↔ szF p ≤ b ∧ deeperF p k = false) ∧ ((smallF p k b).1 = true → (smallF p k b).2 = b - szF p)
 | .mk _ _ _ _ args, k, b, h => by
  have hp := szFs_pos args
  simp only [smallF, szF]
  by_cases h0 : b < 1
  · rw [if_pos h0]
    exact ⟨⟨fun e => (by cases e), fun e => (by omega)⟩, fun e => (by cases e)⟩
  · rw [if_neg h0]
    cases k with
    | zero => exact ⟨⟨fun e => (by cases e), fun e => (by simp [deeperF] at e)⟩, fun e => (by cases e)⟩
    | succ k =>
     obtain ⟨h1, h2⟩ := smallFs_eq args k (b - 1) (by omega)
     simp only [deeperF]
     refine ⟨⟨fun e => ?_, fun e => h1.2 ⟨by omega, e.2⟩⟩, fun e => by have := h2 e; omega⟩
     have := h1.1 e
     exact ⟨by omega, this.2⟩
theorem smallFs_eq : ∀ (ps : List Pred) (k : Nat) (b : Int), 0 ≤ b → ((smallFs ps k b).1 = true ↔ szFs ps ≤ b ∧ deeperFs ps k = false) ∧ ((smallFs ps k b).1 = true → (smallFs ps k b).2 = b - szFs ps)
 | [], k, b, h => by simp [smallFs, szFs, deeperFs, h]
 | p :: ps, k, b, h => by
  obtain ⟨h1, h2⟩ := smallF_eq p k b h
  have hp := szFs_pos ps
  simp only [smallFs, szFs, deeperFs]
  cases e : smallF p k b with
  | mk r b' =>
   rw [e] at h1 h2
   cases r with
   | false =>
    refine ⟨⟨fun e => (by cases e), fun e => ?_⟩, fun e => (by cases e)⟩
    have := h1.2 ⟨by omega, (Bool.or_eq_false_iff.1 e.2).1⟩
    cases this
   | true =>
    have h3 := h2 rfl
    have h1 := h1.1 rfl
    simp only at h3
    obtain ⟨h4, h5⟩ := smallFs_eq ps k b' (by omega)
    refine ⟨⟨fun e => ?_, fun e => ?_⟩, fun e => by have := h5 e; simp only; omega⟩
    · have := h4.1 e
      exact ⟨by omega, by rw [h1.2, this.2]; rfl⟩
    · exact h4.2 ⟨by omega, (Bool.or_eq_false_iff.1 e.2).2⟩
end
def predErr (cols params : List Int) (p : Pred) : Int :=
 if !cols.all colKind || !params.all colKind then 1
 else if nodesF p 0 > 24 || deeperF p 8 then 2
 else if !validF cols params p then 50 else 0
theorem small_big (p : Pred) : (smallF p 8 24).1 = !(decide (nodesF p 0 > 24) || deeperF p 8) := by
 have h1 := (smallF_eq p 8 24 (by omega)).1
 have h2 := nodesF_eq p 0 (by omega)
 rw [Bool.eq_iff_iff, h1]
 simp only [Bool.not_eq_true', Bool.or_eq_false_iff, decide_eq_false_iff_not]
 refine and_congr_left fun _ => ⟨fun e => ?_, fun e => ?_⟩
 · rw [h2.1 (by omega)]; omega
 · by_cases h3 : szF p ≤ 24
   · exact h3
   · rw [h2.2 (by omega)] at e; omega
def cell1 (n : Int) : Obj := .cells #[.int .i64 n] 3 (0, 0)
def SmallS (N : Nat) : Vc.Spec := fun cvs m h K => ∃ v p, ∃ k b : Nat, ∃ n, cvs = [aP v, cI (9 - k), cP b] ∧ RepP h p v ∧ SizeOf.sizeOf p < N ∧ k ≤ 9 ∧ 0 ≤ n ∧ n ≤ 24 ∧ m b = some (cell1 n) ∧ ∀ m', MUpd m m' b (cell1 (smallF p k n).2) → K (cB (smallF p k n).1) m' h
def f88_ctx (N : Nat) (v : PV) (p : Pred) (k b : Nat) (n : Int) (m : MH) (h : PH) : Ctx :=
 ctx [(88, SmallS N)] [(5, { A := Nat × Int × MH, st := fun x => mkSt 36 39 [(1, iv (9 - k)), (2, vv (.pointer (some ⟨b, 0, none⟩))), (23, sv v.args), (24, iv v.args.len), (25, iv x.1)] [] x.2.2 h, inv := fun x => x.1 ≤ p.args.length ∧ 0 ≤ x.2.1 ∧ x.2.1 ≤ 24 ∧ MUpd m x.2.2 b (cell1 x.2.1) ∧ 1 ≤ k ∧ smallFs (p.args.drop x.1) (k - 1) x.2.1 = smallF p k n, mu := fun x => p.args.length - x.1 })] [] [] false
def PredCheckS : Vc.Spec := fun cvs m h K => ∃ s t v cols params p, cvs = [cS s, cS t, aP v] ∧ Ints h s cols ∧ Ints h t params ∧ RepP h p v ∧ K (cI (predErr cols params p)) m h
def f57_ctx (N : Nat) : Ctx := ctx [(54, KindsS), (81, NodesS N), (82, DeeperS N), (83, ValidPS N)] [] [] [] false
def f63_ctx (N : Nat) : Ctx := ctx [(87, KindsS), (88, SmallS N), (89, ValidP2S N)] [] [] [] false
def f88_nice (N : Nat) (v : PV) (p : Pred) (k b : Nat) (n : Int) (m : MH) (h : PH) (K : CV → MH → PH → Prop) : Prop :=
 ∃ (y : Int), RdAt m h b 0 [vQi y] /\ ∃ (cs : Array Value) (E : TypeId), MAt m b (Obj.cells cs E) /\ 0 < cs.size /\ ∀ (m' : MH), MUpd m m' b (Obj.cells (Array.mk (vQi
 (IntKind.i64.wrap (y - 1)) :: (List.drop 1 cs.toList))) E) -> ∃ (y : Int), RdAt m' h b 0 [vQi y] /\ branch (decide (y < 0)) (K (cQb false) m' h) (branch (decide (9 - (↑k : Int) >
 8)) (K (cQb false) m' h) ((∃ (x : Nat × Int × MH), (x.1 <= p.args.length /\ 0 <= x.2.1 /\ x.2.1 <= 24 /\ MUpd m x.2.2 b (Obj.cells (Array.mk [vQi x.2.1]) 3) /\ 1 <= k /\ smallFs
 (List.drop x.1 p.args) (k - 1) x.2.1 = smallF p k n) /\ eQ (sQi (9 - (↑k : Int))) /\ eQ (sQo b 0) /\ eQ (sQs v.args) /\ eQ (sQi ↑v.args.len) /\ sQi 0 = sQi ↑x.1 /\ m' = x.2.2 /\ h
 = h /\ True) /\ ∀ (x : Nat × Int × MH), x.1 <= p.args.length /\ 0 <= x.2.1 /\ x.2.1 <= 24 /\ MUpd m x.2.2 b (Obj.cells (Array.mk [vQi x.2.1]) 3) /\ 1 <= k /\ smallFs (List.drop x.1
 p.args) (k - 1) x.2.1 = smallF p k n -> branch (decide ((↑x.1 : Int) < ↑v.args.len)) (∃ (b_1 off : Nat), v.args.a = some (Addr.mk b_1 off none) /\ 0 <= (↑x.1 : Int) /\ (↑x.1 : Int)
 < ↑v.args.len /\ ∃ (y : PV), RdAt x.2.2 h b_1 (off + (↑x.1 : Int).toNat * 13) (PV.enc y) /\ ∃ (v_1 : PV) (p_1 : Pred), ∃ (k_1 b_2 : Nat) (n_1 : Int), [cQa (PV.enc y), cQi
 (IntKind.i64.wrap (9 - (↑k : Int) + 1)), cQp b 0] = [cQa (PV.enc v_1), cQi (9 - (↑k_1 : Int)), cQp b_2 0] /\ RepP h p_1 v_1 /\ SizeOf.sizeOf p_1 < N /\ k_1 <= 9 /\ 0 <= n_1 /\ n_1
 <= 24 /\ x.2.2 b_2 = some (Obj.cells (Array.mk [vQi n_1]) 3) /\ ∀ (m' : MH), MUpd x.2.2 m' b_2 (Obj.cells (Array.mk [vQi (smallF p_1 k_1 n_1).2]) 3) -> branch (!(smallF p_1 k_1
 n_1).1) (K (cQb false) m' h) (∃ (y : Nat × Int × MH), (y.1 <= p.args.length /\ 0 <= y.2.1 /\ y.2.1 <= 24 /\ MUpd m y.2.2 b (Obj.cells (Array.mk [vQi y.2.1]) 3) /\ 1 <= k /\ smallFs
 (List.drop y.1 p.args) (k - 1) y.2.1 = smallF p k n) /\ p.args.length - y.1 < p.args.length - x.1 /\ eQ (sQi (9 - (↑k : Int))) /\ eQ (sQo b 0) /\ eQ (sQs v.args) /\ eQ (sQi
 ↑v.args.len) /\ sQi (IntKind.i64.wrap ((↑x.1 : Int) + 1)) = sQi ↑y.1 /\ m' = y.2.2 /\ h = h /\ True)) (K (cQb true) x.2.2 h)))
theorem f88_vc (N : Nat) (v : PV) (p : Pred) (k b : Nat) (n : Int) (m : MH) (h : PH) (K : CV → MH → PH → Prop) : f88_nice N v p k b n m h K = (fnVC (f88_ctx N v p k b n m h) Tryz.f88 (bodyOf Tryz.f88) (entry Tryz.f88.ntmps [aP v, cI (9 - k), cP b] m h) K) := by kernel_rfl
def f57_nice (N : Nat) (s t : Sl) (v : PV) (m : MH) (h : PH) (K : CV → MH → PH → Prop) : Prop :=
 ∃ (s_1 : Sl) (l : List Int), [cQs s] = [cQs s_1] /\ Ints h s_1 l /\ branch (!l.all colKind) (K (cQi 1) m h) (∃ (s_2 : Sl) (l : List Int), [cQs t] = [cQs s_2] /\ Ints h s_2 l /\
 branch (!l.all colKind) (K (cQi 1) m h) (∃ (v_1 : PV) (p : Pred) (k : Int), [cQa (PV.enc v), cQi 0] = [cQa (PV.enc v_1), cQi k] /\ RepP h p v_1 /\ SizeOf.sizeOf p < N /\ 0 <= k /\
 k <= 24 /\ branch (decide (nodesF p k > 24)) (K (cQi 2) m h) (∃ (v_2 : PV) (p : Pred) (k : Nat), [cQa (PV.enc v), cQi 8] = [cQa (PV.enc v_2), cQi ↑k] /\ RepP h p v_2 /\
 SizeOf.sizeOf p < N /\ k <= 100 /\ branch (deeperF p k) (K (cQi 2) m h) (∃ (s_3 t_1 : Sl), ∃ (cols params : List Int) (v_3 : PV) (p : Pred), [cQs s, cQs t, cQa (PV.enc v)] = [cQs
 s_3, cQs t_1, cQa (PV.enc v_3)] /\ Ints h s_3 cols /\ Ints h t_1 params /\ RepP h p v_3 /\ SizeOf.sizeOf p < N /\ branch (!validF cols params p) (K (cQi 50) m h) (K (cQi 0) m
 h)))))
theorem f57_vc (N : Nat) (s t : Sl) (v : PV) (m : MH) (h : PH) (K : CV → MH → PH → Prop) : f57_nice N s t v m h K = (fnVC (f57_ctx N) Tryz.f57 (bodyOf Tryz.f57) (entry Tryz.f57.ntmps [cS s, cS t, aP v] m h) K) := by kernel_rfl
def f63_nice (N : Nat) (s t : Sl) (v : PV) (m : MH) (h : PH) (K : CV → MH → PH → Prop) : Prop :=
 ∃ (s_1 : Sl) (l : List Int), [cQs s] = [cQs s_1] /\ Ints h s_1 l /\ branch (!l.all colKind) (K (cQi 1) m h) (∃ (s_2 : Sl) (l : List Int), [cQs t] = [cQs s_2] /\ Ints h s_2 l /\
 branch (!l.all colKind) (K (cQi 1) m h) (∀ (b : Nat) (m' : MH), Unheld m h b -> MUpd m m' b (Obj.cells (Array.mk [vQi 24]) 3) -> ∃ (v_1 : PV) (p : Pred), ∃ (k b_1 : Nat) (n : Int),
 [cQa (PV.enc v), cQi 1, cQp b 0] = [cQa (PV.enc v_1), cQi (9 - (↑k : Int)), cQp b_1 0] /\ RepP h p v_1 /\ SizeOf.sizeOf p < N /\ k <= 9 /\ 0 <= n /\ n <= 24 /\ m' b_1 = some
 (Obj.cells (Array.mk [vQi n]) 3) /\ ∀ (m'_1 : MH), MUpd m' m'_1 b_1 (Obj.cells (Array.mk [vQi (smallF p k n).2]) 3) -> branch (!(smallF p k n).1) (K (cQi 2) m'_1 h) (∃ (s_3 t_1 :
 Sl), ∃ (cols params : List Int) (v_2 : PV) (p : Pred), [cQa [vQs s, vQs t], cQa (PV.enc v)] = [cQa [vQs s_3, vQs t_1], cQa (PV.enc v_2)] /\ Ints h s_3 cols /\ Ints h t_1 params /\
 RepP h p v_2 /\ SizeOf.sizeOf p < N /\ branch (!validF cols params p) (K (cQi 50) m'_1 h) (K (cQi 0) m'_1 h))))
theorem f63_vc (N : Nat) (s t : Sl) (v : PV) (m : MH) (h : PH) (K : CV → MH → PH → Prop) : f63_nice N s t v m h K = (fnVC (f63_ctx N) Tryz.f63 (bodyOf Tryz.f63) (entry Tryz.f63.ntmps [cS s, cS t, aP v] m h) K) := by kernel_rfl
end
end Go.Ps
namespace Go.Vc
open Go.Ps Go.Proofs
theorem MUpd.trans {m m' m'' : MH} {b : Nat} {o o' : Obj} (h1 : MUpd m m' b o) (h2 : MUpd m' m'' b o') : MUpd m m'' b o' := ⟨h2.at_, fun b' hb => (h2.other b' hb).trans (h1.other b' hb)⟩
end Go.Vc
namespace Go.Ps
open Go Go.Vc Go.Proofs
noncomputable section
variable {K : CV → MH → PH → Prop} {m : MH} {h : PH} {ps : List Int} {cb : Nat} {sc : SchV} {v : QV} {q : Query} {p : Pred} {l : List Int} {i : Nat} {N : Nat} {m' : MH} {h' : PH} {co : List Int} {gr : List Int} {od : List (Int × Bool)} {w : Pred} {ta : Int} {li : Int} {xs : List (List Value)} {sz : Nat} {k : Nat} {ks : List (List Int)} {rs : List Int} {r : Sl} {a : List Int} {b : Nat}
theorem f88_ok {v : PV} {n : Int} (hr : RepP h p v) (hN : SizeOf.sizeOf p < N + 1) (hk : k ≤ 9) (h0 : 0 ≤ n) (h1 : n ≤ 24) (hm : m b = some (cell1 n)) (hK : ∀ m', MUpd m m' b (cell1 (smallF p k n).2) → K (cB (smallF p k n).1) m' h) : f88_nice N v p k b n m h K := by
 obtain ⟨hl, hlen, hget⟩ := hr.open
 have hw : IntKind.i64.wrap (n - 1) = n - 1 := wrap_id (by omega) (by omega)
 refine ⟨n, .of_m hm rfl, _, _, ⟨hm⟩, by simp, fun m' hu => ?_⟩
 rw [hw] at hu
 have hu' : MUpd m m' b (cell1 (n - 1)) := hu
 refine ⟨n - 1, .of_m hu'.at_ rfl, branch_dec (fun h2 => ?_) (fun h2 => branch_dec (fun h3 => ?_) (fun h3 => ?_))⟩
 · have e : smallF p k n = (false, n - 1) := by cases p; simp only [smallF]; rw [if_pos (by omega)]
   rw [e] at hK
   exact hK m' hu'
 · have hk0 : k = 0 := by omega
   subst hk0
   have e : smallF p 0 n = (false, n - 1) := by cases p; simp only [smallF]; rw [if_neg (by omega)]
   rw [e] at hK
   exact hK m' hu'
 · refine ⟨⟨(0, n - 1, m'), ⟨by simp, by simp only; omega, by simp only; omega, hu', by omega, ?_⟩, MT⟩, ?_⟩
   · obtain ⟨k', rfl⟩ : ∃ k', k = k' + 1 := ⟨k - 1, by omega⟩
     cases p
     simp only [smallF, List.drop_zero, Pred.args]
     rw [if_neg (by omega)]
     rfl
   · rintro ⟨i, x, mx⟩ ⟨hi, hx0, hx1, hmx, hk1, he⟩
     simp only at hi hx0 hx1 hmx he
     refine branch_dec (fun hlt => ?_) (fun hge => ?_)
     · obtain ⟨q, hq⟩ : ∃ q, p.args[i]? = some q := ⟨p.args[i]'(by simp only at hlt; omega), List.getElem?_eq_getElem _⟩
       obtain ⟨b1, o, u, ea, hrd, hru⟩ := hget i q hq
       have hd : p.args.drop i = q :: p.args.drop (i + 1) := drop_cons hq
       refine ⟨b1, o, ea, by simp, by simpa using hlt, u, .imm (by simpa using hrd), u, q, k - 1, b, x, ?_, hru, ?_, by omega, hx0, hx1, hmx.at_, fun m2 hm2 => ?_⟩
       · rw [wrap_id (by omega) (by omega), show (9 - ((k - 1 : Nat) : Int)) = 9 - (k : Int) + 1 by omega]
       · have := args_lt (List.mem_of_getElem? hq); omega
       · have hmt : MUpd m m2 b (cell1 (smallF q (k - 1) x).2) := hmx.trans hm2
         rw [hd, smallFs] at he
         obtain ⟨hs1, hs2⟩ := smallF_eq q (k - 1) x hx0
         cases e : smallF q (k - 1) x with
         | mk r x' =>
          rw [e] at he hmt hs1 hs2
          cases r with
          | false =>
           simp only at he
           rw [← he] at hK
           exact hK m2 hmt
          | true =>
           have hs3 := hs1.1 rfl
           have hs4 := hs2 rfl
           have hq1 := szF_pos q
           simp only at hs4 he
           exact ⟨(i + 1, x', m2), ⟨by simp only at hlt ⊢; omega, by simp only; omega, by simp only; omega, hmt, hk1, he⟩, by simp only at hlt ⊢; omega, MT⟩
     · rw [List.drop_of_length_le (by simp only at hge; omega)] at he
       simp only [smallFs] at he
       rw [← he] at hK
       exact hK mx hmx
theorem f88_all : ∀ N, Sound Tryz.prog 88 (SmallS N)
 | 0 => by
  refine fn_sound (fn := Tryz.f88) (c := bodyOf Tryz.f88) Tryz.func88 rfl (by decide) ?_
  rintro cvs m h K ⟨v, p, k, b, n, rfl, hr, hN, _⟩
  omega
 | N + 1 => by
  refine fn_sound (fn := Tryz.f88) (c := bodyOf Tryz.f88) Tryz.func88 rfl (by decide) ?_
  rintro cvs m h K ⟨v, p, k, b, n, rfl, hr, hN, hk, h0, h1, hm, hK⟩
  refine ⟨f88_ctx N v p k b n m h, rfl, specs_cons (f88_all N) specs_nil, ?_⟩
  rw [← f88_vc N v p k b n m h K]
  exact f88_ok hr hN hk h0 h1 hm hK
theorem f57_ok {s t : Sl} {v : PV} {cols params : List Int} (hs : Ints h s cols) (ht : Ints h t params) (hr : RepP h p v) (hK : K (cI (predErr cols params p)) m h) : f57_nice (SizeOf.sizeOf p + 1) s t v m h K := by
 refine ⟨s, cols, rfl, hs, branch_intro (fun e1 => retI hK ?_) (fun e1 => ⟨t, params, rfl, ht, branch_intro (fun e2 => retI hK ?_) (fun e2 => ⟨v, p, 0, rfl, hr, by omega, by omega, by omega, branch_intro (fun e3 => retI hK ?_) (fun e3 => ⟨v, p, 8, rfl, hr, by omega, by omega, branch_intro (fun e4 => retI hK ?_) (fun e4 => ⟨s, t, cols, params, v, p, rfl, hs, ht, hr, by omega, branch_intro (fun e5 => retI hK ?_) (fun e5 => retI hK ?_)⟩)⟩)⟩)⟩)⟩
 all_goals (simp only [predErr]; simp only [*, Bool.or_false, Bool.false_or, Bool.or_true, Bool.true_or, Bool.and_true, Bool.true_and, Bool.and_false, Bool.false_and, Bool.not_true, Bool.not_false, Bool.false_eq_true, if_true, if_false, ↓reduceIte])
theorem f63_ok {s t : Sl} {v : PV} {cols params : List Int} (hs : Ints h s cols) (ht : Ints h t params) (hr : RepP h p v) (hK : K (cI (predErr cols params p)) m h) : f63_nice (SizeOf.sizeOf p + 1) s t v m h (fun r m' h' => ∃ m2 h2, (∀ b o, m2 b = some o → m' b = some o) ∧ PH.le h h2 ∧ PH.le h2 h' ∧ K r m2 h2) := by
 have hK2 : ∀ (m' : MH), (∀ b o, m b = some o → m' b = some o) → ∀ x, predErr cols params p = x → ∃ m2 h2, (∀ b o, m2 b = some o → m' b = some o) ∧ PH.le h h2 ∧ PH.le h2 h ∧ K (.val (.int .i64 x)) m2 h2 := fun m' hm x e => ⟨m, h, hm, .refl _, .refl _, e ▸ hK⟩
 refine ⟨s, cols, rfl, hs, branch_intro (fun e1 => hK2 m (fun _ _ e => e) _ ?_) (fun e1 => ⟨t, params, rfl, ht, branch_intro (fun e2 => hK2 m (fun _ _ e => e) _ ?_) (fun e2 b m1 hb hm1 => ⟨v, p, 8, b, 24, rfl, hr, by omega, by omega, by omega, by omega, hm1.at_, fun m2 hm2 => ?_⟩)⟩)⟩
 · simp only [predErr]; simp only [*, Bool.or_false, Bool.false_or, Bool.or_true, Bool.true_or, Bool.and_true, Bool.true_and, Bool.and_false, Bool.false_and, Bool.not_true, Bool.not_false, Bool.false_eq_true, if_true, if_false, ↓reduceIte]
 · simp only [predErr]; simp only [*, Bool.or_false, Bool.false_or, Bool.or_true, Bool.true_or, Bool.and_true, Bool.true_and, Bool.and_false, Bool.false_and, Bool.not_true, Bool.not_false, Bool.false_eq_true, if_true, if_false, ↓reduceIte]
 · have hsub : ∀ b o, m b = some o → m2 b = some o := fun b' o e => by
    have hne : b' ≠ b := fun e' => by rw [e', hb.m_] at e; cases e
    rw [hm2.other b' hne, hm1.other b' hne, e]
   have hsb := small_big p
   refine branch_intro (fun e3 => hK2 m2 hsub _ ?_) (fun e3 => ⟨s, t, cols, params, v, p, rfl, hs, ht, hr, by omega, branch_intro (fun e5 => hK2 m2 hsub _ ?_) (fun e5 => hK2 m2 hsub _ ?_)⟩)
   all_goals (rw [hsb, Bool.not_not] at e3; clear hsb; simp only [predErr]; simp only [*, Bool.or_false, Bool.false_or, Bool.or_true, Bool.true_or, Bool.and_true, Bool.true_and, Bool.and_false, Bool.false_and, Bool.not_true, Bool.not_false, Bool.false_eq_true, if_true, if_false, ↓reduceIte])
theorem f57_sound : Sound Tryz.prog 57 PredCheckS := by
 refine fn_sound (fn := Tryz.f57) (c := bodyOf Tryz.f57) Tryz.func57 rfl (by decide) ?_
 rintro cvs m h K ⟨s, t, v, cols, params, p, rfl, hs, ht, hr, hK⟩
 refine ⟨f57_ctx (SizeOf.sizeOf p + 1), rfl, specs_cons f54_sound (specs_cons (f81_all _) (specs_cons (f82_all _) (specs_cons (f83_all _) specs_nil))), ?_⟩
 rw [← f57_vc (SizeOf.sizeOf p + 1) s t v m h K]
 exact f57_ok hs ht hr hK
theorem f63_sound : Sound Tryz.prog 63 PredCheckS := by
 refine fn_sound' (fn := Tryz.f63) (c := bodyOf Tryz.f63) Tryz.func63 rfl (by decide) ?_
 rintro cvs m h K ⟨s, t, v, cols, params, p, rfl, hs, ht, hr, hK⟩
 refine ⟨f63_ctx (SizeOf.sizeOf p + 1), rfl, specs_cons f87_sound (specs_cons (f88_all _) (specs_cons (f89_all _) specs_nil)), ?_⟩
 rw [← f63_vc (SizeOf.sizeOf p + 1) s t v m h _]
 exact f63_ok hs ht hr hK
structure RepL {α β : Type} (h : PH) (sz : Nat) (enc : β → List Value) (R : α → β → Prop) (s : Sl) (l : List α) : Prop where
 ex : ∃ vs : List β, RowIn h s sz (vs.map enc) ∧ l.length = vs.length ∧ ∀ (i : Nat) (x : α), l[i]? = some x → ∃ v, vs[i]? = some v ∧ R x v
 len : l.length ≤ 502633886983
theorem RepL.slen {α β : Type} {enc : β → List Value} {R : α → β → Prop} {s : Sl} {l : List α} (r : RepL h sz enc R s l) : s.len = l.length := by
 obtain ⟨vs, h1, h2, _⟩ := r.ex
 have := h1.len
 simp at this
 omega
theorem RepL.at {α β : Type} {enc : β → List Value} {R : α → β → Prop} {s : Sl} {l : List α} (r : RepL h sz enc R s l) {x : α} (hi : l[i]? = some x) :
 ∃ b o v, s.a = some ⟨b, o, none⟩ ∧ RdCells h b (o + i * sz) (enc v) ∧ R x v := by
 obtain ⟨vs, h1, _, h3⟩ := r.ex
 obtain ⟨v, hv, hr⟩ := h3 i x hi
 obtain ⟨b, o, e, k⟩ := h1.get (i := i) (e := enc v) (by simp [hv])
 exact ⟨b, o, v, e, k, hr⟩
theorem RepL.mono {α β : Type} {enc : β → List Value} {R R' : α → β → Prop} {s : Sl} {l : List α} (r : RepL h sz enc R s l) (le : PH.le h h') (hR : ∀ x v, R x v → R' x v) : RepL h' sz enc R' s l := by
 obtain ⟨vs, h1, h2, h3⟩ := r.ex
 exact ⟨⟨vs, h1.mono le, h2, fun i x hx => (h3 i x hx).imp fun v hv => ⟨hv.1, hR _ _ hv.2⟩⟩, r.len⟩
theorem RepL.nil {α β : Type} (h : PH) (sz : Nat) (enc : β → List Value) (R : α → β → Prop) : RepL h sz enc R ⟨none, 0, 0⟩ ([] : List α) :=
 ⟨⟨[], .nil h sz, rfl, fun i x hx => by simp at hx⟩, by simp⟩
theorem getx {α : Type} {l : List α} {i n : Nat} (hn : n = l.length) (hi : (i : Int) < (n : Int)) : ∃ x, l[i]? = some x := ⟨l[i]'(by omega), List.getElem?_eq_getElem _⟩
def RepPl (h : PH) (s : Sl) (ps : List Pred) : Prop := RepL h 13 PV.enc (RepP h) s ps
theorem RepPl.mono {s : Sl} {ps : List Pred} (r : RepPl h s ps) (le : PH.le h h') : RepPl h' s ps := RepL.mono r le fun _ _ => RepP.mono le
theorem RepPs.toL {s : Sl} {ps : List Pred} {vs : List PV} (h1 : RowIn h s 13 (vs.map PV.enc)) (h2 : RepPs h ps vs) (hl : ps.length ≤ 502633886983) : RepPl h s ps :=
 ⟨⟨vs, h1, h2.length.symm, fun _ _ hx => h2.get hx⟩, hl⟩
theorem RepPs.ofL {h : PH} : ∀ {ps : List Pred} {vs : List PV}, ps.length = vs.length → (∀ (i : Nat) (x : Pred), ps[i]? = some x → ∃ v, vs[i]? = some v ∧ RepP h x v) → RepPs h ps vs
 | [], [], _, _ => rfl
 | p :: ps, v :: vs, hl, hx => by
  obtain ⟨v', h1, h2⟩ := hx 0 p rfl
  simp at h1
  subst h1
  exact ⟨v, vs, rfl, h2, RepPs.ofL (by simpa using hl) fun i x e => by simpa using hx (i + 1) x (by simpa using e)⟩
 | [], _ :: _, hl, _ => by simp at hl
 | _ :: _, [], hl, _ => by simp at hl
theorem RepP.parts {op cmp : Int} {l r : OV} {args : List Pred} {v : PV} (x : RepP h (.mk op cmp l r args) v) : v.op = op ∧ v.cmp = cmp ∧ v.left = l ∧ v.right = r ∧ RepPl h v.args args := by
 obtain ⟨h1, h2, h3, h4, h5, vs, h6, h7⟩ := x
 exact ⟨h1, h2, h3, h4, h7.toL h6 h5⟩
theorem RepP.mk {h : PH} {args : List Pred} {v : PV} (hl : RepPl h v.args args) : RepP h (.mk v.op v.cmp v.left v.right args) v := by
 obtain ⟨vs, h1, h2, h3⟩ := hl.ex
 exact ⟨rfl, rfl, rfl, rfl, hl.len, vs, h1, .ofL h2 h3⟩
def EqPS (N : Nat) : Vc.Spec := fun cvs m h K => ∃ v w p q, cvs = [aP v, aP w] ∧ RepP h p v ∧ RepP h q w ∧ SizeOf.sizeOf p < N ∧ ∀ r : Bool, (r = true ↔ p = q) → K (cB r) m h
def EqPFS (N : Nat) : Vc.Spec := fun cvs m h K => ∃ s t ps qs, cvs = [cS s, cS t, .val (.func (.func 136) #[] #[])] ∧ RepPl h s ps ∧ RepPl h t qs ∧ (∀ p ∈ ps, SizeOf.sizeOf p < N) ∧ ∀ r : Bool, (r = true ↔ ps = qs) → K (cB r) m h
def f136_ctx (N : Nat) : Ctx := ctx [(144, EqPFS N)] [] [] [] false
def f144_ctx (N : Nat) (s t : Sl) (ps qs : List Pred) (m : MH) (h : PH) : Ctx :=
 ctx [(136, EqPS N)] [loop1 4 (fun i => mkSt 32 35 [(1, sv t), (2, vv (.func (.func 136) #[] #[])), (15, sv s), (16, iv s.len), (17, iv i)] [] m h) (fun i => i ≤ ps.length ∧ ∀ j : Nat, j < i → ps[j]? = qs[j]?) (fun i => ps.length - i)] [] [] false
def f50_ctx (N : Nat) (v w : PV) (ps qs : List Pred) (m : MH) (h : PH) : Ctx :=
 ctx [(50, EqPS N)] [loop1 4 (fun i => mkSt 60 62 [(2, .at (.ptr 2 0)), (3, .at (.ptr 3 0)), (43, iv v.args.len), (44, iv i)] [(2, .cells 38 (v.enc.map .val)), (3, .cells 38 (w.enc.map .val))] m h) (fun i => i ≤ ps.length ∧ ∀ j : Nat, j < i → ps[j]? = qs[j]?) (fun i => ps.length - i)] [] [] false
def f136_nice (N : Nat) (v w : PV) (m : MH) (h : PH) (K : CV → MH → PH → Prop) : Prop :=
 branch (v.op == w.op) (branch (v.cmp == w.cmp) (∃ (r : Bool), StructEq Tryz.prog 35 (Value.agg (Array.mk (OV.enc v.left))) (Value.agg (Array.mk (OV.enc w.left))) r /\ branch r (∃
 (r : Bool), StructEq Tryz.prog 35 (Value.agg (Array.mk (OV.enc v.right))) (Value.agg (Array.mk (OV.enc w.right))) r /\ branch r (∃ (s t : Sl), ∃ (ps qs : List Pred), [cQs v.args,
 cQs w.args, CV.val (Value.func (Fn.func 136) (Array.mk []) (Array.mk []))] = [cQs s, cQs t, CV.val (Value.func (Fn.func 136) (Array.mk []) (Array.mk []))] /\ RepPl h s ps /\ RepPl
 h t qs /\ (∀ (p : Pred), List.Mem p ps -> SizeOf.sizeOf p < N) /\ ∀ (r : Bool), (r = true ↔ ps = qs) -> K (cQb r) m h) (K (cQb false) m h)) (K (cQb false) m h)) (K (cQb false) m
 h)) (K (cQb false) m h)
theorem f136_vc (N : Nat) (v w : PV) (m : MH) (h : PH) (K : CV → MH → PH → Prop) : f136_nice N v w m h K = (fnVC (f136_ctx N) Tryz.f136 (bodyOf Tryz.f136) (entry Tryz.f136.ntmps [aP v, aP w] m h) K) := by kernel_rfl
def f144_nice (N : Nat) (s t : Sl) (ps qs : List Pred) (m : MH) (h : PH) (K : CV → MH → PH → Prop) : Prop :=
 branch ((↑s.len : Int) != ↑t.len) (K (cQb false) m h) ((∃ (x : Nat), (x <= ps.length /\ ∀ (j : Nat), j < x -> ps[j]? = qs[j]?) /\ eQ (sQs t) /\ eQ (SV.at (At.val (Value.func
 (Fn.func 136) (Array.mk []) (Array.mk [])))) /\ eQ (sQs s) /\ eQ (sQi ↑s.len) /\ sQi 0 = sQi ↑x /\ m = m /\ h = h /\ True) /\ ∀ (x : Nat), (x <= ps.length /\ ∀ (j : Nat), j < x ->
 ps[j]? = qs[j]?) -> branch (decide ((↑x : Int) < ↑s.len)) (∃ (b off : Nat), s.a = some (Addr.mk b off none) /\ 0 <= (↑x : Int) /\ (↑x : Int) < ↑s.len /\ ∃ (y : PV), RdAt m h b (off
 + (↑x : Int).toNat * 13) (PV.enc y) /\ ∃ (b off : Nat), t.a = some (Addr.mk b off none) /\ 0 <= (↑x : Int) /\ (↑x : Int) < ↑t.len /\ ∃ (y_1 : PV), RdAt m h b (off + (↑x :
 Int).toNat * 13) (PV.enc y_1) /\ ∃ (v w : PV), ∃ (p q : Pred), [cQa (PV.enc y), cQa (PV.enc y_1)] = [cQa (PV.enc v), cQa (PV.enc w)] /\ RepP h p v /\ RepP h q w /\ SizeOf.sizeOf p
 < N /\ ∀ (r : Bool), (r = true ↔ p = q) -> branch (!r) (K (cQb false) m h) (∃ (y : Nat), (y <= ps.length /\ ∀ (j : Nat), j < y -> ps[j]? = qs[j]?) /\ ps.length - y < ps.length - x
 /\ eQ (sQs t) /\ eQ (SV.at (At.val (Value.func (Fn.func 136) (Array.mk []) (Array.mk [])))) /\ eQ (sQs s) /\ eQ (sQi ↑s.len) /\ sQi (IntKind.i64.wrap ((↑x : Int) + 1)) = sQi ↑y /\
 m = m /\ h = h /\ True)) (K (cQb true) m h))
theorem f144_vc (N : Nat) (s t : Sl) (ps qs : List Pred) (m : MH) (h : PH) (K : CV → MH → PH → Prop) : f144_nice N s t ps qs m h K = (fnVC (f144_ctx N s t ps qs m h) Tryz.f144 (bodyOf Tryz.f144) (entry Tryz.f144.ntmps [cS s, cS t, .val (.func (.func 136) #[] #[])] m h) K) := by kernel_rfl
def f50_nice (N : Nat) (v w : PV) (ps qs : List Pred) (m : MH) (h : PH) (K : CV → MH → PH → Prop) : Prop :=
 branch (v.op != w.op) (K (cQb false) m h) (branch (v.cmp != w.cmp) (K (cQb false) m h) (∃ (r : Bool), StructEq Tryz.prog 35 (Value.agg (Array.mk (OV.enc v.left))) (Value.agg
 (Array.mk (OV.enc w.left))) r /\ branch (!r) (K (cQb false) m h) (∃ (r : Bool), StructEq Tryz.prog 35 (Value.agg (Array.mk (OV.enc v.right))) (Value.agg (Array.mk (OV.enc
 w.right))) r /\ branch (!r) (K (cQb false) m h) (branch ((↑v.args.len : Int) != ↑w.args.len) (K (cQb false) m h) ((∃ (x : Nat), (x <= ps.length /\ ∀ (j : Nat), j < x -> ps[j]? =
 qs[j]?) /\ eP 2 /\ eP 3 /\ eQ (sQi ↑v.args.len) /\ sQi 0 = sQi ↑x /\ eQ (oQ 38 (List.map At.val (PV.enc v))) /\ eQ (oQ 38 (List.map At.val (PV.enc w))) /\ m = m /\ h = h /\ True)
 /\ ∀ (x : Nat), (x <= ps.length /\ ∀ (j : Nat), j < x -> ps[j]? = qs[j]?) -> branch (decide ((↑x : Int) < ↑v.args.len)) (∃ (b off : Nat), v.args.a = some (Addr.mk b off none) /\ 0
 <= (↑x : Int) /\ (↑x : Int) < ↑v.args.len /\ ∃ (y : PV), RdAt m h b (off + (↑x : Int).toNat * 13) (PV.enc y) /\ ∃ (b off : Nat), w.args.a = some (Addr.mk b off none) /\ 0 <= (↑x :
 Int) /\ (↑x : Int) < ↑w.args.len /\ ∃ (y_1 : PV), RdAt m h b (off + (↑x : Int).toNat * 13) (PV.enc y_1) /\ ∃ (v_1 w_1 : PV), ∃ (p q : Pred), [cQa (PV.enc y), cQa (PV.enc y_1)] =
 [cQa (PV.enc v_1), cQa (PV.enc w_1)] /\ RepP h p v_1 /\ RepP h q w_1 /\ SizeOf.sizeOf p < N /\ ∀ (r : Bool), (r = true ↔ p = q) -> branch (!r) (K (cQb false) m h) (∃ (y : Nat), (y
 <= ps.length /\ ∀ (j : Nat), j < y -> ps[j]? = qs[j]?) /\ ps.length - y < ps.length - x /\ eP 2 /\ eP 3 /\ eQ (sQi ↑v.args.len) /\ sQi (IntKind.i64.wrap ((↑x : Int) + 1)) = sQi ↑y
 /\ eQ (oQ 38 (List.map At.val (PV.enc v))) /\ eQ (oQ 38 (List.map At.val (PV.enc w))) /\ m = m /\ h = h /\ True)) (K (cQb true) m h))))))
theorem f50_vc (N : Nat) (v w : PV) (ps qs : List Pred) (m : MH) (h : PH) (K : CV → MH → PH → Prop) : f50_nice N v w ps qs m h K = (fnVC (f50_ctx N v w ps qs m h) Tryz.f50 (bodyOf Tryz.f50) (entry Tryz.f50.ntmps [aP v, aP w] m h) K) := by kernel_rfl
theorem agree_all {α : Type} {a b : List α} (hl : a.length = b.length) (hi : a.length ≤ i) (h : ∀ j : Nat, j < i → a[j]? = b[j]?) : a = b := by
 apply List.ext_getElem?
 intro j
 by_cases hj : j < i
 · exact h j hj
 · rw [List.getElem?_eq_none (by omega), List.getElem?_eq_none (by omega)]
theorem agree_succ {α : Type} {a b : List α} {x y : α} (hx : a[i]? = some x) (hy : b[i]? = some y) (e : x = y) (h : ∀ j : Nat, j < i → a[j]? = b[j]?) : ∀ j : Nat, j < i + 1 → a[j]? = b[j]? := by
 intro j hj
 by_cases e' : j = i
 · subst e'; rw [hx, hy, e]
 · exact h j (by omega)
theorem ne_at {α : Type} {a b : List α} {x y : α} (hx : a[i]? = some x) (hy : b[i]? = some y) (e : x ≠ y) : a ≠ b := fun h => by
 subst h; rw [hx] at hy; simp at hy; exact e hy
theorem len_ne {α β : Type} {s t : Sl} {a : List α} {b : List β} (hs : s.len = a.length) (ht : t.len = b.length) (e : ((s.len : Int) != (t.len : Int)) = true) : a.length ≠ b.length := fun h => by
 rw [hs, ht, h] at e; simp at e
theorem len_eq {α β : Type} {s t : Sl} {a : List α} {b : List β} (hs : s.len = a.length) (ht : t.len = b.length) (e : ((s.len : Int) != (t.len : Int)) = false) : a.length = b.length := by
 have : (s.len : Int) = t.len := by simpa using e
 omega
theorem f144_ok {s t : Sl} {ps qs : List Pred} (ha : RepPl h s ps) (hb : RepPl h t qs) (hN : ∀ p ∈ ps, SizeOf.sizeOf p < N) (hK : ∀ r : Bool, (r = true ↔ ps = qs) → K (cB r) m h) : f144_nice N s t ps qs m h K := by
 have hsa := ha.slen
 have htb := hb.slen
 have hla := ha.len
 have hf : ps ≠ qs → K (cB false) m h := fun h => hK false ⟨fun e => (by cases e), fun e => (h e).elim⟩
 refine branch_intro (fun h1 => hf (fun e => len_ne hsa htb h1 (by rw [e]))) (fun h1 => ?_)
 have hl := len_eq hsa htb h1
 refine ⟨⟨0, ⟨by omega, fun j hj => by omega⟩, MT⟩, fun i hi => branch_dec (fun hlt => ?_) (fun hge => ?_)⟩
 · obtain ⟨x, hx⟩ := getx hsa hlt
   obtain ⟨y, hy⟩ : ∃ y, qs[i]? = some y := getx (n := s.len) (by omega) hlt
   obtain ⟨b1, o1, u, e1, r1, ru⟩ := ha.at hx
   obtain ⟨b2, o2, w, e2, r2, rw'⟩ := hb.at hy
   refine ⟨b1, o1, e1, by omega, hlt, u, .imm r1, b2, o2, e2, by omega, by omega, w, .imm r2, u, w, x, y, rfl, ru, rw', hN x (List.mem_of_getElem? hx), fun r hr => branch_intro (fun hne => hf (ne_at hx hy (fun e => ?_))) (fun he => ?_)⟩
   · have := hr.2 e; subst this; cases hne
   · have hr' : r = true := by simpa using he
     exact ⟨i + 1, ⟨by omega, agree_succ hx hy (hr.1 hr') hi.2⟩, by omega, MT⟩
 · exact hK true ⟨fun _ => agree_all hl (by omega) hi.2, fun _ => rfl⟩
theorem f136_ok {v w : PV} {q : Pred} (hv : RepP h p v) (hw : RepP h q w) (hN : SizeOf.sizeOf p < N + 1) (hK : ∀ r : Bool, (r = true ↔ p = q) → K (cB r) m h) : f136_nice N v w m h K := by
 have hf : p ≠ q → K (cB false) m h := fun h => hK false ⟨fun e => (by cases e), fun e => (h e).elim⟩
 have hargs := @args_lt p
 obtain ⟨op, cmp, l, r, ps⟩ := p
 obtain ⟨op', cmp', l', r', qs⟩ := q
 obtain ⟨rfl, rfl, rfl, rfl, hps⟩ := hv.parts
 obtain ⟨rfl, rfl, rfl, rfl, hqs⟩ := hw.parts
 refine branch_intro (fun h1 => branch_intro (fun h2 => ⟨_, eqO_law _ _, branch_intro (fun h3 => ⟨_, eqO_law _ _, branch_intro (fun h4 => ⟨v.args, w.args, ps, qs, rfl, hps, hqs, fun p hp => ?_, fun r hr => hK r (hr.trans ?_)⟩) (fun h4 => hf fun e => ?_)⟩) (fun h3 => hf fun e => ?_)⟩) (fun h2 => hf fun e => ?_)) (fun h1 => hf fun e => ?_)
 · have := hargs (q := p) hp
   omega
 · rw [eqO_iff] at h3 h4
   simp only [beq_iff_eq] at h1 h2
   rw [h1, h2, h3, h4]
   exact ⟨fun e => by rw [e], fun e => by injection e⟩
 · injection e with _ _ _ e _; rw [eqO_iff.2 e] at h4; cases h4
 · injection e with _ _ e _ _; rw [eqO_iff.2 e] at h3; cases h3
 · injection e with _ e _ _ _; rw [e] at h2; simp at h2
 · injection e with e _ _ _ _; rw [e] at h1; simp at h1
theorem f136_all : ∀ N, Sound Tryz.prog 136 (EqPS N)
 | 0 => by
  refine fn_sound (fn := Tryz.f136) (c := bodyOf Tryz.f136) Tryz.func136 rfl (by decide) ?_
  rintro cvs m h K ⟨v, w, p, q, rfl, hr, _, hN, _⟩
  omega
 | N + 1 => by
  have h144 : Sound Tryz.prog 144 (EqPFS N) := by
   refine fn_sound (fn := Tryz.f144) (c := bodyOf Tryz.f144) Tryz.func144 rfl (by decide) ?_
   rintro cvs m h K ⟨s, t, ps, qs, rfl, ha, hb, hN, hK⟩
   refine ⟨f144_ctx N s t ps qs m h, rfl, specs_cons (f136_all N) specs_nil, ?_⟩
   rw [← f144_vc N s t ps qs m h K]
   exact f144_ok ha hb hN hK
  refine fn_sound (fn := Tryz.f136) (c := bodyOf Tryz.f136) Tryz.func136 rfl (by decide) ?_
  rintro cvs m h K ⟨v, w, p, q, rfl, hr, hq, hN, hK⟩
  refine ⟨f136_ctx N, rfl, specs_cons h144 specs_nil, ?_⟩
  rw [← f136_vc N v w m h K]
  exact f136_ok hr hq hN hK
theorem f50_ok {v w : PV} {q : Pred} (hv : RepP h p v) (hw : RepP h q w) (hN : SizeOf.sizeOf p < N + 1) (hK : ∀ r : Bool, (r = true ↔ p = q) → K (cB r) m h) : f50_nice N v w p.args q.args m h K := by
 have hf : p ≠ q → K (cB false) m h := fun h => hK false ⟨fun e => (by cases e), fun e => (h e).elim⟩
 have hargs := @args_lt p
 obtain ⟨op, cmp, l, r, ps⟩ := p
 obtain ⟨op', cmp', l', r', qs⟩ := q
 obtain ⟨rfl, rfl, rfl, rfl, ha⟩ := hv.parts
 obtain ⟨rfl, rfl, rfl, rfl, hb⟩ := hw.parts
 simp only [Pred.args] at hargs ⊢
 have hsa := ha.slen
 have htb := hb.slen
 have hla := ha.len
 refine branch_intro (fun h1 => hf fun e => ?_) (fun h1 => branch_intro (fun h2 => hf fun e => ?_) (fun h2 => ⟨_, eqO_law _ _, branch_intro (fun h3 => hf fun e => ?_) (fun h3 => ⟨_, eqO_law _ _, branch_intro (fun h4 => hf fun e => ?_) (fun h4 => branch_intro (fun h5 => hf fun e => ?_) (fun h5 => ?_))⟩)⟩))
 · injection e with e _ _ _ _; rw [e] at h1; simp at h1
 · injection e with _ e _ _ _; rw [e] at h2; simp at h2
 · injection e with _ _ e _ _; rw [eqO_iff.2 e] at h3; cases h3
 · injection e with _ _ _ e _; rw [eqO_iff.2 e] at h4; cases h4
 · injection e with _ _ _ _ e; exact len_ne hsa htb h5 (by rw [e])
 · have hl := len_eq hsa htb h5
   have h3 : v.left = w.left := eqO_iff.1 (by simpa using h3)
   have h4 : v.right = w.right := eqO_iff.1 (by simpa using h4)
   have h1 : v.op = w.op := by simpa using h1
   have h2 : v.cmp = w.cmp := by simpa using h2
   rw [h1, h2, h3, h4] at hK hf
   have hf : ps ≠ qs → K (cB false) m h := fun hne => hf fun e => hne (by injection e)
   refine ⟨⟨0, ⟨by omega, fun j hj => by omega⟩, MT⟩, fun i hi => branch_dec (fun hlt => ?_) (fun hge => ?_)⟩
   · obtain ⟨x, hx⟩ := getx hsa hlt
     obtain ⟨y, hy⟩ : ∃ y, qs[i]? = some y := getx (n := v.args.len) (by omega) hlt
     obtain ⟨b1, o1, u, e1, r1, ru⟩ := ha.at hx
     obtain ⟨b2, o2, z, e2, r2, rz⟩ := hb.at hy
     refine ⟨b1, o1, e1, by omega, hlt, u, .imm r1, b2, o2, e2, by omega, by omega, z, .imm r2, u, z, x, y, rfl, ru, rz, ?_, fun r hr => branch_intro (fun hne => hf (ne_at hx hy (fun e => ?_))) (fun he => ?_)⟩
     · have := hargs (List.mem_of_getElem? hx); omega
     · have := hr.2 e; subst this; cases hne
     · have hr' : r = true := by simpa using he
       exact ⟨i + 1, ⟨by omega, agree_succ hx hy (hr.1 hr') hi.2⟩, by omega, MT⟩
   · exact hK true ⟨fun _ => by rw [agree_all hl (by omega) hi.2], fun _ => rfl⟩
theorem f50_all : ∀ N, Sound Tryz.prog 50 (EqPS N)
 | 0 => by
  refine fn_sound (fn := Tryz.f50) (c := bodyOf Tryz.f50) Tryz.func50 rfl (by decide) ?_
  rintro cvs m h K ⟨v, w, p, q, rfl, hr, _, hN, _⟩
  omega
 | N + 1 => by
  refine fn_sound (fn := Tryz.f50) (c := bodyOf Tryz.f50) Tryz.func50 rfl (by decide) ?_
  rintro cvs m h K ⟨v, w, p, q, rfl, hr, hq, hN, hK⟩
  refine ⟨f50_ctx N v w p.args q.args m h, rfl, specs_cons (f50_all N) specs_nil, ?_⟩
  rw [← f50_vc N v w p.args q.args m h K]
  exact f50_ok hr hq hN hK
def EqPA : Vc.Spec := fun cvs m h K => ∃ v w p q, cvs = [aP v, aP w] ∧ RepP h p v ∧ RepP h q w ∧ ∀ r : Bool, (r = true ↔ p = q) → K (cB r) m h
theorem sound_of_all {f : FuncId} {S : Nat → Vc.Spec} {S' : Vc.Spec} (h : ∀ N, Sound Tryz.prog f (S N)) (hs : ∀ cvs m h K, S' cvs m h K → ∃ N, S N cvs m h K) : Sound Tryz.prog f S' := by
 refine ⟨(h 0).1, fun cvs vs m hh w K hS hp => ?_⟩
 obtain ⟨N, hN⟩ := hs cvs m hh K hS
 exact (h N).2 cvs vs m hh w K hN hp
theorem f136_sound : Sound Tryz.prog 136 EqPA := sound_of_all f136_all fun _ _ _ _ ⟨v, w, p, q, e, h1, h2, h3⟩ => ⟨SizeOf.sizeOf p + 1, v, w, p, q, e, h1, h2, by omega, h3⟩
theorem f50_sound : Sound Tryz.prog 50 EqPA := sound_of_all f50_all fun _ _ _ _ ⟨v, w, p, q, e, h1, h2, h3⟩ => ⟨SizeOf.sizeOf p + 1, v, w, p, q, e, h1, h2, by omega, h3⟩
theorem eqItems_cons {d e c i : Nat} {is : List Nat} {xs ys : Array Value} {w : World} {x y : Value} {r r' : Bool} (hx : semVal Tryz.prog (part e xs (i * c)) = some x) (hy : semVal Tryz.prog (part e ys (i * c)) = some y)
 (he : (Op.equalIn d e x y).run Tryz.prog w = .ok r w) (hr : (Op.eqItems d e c xs ys is).run Tryz.prog w = .ok r' w) : (Op.eqItems d e c xs ys (i :: is)).run Tryz.prog w = .ok (r && r') w := by
 simp only [Op.eqItems, Sem.run_bind, semVal_run _ _ _ hx, semVal_run _ _ _ hy, Result.andThen_ok, he]
 cases r
 · simp
 · simpa using hr
def eqPr (a b : Int × Int) : Bool := a.1 == b.1 && (a.2 == b.2 && true)
def eqSo (a b : Int × Bool) : Bool := a.1 == b.1 && (a.2 == b.2 && true)
theorem eqPr_law (a b : Int × Int) : StructEq Tryz.prog 78 (.agg #[.int .i64 a.1, .int .i64 a.2]) (.agg #[.int .i64 b.1, .int .i64 b.2]) (eqPr a b) := by
 refine ⟨by kernel_rfl, fun w => ?_⟩
 obtain ⟨i, hi⟩ := Option.isSome_iff_exists.1 (show (Tryz.prog.info? 3).isSome = true by kernel_rfl)
 rw [run_equalIn_array w 9999 (e := 3) (n := 2) _ _ (by kernel_rfl) hi, show Tryz.prog.cellsOf 3 = 1 by kernel_rfl, show List.range 2 = [0, 1] from rfl]
 refine eqItems_cons (x := .int .i64 a.1) (y := .int .i64 b.1) (by kernel_rfl) (by kernel_rfl) (run_equalIn_int w 9998 _ .i64 .i64 _ _ (by kernel_rfl)) ?_
 refine eqItems_cons (x := .int .i64 a.2) (y := .int .i64 b.2) (by kernel_rfl) (by kernel_rfl) (run_equalIn_int w 9998 _ .i64 .i64 _ _ (by kernel_rfl)) ?_
 simp [Op.eqItems]
theorem eqSo_law (a b : Int × Bool) : StructEq Tryz.prog 80 (.agg #[.int .i64 a.1, .bool a.2]) (.agg #[.int .i64 b.1, .bool b.2]) (eqSo a b) := by
 refine ⟨by kernel_rfl, fun w => ?_⟩
 rw [run_equalIn_struct w 9999 80 _ _ (by kernel_rfl) (by kernel_rfl), show (Tryz.prog.fieldsOf 80).toList = [fld 80 0, fld 80 1] by kernel_rfl]
 refine eqFields_cons (x := .int .i64 a.1) (y := .int .i64 b.1) (by kernel_rfl) (by kernel_rfl) (by kernel_rfl) (run_equalIn_int w 9998 _ .i64 .i64 _ _ (by kernel_rfl)) ?_
 refine eqFields_cons (x := .bool a.2) (y := .bool b.2) (by kernel_rfl) (by kernel_rfl) (by kernel_rfl) (run_equalIn_bool w 9998 _ _ _ (by kernel_rfl)) ?_
 simp [Op.eqFields]
theorem eqPr_iff {a b : Int × Int} : eqPr a b = true ↔ a = b := by
 obtain ⟨a1, a2⟩ := a; obtain ⟨b1, b2⟩ := b; simp [eqPr]
theorem eqSo_iff {a b : Int × Bool} : eqSo a b = true ↔ a = b := by
 obtain ⟨a1, a2⟩ := a; obtain ⟨b1, b2⟩ := b; simp [eqSo]
theorem Pairs.at {s : Sl} {l : List (Int × Int)} (r : Pairs h s l) {x : Int × Int} (hi : l[i]? = some x) : ∃ b o, s.a = some ⟨b, o, none⟩ ∧ RdCells h b (o + i * 2) (pairEnc x) := r.row.get (by simp [hi])
theorem Sorts.at {s : Sl} {l : List (Int × Bool)} (r : Sorts h s l) {x : Int × Bool} (hi : l[i]? = some x) : ∃ b o, s.a = some ⟨b, o, none⟩ ∧ RdCells h b (o + i * 2) (sortEnc x) := r.row.get (by simp [hi])
def SamePairs : Vc.Spec := fun cvs m h K => ∃ (s t : Sl) (a b : List (Int × Int)), cvs = [cS s, cS t] ∧ Pairs h s a ∧ Pairs h t b ∧ ∀ r : Bool, (r = true ↔ a = b) → K (cB r) m h
def SameSorts : Vc.Spec := fun cvs m h K => ∃ (s t : Sl) (a b : List (Int × Bool)), cvs = [cS s, cS t] ∧ Sorts h s a ∧ Sorts h t b ∧ ∀ r : Bool, (r = true ↔ a = b) → K (cB r) m h
def f137_ctx {α : Type} (s t : Sl) (a b : List α) (m : MH) (h : PH) : Ctx :=
 ctx [] [loop1 4 (fun i => mkSt 26 28 [(0, sv s), (1, sv t), (12, iv s.len), (13, iv i)] [] m h) (fun i => i ≤ a.length ∧ ∀ j : Nat, j < i → a[j]? = b[j]?) (fun i => a.length - i)] [] [] false
def f137_nice (s t : Sl) (a b : List (Int × Int)) (m : MH) (h : PH) (K : CV → MH → PH → Prop) : Prop :=
 branch ((↑s.len : Int) != ↑t.len) (K (cQb false) m h) ((∃ (x : Nat), (x <= a.length /\ ∀ (j : Nat), j < x -> a[j]? = b[j]?) /\ eQ (sQs s) /\ eQ (sQs t) /\ eQ (sQi ↑s.len) /\ sQi 0
 = sQi ↑x /\ m = m /\ h = h /\ True) /\ ∀ (x : Nat), (x <= a.length /\ ∀ (j : Nat), j < x -> a[j]? = b[j]?) -> branch (decide ((↑x : Int) < ↑s.len)) (∃ (b_1 off : Nat), s.a = some
 (Addr.mk b_1 off none) /\ 0 <= (↑x : Int) /\ (↑x : Int) < ↑s.len /\ ∃ (y : Int × Int), RdAt m h b_1 (off + (↑x : Int).toNat * 2) [vQi y.1, vQi y.2] /\ ∃ (b_2 off : Nat), t.a = some
 (Addr.mk b_2 off none) /\ 0 <= (↑x : Int) /\ (↑x : Int) < ↑t.len /\ ∃ (y_1 : Int × Int), RdAt m h b_2 (off + (↑x : Int).toNat * 2) [vQi y_1.1, vQi y_1.2] /\ ∃ (r : Bool), StructEq
 Tryz.prog 78 (Value.agg (Array.mk [vQi y.1, vQi y.2])) (Value.agg (Array.mk [vQi y_1.1, vQi y_1.2])) r /\ branch (!r) (K (cQb false) m h) (∃ (y : Nat), (y <= a.length /\ ∀ (j :
 Nat), j < y -> a[j]? = b[j]?) /\ a.length - y < a.length - x /\ eQ (sQs s) /\ eQ (sQs t) /\ eQ (sQi ↑s.len) /\ sQi (IntKind.i64.wrap ((↑x : Int) + 1)) = sQi ↑y /\ m = m /\ h = h /\
 True)) (K (cQb true) m h))
theorem f137_vc (s t : Sl) (a b : List (Int × Int)) (m : MH) (h : PH) (K : CV → MH → PH → Prop) : f137_nice s t a b m h K = (fnVC (f137_ctx s t a b m h) Tryz.f137 (bodyOf Tryz.f137) (entry Tryz.f137.ntmps [cS s, cS t] m h) K) := by kernel_rfl
def f138_nice (s t : Sl) (a b : List (Int × Bool)) (m : MH) (h : PH) (K : CV → MH → PH → Prop) : Prop :=
 branch ((↑s.len : Int) != ↑t.len) (K (cQb false) m h) ((∃ (x : Nat), (x <= a.length /\ ∀ (j : Nat), j < x -> a[j]? = b[j]?) /\ eQ (sQs s) /\ eQ (sQs t) /\ eQ (sQi ↑s.len) /\ sQi 0
 = sQi ↑x /\ m = m /\ h = h /\ True) /\ ∀ (x : Nat), (x <= a.length /\ ∀ (j : Nat), j < x -> a[j]? = b[j]?) -> branch (decide ((↑x : Int) < ↑s.len)) (∃ (b_1 off : Nat), s.a = some
 (Addr.mk b_1 off none) /\ 0 <= (↑x : Int) /\ (↑x : Int) < ↑s.len /\ ∃ (y : Int × Bool), RdAt m h b_1 (off + (↑x : Int).toNat * 2) [vQi y.1, Value.bool y.2] /\ ∃ (b_2 off : Nat),
 t.a = some (Addr.mk b_2 off none) /\ 0 <= (↑x : Int) /\ (↑x : Int) < ↑t.len /\ ∃ (y_1 : Int × Bool), RdAt m h b_2 (off + (↑x : Int).toNat * 2) [vQi y_1.1, Value.bool y_1.2] /\ ∃ (r
 : Bool), StructEq Tryz.prog 80 (Value.agg (Array.mk [vQi y.1, Value.bool y.2])) (Value.agg (Array.mk [vQi y_1.1, Value.bool y_1.2])) r /\ branch (!r) (K (cQb false) m h) (∃ (y :
 Nat), (y <= a.length /\ ∀ (j : Nat), j < y -> a[j]? = b[j]?) /\ a.length - y < a.length - x /\ eQ (sQs s) /\ eQ (sQs t) /\ eQ (sQi ↑s.len) /\ sQi (IntKind.i64.wrap ((↑x : Int) +
 1)) = sQi ↑y /\ m = m /\ h = h /\ True)) (K (cQb true) m h))
theorem f138_vc (s t : Sl) (a b : List (Int × Bool)) (m : MH) (h : PH) (K : CV → MH → PH → Prop) : f138_nice s t a b m h K = (fnVC (f137_ctx s t a b m h) Tryz.f138 (bodyOf Tryz.f138) (entry Tryz.f138.ntmps [cS s, cS t] m h) K) := by kernel_rfl
theorem f137_ok {s t : Sl} {a b : List (Int × Int)} (ha : Pairs h s a) (hb : Pairs h t b) (hK : ∀ r : Bool, (r = true ↔ a = b) → K (cB r) m h) : f137_nice s t a b m h K := by
 have hsa := ha.slen
 have htb := hb.slen
 have hla := ha.len
 have hf : a ≠ b → K (cB false) m h := fun h => hK false ⟨fun e => (by cases e), fun e => (h e).elim⟩
 refine branch_intro (fun h1 => hf (fun e => len_ne hsa htb h1 (by rw [e]))) (fun h1 => ?_)
 have hl := len_eq hsa htb h1
 refine ⟨⟨0, ⟨by omega, fun j hj => by omega⟩, MT⟩, fun i hi => branch_dec (fun hlt => ?_) (fun hge => ?_)⟩
 · obtain ⟨x, hx⟩ := getx hsa hlt
   obtain ⟨y, hy⟩ : ∃ y, b[i]? = some y := getx (n := s.len) (by omega) hlt
   obtain ⟨b1, o1, e1, r1⟩ := ha.at hx
   obtain ⟨b2, o2, e2, r2⟩ := hb.at hy
   refine ⟨b1, o1, e1, by omega, hlt, x, .imm r1, b2, o2, e2, by omega, by omega, y, .imm r2, _, eqPr_law x y, branch_intro (fun hne => hf (ne_at hx hy (fun e => ?_))) (fun he => ?_)⟩
   · rw [eqPr_iff.2 e] at hne; cases hne
   · exact ⟨i + 1, ⟨by omega, agree_succ hx hy (eqPr_iff.1 (by simpa using he)) hi.2⟩, by omega, MT⟩
 · exact hK true ⟨fun _ => agree_all hl (by omega) hi.2, fun _ => rfl⟩
theorem f138_ok {s t : Sl} {a b : List (Int × Bool)} (ha : Sorts h s a) (hb : Sorts h t b) (hK : ∀ r : Bool, (r = true ↔ a = b) → K (cB r) m h) : f138_nice s t a b m h K := by
 have hsa := ha.slen
 have htb := hb.slen
 have hla := ha.len
 have hf : a ≠ b → K (cB false) m h := fun h => hK false ⟨fun e => (by cases e), fun e => (h e).elim⟩
 refine branch_intro (fun h1 => hf (fun e => len_ne hsa htb h1 (by rw [e]))) (fun h1 => ?_)
 have hl := len_eq hsa htb h1
 refine ⟨⟨0, ⟨by omega, fun j hj => by omega⟩, MT⟩, fun i hi => branch_dec (fun hlt => ?_) (fun hge => ?_)⟩
 · obtain ⟨x, hx⟩ := getx hsa hlt
   obtain ⟨y, hy⟩ : ∃ y, b[i]? = some y := getx (n := s.len) (by omega) hlt
   obtain ⟨b1, o1, e1, r1⟩ := ha.at hx
   obtain ⟨b2, o2, e2, r2⟩ := hb.at hy
   refine ⟨b1, o1, e1, by omega, hlt, x, .imm r1, b2, o2, e2, by omega, by omega, y, .imm r2, _, eqSo_law x y, branch_intro (fun hne => hf (ne_at hx hy (fun e => ?_))) (fun he => ?_)⟩
   · rw [eqSo_iff.2 e] at hne; cases hne
   · exact ⟨i + 1, ⟨by omega, agree_succ hx hy (eqSo_iff.1 (by simpa using he)) hi.2⟩, by omega, MT⟩
 · exact hK true ⟨fun _ => agree_all hl (by omega) hi.2, fun _ => rfl⟩
theorem f137_sound : Sound Tryz.prog 137 SamePairs := by
 refine fn_sound (fn := Tryz.f137) (c := bodyOf Tryz.f137) Tryz.func137 rfl (by decide) ?_
 rintro cvs m h K ⟨s, t, a, b, rfl, ha, hb, hK⟩
 refine ⟨f137_ctx s t a b m h, rfl, specs_nil, ?_⟩
 rw [← f137_vc s t a b m h K]
 exact f137_ok ha hb hK
theorem f138_sound : Sound Tryz.prog 138 SameSorts := by
 refine fn_sound (fn := Tryz.f138) (c := bodyOf Tryz.f138) Tryz.func138 rfl (by decide) ?_
 rintro cvs m h K ⟨s, t, a, b, rfl, ha, hb, hK⟩
 refine ⟨f137_ctx s t a b m h, rfl, specs_nil, ?_⟩
 rw [← f138_vc s t a b m h K]
 exact f138_ok ha hb hK
def f36_ctx (s t : Sl) (a b : List Int) (m : MH) (h : PH) : Ctx :=
 ctx [] [loop1 4 (fun i => mkSt 26 28 [(0, sv s), (1, sv t), (12, iv s.len), (13, iv i)] [] m h) (fun i => i ≤ a.length ∧ ∀ j : Nat, j < i → a[j]? = b[j]?) (fun i => a.length - i)] [] [] false
def f36_nice (s t : Sl) (a b : List Int) (m : MH) (h : PH) (K : CV → MH → PH → Prop) : Prop :=
 branch ((↑s.len : Int) != ↑t.len) (K (cQb false) m h) ((∃ (x : Nat), (x <= a.length /\ ∀ (j : Nat), j < x -> a[j]? = b[j]?) /\ eQ (sQs s) /\ eQ (sQs t) /\ eQ (sQi ↑s.len) /\ sQi 0
 = sQi ↑x /\ m = m /\ h = h /\ True) /\ ∀ (x : Nat), (x <= a.length /\ ∀ (j : Nat), j < x -> a[j]? = b[j]?) -> branch (decide ((↑x : Int) < ↑s.len)) (∃ (b_1 off : Nat), s.a = some
 (Addr.mk b_1 off none) /\ 0 <= (↑x : Int) /\ (↑x : Int) < ↑s.len /\ ∃ (y : Int), RdAt m h b_1 (off + (↑x : Int).toNat * 1) [vQi y] /\ ∃ (b_2 off : Nat), t.a = some (Addr.mk b_2 off
 none) /\ 0 <= (↑x : Int) /\ (↑x : Int) < ↑t.len /\ ∃ (y_1 : Int), RdAt m h b_2 (off + (↑x : Int).toNat * 1) [vQi y_1] /\ branch (y != y_1) (K (cQb false) m h) (∃ (y : Nat), (y <=
 a.length /\ ∀ (j : Nat), j < y -> a[j]? = b[j]?) /\ a.length - y < a.length - x /\ eQ (sQs s) /\ eQ (sQs t) /\ eQ (sQi ↑s.len) /\ sQi (IntKind.i64.wrap ((↑x : Int) + 1)) = sQi ↑y
 /\ m = m /\ h = h /\ True)) (K (cQb true) m h))
theorem f36_vc (s t : Sl) (a b : List Int) (m : MH) (h : PH) (K : CV → MH → PH → Prop) : f36_nice s t a b m h K = (fnVC (f36_ctx s t a b m h) Tryz.f36 (bodyOf Tryz.f36) (entry 26 [cS s, cS t] m h) K) := by kernel_rfl
theorem f99_vc (s t : Sl) (a b : List Int) (m : MH) (h : PH) (K : CV → MH → PH → Prop) : f36_nice s t a b m h K = (fnVC (f36_ctx s t a b m h) Tryz.f99 (bodyOf Tryz.f99) (entry 26 [cS s, cS t] m h) K) := by kernel_rfl
def SameInts : Vc.Spec := fun cvs m h K => ∃ (s t : Sl) (a b : List Int), cvs = [cS s, cS t] ∧ Ints h s a ∧ Ints h t b ∧ ∀ r : Bool, (r = true ↔ a = b) → K (cB r) m h
theorem f36_ok {s t : Sl} {b : List Int} (ha : Ints h s a) (hb : Ints h t b) (hK : ∀ r : Bool, (r = true ↔ a = b) → K (cB r) m h) : f36_nice s t a b m h K := by
 have hsa := ha.slen
 have htb := hb.slen
 have hla := ha.len
 have hf : a ≠ b → K (cB false) m h := fun h => hK false ⟨fun e => by (cases e), fun e => (h e).elim⟩
 refine branch_intro (fun h1 => hf (fun e => ?_)) (fun h1 => ?_)
 · subst e; rw [hsa, htb] at h1; simp at h1
 · have hl : a.length = b.length := by rw [hsa, htb] at h1; have : (a.length : Int) = b.length := (by simpa using h1); omega
   refine ⟨⟨0, ⟨by omega, fun j hj => by omega⟩, rfl, rfl, rfl, rfl, rfl, rfl, trivial⟩, fun i hi => branch_dec (fun hlt => ?_) (fun hge => ?_)⟩
   · obtain ⟨x, hx⟩ : ∃ x, a[i]? = some x := ⟨a[i]'(by omega), List.getElem?_eq_getElem _⟩
     obtain ⟨y, hy⟩ : ∃ y, b[i]? = some y := ⟨b[i]'(by omega), List.getElem?_eq_getElem _⟩
     obtain ⟨b1, o1, e1, r1⟩ := ha.at hx
     obtain ⟨b2, o2, e2, r2⟩ := hb.at hy
     refine ⟨b1, o1, e1, by omega, hlt, x, .imm (by simpa using r1), b2, o2, e2, by omega, by omega, y, .imm (by simpa using r2), branch_intro (fun hne => hf (fun e => ?_)) (fun he => ?_)⟩
     · subst e; rw [hx] at hy; simp at hy; subst hy; simp at hne
     · have : x = y := by simpa using he
       refine ⟨i + 1, ⟨by omega, fun j hj => ?_⟩, by omega, rfl, rfl, rfl, by rw [wrapS (by omega)], rfl, rfl, trivial⟩
       by_cases e : j = i
       · subst e; rw [hx, hy, this]
       · exact hi.2 j (by omega)
   · refine hK true ⟨fun _ => ?_, fun _ => rfl⟩
     apply List.ext_getElem?
     intro j
     by_cases hj : j < i
     · exact hi.2 j hj
     · rw [List.getElem?_eq_none (by omega), List.getElem?_eq_none (by omega)]
theorem f36_sound : Sound Tryz.prog 36 SameInts := by
 refine fn_sound (fn := Tryz.f36) (c := bodyOf Tryz.f36) Tryz.func36 rfl (by decide) ?_
 rintro cvs m h K ⟨s, t, a, b, rfl, ha, hb, hK⟩
 exact ⟨f36_ctx s t a b m h, rfl, specs_nil, (f36_vc s t a b m h K) ▸ f36_ok ha hb hK⟩
theorem f99_sound : Sound Tryz.prog 99 SameInts := by
 refine fn_sound (fn := Tryz.f99) (c := bodyOf Tryz.f99) Tryz.func99 rfl (by decide) ?_
 rintro cvs m h K ⟨s, t, a, b, rfl, ha, hb, hK⟩
 exact ⟨f36_ctx s t a b m h, rfl, specs_nil, (f99_vc s t a b m h K) ▸ f36_ok ha hb hK⟩
def aQ (v : QV) : CV := .val (.agg ⟨v.enc⟩)
def Query.args : Query → List Query
 | .mk _ _ _ _ _ _ _ _ l => l
theorem qargs_lt {p : Query} {q : Query} (h : q ∈ p.args) : SizeOf.sizeOf q < SizeOf.sizeOf p := by
 cases p with
 | mk op t w c o g s l args =>
  have := List.sizeOf_lt_of_mem h
  simp only [Query.args] at this
  simp only [Query.mk.sizeOf_spec]
  omega
def RepQl (h : PH) (s : Sl) (ps : List Query) : Prop := RepL h 21 QV.enc (RepQ h) s ps
theorem RepQl.mono {s : Sl} {ps : List Query} (r : RepQl h s ps) (le : PH.le h h') : RepQl h' s ps := RepL.mono r le fun _ _ => RepQ.mono le
theorem RepQs.ofL {h : PH} : ∀ {ps : List Query} {vs : List QV}, ps.length = vs.length → (∀ (i : Nat) (x : Query), ps[i]? = some x → ∃ v, vs[i]? = some v ∧ RepQ h x v) → RepQs h ps vs
 | [], [], _, _ => rfl
 | p :: ps, v :: vs, hl, hx => by
  obtain ⟨v', h1, h2⟩ := hx 0 p rfl
  simp at h1
  subst h1
  exact ⟨v, vs, rfl, h2, RepQs.ofL (by simpa using hl) fun i x e => by simpa using hx (i + 1) x (by simpa using e)⟩
 | [], _ :: _, hl, _ => by simp at hl
 | _ :: _, [], hl, _ => by simp at hl
structure QParts (h : PH) (op table : Int) (w : Pred) (c : List Int) (o : List (Int × Int)) (g : List Int) (s : List (Int × Bool)) (l : Int) (args : List Query) (v : QV) : Prop where
 op_ : v.op = op
 table_ : v.table = table
 where_ : RepP h w v.where_
 columns_ : Ints h v.columns c
 on_ : Pairs h v.on o
 group_ : Ints h v.group g
 order_ : Sorts h v.order s
 limit_ : v.limit = l
 args_ : RepQl h v.args args
theorem RepQ.parts {op table : Int} {c : List Int} {o : List (Int × Int)} {g : List Int} {s : List (Int × Bool)} {l : Int} {args : List Query} (x : RepQ h (.mk op table w c o g s l args) v) : QParts h op table w c o g s l args v := by
 obtain ⟨h1, h2, h3, h4, h5, h6, h7, h8, h9, vs, h10, h11⟩ := x
 exact ⟨h1, h2, h3, h4, h5, h6, h7, h8, ⟨⟨vs, h10, h11.length.symm, fun _ _ hx => h11.get hx⟩, h9⟩⟩
theorem QParts.rep {op table : Int} {c : List Int} {o : List (Int × Int)} {g : List Int} {s : List (Int × Bool)} {l : Int} {args : List Query} (x : QParts h op table w c o g s l args v) : RepQ h (.mk op table w c o g s l args) v := by
 obtain ⟨vs, h1, h2, h3⟩ := x.args_.ex
 exact ⟨x.op_, x.table_, x.where_, x.columns_, x.on_, x.group_, x.order_, x.limit_, x.args_.len, vs, h1, .ofL h2 h3⟩
def EqQS (N : Nat) : Vc.Spec := fun cvs m h K => ∃ v w p q, cvs = [aQ v, aQ w] ∧ RepQ h p v ∧ RepQ h q w ∧ SizeOf.sizeOf p < N ∧ ∀ r : Bool, (r = true ↔ p = q) → K (cB r) m h
def EqQA : Vc.Spec := fun cvs m h K => ∃ v w p q, cvs = [aQ v, aQ w] ∧ RepQ h p v ∧ RepQ h q w ∧ ∀ r : Bool, (r = true ↔ p = q) → K (cB r) m h
def EqQFS (N : Nat) : Vc.Spec := fun cvs m h K => ∃ s t ps qs, cvs = [cS s, cS t, .val (.func (.func 134) #[] #[])] ∧ RepQl h s ps ∧ RepQl h t qs ∧ (∀ p ∈ ps, SizeOf.sizeOf p < N) ∧ ∀ r : Bool, (r = true ↔ ps = qs) → K (cB r) m h
def f134_ctx (N : Nat) : Ctx := ctx [(136, EqPA), (99, SameInts), (137, SamePairs), (138, SameSorts), (139, EqQFS N)] [] [] [] false
def f139_ctx (N : Nat) (s t : Sl) (ps qs : List Query) (m : MH) (h : PH) : Ctx :=
 ctx [(134, EqQS N)] [loop1 4 (fun i => mkSt 32 35 [(1, sv t), (2, vv (.func (.func 134) #[] #[])), (15, sv s), (16, iv s.len), (17, iv i)] [] m h) (fun i => i ≤ ps.length ∧ ∀ j : Nat, j < i → ps[j]? = qs[j]?) (fun i => ps.length - i)] [] [] false
def f24_ctx (N : Nat) (v w : QV) (o o' : List (Int × Int)) (s s' : List (Int × Bool)) (ps qs : List Query) (m : MH) (h : PH) : Ctx :=
 ctx [(24, EqQS N), (36, SameInts), (50, EqPA)]
  [loop1 4 (fun i => mkSt 133 135 [(2, .at (.ptr 2 0)), (3, .at (.ptr 3 0)), (80, iv v.on.len), (81, iv i)] [(2, .cells 43 (v.enc.map .val)), (3, .cells 43 (w.enc.map .val))] m h) (fun i => i ≤ o.length ∧ ∀ j : Nat, j < i → o[j]? = o'[j]?) (fun i => o.length - i),
   loop1 10 (fun i => mkSt 133 135 [(2, .at (.ptr 2 0)), (3, .at (.ptr 3 0)), (98, iv v.order.len), (99, iv i)] [(2, .cells 43 (v.enc.map .val)), (3, .cells 43 (w.enc.map .val))] m h) (fun i => i ≤ s.length ∧ ∀ j : Nat, j < i → s[j]? = s'[j]?) (fun i => s.length - i),
   loop1 16 (fun i => mkSt 133 135 [(2, .at (.ptr 2 0)), (3, .at (.ptr 3 0)), (116, iv v.args.len), (117, iv i)] [(2, .cells 43 (v.enc.map .val)), (3, .cells 43 (w.enc.map .val))] m h) (fun i => i ≤ ps.length ∧ ∀ j : Nat, j < i → ps[j]? = qs[j]?) (fun i => ps.length - i)] [] [] false
def f134_nice (N : Nat) (v w : QV) (m : MH) (h : PH) (K : CV → MH → PH → Prop) : Prop :=
 branch (v.op == w.op) (branch (v.table == w.table) (branch (v.limit == w.limit) (∃ (v_1 w_1 : PV), ∃ (p q : Pred), [cQa (PV.enc v.where_), cQa (PV.enc w.where_)] = [cQa (PV.enc
 v_1), cQa (PV.enc w_1)] /\ RepP h p v_1 /\ RepP h q w_1 /\ ∀ (r : Bool), (r = true ↔ p = q) -> branch r (∃ (s t : Sl), ∃ (a b : List Int), [cQs v.columns, cQs w.columns] = [cQs s,
 cQs t] /\ Ints h s a /\ Ints h t b /\ ∀ (r : Bool), (r = true ↔ a = b) -> branch r (∃ (s t : Sl), ∃ (a b : List (Int × Int)), [cQs v.on, cQs w.on] = [cQs s, cQs t] /\ Pairs h s a
 /\ Pairs h t b /\ ∀ (r : Bool), (r = true ↔ a = b) -> branch r (∃ (s t : Sl), ∃ (a b : List Int), [cQs v.group, cQs w.group] = [cQs s, cQs t] /\ Ints h s a /\ Ints h t b /\ ∀ (r :
 Bool), (r = true ↔ a = b) -> branch r (∃ (s t : Sl), ∃ (a b : List (Int × Bool)), [cQs v.order, cQs w.order] = [cQs s, cQs t] /\ Sorts h s a /\ Sorts h t b /\ ∀ (r : Bool), (r =
 true ↔ a = b) -> branch r (∃ (s t : Sl), ∃ (ps qs : List Query), [cQs v.args, cQs w.args, CV.val (Value.func (Fn.func 134) (Array.mk []) (Array.mk []))] = [cQs s, cQs t, CV.val
 (Value.func (Fn.func 134) (Array.mk []) (Array.mk []))] /\ RepQl h s ps /\ RepQl h t qs /\ (∀ (p : Query), List.Mem p ps -> SizeOf.sizeOf p < N) /\ ∀ (r : Bool), (r = true ↔ ps =
 qs) -> K (cQb r) m h) (K (cQb false) m h)) (K (cQb false) m h)) (K (cQb false) m h)) (K (cQb false) m h)) (K (cQb false) m h)) (K (cQb false) m h)) (K (cQb false) m h)) (K (cQb
 false) m h)
theorem f134_vc (N : Nat) (v w : QV) (m : MH) (h : PH) (K : CV → MH → PH → Prop) : f134_nice N v w m h K = (fnVC (f134_ctx N) Tryz.f134 (bodyOf Tryz.f134) (entry Tryz.f134.ntmps [aQ v, aQ w] m h) K) := by kernel_rfl
def f139_nice (N : Nat) (s t : Sl) (ps qs : List Query) (m : MH) (h : PH) (K : CV → MH → PH → Prop) : Prop :=
 branch ((↑s.len : Int) != ↑t.len) (K (cQb false) m h) ((∃ (x : Nat), (x <= ps.length /\ ∀ (j : Nat), j < x -> ps[j]? = qs[j]?) /\ eQ (sQs t) /\ eQ (SV.at (At.val (Value.func
 (Fn.func 134) (Array.mk []) (Array.mk [])))) /\ eQ (sQs s) /\ eQ (sQi ↑s.len) /\ sQi 0 = sQi ↑x /\ m = m /\ h = h /\ True) /\ ∀ (x : Nat), (x <= ps.length /\ ∀ (j : Nat), j < x ->
 ps[j]? = qs[j]?) -> branch (decide ((↑x : Int) < ↑s.len)) (∃ (b off : Nat), s.a = some (Addr.mk b off none) /\ 0 <= (↑x : Int) /\ (↑x : Int) < ↑s.len /\ ∃ (y : QV), RdAt m h b (off
 + (↑x : Int).toNat * 21) (QV.enc y) /\ ∃ (b off : Nat), t.a = some (Addr.mk b off none) /\ 0 <= (↑x : Int) /\ (↑x : Int) < ↑t.len /\ ∃ (y_1 : QV), RdAt m h b (off + (↑x :
 Int).toNat * 21) (QV.enc y_1) /\ ∃ (v w : QV), ∃ (p q : Query), [cQa (QV.enc y), cQa (QV.enc y_1)] = [cQa (QV.enc v), cQa (QV.enc w)] /\ RepQ h p v /\ RepQ h q w /\ SizeOf.sizeOf p
 < N /\ ∀ (r : Bool), (r = true ↔ p = q) -> branch (!r) (K (cQb false) m h) (∃ (y : Nat), (y <= ps.length /\ ∀ (j : Nat), j < y -> ps[j]? = qs[j]?) /\ ps.length - y < ps.length - x
 /\ eQ (sQs t) /\ eQ (SV.at (At.val (Value.func (Fn.func 134) (Array.mk []) (Array.mk [])))) /\ eQ (sQs s) /\ eQ (sQi ↑s.len) /\ sQi (IntKind.i64.wrap ((↑x : Int) + 1)) = sQi ↑y /\
 m = m /\ h = h /\ True)) (K (cQb true) m h))
theorem f139_vc (N : Nat) (s t : Sl) (ps qs : List Query) (m : MH) (h : PH) (K : CV → MH → PH → Prop) : f139_nice N s t ps qs m h K = (fnVC (f139_ctx N s t ps qs m h) Tryz.f139 (bodyOf Tryz.f139) (entry Tryz.f139.ntmps [cS s, cS t, .val (.func (.func 134) #[] #[])] m h) K) := by kernel_rfl
def f24_nice (N : Nat) (v w : QV) (o o' : List (Int × Int)) (s s' : List (Int × Bool)) (ps qs : List Query) (m : MH) (h : PH) (K : CV → MH → PH → Prop) : Prop :=
 branch (v.op != w.op) (K (cQb false) m h) (branch (v.table != w.table) (K (cQb false) m h) (branch (v.limit != w.limit) (K (cQb false) m h) (branch ((↑v.on.len : Int) != ↑w.on.len)
 (K (cQb false) m h) (branch ((↑v.order.len : Int) != ↑w.order.len) (K (cQb false) m h) (branch ((↑v.args.len : Int) != ↑w.args.len) (K (cQb false) m h) (∃ (s_1 t : Sl), ∃ (a b :
 List Int), [cQs v.columns, cQs w.columns] = [cQs s_1, cQs t] /\ Ints h s_1 a /\ Ints h t b /\ ∀ (r : Bool), (r = true ↔ a = b) -> branch (!r) (K (cQb false) m h) (∃ (s_2 t : Sl), ∃
 (a b : List Int), [cQs v.group, cQs w.group] = [cQs s_2, cQs t] /\ Ints h s_2 a /\ Ints h t b /\ ∀ (r : Bool), (r = true ↔ a = b) -> branch (!r) (K (cQb false) m h) (∃ (v_1 w_1 :
 PV), ∃ (p q : Pred), [cQa (PV.enc v.where_), cQa (PV.enc w.where_)] = [cQa (PV.enc v_1), cQa (PV.enc w_1)] /\ RepP h p v_1 /\ RepP h q w_1 /\ ∀ (r : Bool), (r = true ↔ p = q) ->
 branch (!r) (K (cQb false) m h) ((∃ (x : Nat), (x <= o.length /\ ∀ (j : Nat), j < x -> o[j]? = o'[j]?) /\ eP 2 /\ eP 3 /\ eQ (sQi ↑v.on.len) /\ sQi 0 = sQi ↑x /\ eQ (oQ 43
 (List.map At.val (QV.enc v))) /\ eQ (oQ 43 (List.map At.val (QV.enc w))) /\ m = m /\ h = h /\ True) /\ ∀ (x : Nat), (x <= o.length /\ ∀ (j : Nat), j < x -> o[j]? = o'[j]?) ->
 branch (decide ((↑x : Int) < ↑v.on.len)) (∃ (b off : Nat), v.on.a = some (Addr.mk b off none) /\ 0 <= (↑x : Int) /\ (↑x : Int) < ↑v.on.len /\ ∃ (y : Int × Int), RdAt m h b (off +
 (↑x : Int).toNat * 2) [vQi y.1, vQi y.2] /\ ∃ (b off : Nat), w.on.a = some (Addr.mk b off none) /\ 0 <= (↑x : Int) /\ (↑x : Int) < ↑w.on.len /\ ∃ (y_1 : Int × Int), RdAt m h b (off
 + (↑x : Int).toNat * 2) [vQi y_1.1, vQi y_1.2] /\ ∃ (r : Bool), StructEq Tryz.prog 78 (Value.agg (Array.mk [vQi y.1, vQi y.2])) (Value.agg (Array.mk [vQi y_1.1, vQi y_1.2])) r /\
 branch (!r) (K (cQb false) m h) (∃ (y : Nat), (y <= o.length /\ ∀ (j : Nat), j < y -> o[j]? = o'[j]?) /\ o.length - y < o.length - x /\ eP 2 /\ eP 3 /\ eQ (sQi ↑v.on.len) /\ sQi
 (IntKind.i64.wrap ((↑x : Int) + 1)) = sQi ↑y /\ eQ (oQ 43 (List.map At.val (QV.enc v))) /\ eQ (oQ 43 (List.map At.val (QV.enc w))) /\ m = m /\ h = h /\ True)) ((∃ (x : Nat), (x <=
 s.length /\ ∀ (j : Nat), j < x -> s[j]? = s'[j]?) /\ eP 2 /\ eP 3 /\ eQ (sQi ↑v.order.len) /\ sQi 0 = sQi ↑x /\ eQ (oQ 43 (List.map At.val (QV.enc v))) /\ eQ (oQ 43 (List.map
 At.val (QV.enc w))) /\ m = m /\ h = h /\ True) /\ ∀ (x : Nat), (x <= s.length /\ ∀ (j : Nat), j < x -> s[j]? = s'[j]?) -> branch (decide ((↑x : Int) < ↑v.order.len)) (∃ (b off :
 Nat), v.order.a = some (Addr.mk b off none) /\ 0 <= (↑x : Int) /\ (↑x : Int) < ↑v.order.len /\ ∃ (y : Int × Bool), RdAt m h b (off + (↑x : Int).toNat * 2) [vQi y.1, Value.bool y.2]
 /\ ∃ (b off : Nat), w.order.a = some (Addr.mk b off none) /\ 0 <= (↑x : Int) /\ (↑x : Int) < ↑w.order.len /\ ∃ (y_1 : Int × Bool), RdAt m h b (off + (↑x : Int).toNat * 2) [vQi
 y_1.1, Value.bool y_1.2] /\ ∃ (r : Bool), StructEq Tryz.prog 80 (Value.agg (Array.mk [vQi y.1, Value.bool y.2])) (Value.agg (Array.mk [vQi y_1.1, Value.bool y_1.2])) r /\ branch
 (!r) (K (cQb false) m h) (∃ (y : Nat), (y <= s.length /\ ∀ (j : Nat), j < y -> s[j]? = s'[j]?) /\ s.length - y < s.length - x /\ eP 2 /\ eP 3 /\ eQ (sQi ↑v.order.len) /\ sQi
 (IntKind.i64.wrap ((↑x : Int) + 1)) = sQi ↑y /\ eQ (oQ 43 (List.map At.val (QV.enc v))) /\ eQ (oQ 43 (List.map At.val (QV.enc w))) /\ m = m /\ h = h /\ True)) ((∃ (x : Nat), (x <=
 ps.length /\ ∀ (j : Nat), j < x -> ps[j]? = qs[j]?) /\ eP 2 /\ eP 3 /\ eQ (sQi ↑v.args.len) /\ sQi 0 = sQi ↑x /\ eQ (oQ 43 (List.map At.val (QV.enc v))) /\ eQ (oQ 43 (List.map
 At.val (QV.enc w))) /\ m = m /\ h = h /\ True) /\ ∀ (x : Nat), (x <= ps.length /\ ∀ (j : Nat), j < x -> ps[j]? = qs[j]?) -> branch (decide ((↑x : Int) < ↑v.args.len)) (∃ (b off :
 Nat), v.args.a = some (Addr.mk b off none) /\ 0 <= (↑x : Int) /\ (↑x : Int) < ↑v.args.len /\ ∃ (y : QV), RdAt m h b (off + (↑x : Int).toNat * 21) (QV.enc y) /\ ∃ (b off : Nat),
 w.args.a = some (Addr.mk b off none) /\ 0 <= (↑x : Int) /\ (↑x : Int) < ↑w.args.len /\ ∃ (y_1 : QV), RdAt m h b (off + (↑x : Int).toNat * 21) (QV.enc y_1) /\ ∃ (v_2 w_2 : QV), ∃ (p
 q : Query), [cQa (QV.enc y), cQa (QV.enc y_1)] = [cQa (QV.enc v_2), cQa (QV.enc w_2)] /\ RepQ h p v_2 /\ RepQ h q w_2 /\ SizeOf.sizeOf p < N /\ ∀ (r : Bool), (r = true ↔ p = q) ->
 branch (!r) (K (cQb false) m h) (∃ (y : Nat), (y <= ps.length /\ ∀ (j : Nat), j < y -> ps[j]? = qs[j]?) /\ ps.length - y < ps.length - x /\ eP 2 /\ eP 3 /\ eQ (sQi ↑v.args.len) /\
 sQi (IntKind.i64.wrap ((↑x : Int) + 1)) = sQi ↑y /\ eQ (oQ 43 (List.map At.val (QV.enc v))) /\ eQ (oQ 43 (List.map At.val (QV.enc w))) /\ m = m /\ h = h /\ True)) (K (cQb true) m
 h))))))))))))
theorem f24_vc (N : Nat) (v w : QV) (o o' : List (Int × Int)) (s s' : List (Int × Bool)) (ps qs : List Query) (m : MH) (h : PH) (K : CV → MH → PH → Prop) : f24_nice N v w o o' s s' ps qs m h K = (fnVC (f24_ctx N v w o o' s s' ps qs m h) Tryz.f24 (bodyOf Tryz.f24) (entry Tryz.f24.ntmps [aQ v, aQ w] m h) K) := by kernel_rfl
theorem f139_ok {s t : Sl} {ps qs : List Query} (ha : RepQl h s ps) (hb : RepQl h t qs) (hN : ∀ p ∈ ps, SizeOf.sizeOf p < N) (hK : ∀ r : Bool, (r = true ↔ ps = qs) → K (cB r) m h) : f139_nice N s t ps qs m h K := by
 have hsa := ha.slen
 have htb := hb.slen
 have hla := ha.len
 have hf : ps ≠ qs → K (cB false) m h := fun h => hK false ⟨fun e => (by cases e), fun e => (h e).elim⟩
 refine branch_intro (fun h1 => hf (fun e => len_ne hsa htb h1 (by rw [e]))) (fun h1 => ?_)
 have hl := len_eq hsa htb h1
 refine ⟨⟨0, ⟨by omega, fun j hj => by omega⟩, MT⟩, fun i hi => branch_dec (fun hlt => ?_) (fun hge => ?_)⟩
 · obtain ⟨x, hx⟩ := getx hsa hlt
   obtain ⟨y, hy⟩ : ∃ y, qs[i]? = some y := getx (n := s.len) (by omega) hlt
   obtain ⟨b1, o1, u, e1, r1, ru⟩ := ha.at hx
   obtain ⟨b2, o2, w, e2, r2, rw'⟩ := hb.at hy
   refine ⟨b1, o1, e1, by omega, hlt, u, .imm r1, b2, o2, e2, by omega, by omega, w, .imm r2, u, w, x, y, rfl, ru, rw', hN x (List.mem_of_getElem? hx), fun r hr => branch_intro (fun hne => hf (ne_at hx hy (fun e => ?_))) (fun he => ?_)⟩
   · have := hr.2 e; subst this; cases hne
   · have hr' : r = true := by simpa using he
     exact ⟨i + 1, ⟨by omega, agree_succ hx hy (hr.1 hr') hi.2⟩, by omega, MT⟩
 · exact hK true ⟨fun _ => agree_all hl (by omega) hi.2, fun _ => rfl⟩
theorem f134_ok {w : QV} {p : Query} (hv : RepQ h p v) (hw : RepQ h q w) (hN : SizeOf.sizeOf p < N + 1) (hK : ∀ r : Bool, (r = true ↔ p = q) → K (cB r) m h) : f134_nice N v w m h K := by
 have hf : p ≠ q → K (cB false) m h := fun h => hK false ⟨fun e => (by cases e), fun e => (h e).elim⟩
 have hargs := @qargs_lt p
 obtain ⟨op, ta, wh, co, on, gr, od, li, ps⟩ := p
 obtain ⟨op', ta', wh', co', on', gr', od', li', qs⟩ := q
 have a := hv.parts
 have b := hw.parts
 refine branch_intro (fun h1 => branch_intro (fun h2 => branch_intro (fun h3 => ⟨_, _, _, _, rfl, a.where_, b.where_, fun r4 h4 => branch_intro (fun g4 => ⟨_, _, _, _, rfl, a.columns_, b.columns_, fun r5 h5 => branch_intro (fun g5 => ⟨_, _, _, _, rfl, a.on_, b.on_, fun r6 h6 => branch_intro (fun g6 => ⟨_, _, _, _, rfl, a.group_, b.group_, fun r7 h7 => branch_intro (fun g7 => ⟨_, _, _, _, rfl, a.order_, b.order_, fun r8 h8 => branch_intro (fun g8 => ⟨_, _, _, _, rfl, a.args_, b.args_, fun p hp => ?_, fun r hr => hK r (hr.trans ?_)⟩)
  (fun g8 => hf fun e => ?_)⟩) (fun g7 => hf fun e => ?_)⟩) (fun g6 => hf fun e => ?_)⟩) (fun g5 => hf fun e => ?_)⟩) (fun g4 => hf fun e => ?_)⟩) (fun h3 => hf fun e => ?_)) (fun h2 => hf fun e => ?_)) (fun h1 => hf fun e => ?_)
 · have := hargs (q := p) hp
   omega
 · rw [a.op_, b.op_, beq_iff_eq] at h1
   rw [a.table_, b.table_, beq_iff_eq] at h2
   rw [a.limit_, b.limit_, beq_iff_eq] at h3
   rw [h1, h2, h3, h4.1 g4, h5.1 g5, h6.1 g6, h7.1 g7, h8.1 g8]
   exact ⟨fun e => by rw [e], fun e => by injection e⟩
 · injection e with _ _ _ _ _ _ e _ _; rw [h8.2 e] at g8; cases g8
 · injection e with _ _ _ _ _ e _ _ _; rw [h7.2 e] at g7; cases g7
 · injection e with _ _ _ _ e _ _ _ _; rw [h6.2 e] at g6; cases g6
 · injection e with _ _ _ e _ _ _ _ _; rw [h5.2 e] at g5; cases g5
 · injection e with _ _ e _ _ _ _ _ _; rw [h4.2 e] at g4; cases g4
 · injection e with _ _ _ _ _ _ _ e _; rw [a.limit_, b.limit_, e] at h3; simp at h3
 · injection e with _ e _ _ _ _ _ _ _; rw [a.table_, b.table_, e] at h2; simp at h2
 · injection e with e _ _ _ _ _ _ _ _; rw [a.op_, b.op_, e] at h1; simp at h1
theorem f134_all : ∀ N, Sound Tryz.prog 134 (EqQS N)
 | 0 => by
  refine fn_sound (fn := Tryz.f134) (c := bodyOf Tryz.f134) Tryz.func134 rfl (by decide) ?_
  rintro cvs m h K ⟨v, w, p, q, rfl, hr, _, hN, _⟩
  omega
 | N + 1 => by
  have h139 : Sound Tryz.prog 139 (EqQFS N) := by
   refine fn_sound (fn := Tryz.f139) (c := bodyOf Tryz.f139) Tryz.func139 rfl (by decide) ?_
   rintro cvs m h K ⟨s, t, ps, qs, rfl, ha, hb, hN, hK⟩
   refine ⟨f139_ctx N s t ps qs m h, rfl, specs_cons (f134_all N) specs_nil, ?_⟩
   rw [← f139_vc N s t ps qs m h K]
   exact f139_ok ha hb hN hK
  refine fn_sound (fn := Tryz.f134) (c := bodyOf Tryz.f134) Tryz.func134 rfl (by decide) ?_
  rintro cvs m h K ⟨v, w, p, q, rfl, hr, hq, hN, hK⟩
  refine ⟨f134_ctx N, rfl, specs_cons f136_sound (specs_cons f99_sound (specs_cons f137_sound (specs_cons f138_sound (specs_cons h139 specs_nil)))), ?_⟩
  rw [← f134_vc N v w m h K]
  exact f134_ok hr hq hN hK
theorem f24_ok {w : QV} {op op' ta' : Int} {wh wh' : Pred} {co' gr' : List Int} {on on' : List (Int × Int)} {od' : List (Int × Bool)} {li' : Int} {ps qs : List Query} (a : QParts h op ta wh co on gr od li ps v) (b : QParts h op' ta' wh' co' on' gr' od' li' qs w)
 (hN : ∀ q ∈ ps, SizeOf.sizeOf q < N) (hK : ∀ r : Bool, (r = true ↔ Query.mk op ta wh co on gr od li ps = .mk op' ta' wh' co' on' gr' od' li' qs) → K (cB r) m h) : f24_nice N v w on on' od od' ps qs m h K := by
 have hf : Query.mk op ta wh co on gr od li ps ≠ .mk op' ta' wh' co' on' gr' od' li' qs → K (cB false) m h := fun h => hK false ⟨fun e => (by cases e), fun e => (h e).elim⟩
 have oa := a.on_.slen
 have ob := b.on_.slen
 have ol := a.on_.len
 have sa := a.order_.slen
 have sb := b.order_.slen
 have sl := a.order_.len
 have qa := a.args_.slen
 have qb := b.args_.slen
 have ql := a.args_.len
 refine branch_intro (fun h1 => hf fun e => ?_) (fun h1 => branch_intro (fun h2 => hf fun e => ?_) (fun h2 => branch_intro (fun h3 => hf fun e => ?_) (fun h3 => branch_intro (fun h4 => hf fun e => ?_) (fun h4 => branch_intro (fun h5 => hf fun e => ?_) (fun h5 => branch_intro (fun h6 => hf fun e => ?_) (fun h6 => ⟨_, _, _, _, rfl, a.columns_, b.columns_, fun r7 h7 => branch_intro (fun g7 => hf fun e => ?_) (fun g7 => ⟨_, _, _, _, rfl, a.group_, b.group_, fun r8 h8 => branch_intro (fun g8 => hf fun e => ?_) (fun g8 => ⟨_, _, _, _, rfl, a.where_, b.where_, fun r9 h9 => branch_intro (fun g9 => hf fun e => ?_) (fun g9 => ?_)⟩)⟩)⟩))))))
 · injection e with e _ _ _ _ _ _ _ _; rw [a.op_, b.op_, e] at h1; simp at h1
 · injection e with _ e _ _ _ _ _ _ _; rw [a.table_, b.table_, e] at h2; simp at h2
 · injection e with _ _ _ _ _ _ _ e _; rw [a.limit_, b.limit_, e] at h3; simp at h3
 · injection e with _ _ _ _ e _ _ _ _; exact len_ne oa ob h4 (by rw [e])
 · injection e with _ _ _ _ _ _ e _ _; exact len_ne sa sb h5 (by rw [e])
 · injection e with _ _ _ _ _ _ _ _ e; exact len_ne qa qb h6 (by rw [e])
 · injection e with _ _ _ e _ _ _ _ _; rw [h7.2 e] at g7; cases g7
 · injection e with _ _ _ _ _ e _ _ _; rw [h8.2 e] at g8; cases g8
 · injection e with _ _ e _ _ _ _ _ _; rw [h9.2 e] at g9; cases g9
 · have e1 : op = op' := by rw [a.op_, b.op_] at h1; simpa using h1
   have e2 : ta = ta' := by rw [a.table_, b.table_] at h2; simpa using h2
   have e3 : li = li' := by rw [a.limit_, b.limit_] at h3; simpa using h3
   have e7 := h7.1 (by simpa using g7)
   have e8 := h8.1 (by simpa using g8)
   have e9 := h9.1 (by simpa using g9)
   subst e1 e2 e3 e7 e8 e9
   have l4 := len_eq oa ob h4
   have l5 := len_eq sa sb h5
   have l6 := len_eq qa qb h6
   have f1 : on ≠ on' → K (cB false) m h := fun hne => hf fun e => hne (by injection e)
   have f2 : od ≠ od' → K (cB false) m h := fun hne => hf fun e => hne (by injection e)
   have f3 : ps ≠ qs → K (cB false) m h := fun hne => hf fun e => hne (by injection e)
   refine ⟨⟨0, ⟨by omega, fun j hj => by omega⟩, MT⟩, fun i hi => branch_dec (fun hlt => ?_) (fun hge => ?_)⟩
   · obtain ⟨x, hx⟩ := getx oa hlt
     obtain ⟨y, hy⟩ : ∃ y, on'[i]? = some y := getx (n := v.on.len) (by omega) hlt
     obtain ⟨b1, o1, e1, r1⟩ := a.on_.at hx
     obtain ⟨b2, o2, e2, r2⟩ := b.on_.at hy
     refine ⟨b1, o1, e1, by omega, hlt, x, .imm r1, b2, o2, e2, by omega, by omega, y, .imm r2, _, eqPr_law x y, branch_intro (fun hne => f1 (ne_at hx hy (fun e => ?_))) (fun he => ?_)⟩
     · rw [eqPr_iff.2 e] at hne; cases hne
     · exact ⟨i + 1, ⟨by omega, agree_succ hx hy (eqPr_iff.1 (by simpa using he)) hi.2⟩, by omega, MT⟩
   · have e4 := agree_all l4 (by omega) hi.2
     clear hi hge
     refine ⟨⟨0, ⟨by omega, fun j hj => by omega⟩, MT⟩, fun i hi => branch_dec (fun hlt => ?_) (fun hge => ?_)⟩
     · obtain ⟨x, hx⟩ := getx sa hlt
       obtain ⟨y, hy⟩ : ∃ y, od'[i]? = some y := getx (n := v.order.len) (by omega) hlt
       obtain ⟨b1, o1, e1, r1⟩ := a.order_.at hx
       obtain ⟨b2, o2, e2, r2⟩ := b.order_.at hy
       refine ⟨b1, o1, e1, by omega, hlt, x, .imm r1, b2, o2, e2, by omega, by omega, y, .imm r2, _, eqSo_law x y, branch_intro (fun hne => f2 (ne_at hx hy (fun e => ?_))) (fun he => ?_)⟩
       · rw [eqSo_iff.2 e] at hne; cases hne
       · exact ⟨i + 1, ⟨by omega, agree_succ hx hy (eqSo_iff.1 (by simpa using he)) hi.2⟩, by omega, MT⟩
     · have e5 := agree_all l5 (by omega) hi.2
       clear hi hge
       refine ⟨⟨0, ⟨by omega, fun j hj => by omega⟩, MT⟩, fun i hi => branch_dec (fun hlt => ?_) (fun hge => ?_)⟩
       · obtain ⟨x, hx⟩ := getx qa hlt
         obtain ⟨y, hy⟩ : ∃ y, qs[i]? = some y := getx (n := v.args.len) (by omega) hlt
         obtain ⟨b1, o1, u, e1, r1, ru⟩ := a.args_.at hx
         obtain ⟨b2, o2, z, e2, r2, rz⟩ := b.args_.at hy
         refine ⟨b1, o1, e1, by omega, hlt, u, .imm r1, b2, o2, e2, by omega, by omega, z, .imm r2, u, z, x, y, rfl, ru, rz, hN x (List.mem_of_getElem? hx), fun r hr => branch_intro (fun hne => f3 (ne_at hx hy (fun e => ?_))) (fun he => ?_)⟩
         · have := hr.2 e; subst this; cases hne
         · have hr' : r = true := by simpa using he
           exact ⟨i + 1, ⟨by omega, agree_succ hx hy (hr.1 hr') hi.2⟩, by omega, MT⟩
       · exact hK true ⟨fun _ => by rw [e4, e5, agree_all l6 (by omega) hi.2], fun _ => rfl⟩
theorem f24_all : ∀ N, Sound Tryz.prog 24 (EqQS N)
 | 0 => by
  refine fn_sound (fn := Tryz.f24) (c := bodyOf Tryz.f24) Tryz.func24 rfl (by decide) ?_
  rintro cvs m h K ⟨v, w, p, q, rfl, hr, _, hN, _⟩
  omega
 | N + 1 => by
  refine fn_sound (fn := Tryz.f24) (c := bodyOf Tryz.f24) Tryz.func24 rfl (by decide) ?_
  rintro cvs m h K ⟨v, w, p, q, rfl, hr, hq, hN, hK⟩
  have hargs := @qargs_lt p
  obtain ⟨op, ta, wh, co, on, gr, od, li, ps⟩ := p
  obtain ⟨op', ta', wh', co', on', gr', od', li', qs⟩ := q
  refine ⟨f24_ctx N v w on on' od od' ps qs m h, rfl, specs_cons (f24_all N) (specs_cons f36_sound (specs_cons f50_sound specs_nil)), ?_⟩
  rw [← f24_vc N v w on on' od od' ps qs m h K]
  exact f24_ok hr.parts hq.parts (fun q hq => by have := hargs (q := q) hq; omega) hK
theorem f134_sound : Sound Tryz.prog 134 EqQA := sound_of_all f134_all fun _ _ _ _ ⟨v, w, p, q, e, h1, h2, h3⟩ => ⟨SizeOf.sizeOf p + 1, v, w, p, q, e, h1, h2, by omega, h3⟩
theorem f24_sound : Sound Tryz.prog 24 EqQA := sound_of_all f24_all fun _ _ _ _ ⟨v, w, p, q, e, h1, h2, h3⟩ => ⟨SizeOf.sizeOf p + 1, v, w, p, q, e, h1, h2, by omega, h3⟩
structure Ref where
 columns : List Int
 table : Int
structure Tab where
 name : ByteArray
 columns : List ColV
 key : Int
 refs : List Ref
 checks : List Pred
structure Sch where
 version : Int
 tables : List Tab
variable {s : Sch}
structure RepRef (h : PH) (r : Ref) (v : RefV) : Prop where
 columns : Ints h v.columns r.columns
 table : v.table = r.table
def Cols (h : PH) (s : Sl) (l : List ColV) : Prop := RepL h 2 ColV.enc Eq s l
structure RepTab (h : PH) (t : Tab) (v : TabV) : Prop where
 name : v.name = t.name
 columns : Cols h v.columns t.columns
 key : v.key = t.key
 refs : RepL h 2 RefV.enc (RepRef h) v.references t.refs
 checks : RepPl h v.checks t.checks
structure RepS (h : PH) (s : Sch) (v : SchV) : Prop where
 version : v.version = s.version
 tables : RepL h 5 TabV.enc (RepTab h) v.tables s.tables
theorem RepRef.mono {r : Ref} {v : RefV} (x : RepRef h r v) (le : PH.le h h') : RepRef h' r v := ⟨x.columns.mono le, x.table⟩
theorem RepTab.mono {t : Tab} {v : TabV} (x : RepTab h t v) (le : PH.le h h') : RepTab h' t v :=
 ⟨x.name, RepL.mono x.columns le fun _ _ e => e, x.key, x.refs.mono le fun _ _ e => e.mono le, x.checks.mono le⟩
theorem RepS.mono {v : SchV} (x : RepS h s v) (le : PH.le h h') : RepS h' s v := ⟨x.version, x.tables.mono le fun _ _ e => e.mono le⟩
def lower (c : Nat) : Bool := 97 ≤ c && c ≤ 122
def nameC (c : Nat) : Bool := lower c || (48 ≤ c && c ≤ 57) || c == 95
def codes (s : ByteArray) : List Nat := s.data.toList.map UInt8.toNat
def nameOk (s : ByteArray) : Bool := 1 ≤ s.size && s.size ≤ 32 && lower ((codes s).headD 0) && (codes s).all nameC
theorem codes_len (s : ByteArray) : (codes s).length = s.size := by simp [codes]
theorem codes_get {s : ByteArray} {c : Nat} (h : (codes s)[i]? = some c) : (s.get! i).toNat = c ∧ c < 256 := by
 simp only [codes, List.getElem?_map, Option.map_eq_some_iff] at h
 obtain ⟨b, hb, rfl⟩ := h
 refine ⟨?_, b.toNat_lt⟩
 have hi : i < s.data.size := by
  have := (List.getElem?_eq_some_iff.1 hb).1
  simpa using this
 have : s.data[i]? = some b := by simpa using hb
 cases s with
 | mk bs =>
  show (bs[i]!).toNat = b.toNat
  rw [getElem!_def, this]
theorem decode_lo {s : ByteArray} (h : (s.get! i).toNat < 128) : Utf8.decode s i = ((s.get! i).toNat, 1) := by
 simp only [Utf8.decode, Nat.add_zero]
 rw [if_pos h]
theorem decode_hi {s : ByteArray} (h : ¬ (s.get! i).toNat < 128) : 128 ≤ (Utf8.decode s i).1 := by
 simp only [Utf8.decode, Nat.add_zero]
 rw [if_neg h]
 repeat' split
 all_goals simp_all [Utf8.runeError]
 all_goals omega
def cStr (s : ByteArray) : CV := .val (.string s)
def NameS : Vc.Spec := fun cvs m h K => ∃ s, cvs = [cStr s] ∧ K (cB (nameOk s)) m h
def f85_ctx (s : ByteArray) (m : MH) (h : PH) : Ctx :=
 ctx [] [(4, { A := Nat × Nat × MH, st := fun x => mkSt 44 45 [(15, vv (.pointer (some ⟨x.2.1, 0, none⟩)))] [] x.2.2 h, inv := fun x => x.1 ≤ s.size ∧ Unheld m h x.2.1 ∧ MUpd m x.2.2 x.2.1 (.stringIter s x.1) ∧ (x.1 = 0 ∨ lower ((codes s).headD 0) = true) ∧ ((codes s).take x.1).all nameC = true, mu := fun x => s.size - x.1 })] [] [] false
def f106_ctx (s : ByteArray) (m : MH) (h : PH) : Ctx :=
 ctx [] [loop1 4 (fun i => mkSt 50 51 [(0, vv (.string s)), (3, iv i)] [] m h) (fun i => i ≤ s.size ∧ ((codes s).take i).all nameC = true) (fun i => s.size - i)] [] [] false
def f85_nice (s : ByteArray) (m : MH) (h : PH) (K : CV → MH → PH → Prop) : Prop :=
 branch (decide ((↑s.size : Int) < 1)) (K (cQb false) m h) (branch (decide ((↑s.size : Int) > 32)) (K (cQb false) m h) (∀ (b : Nat) (m' : MH), Unheld m h b -> MUpd m m' b
 (Obj.stringIter s 0) -> (∃ (x : Nat × Nat × MH), (x.1 <= s.size /\ Unheld m h x.2.1 /\ MUpd m x.2.2 x.2.1 (Obj.stringIter s x.1) /\ (x.1 = 0 ∨ lower ((codes s).headD 0) = true) /\
 (List.take x.1 (codes s)).all nameC = true) /\ sQo b 0 = sQo x.2.1 0 /\ m' = x.2.2 /\ h = h /\ True) /\ ∀ (x : Nat × Nat × MH), x.1 <= s.size /\ Unheld m h x.2.1 /\ MUpd m x.2.2
 x.2.1 (Obj.stringIter s x.1) /\ (x.1 = 0 ∨ lower ((codes s).headD 0) = true) /\ (List.take x.1 (codes s)).all nameC = true -> ∃ (s_1 : ByteArray) (pos : Nat), MAt x.2.2 x.2.1
 (Obj.stringIter s_1 pos) /\ (s_1.size <= pos -> K (cQb true) x.2.2 h) /\ (pos < s_1.size -> ∀ (m' : MH), MUpd x.2.2 m' x.2.1 (Obj.stringIter s_1 (pos + (Utf8.decode s_1 pos).2)) ->
 branch (decide ((↑(Utf8.decode s_1 pos).1 : Int) ≥ 97)) (branch (!decide ((↑(Utf8.decode s_1 pos).1 : Int) <= 122)) (branch ((↑pos : Int) == 0) (K (cQb false) m' h) (branch
 ((↑(Utf8.decode s_1 pos).1 : Int) != 95) (branch (decide ((↑(Utf8.decode s_1 pos).1 : Int) < 48)) (K (cQb false) m' h) (branch (decide ((↑(Utf8.decode s_1 pos).1 : Int) > 57)) (K
 (cQb false) m' h) (∃ (y : Nat × Nat × MH), (y.1 <= s.size /\ Unheld m h y.2.1 /\ MUpd m y.2.2 y.2.1 (Obj.stringIter s y.1) /\ (y.1 = 0 ∨ lower ((codes s).headD 0) = true) /\
 (List.take y.1 (codes s)).all nameC = true) /\ s.size - y.1 < s.size - x.1 /\ sQo x.2.1 0 = sQo y.2.1 0 /\ m' = y.2.2 /\ h = h /\ True))) (∃ (y : Nat × Nat × MH), (y.1 <= s.size /\
 Unheld m h y.2.1 /\ MUpd m y.2.2 y.2.1 (Obj.stringIter s y.1) /\ (y.1 = 0 ∨ lower ((codes s).headD 0) = true) /\ (List.take y.1 (codes s)).all nameC = true) /\ s.size - y.1 <
 s.size - x.1 /\ sQo x.2.1 0 = sQo y.2.1 0 /\ m' = y.2.2 /\ h = h /\ True))) (∃ (y : Nat × Nat × MH), (y.1 <= s.size /\ Unheld m h y.2.1 /\ MUpd m y.2.2 y.2.1 (Obj.stringIter s y.1)
 /\ (y.1 = 0 ∨ lower ((codes s).headD 0) = true) /\ (List.take y.1 (codes s)).all nameC = true) /\ s.size - y.1 < s.size - x.1 /\ sQo x.2.1 0 = sQo y.2.1 0 /\ m' = y.2.2 /\ h = h /\
 True)) (branch ((↑pos : Int) == 0) (K (cQb false) m' h) (branch ((↑(Utf8.decode s_1 pos).1 : Int) != 95) (branch (decide ((↑(Utf8.decode s_1 pos).1 : Int) < 48)) (K (cQb false) m'
 h) (branch (decide ((↑(Utf8.decode s_1 pos).1 : Int) > 57)) (K (cQb false) m' h) (∃ (y : Nat × Nat × MH), (y.1 <= s.size /\ Unheld m h y.2.1 /\ MUpd m y.2.2 y.2.1 (Obj.stringIter s
 y.1) /\ (y.1 = 0 ∨ lower ((codes s).headD 0) = true) /\ (List.take y.1 (codes s)).all nameC = true) /\ s.size - y.1 < s.size - x.1 /\ sQo x.2.1 0 = sQo y.2.1 0 /\ m' = y.2.2 /\ h =
 h /\ True))) (∃ (y : Nat × Nat × MH), (y.1 <= s.size /\ Unheld m h y.2.1 /\ MUpd m y.2.2 y.2.1 (Obj.stringIter s y.1) /\ (y.1 = 0 ∨ lower ((codes s).headD 0) = true) /\ (List.take
 y.1 (codes s)).all nameC = true) /\ s.size - y.1 < s.size - x.1 /\ sQo x.2.1 0 = sQo y.2.1 0 /\ m' = y.2.2 /\ h = h /\ True))))))
theorem f85_vc (s : ByteArray) (m : MH) (h : PH) (K : CV → MH → PH → Prop) : f85_nice s m h K = (fnVC (f85_ctx s m h) Tryz.f85 (bodyOf Tryz.f85) (entry Tryz.f85.ntmps [cStr s] m h) K) := by kernel_rfl
def f106_nice (s : ByteArray) (m : MH) (h : PH) (K : CV → MH → PH → Prop) : Prop :=
 branch ((↑s.size : Int) == 0) (K (cQb false) m h) (branch (decide ((↑s.size : Int) > 32)) (K (cQb false) m h) ((0 : Int) <= 0 /\ ∃ (b : UInt8), s.data.toList[0]? = some b /\ branch
 (decide ((↑b.toNat : Int) < 97)) (K (cQb false) m h) ((0 : Int) <= 0 /\ ∃ (b : UInt8), s.data.toList[0]? = some b /\ branch (decide ((↑b.toNat : Int) > 122)) (K (cQb false) m h)
 ((∃ (x : Nat), (x <= s.size /\ (List.take x (codes s)).all nameC = true) /\ eQ (SV.at (aQt s)) /\ sQi 0 = sQi ↑x /\ m = m /\ h = h /\ True) /\ ∀ (x : Nat), x <= s.size /\
 (List.take x (codes s)).all nameC = true -> branch (decide ((↑x : Int) < ↑s.size)) (0 <= (↑x : Int) /\ ∃ (b : UInt8), s.data.toList[(↑x : Int).toNat]? = some b /\ branch (decide
 ((↑b.toNat : Int) < 97)) (branch (decide ((↑b.toNat : Int) < 48)) (branch ((↑b.toNat : Int) != 95) (K (cQb false) m h) (∃ (y : Nat), (y <= s.size /\ (List.take y (codes s)).all
 nameC = true) /\ s.size - y < s.size - x /\ eQ (SV.at (aQt s)) /\ sQi (IntKind.i64.wrap ((↑x : Int) + 1)) = sQi ↑y /\ m = m /\ h = h /\ True)) (branch (decide ((↑b.toNat : Int) >
 57)) (branch ((↑b.toNat : Int) != 95) (K (cQb false) m h) (∃ (y : Nat), (y <= s.size /\ (List.take y (codes s)).all nameC = true) /\ s.size - y < s.size - x /\ eQ (SV.at (aQt s))
 /\ sQi (IntKind.i64.wrap ((↑x : Int) + 1)) = sQi ↑y /\ m = m /\ h = h /\ True)) (∃ (y : Nat), (y <= s.size /\ (List.take y (codes s)).all nameC = true) /\ s.size - y < s.size - x
 /\ eQ (SV.at (aQt s)) /\ sQi (IntKind.i64.wrap ((↑x : Int) + 1)) = sQi ↑y /\ m = m /\ h = h /\ True))) (branch (decide ((↑b.toNat : Int) > 122)) (branch (decide ((↑b.toNat : Int) <
 48)) (branch ((↑b.toNat : Int) != 95) (K (cQb false) m h) (∃ (y : Nat), (y <= s.size /\ (List.take y (codes s)).all nameC = true) /\ s.size - y < s.size - x /\ eQ (SV.at (aQt s))
 /\ sQi (IntKind.i64.wrap ((↑x : Int) + 1)) = sQi ↑y /\ m = m /\ h = h /\ True)) (branch (decide ((↑b.toNat : Int) > 57)) (branch ((↑b.toNat : Int) != 95) (K (cQb false) m h) (∃ (y
 : Nat), (y <= s.size /\ (List.take y (codes s)).all nameC = true) /\ s.size - y < s.size - x /\ eQ (SV.at (aQt s)) /\ sQi (IntKind.i64.wrap ((↑x : Int) + 1)) = sQi ↑y /\ m = m /\ h
 = h /\ True)) (∃ (y : Nat), (y <= s.size /\ (List.take y (codes s)).all nameC = true) /\ s.size - y < s.size - x /\ eQ (SV.at (aQt s)) /\ sQi (IntKind.i64.wrap ((↑x : Int) + 1)) =
 sQi ↑y /\ m = m /\ h = h /\ True))) (∃ (y : Nat), (y <= s.size /\ (List.take y (codes s)).all nameC = true) /\ s.size - y < s.size - x /\ eQ (SV.at (aQt s)) /\ sQi
 (IntKind.i64.wrap ((↑x : Int) + 1)) = sQi ↑y /\ m = m /\ h = h /\ True))) (K (cQb true) m h)))))
theorem f106_vc (s : ByteArray) (m : MH) (h : PH) (K : CV → MH → PH → Prop) : f106_nice s m h K = (fnVC (f106_ctx s m h) Tryz.f106 (bodyOf Tryz.f106) (entry Tryz.f106.ntmps [cStr s] m h) K) := by kernel_rfl
def Weak (h : PH) (K : CV → MH → PH → Prop) : CV → MH → PH → Prop := fun r m' h' => ∃ m2 h2, (∀ b o, m2 b = some o → m' b = some o) ∧ PH.le h h2 ∧ PH.le h2 h' ∧ K r m2 h2
theorem Weak.here {r : CV} (hK : K r m h) : Weak h K r m h := ⟨m, h, fun _ _ e => e, .refl _, .refl _, hK⟩
theorem Weak.sub {r : CV} (hm : ∀ b o, m b = some o → m' b = some o) (hK : K r m h) : Weak h K r m' h := ⟨m, h, hm, .refl _, .refl _, hK⟩
theorem MUpd.keeps {o : Obj} (hb : Unheld m h b) (hu : MUpd m m' b o) : ∀ b o, m b = some o → m' b = some o := fun b' o' e => by
 have hne : b' ≠ b := fun e' => by rw [e', hb.m_] at e; cases e
 rw [hu.other b' hne, e]
theorem f85_ok {s : ByteArray} (hK : K (cB (nameOk s)) m h) : f85_nice s m h (Weak h K) := by
 have hl := codes_len s
 refine branch_dec (fun h1 => ?_) (fun h1 => branch_dec (fun h2 => ?_) (fun h2 b m1 hb hm1 => ?_))
 · refine .here (retB hK ?_)
   have : ¬ 1 ≤ s.size := by omega
   simp [nameOk, this]
 · refine .here (retB hK ?_)
   have : ¬ s.size ≤ 32 := by omega
   simp [nameOk, this]
 refine ⟨⟨(0, b, m1), ⟨by simp, hb, hm1, .inl rfl, by simp⟩, MT⟩, ?_⟩
 rintro ⟨pos, b, mx⟩ ⟨hp, hb, hmx, hhead, hall⟩
 simp only at hp hb hmx hhead hall
 refine ⟨s, pos, ⟨hmx.at_⟩, fun hge => ?_, fun hlt m2 hm2 => ?_⟩
 · refine .sub (MUpd.keeps hb hmx) (retB hK ?_)
   rw [List.take_of_length_le (by omega)] at hall
   have h3 : lower ((codes s).headD 0) = true := by
    rcases hhead with e | e
    · omega
    · exact e
   have h1' : 1 ≤ s.size := by omega
   have h2' : s.size ≤ 32 := by omega
   simp only [nameOk, hall, h3, decide_eq_true h1', decide_eq_true h2']; rfl
 · have hm3 := hmx.trans hm2
   obtain ⟨c, hc⟩ : ∃ c, (codes s)[pos]? = some c := ⟨(codes s)[pos]'(by omega), List.getElem?_eq_getElem _⟩
   obtain ⟨hg, hc256⟩ := codes_get hc
   have hhd : pos = 0 → (codes s).headD 0 = c := fun e => by
    subst e
    cases hcs : codes s with
    | nil => rw [hcs] at hc; simp at hc
    | cons x l => rw [hcs] at hc; simp at hc; simpa using hc
   have stop : ¬ ((97 ≤ (Utf8.decode s pos).1 ∧ (Utf8.decode s pos).1 ≤ 122) ∨ (pos ≠ 0 ∧ ((Utf8.decode s pos).1 = 95 ∨ (48 ≤ (Utf8.decode s pos).1 ∧ (Utf8.decode s pos).1 ≤ 57)))) → Weak h K (.val (.bool false)) m2 h := by
    intro hn
    refine .sub (MUpd.keeps hb hm3) (retB hK ?_)
    by_cases hlo : (s.get! pos).toNat < 128
    · rw [decode_lo hlo, hg] at hn
      by_cases hp0 : pos = 0
      · have : lower c = false := by
         simp only [lower, Bool.and_eq_false_iff, decide_eq_false_iff_not]; simp only at hn; omega
        simp only [nameOk, hhd hp0, this, Bool.and_false, Bool.false_and]
      · have : nameC c = false := by
         simp only [nameC, lower, Bool.or_eq_false_iff, Bool.and_eq_false_iff, decide_eq_false_iff_not, beq_eq_false_iff_ne]; simp only at hn; omega
        simp [nameOk, all_bad hc this]
    · have : nameC c = false := by
       simp only [nameC, lower, Bool.or_eq_false_iff, Bool.and_eq_false_iff, decide_eq_false_iff_not, beq_eq_false_iff_ne]; omega
      simp [nameOk, all_bad hc this]
   have go : ((97 ≤ (Utf8.decode s pos).1 ∧ (Utf8.decode s pos).1 ≤ 122) ∨ (pos ≠ 0 ∧ ((Utf8.decode s pos).1 = 95 ∨ (48 ≤ (Utf8.decode s pos).1 ∧ (Utf8.decode s pos).1 ≤ 57)))) → pos + 1 ≤ s.size ∧ MUpd m m2 b (.stringIter s (pos + 1)) ∧ lower ((codes s).headD 0) = true ∧ ((codes s).take (pos + 1)).all nameC = true := by
    intro hy
    have hlo : (s.get! pos).toNat < 128 := by
     refine Decidable.byContradiction fun hlo => ?_
     have := decode_hi hlo
     omega
    rw [decode_lo hlo] at hm3
    rw [decode_lo hlo, hg] at hy
    simp only at hy
    refine ⟨by omega, hm3, ?_, ?_⟩
    · rcases hhead with e | e
      · rw [hhd e]; simp only [lower, Bool.and_eq_true, decide_eq_true_eq]; omega
      · exact e
    · rw [all_take hc, hall]
      simp only [nameC, lower, Bool.true_and, Bool.or_eq_true, Bool.and_eq_true, decide_eq_true_eq, beq_iff_eq]; omega
   have next : ((97 ≤ (Utf8.decode s pos).1 ∧ (Utf8.decode s pos).1 ≤ 122) ∨ (pos ≠ 0 ∧ ((Utf8.decode s pos).1 = 95 ∨ (48 ≤ (Utf8.decode s pos).1 ∧ (Utf8.decode s pos).1 ≤ 57)))) → _ := fun hy => (⟨(pos + 1, b, m2), ⟨(go hy).1, hb, (go hy).2.1, .inr (go hy).2.2.1, (go hy).2.2.2⟩, by show s.size - (pos + 1) < s.size - pos; omega, MT⟩ : ∃ (y : Nat × Nat × MH), (y.fst ≤ s.size ∧ Unheld m h y.snd.fst ∧ MUpd m y.snd.2 y.snd.fst (Obj.stringIter s y.fst) ∧ (y.fst = 0 ∨ lower ((codes s).headD 0) = true) ∧ (List.take y.fst (codes s)).all nameC = true) ∧ s.size - y.fst < s.size - pos ∧ SV.at (At.val (Value.pointer (some (Addr.mk b 0 none)))) = SV.at (At.val (Value.pointer (some (Addr.mk y.snd.fst 0 none)))) ∧ m2 = y.snd.2 ∧ h = h ∧ True)
   clear go hm3 hm2 hall hhead hhd hmx hm1 hK
   repeat' (first | (refine branch_intro (fun _ => ?_) (fun _ => ?_)) | exact stop (by simp only [decide_eq_true_eq, decide_eq_false_iff_not, bne_iff_ne, ne_eq, beq_iff_eq, beq_eq_false_iff_ne, bne_eq_false_iff_eq, Bool.not_eq_true', Bool.not_eq_false'] at *; omega) | exact next (by simp only [decide_eq_true_eq, decide_eq_false_iff_not, bne_iff_ne, ne_eq, beq_iff_eq, beq_eq_false_iff_ne, bne_eq_false_iff_eq, Bool.not_eq_true', Bool.not_eq_false'] at *; omega))
theorem f106_ok {s : ByteArray} (hK : K (cB (nameOk s)) m h) : f106_nice s m h K := by
 have hl := codes_len s
 refine branch_intro (fun h1 => retB hK ?_) (fun h1 => branch_dec (fun h2 => retB hK ?_) (fun h2 => ?_))
 · have : ¬ 1 ≤ s.size := by have : (s.size : Int) = 0 := (by simpa using h1); omega
   simp [nameOk, this]
 · have : ¬ s.size ≤ 32 := by omega
   simp [nameOk, this]
 have h1 : s.size ≠ 0 := by intro e; rw [e] at h1; simp at h1
 obtain ⟨c0, hc0⟩ : ∃ c, s.data.toList[0]? = some c := ⟨s.data.toList[0]'(by simpa using (by omega : 0 < s.size)), List.getElem?_eq_getElem _⟩
 have hhd : (codes s).headD 0 = c0.toNat := by
  unfold codes
  cases hcs : s.data.toList with
  | nil => rw [hcs] at hc0; simp at hc0
  | cons x l => rw [hcs] at hc0; simp at hc0; simp [hc0]
 refine ⟨by omega, c0, hc0, branch_dec (fun h3 => retB hK ?_) (fun h3 => ⟨by omega, c0, hc0, branch_dec (fun h4 => retB hK ?_) (fun h4 => ?_)⟩)⟩
 · have : lower c0.toNat = false := by simp only [lower, Bool.and_eq_false_iff, decide_eq_false_iff_not]; omega
   simp only [nameOk, hhd, this, Bool.and_false, Bool.false_and]
 · have : lower c0.toNat = false := by simp only [lower, Bool.and_eq_false_iff, decide_eq_false_iff_not]; omega
   simp only [nameOk, hhd, this, Bool.and_false, Bool.false_and]
 refine ⟨⟨0, ⟨by omega, by simp⟩, MT⟩, fun i hi => branch_dec (fun hlt => ?_) (fun hge => retB hK ?_)⟩
 · obtain ⟨c, hc⟩ : ∃ c, s.data.toList[i]? = some c := ⟨s.data.toList[i]'(by simpa using (by omega : i < s.size)), List.getElem?_eq_getElem _⟩
   have hcc : (codes s)[i]? = some c.toNat := by simp [codes, hc]
   have stop : nameC c.toNat = false → K (.val (.bool false)) m h := fun e => retB hK (by simp [nameOk, all_bad hcc e])
   have next : nameC c.toNat = true → ∃ (y : Nat), (y ≤ s.size ∧ (List.take y (codes s)).all nameC = true) ∧ s.size - y < s.size - i ∧ SV.at (At.val (Value.string s)) = SV.at (At.val (Value.string s)) ∧ SV.at (At.val (Value.int IntKind.i64 (IntKind.i64.wrap ((i : Int) + 1)))) = SV.at (At.val (Value.int IntKind.i64 (y : Int))) ∧ m = m ∧ h = h ∧ True := fun e => ⟨i + 1, ⟨by omega, by rw [all_take hcc, hi.2, e]; rfl⟩, by omega, MT⟩
   have hn : nameC c.toNat = true ↔ (97 ≤ c.toNat ∧ c.toNat ≤ 122) ∨ (48 ≤ c.toNat ∧ c.toNat ≤ 57) ∨ c.toNat = 95 := by
    simp only [nameC, lower, Bool.or_eq_true, Bool.and_eq_true, decide_eq_true_eq, beq_iff_eq]; omega
   have hn' : nameC c.toNat = false ↔ ¬ ((97 ≤ c.toNat ∧ c.toNat ≤ 122) ∨ (48 ≤ c.toNat ∧ c.toNat ≤ 57) ∨ c.toNat = 95) := by
    rw [← hn]; simp
   refine ⟨by omega, c, by simpa using hc, ?_⟩
   clear hK hi hhd hcc hn'
   rw [hn] at next
   have stop := fun e => stop (by rw [← Bool.not_eq_true, hn]; exact e)
   clear hn
   repeat' (first | (refine branch_intro (fun _ => ?_) (fun _ => ?_)) | exact stop (by simp only [decide_eq_true_eq, decide_eq_false_iff_not, bne_iff_ne, ne_eq, beq_iff_eq, beq_eq_false_iff_ne, bne_eq_false_iff_eq, Bool.not_eq_true', Bool.not_eq_false'] at *; omega) | exact next (by simp only [decide_eq_true_eq, decide_eq_false_iff_not, bne_iff_ne, ne_eq, beq_iff_eq, beq_eq_false_iff_ne, bne_eq_false_iff_eq, Bool.not_eq_true', Bool.not_eq_false'] at *; omega))
 · have := hi.2
   rw [List.take_of_length_le (by omega)] at this
   have h5 : lower c0.toNat = true := by simp only [lower, Bool.and_eq_true, decide_eq_true_eq]; omega
   have h1' : 1 ≤ s.size := by omega
   have h2' : s.size ≤ 32 := by omega
   simp only [nameOk, this, hhd, h5, decide_eq_true h1', decide_eq_true h2']; rfl
theorem f85_sound : Sound Tryz.prog 85 NameS := by
 refine fn_sound' (fn := Tryz.f85) (c := bodyOf Tryz.f85) Tryz.func85 rfl (by decide) ?_
 rintro cvs m h K ⟨s, rfl, hK⟩
 refine ⟨f85_ctx s m h, rfl, specs_nil, ?_⟩
 rw [← f85_vc s m h _]
 exact f85_ok hK
theorem f106_sound : Sound Tryz.prog 106 NameS := by
 refine fn_sound (fn := Tryz.f106) (c := bodyOf Tryz.f106) Tryz.func106 rfl (by decide) ?_
 rintro cvs m h K ⟨s, rfl, hK⟩
 refine ⟨f106_ctx s m h, rfl, specs_nil, ?_⟩
 rw [← f106_vc s m h K]
 exact f106_ok hK
theorem under9 : Tryz.prog.underlying 9 = some .string := by kernel_rfl
theorem strLaw : KeyLaw Tryz.prog 9 (fun v => ∃ s, v = .string s) := by
 refine ⟨⟨_, under9⟩, ?_, ?_, ?_⟩
 · rintro _ w b ⟨s, rfl⟩
   have e : ∀ n : Nat, (Instr.checkKey b (n + 1) 9 (.string s)).run Tryz.prog w = .ok () w := fun n => by
    unfold Instr.checkKey
    simp only [Sem.run_bind, run_underlying under9, Result.andThen]
    simp
   exact e 9999
 · rintro _ _ w ⟨s, rfl⟩ ⟨t, rfl⟩
   refine ⟨_, run_equalIn_string w 9999 9 s t under9, ?_⟩
   rw [beq_iff_eq]
   exact ⟨fun e => by rw [bytes_ext e], fun e => by injection e with e; rw [e]⟩
 · rintro d _ _ r hd ⟨s, rfl⟩ ⟨t, rfl⟩ h
   rw [under9] at hd
   cases hd
   simp only [Instr.sameNow, Option.some.injEq] at h
   subst h
   rw [beq_toListBytes, beq_iff_eq]
   exact ⟨fun e => by rw [bytes_ext e], fun e => by injection e with e; rw [e]⟩
def GoodUpto {α : Type} (T : List α → α → Prop) (l : List α) (i : Nat) : Prop := ∀ j x, j < i → l[j]? = some x → T (l.take j) x
def Good {α : Type} (T : List α → α → Prop) (l : List α) : Prop := ∀ (j : Nat) x, l[j]? = some x → T (l.take j) x
theorem GoodUpto.zero {α : Type} {T : List α → α → Prop} {l : List α} : GoodUpto T l 0 := fun _ _ h => by omega
theorem GoodUpto.succ {α : Type} {T : List α → α → Prop} {l : List α} {x : α} (h : GoodUpto T l i) (hx : l[i]? = some x) (t : T (l.take i) x) : GoodUpto T l (i + 1) := by
 intro j y hj hy
 by_cases e : j = i
 · subst e; rw [hx] at hy; cases hy; exact t
 · exact h j y (by omega) hy
theorem GoodUpto.all {α : Type} {T : List α → α → Prop} {l : List α} (h : GoodUpto T l i) (hi : l.length ≤ i) : Good T l := fun j x hx => h j x (by have := (List.getElem?_eq_some_iff.1 hx).1; omega) hx
theorem Good.not {α : Type} {T : List α → α → Prop} {l : List α} {x : α} (hx : l[i]? = some x) (t : ¬ T (l.take i) x) : ¬ Good T l := fun h => t (h i x hx)
def ColT (pre : List ColV) (c : ColV) : Prop := nameOk c.name = true ∧ colKind c.kind = true ∧ c.name ∉ pre.map ColV.name
def TabT (pre : List Tab) (t : Tab) : Prop := nameOk t.name = true ∧ 1 ≤ t.key ∧ t.key ≤ t.columns.length ∧ t.name ∉ pre.map Tab.name ∧ Good ColT t.columns
def kindsT (s : Sch) (t : Int) : List Int := if t < 0 then [] else match s.tables[t.toNat]? with | none => [] | some t => t.columns.map ColV.kind
def hasT (s : Sch) (t : Int) : Bool := decide (0 ≤ t) && decide (t < s.tables.length)
def aS (v : SchV) : CV := .val (.agg ⟨v.enc⟩)
def small8 (s : Sch) : Prop := ∀ t ∈ s.tables, t.columns.length ≤ 8
def HasS : Vc.Spec := fun cvs m h K => ∃ v s t, cvs = [aS v, cI t] ∧ RepS h s v ∧ K (cB (hasT s t)) m h
def KindsOfS : Vc.Spec := fun cvs m h K => ∃ v s t, cvs = [aS v, cI t] ∧ RepS h s v ∧ small8 s ∧ ∀ sl h', PH.le h h' → Ints h' sl (kindsT s t) → K (cS sl) m h'
def f52_ctx (m : MH) (h : PH) : Ctx :=
 ctx2 [] [(5, { A := Nat × Sl × List Int, st := fun x => mkSt 35 37 [(5, .at (.lst 32)), (22, sv x.2.1), (23, iv x.2.1.len), (24, iv x.1)] [(32, .lst 3 1 (x.2.2.map eI))] m h })] [] [] false
def f62_ctx (m : MH) (h : PH) : Ctx :=
 ctx2 [(86, HasS)] [(5, { A := Nat × Sl × List Int, st := fun x => mkSt 38 40 [(5, .at (.lst 19)), (25, sv x.2.1), (26, iv x.2.1.len), (27, iv x.1)] [(19, .lst 3 1 (x.2.2.map eI))] m h })] [] [] false
def f86_nice (v : SchV) (t : Int) (m : MH) (h : PH) (K : CV → MH → PH → Prop) : Prop :=
 branch (decide (t ≥ 0)) (K (cQb (decide (t < (↑v.tables.len : Int)))) m h) (K (cQb false) m h)
theorem f86_vc (v : SchV) (t : Int) (m : MH) (h : PH) (K : CV → MH → PH → Prop) : f86_nice v t m h K = (fnVC (ctx2 [] [] [] [] false) Tryz.f86 (bodyOf Tryz.f86) (entry Tryz.f86.ntmps [aS v, cI t] m h) K) := by kernel_rfl
def f52_nice (v : SchV) (t : Int) (m : MH) (h : PH) (K : CV → MH → PH → Prop) : Prop :=
 branch (decide (t < 0)) (K (cQn) m h) (branch (decide (t ≥ (↑v.tables.len : Int))) (K (cQn) m h) (∃ (b off : Nat), v.tables.a = some (Addr.mk b off none) /\ 0 <= t /\ t <
 (↑v.tables.len : Int) /\ ∃ (y : Sl), RdAt m h b (off + t.toNat * 5 + 1) [vQs y] /\ ∃ (I : Nat × Sl × List Int -> Prop) (mu : Nat × Sl × List Int -> Nat), (∃ (x : Nat × Sl × List
 Int), I x /\ eL 32 /\ sQs y = sQs x.2.1 /\ sQi ↑y.len = sQi ↑x.2.1.len /\ sQi 0 = sQi ↑x.1 /\ some (Own.lst 3 1 []) = some (Own.lst 3 1 (List.map eI x.2.2)) /\ m = m /\ h = h /\
 True) /\ ∀ (x : Nat × Sl × List Int), I x -> branch (decide ((↑x.1 : Int) < ↑x.2.1.len)) (∃ (b off : Nat), x.2.1.a = some (Addr.mk b off none) /\ 0 <= (↑x.1 : Int) /\ (↑x.1 : Int)
 < ↑x.2.1.len /\ ∃ (y : ColV), RdAt m h b (off + (↑x.1 : Int).toNat * 2) [Value.string y.name, vQi y.kind] /\ ((List.map eI x.2.2).length + 1) * 8 <= 140737488355328 /\ (List.map eI
 x.2.2).length < 140737488355328 /\ ∃ (x_1 : Nat × Sl × List Int), I x_1 /\ mu x_1 < mu x /\ eL 32 /\ sQs x.2.1 = sQs x_1.2.1 /\ sQi ↑x.2.1.len = sQi ↑x_1.2.1.len /\ sQi
 (IntKind.i64.wrap ((↑x.1 : Int) + 1)) = sQi ↑x_1.1 /\ some (Own.lst 3 1 (List.map eI x.2.2 ++ [[vQi y.kind]])) = some (Own.lst 3 1 (List.map eI x_1.2.2)) /\ m = m /\ h = h /\ True)
 (∀ (s : Sl) (h' : PH), h.le h' -> RowIn h' s 1 (List.map eI x.2.2) -> K (cQs s) m h')))
theorem f52_vc (v : SchV) (t : Int) (m : MH) (h : PH) (K : CV → MH → PH → Prop) : f52_nice v t m h K = (fnVC (f52_ctx m h) Tryz.f52 (bodyOf Tryz.f52) (entry Tryz.f52.ntmps [aS v, cI t] m h) K) := by kernel_rfl
def f62_nice (v : SchV) (t : Int) (m : MH) (h : PH) (K : CV → MH → PH → Prop) : Prop :=
 ∃ (v_1 : SchV) (s : Sch) (t_1 : Int), [cQa [vQi v.version, vQs v.tables], cQi t] = [cQa [vQi v_1.version, vQs v_1.tables], cQi t_1] /\ RepS h s v_1 /\ branch (!hasT s t_1) (K (cQn)
 m h) (∃ (b off : Nat), v.tables.a = some (Addr.mk b off none) /\ 0 <= t /\ t < (↑v.tables.len : Int) /\ ∃ (y : Sl), RdAt m h b (off + t.toNat * 5 + 1) [vQs y] /\ (0 : Int) <= 0 /\
 0 <= (↑y.len : Int) /\ (↑y.len : Int) * 8 <= 281474976710656 /\ (↑y.len : Int) <= 281474976710656 /\ ∃ (b off : Nat), v.tables.a = some (Addr.mk b off none) /\ 0 <= t /\ t <
 (↑v.tables.len : Int) /\ ∃ (y : Sl), RdAt m h b (off + t.toNat * 5 + 1) [vQs y] /\ ∃ (I : Nat × Sl × List Int -> Prop) (mu : Nat × Sl × List Int -> Nat), (∃ (x : Nat × Sl × List
 Int), I x /\ eL 19 /\ sQs y = sQs x.2.1 /\ sQi ↑y.len = sQi ↑x.2.1.len /\ sQi 0 = sQi ↑x.1 /\ some (Own.lst 3 1 []) = some (Own.lst 3 1 (List.map eI x.2.2)) /\ m = m /\ h = h /\
 True) /\ ∀ (x : Nat × Sl × List Int), I x -> branch (decide ((↑x.1 : Int) < ↑x.2.1.len)) (∃ (b off : Nat), x.2.1.a = some (Addr.mk b off none) /\ 0 <= (↑x.1 : Int) /\ (↑x.1 : Int)
 < ↑x.2.1.len /\ ∃ (y : ColV), RdAt m h b (off + (↑x.1 : Int).toNat * 2) [Value.string y.name, vQi y.kind] /\ ((List.map eI x.2.2).length + 1) * 8 <= 140737488355328 /\ (List.map eI
 x.2.2).length < 140737488355328 /\ ∃ (x_1 : Nat × Sl × List Int), I x_1 /\ mu x_1 < mu x /\ eL 19 /\ sQs x.2.1 = sQs x_1.2.1 /\ sQi ↑x.2.1.len = sQi ↑x_1.2.1.len /\ sQi
 (IntKind.i64.wrap ((↑x.1 : Int) + 1)) = sQi ↑x_1.1 /\ some (Own.lst 3 1 (List.map eI x.2.2 ++ [[vQi y.kind]])) = some (Own.lst 3 1 (List.map eI x_1.2.2)) /\ m = m /\ h = h /\ True)
 (∀ (s : Sl) (h' : PH), h.le h' -> RowIn h' s 1 (List.map eI x.2.2) -> K (cQs s) m h'))
theorem f62_vc (v : SchV) (t : Int) (m : MH) (h : PH) (K : CV → MH → PH → Prop) : f62_nice v t m h K = (fnVC (f62_ctx m h) Tryz.f62 (bodyOf Tryz.f62) (entry Tryz.f62.ntmps [aS v, cI t] m h) K) := by kernel_rfl
theorem RdCells.part {o : Nat} {l : List Value} (r : RdCells h b o l) (k n : Nat) : RdCells h b (o + k) ((l.drop k).take n) :=
 ⟨fun i v e => by
  have : l[k + i]? = some v := by
   rw [List.getElem?_take] at e
   split at e
   · rwa [List.getElem?_drop] at e
   · cases e
  have := r.rd (k + i) v this
  rwa [← Nat.add_assoc] at this⟩
theorem Cols.at {s : Sl} {l : List ColV} (r : Cols h s l) {x : ColV} (hi : l[i]? = some x) : ∃ b o, s.a = some ⟨b, o, none⟩ ∧ RdCells h b (o + i * 2) (ColV.enc x) := by
 obtain ⟨b, o, v, e, k, rfl⟩ := RepL.at r hi
 exact ⟨b, o, e, k⟩
theorem f86_ok {v : SchV} {t : Int} (hs : RepS h s v) (hK : K (cB (hasT s t)) m h) : f86_nice v t m h K := by
 have hl := hs.tables.slen
 refine branch_dec (fun h1 => retB hK ?_) (fun h1 => retB hK ?_)
 · have h1 : 0 ≤ t := h1
   simp only [hasT, hl, decide_eq_true h1, Bool.true_and]
 · have h1 : ¬ 0 ≤ t := by omega
   simp only [hasT, decide_eq_false h1, Bool.false_and]
theorem kindsT_none {t : Int} (h : ¬ (0 ≤ t ∧ t < s.tables.length)) : kindsT s t = [] := by
 unfold kindsT
 split
 · rfl
 · rw [List.getElem?_eq_none (by omega)]
theorem kindsT_some {t : Int} {x : Tab} (h : 0 ≤ t) (hx : s.tables[t.toNat]? = some x) : kindsT s t = x.columns.map ColV.kind := by
 unfold kindsT
 rw [if_neg (by omega), hx]
theorem RepS.table {v : SchV} (hs : RepS h s v) {t : Int} (h0 : 0 ≤ t) (h1 : t < (v.tables.len : Int)) : ∃ x b o w, s.tables[t.toNat]? = some x ∧ v.tables.a = some ⟨b, o, none⟩ ∧ RdCells h b (o + t.toNat * 5) (TabV.enc w) ∧ RepTab h x w := by
 have hl := hs.tables.slen
 have hx : s.tables[t.toNat]? = some (s.tables[t.toNat]'(by omega)) := List.getElem?_eq_getElem _
 obtain ⟨b, o, w, e, r, k⟩ := hs.tables.at hx
 exact ⟨_, b, o, w, hx, e, r, k⟩
theorem map_take_succ {α β : Type} {f : α → β} {l : List α} {x : α} (hx : l[i]? = some x) : (l.take (i + 1)).map f = (l.take i).map f ++ [f x] := by
 rw [List.take_add_one, hx]; simp
theorem f52_ok {v : SchV} {t : Int} (hs : RepS h s v) (h8 : small8 s) (hK : ∀ sl h', PH.le h h' → Ints h' sl (kindsT s t) → K (cS sl) m h') : f52_nice v t m h K := by
 have hl := hs.tables.slen
 have hnil : kindsT s t = [] → K (.val (.slice none 0 0)) m h := fun e => hK ⟨none, 0, 0⟩ h (.refl _) (by rw [e]; exact ⟨.nil _ _, by simp⟩)
 refine branch_dec (fun h1 => hnil (kindsT_none (by omega))) (fun h1 => branch_dec (fun h2 => hnil (kindsT_none (by omega))) (fun h2 => ?_))
 obtain ⟨x, b, o, w, hx, ea, hr, hrep⟩ := hs.table (t := t) (by omega) (by omega)
 have hx8 := h8 x (List.mem_of_getElem? hx)
 have hcl := RepL.slen hrep.columns
 rw [kindsT_some (by omega) hx] at hK
 refine ⟨b, o, ea, by omega, by omega, w.columns, .imm (RdCells.part hr 1 1), fun ⟨i, sl, l⟩ => sl = w.columns ∧ i ≤ x.columns.length ∧ l = (x.columns.take i).map ColV.kind, fun ⟨i, _, _⟩ => x.columns.length - i, ⟨(0, w.columns, []), ⟨rfl, by simp, by simp⟩, MT⟩, ?_⟩
 rintro ⟨i, _, _⟩ ⟨rfl, hi, rfl⟩
 dsimp only
 refine branch_dec (fun hlt => ?_) (fun hge sl h' hle hrow => ?_)
 · obtain ⟨c, hc⟩ := getx hcl hlt
   obtain ⟨b, o, e, r⟩ := Cols.at hrep.columns hc
   refine ⟨b, o, e, by omega, hlt, c, .imm r, ?_, ?_, (i + 1, w.columns, (x.columns.take (i + 1)).map ColV.kind), ⟨rfl, by omega, rfl⟩, by show x.columns.length - (i + 1) < x.columns.length - i; omega, ?_⟩
   · simp; omega
   · simp; omega
   · rw [map_take_succ hc, List.map_append]
     exact MT
 · rw [List.take_of_length_le (by omega)] at hrow
   exact hK sl h' hle ⟨hrow, by simp; omega⟩
theorem f62_ok {v : SchV} {t : Int} (hs : RepS h s v) (h8 : small8 s) (hK : ∀ sl h', PH.le h h' → Ints h' sl (kindsT s t) → K (cS sl) m h') : f62_nice v t m h K := by
 have hl := hs.tables.slen
 have hnil : kindsT s t = [] → K (.val (.slice none 0 0)) m h := fun e => hK ⟨none, 0, 0⟩ h (.refl _) (by rw [e]; exact ⟨.nil _ _, by simp⟩)
 refine ⟨v, s, t, rfl, hs, branch_intro (fun h1 => hnil (kindsT_none ?_)) (fun h1 => ?_)⟩
 · simp only [hasT, Bool.not_eq_true', Bool.and_eq_false_iff, decide_eq_false_iff_not] at h1; omega
 simp only [hasT, Bool.not_eq_false', Bool.and_eq_true, decide_eq_true_eq] at h1
 obtain ⟨x, b, o, w, hx, ea, hr, hrep⟩ := hs.table (t := t) (by omega) (by omega)
 have hx8 := h8 x (List.mem_of_getElem? hx)
 have hcl := RepL.slen hrep.columns
 rw [kindsT_some (by omega) hx] at hK
 refine ⟨b, o, ea, by omega, by omega, w.columns, .imm (RdCells.part hr 1 1), by omega, by omega, by omega, by omega, b, o, ea, by omega, by omega, w.columns, .imm (RdCells.part hr 1 1), fun ⟨i, sl, l⟩ => sl = w.columns ∧ i ≤ x.columns.length ∧ l = (x.columns.take i).map ColV.kind, fun ⟨i, _, _⟩ => x.columns.length - i, ⟨(0, w.columns, []), ⟨rfl, by simp, by simp⟩, MT⟩, ?_⟩
 rintro ⟨i, _, _⟩ ⟨rfl, hi, rfl⟩
 dsimp only
 refine branch_dec (fun hlt => ?_) (fun hge sl h' hle hrow => ?_)
 · obtain ⟨c, hc⟩ := getx hcl hlt
   obtain ⟨b, o, e, r⟩ := Cols.at hrep.columns hc
   refine ⟨b, o, e, by omega, hlt, c, .imm r, ?_, ?_, (i + 1, w.columns, (x.columns.take (i + 1)).map ColV.kind), ⟨rfl, by omega, rfl⟩, by show x.columns.length - (i + 1) < x.columns.length - i; omega, ?_⟩
   · simp; omega
   · simp; omega
   · rw [map_take_succ hc, List.map_append]
     exact MT
 · rw [List.take_of_length_le (by omega)] at hrow
   exact hK sl h' hle ⟨hrow, by simp; omega⟩
theorem f86_sound : Sound Tryz.prog 86 HasS := by
 refine fn_sound (fn := Tryz.f86) (c := bodyOf Tryz.f86) Tryz.func86 rfl (by decide) ?_
 rintro cvs m h K ⟨v, s, t, rfl, hs, hK⟩
 refine ⟨ctx2 [] [] [] [] false, rfl, specs_nil, ?_⟩
 rw [← f86_vc v t m h K]
 exact f86_ok hs hK
theorem f52_sound : Sound Tryz.prog 52 KindsOfS := by
 refine fn_sound (fn := Tryz.f52) (c := bodyOf Tryz.f52) Tryz.func52 rfl (by decide) ?_
 rintro cvs m h K ⟨v, s, t, rfl, hs, h8, hK⟩
 refine ⟨f52_ctx m h, rfl, specs_nil, ?_⟩
 rw [← f52_vc v t m h K]
 exact f52_ok hs h8 hK
theorem f62_sound : Sound Tryz.prog 62 KindsOfS := by
 refine fn_sound (fn := Tryz.f62) (c := bodyOf Tryz.f62) Tryz.func62 rfl (by decide) ?_
 rintro cvs m h K ⟨v, s, t, rfl, hs, h8, hK⟩
 refine ⟨f62_ctx m h, rfl, specs_cons f86_sound specs_nil, ?_⟩
 rw [← f62_vc v t m h K]
 exact f62_ok hs h8 hK
end
end Go.Ps
