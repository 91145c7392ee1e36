/-
  Part 2 of a proof that a law of the given program returns true: a condition generator that is proved sound, and contracts of functions. No condition of its own. Own work, joined by a program (pack2.py).
-/
import Derived.Test.YtogokeienebdfaaGreatDoorProg
import Derived.IntWalk
import Derived.ChangeKeysEq
import Derived.Test.YtogokeienebdfaaGreatDoorMa
namespace Go.Vc
open Go
def Yd (P : Program) (ops : Array Oper) (w : World) (o : Oper) (v : Value) (a : Act) : Prop :=
 (Region.wanted o (yielded ops a.tmps) = true /\ (execOp a.eval o).run P w = .ok (.value v) w) \/ (Region.wanted o (yielded ops a.tmps) = false /\ v = undef)
def WY (ops : Array Oper) (ok : Oper) (i : Nat) : Prop := waits ok i = true \/ ∃ j oj, ops[j]? = some oj /\ waits ok j = true /\ waits oj i = true
def N9 (ops : Array Oper) (oi : Oper) : Prop := ∀ (k : Nat) (ok : Oper) (d : Nat), ops[k]? = some ok -> ok.dst = some d -> d ∈ oi.looksAt ops -> waits oi k = true
structure SN (ops : Array Oper) (i : Nat) (oi : Oper) : Prop where
 mv : Tf oi.op = true
 look : ∀ (k : Nat) (ok : Oper) (d : Nat), ops[k]? = some ok -> ok.dst = some d -> d ∈ oi.looksAt ops -> WY ops ok i
structure UA (ops : Array Oper) : Prop where
 look : ∀ (i : Nat) (oi : Oper), ops[i]? = some oi -> N9 ops oi \/ SN ops i oi
 dst : ∀ (i k : Nat) (oi ok : Oper) (d : Nat), ops[i]? = some oi -> ops[k]? = some ok -> ok.dst = some d -> i ≠ k -> oi.dst ≠ some d
 topo : ∀ (i : Nat) (oi : Oper) (k : Nat), ops[i]? = some oi -> waits oi k = true -> k < i
 sel : ∀ (j : Nat) (o : Oper) cs b, ops[j]? = some o -> o.op ≠ .select cs b
theorem WY.in_ {ops : Array Oper} {ok : Oper} {i : Nat} {L : Array Bool} (h : WY ops ok i) (hk : ∀ j, waits ok j = true -> L.getD j false = true) (hL : ∀ (j : Nat) (oj : Oper), ops[j]? = some oj -> L.getD j false = true -> ∀ k, waits oj k = true -> L.getD k false = true) : L.getD i false = true := by
 rcases h with h | ⟨j, oj, hj, h1, h2⟩
 . exact hk i h
 . exact hL j oj hj (hk j h1) i h2
theorem UA.self {ops : Array Oper} (hs : UA ops) {k : Nat} {o : Oper} (ho : ops[k]? = some o) : ∀ d, o.dst = some d -> d ∉ o.looksAt ops := λ d hd hm => by
 rcases hs.look k o ho with h | h
 . have := hs.topo k o k ho (h k o d ho hd hm)
   omega
 . rcases h.look k o d ho hd hm with h1 | ⟨j, oj, hj, h1, h2⟩
   . have := hs.topo k o k ho h1
     omega
   . have := hs.topo k o j ho h1
     have := hs.topo j oj k hj h2
     omega
theorem R5 {P : Program} {o : Oper} (h : Tf o.op = true) : xL P o = false := by
 unfold xL
 cases e : o.op <;> simp_all [Tf]
theorem EA {o : Oper} {k : Nat} : waits o k = true ↔ ∃ e ∈ o.after, Region.binds .any e = true /\ e.on = k := by
 unfold waits
 rw [List.any_eq_true]
 constructor
 . rintro ⟨e, he, h⟩
   simp only [Bool.and_eq_true] at h
   exact ⟨e, by simpa using he, h.1, Nat.eq_of_beq_eq_true h.2⟩
 . rintro ⟨e, he, h1, h2⟩
   exact ⟨e, by simpa using he, by simp [h1, h2]⟩
theorem UP {ops : Array Oper} (h : UQ ops = true) (hs : Region.noSelect ops = true) : UA ops := by
 unfold UQ at h
 simp only [List.all_eq_true, List.mem_range] at h
 have lt : ∀ {i : Nat} {oi : Oper}, ops[i]? = some oi -> i < ops.toList.length := λ hi => by have := (Array.getElem?_eq_some_iff.1 hi).1; simpa using this
 refine ⟨?_, ?_, ?_, Region.noSelect_spec hs⟩
 . intro i oi hi
   have h1 := h i (lt hi)
   rw [iC, Array.getElem?_toList, hi] at h1
   simp only [Bool.and_eq_true, Bool.or_eq_true, List.all_eq_true, List.mem_range] at h1
   rcases h1.2 with h2 | ⟨hm, h2⟩
   . refine .inl λ k ok d hk hd hl => ?_
     have h3 := h2 k (lt hk)
     rw [iC, Array.getElem?_toList, hk] at h3
     simp only [hd, Bool.or_eq_true, Bool.not_eq_true', List.contains_eq_mem, decide_eq_false_iff_not] at h3
     rcases h3 with h3 | h3
     . exact (h3 hl).elim
     . exact h3
   . refine .inr ⟨hm, λ k ok d hk hd hl => ?_⟩
     have h3 := h2 k (lt hk)
     rw [iC, Array.getElem?_toList, hk] at h3
     simp only [hd, Bool.or_eq_true, Bool.not_eq_true', List.contains_eq_mem, decide_eq_false_iff_not] at h3
     rcases h3 with h3 | h3
     . exact (h3 hl).elim
     . unfold WG at h3
       simp only [Bool.or_eq_true, List.any_eq_true, Bool.and_eq_true] at h3
       rcases h3 with h3 | ⟨⟨oj, j⟩, hj, h4, h5⟩
       . exact .inl h3
       . refine .inr ⟨j, oj, ?_, h4, h5⟩
         have := List.mem_zipIdx_iff_getElem?.1 hj
         simpa using this
 . intro i k oi ok d hi hk hd hne
   have h1 := h i (lt hi)
   rw [iC, Array.getElem?_toList, hi] at h1
   simp only [Bool.and_eq_true, List.all_eq_true, List.mem_range] at h1
   have h3 := h1.1.2 k (lt hk)
   rw [iC, Array.getElem?_toList, hk] at h3
   simp only [hd, Bool.or_eq_true] at h3
   rcases h3 with h3 | h3
   . exact (hne (Nat.eq_of_beq_eq_true h3)).elim
   . simpa using h3
 . intro i oi k hi hw
   have hil : i < ops.toList.length := by have := (Array.getElem?_eq_some_iff.1 hi).1; simpa using this
   have h1 := h i hil
   rw [iC, Array.getElem?_toList, hi] at h1
   simp only [Bool.and_eq_true, List.all_eq_true] at h1
   obtain ⟨e, he, hb, rfl⟩ := EA.1 hw
   have := h1.1.1 e (by simpa using he)
   simp only [hb, Bool.not_true, Bool.false_or] at this
   rw [<- Nat.blt_eq]; exact this
theorem sG {ops : Array Oper} {listed : Array Bool} {j : Nat} : j ∈ Region.ready .any ops listed ↔ listed.getD j true = false /\ ∃ o, ops[j]? = some o /\ ∀ k, waits o k = true -> listed.getD k false = true := by
 rw [mem_ready]
 constructor
 . rintro ⟨h1, o, ho, h2⟩
   refine ⟨h1, o, ho, λ k hk => ?_⟩
   obtain ⟨e, he, hb, rfl⟩ := EA.1 hk
   exact h2 e he hb
 . rintro ⟨h1, o, ho, h2⟩
   exact ⟨h1, o, ho, λ e he hb => h2 e.on (EA.2 ⟨e, he, hb, rfl⟩)⟩
theorem Gq {l : Array Bool} {i : Nat} (h : l.getD i true = false) : l.getD i false = false /\ i < l.size := by
 by_cases hi : i < l.size
 . simp [Array.getD, hi] at h ⊢; exact h
 . simp [Array.getD, hi] at h
theorem qV {l : Array Bool} {i : Nat} (h : i < l.size) : (l.setIfInBounds i true).getD i false = true := by
 simp [Array.getD, h]
theorem DC {ops : Array Oper} {o : Oper} {ar ac : Act} (hs : ∀ cs b, o.op ≠ .select cs b) (h : ∀ t ∈ o.looksAt ops, ar.tmps[t]? = ac.tmps[t]?) :
 execOp ar.eval o = execOp ac.eval o /\ Region.wanted o (yielded ops ar.tmps) = Region.wanted o (yielded ops ac.tmps) := by
 constructor
 . refine execOp_congr o hs λ x hx => ?_
   cases x with
   | tmp t =>
    have : t ∈ o.looksAt ops := List.mem_append_left _ (List.mem_filterMap.2 ⟨.tmp t, by simpa using hx, rfl⟩)
    simp only [Act.eval, Array.getD_eq_getD_getElem?, h t this]
   | const v => rfl
   | global g => rfl
   | func f => rfl
 . unfold Region.wanted
   split
   . rfl
   . rename_i j want hg
     have : yielded ops ar.tmps j = yielded ops ac.tmps j := by
      unfold yielded
      cases hd : (ops[j]?).bind (·.dst) with
      | none => rfl
      | some d =>
       have hm : d ∈ o.looksAt ops := by
        unfold Oper.looksAt
        refine List.mem_append_right _ ?_
        simp [hg, hd]
       simp only [Option.bind_some, h d hm]
     rw [this]
theorem Gg {a : Act} {d : Option Tmp} {v : Value} {t : Nat} (h : d ≠ some t) : (a.put d v).tmps[t]? = a.tmps[t]? := by
 cases d with
 | none => rfl
 | some e =>
  have : e ≠ t := λ x => h (by rw [x])
  simp [Act.put, Array.getElem?_setIfInBounds_ne this]
theorem Ta (a : Act) (d : Option Tmp) (u v : Value) : (a.put d u).put d v = a.put d v := by
 cases d with
 | none => rfl
 | some e => simp [Act.put]
structure Jw (P : Program) (ops : Array Oper) (L Cl : Array Bool) (ar ac : Act) (w : World) : Prop where
 szL : L.size = ops.size
 szC : Cl.size = ops.size
 sub : ∀ i, L.getD i false = true -> Cl.getD i false = true
 rd : ∀ (i : Nat) (o : Oper), ops[i]? = some o -> Cl.getD i false = true -> L.getD i false = false -> Bw o.op = true
 clC : ∀ (i : Nat) (o : Oper), ops[i]? = some o -> Cl.getD i false = true -> ∀ k, waits o k = true -> Cl.getD k false = true
 clL : ∀ (i : Nat) (o : Oper), ops[i]? = some o -> L.getD i false = true -> ∀ k, waits o k = true -> L.getD k false = true
 tsz : ar.tmps.size = ac.tmps.size
 df : ar.defers = ac.defers
 agree : ∀ t, (∀ (i : Nat) (o : Oper), ops[i]? = some o -> Cl.getD i false = true -> L.getD i false = false -> o.dst ≠ some t) -> ar.tmps[t]? = ac.tmps[t]?
 pend : ∀ (i : Nat) (o : Oper), ops[i]? = some o -> Cl.getD i false = true -> L.getD i false = false -> ∃ v, (N9 ops o -> ∀ w'', (xL P o = false \/ w'' = w) -> Yd P ops w'' o v ac) /\ (SN ops i o -> ∀ w'', Yd P ops w'' o v ar) /\ ac.put o.dst v = ac
section
variable {P : Program} {ops : Array Oper} {L Cl : Array Bool} {ar ac : Act} {w : World}
theorem Yd.congr {o : Oper} {v : Value} {a a' : Act} {w : World} (h : Yd P ops w o v a) (he : execOp a'.eval o = execOp a.eval o) (hw : Region.wanted o (yielded ops a'.tmps) = Region.wanted o (yielded ops a.tmps)) : Yd P ops w o v a' := by
 unfold Yd at *
 rw [he, hw]
 exact h
theorem Jw.looks (h : Jw P ops L Cl ar ac w) {o : Oper} (hst : N9 ops o) (hr : ∀ k, waits o k = true -> L.getD k false = true) : ∀ t ∈ o.looksAt ops, ar.tmps[t]? = ac.tmps[t]? := by
 intro t ht
 refine h.agree t (λ k ok hk _ hL hd => ?_)
 have := hr k (hst k ok t hk hd ht)
 rw [this] at hL
 cases hL
theorem Jw.looks' (h : Jw P ops L Cl ar ac w) {i : Nat} {o : Oper} (hlo : SN ops i o) (hC : Cl.getD i false = false) : ∀ t ∈ o.looksAt ops, ar.tmps[t]? = ac.tmps[t]? := by
 intro t ht
 refine h.agree t (λ k ok hk hCk _ hd => ?_)
 have := (hlo.look k ok t hk hd ht).in_ (h.clC k ok hk hCk) h.clC
 rw [this] at hC
 cases hC
theorem Jw.stepA (hs : UA ops) (h : Jw P ops L Cl ar ac w) {i : Nat} {o : Oper} (ho : ops[i]? = some o) (hC : Cl.getD i false = true) (hr : ∀ k, waits o k = true -> L.getD k false = true) {v : Value} (hv : ac.put o.dst v = ac) :
 Jw P ops (L.setIfInBounds i true) Cl (ar.put o.dst v) ac w := by
 have hsz : i < L.size := by rw [h.szL]; exact (Array.getElem?_eq_some_iff.1 ho).1
 have hsub : ∀ k, (L.setIfInBounds i true).getD k false = false -> L.getD k false = false /\ k ≠ i := by
  intro k hk
  by_cases e : i = k
  . subst e; rw [qV hsz] at hk; cases hk
  . rw [getD_set_ne false e] at hk; exact ⟨hk, λ x => e x.symm⟩
 refine ⟨by simpa using h.szL, h.szC, ?_, λ k ok hk hCk hLk => h.rd k ok hk hCk (hsub k hLk).1, h.clC, ?_, ?_, ?_, ?_, λ k ok hk hCk hLk => ?_⟩
 . intro k hk
   by_cases e : i = k
   . subst e; exact hC
   . rw [getD_set_ne false e] at hk; exact h.sub k hk
 . intro k ok hk hLk j hj
   by_cases e : i = k
   . subst e; rw [ho] at hk; cases hk; exact getD_set_true (hr j hj)
   . rw [getD_set_ne false e] at hLk; exact getD_set_true (h.clL k ok hk hLk j hj)
 . rw [<- h.tsz]; cases o.dst <;> simp [Act.put]
 . rw [<- h.df]; cases o.dst <;> rfl
 . intro t ht
   by_cases e : o.dst = some t
   . rw [e] at hv ⊢
     rw [<- hv]
     simp only [Act.put, Array.getElem?_setIfInBounds_self, h.tsz]
   . rw [Gg e]
     refine h.agree t (λ k ok hk hCk hLk => ?_)
     by_cases ek : i = k
     . subst ek; rw [ho] at hk; cases hk; exact e
     . exact ht k ok hk hCk (by rw [getD_set_ne false ek]; exact hLk)
 . obtain ⟨u, h1, h2, h3⟩ := h.pend k ok hk hCk (hsub k hLk).1
   refine ⟨u, h1, λ hlo w'' => ?_, h3⟩
   have hnl : ∀ d, o.dst = some d -> d ∉ ok.looksAt ops := λ d hd hm => by
    have := (hlo.look i o d ho hd hm).in_ hr h.clL
    rw [(hsub k hLk).1] at this
    cases this
   exact (h2 hlo w'').congr (execOp_put ok (hs.sel k ok · · hk) ar o.dst v hnl) (wanted_put ok ar o.dst v hnl)
theorem Jw.take (hs : UA ops) (h : Jw P ops L Cl ar ac w) {k : Nat} {o : Oper} (ho : ops[k]? = some o) (hC : Cl.getD k false = false) (hr : ∀ j, waits o j = true -> Cl.getD j false = true) (hrd : Bw o.op = true) {v : Value}
 (hv : ∀ w'', (xL P o = false \/ w'' = w) -> Yd P ops w'' o v ac) : Jw P ops L (Cl.setIfInBounds k true) ar (ac.put o.dst v) w := by
 have hsz : k < Cl.size := by rw [h.szC]; exact (Array.getElem?_eq_some_iff.1 ho).1
 have hcase : ∀ j, (Cl.setIfInBounds k true).getD j false = true -> j = k \/ Cl.getD j false = true := by
  intro j hj
  by_cases e : k = j
  . exact .inl e.symm
  . rw [getD_set_ne false e] at hj; exact .inr hj
 have hLk : L.getD k false = false := by
  cases hl : L.getD k false with
  | false => rfl
  | true => rw [h.sub k hl] at hC; cases hC
 have hup : ∀ j, Cl.getD j false = true -> (Cl.setIfInBounds k true).getD j false = true := by
  intro j hj
  exact getD_set_true hj
 have hnl := hs.self ho
 refine ⟨h.szL, by simpa using h.szC, λ i hi => hup i (h.sub i hi), ?_, ?_, h.clL, ?_, ?_, ?_, ?_⟩
 . intro i oi hi hCi hLi
   rcases hcase i hCi with rfl | hCi
   . rw [ho] at hi; cases hi; exact hrd
   . exact h.rd i oi hi hCi hLi
 . intro i oi hi hCi j hj
   rcases hcase i hCi with rfl | hCi
   . rw [ho] at hi; cases hi; exact hup j (hr j hj)
   . exact hup j (h.clC i oi hi hCi j hj)
 . rw [h.tsz]; cases o.dst <;> simp [Act.put]
 . rw [h.df]; cases o.dst <;> rfl
 . intro t ht
   have e : o.dst ≠ some t := ht k o ho (qV hsz) hLk
   rw [Gg e]
   exact h.agree t (λ i oi hi hCi hLi => ht i oi hi (hup i hCi) hLi)
 . intro i oi hi hCi hLi
   by_cases e : i = k
   . subst e
     rw [ho] at hi
     cases hi
     refine ⟨v, λ _ w'' hw => (hv w'' hw).congr (execOp_put o (hs.sel i o · · ho) ac o.dst v hnl) (wanted_put o ac o.dst v hnl), λ hlo w'' => ?_, Ta _ _ _ _⟩
     obtain ⟨he, hwe⟩ := DC (hs.sel i o · · ho) (h.looks' hlo hC)
     exact (hv w'' (.inl (R5 hlo.mv))).congr he hwe
   . have hCi' := (hcase i hCi).resolve_left e
     obtain ⟨u, hu, hlu, hpu⟩ := h.pend i oi hi hCi' hLi
     refine ⟨u, λ hst w'' hw => ?_, hlu, ?_⟩
     . have hnl' : ∀ d, o.dst = some d -> d ∉ oi.looksAt ops := λ d hd hm => by
        have := h.clC i oi hi hCi' k (hst k o d ho hd hm)
        rw [this] at hC
        cases hC
       exact (hu hst w'' hw).congr (execOp_put oi (hs.sel i oi · · hi) ac o.dst v hnl') (wanted_put oi ac o.dst v hnl')
     rw [Act.put_comm ac v u (λ d hd => hs.dst i k oi o d hi ho hd e), hpu]
theorem KK {o : Oper} {a1 a2 : Act} {w : World} {next1 next2 : Act -> World -> Prop} {Q : Exit -> Act -> World -> Prop} (he : execOp a2.eval o = execOp a1.eval o) (h : o.wp P a1 w next1 Q)
 (hv : ∀ v w', next1 (a1.put o.dst v) w' -> next2 (a2.put o.dst v) w') (hd : ∀ d w', ¬ next1 (({ a1 with defers := d :: a1.defers } : Act).put o.dst undef) w') (hQ : ∀ c a w, ¬ Q (.panic c) a w) : o.wp P a2 w next2 Q := by
 unfold Oper.wp at *
 rw [he]
 generalize (execOp a1.eval o).run P w = r at *
 cases r with
 | ok n w' =>
  cases n <;> simp only [Oper.upon] at h ⊢
  case value u => exact hv u w' h
  case skip => exact hv undef w' h
  case defer d => exact (hd d w' h).elim
  case enter f args =>
   refine Calls.mono h λ e w'' he' => ?_
   cases e with
   | returned u => exact hv u w'' he'
   | panicked c => exact (hQ _ _ _ he').elim
   | outgrown => exact he'
  case row row args => exact Rows.mono h λ u w'' he' => hv u w'' he'
 | halt x w' =>
  cases x <;> simp only [Oper.upon] at h ⊢
  case panic u => exact (hQ _ _ _ h).elim
theorem Jw.stepB (hs : UA ops) (h : Jw P ops L Cl ar ac w) {j : Nat} {o : Oper} (ho : ops[j]? = some o) (hC : Cl.getD j false = false) (hr : ∀ k, waits o k = true -> L.getD k false = true) (u : Value) (w' : World)
 (hpend : ∀ (i : Nat) (oi : Oper) (v : Value), ops[i]? = some oi -> Cl.getD i false = true -> L.getD i false = false -> Yd P ops w oi v ac -> Yd P ops w' oi v ac \/ xL P oi = false) :
 Jw P ops (L.setIfInBounds j true) (Cl.setIfInBounds j true) (ar.put o.dst u) (ac.put o.dst u) w' := by
 have hszC : j < Cl.size := by rw [h.szC]; exact (Array.getElem?_eq_some_iff.1 ho).1
 have hszL : j < L.size := by rw [h.szL]; exact (Array.getElem?_eq_some_iff.1 ho).1
 have hcase : ∀ i, (Cl.setIfInBounds j true).getD i false = true -> i = j \/ Cl.getD i false = true := by
  intro i hi
  by_cases e : j = i
  . exact .inl e.symm
  . rw [getD_set_ne false e] at hi; exact .inr hi
 have hLcase : ∀ i, (L.setIfInBounds j true).getD i false = false -> i ≠ j /\ L.getD i false = false := by
  intro i hi
  by_cases e : j = i
  . subst e; rw [qV hszL] at hi; cases hi
  . rw [getD_set_ne false e] at hi; exact ⟨λ x => e x.symm, hi⟩
 have hup : ∀ i, Cl.getD i false = true -> (Cl.setIfInBounds j true).getD i false = true := λ i hi => getD_set_true hi
 refine ⟨by simpa using h.szL, by simpa using h.szC, ?_, ?_, ?_, ?_, ?_, ?_, ?_, ?_⟩
 . intro i hi
   by_cases e : j = i
   . subst e; exact qV hszC
   . rw [getD_set_ne false e] at hi; exact hup i (h.sub i hi)
 . intro i oi hi hCi hLi
   obtain ⟨hne, hLi'⟩ := hLcase i hLi
   exact h.rd i oi hi ((hcase i hCi).resolve_left hne) hLi'
 . intro i oi hi hCi k hk
   rcases hcase i hCi with rfl | hCi
   . rw [ho] at hi; cases hi; exact hup k (h.sub k (hr k hk))
   . exact hup k (h.clC i oi hi hCi k hk)
 . intro i oi hi hLi k hk
   by_cases e : j = i
   . subst e; rw [ho] at hi; cases hi; exact getD_set_true (hr k hk)
   . rw [getD_set_ne false e] at hLi; exact getD_set_true (h.clL i oi hi hLi k hk)
 . cases o.dst <;> simp [Act.put, h.tsz]
 . have := h.df
   cases o.dst <;> exact this
 . intro t ht
   by_cases e : o.dst = some t
   . rw [e]
     simp only [Act.put, Array.getElem?_setIfInBounds_self, h.tsz]
   . rw [Gg e, Gg e]
     refine h.agree t (λ i oi hi hCi hLi => ht i oi hi (hup i hCi) ?_)
     have hne : j ≠ i := λ x => by subst x; rw [hC] at hCi; cases hCi
     rw [getD_set_ne false hne]; exact hLi
 . intro i oi hi hCi hLi
   obtain ⟨hne, hLi'⟩ := hLcase i hLi
   have hCi' := (hcase i hCi).resolve_left hne
   obtain ⟨v, hv, hlv, hpv⟩ := h.pend i oi hi hCi' hLi'
   refine ⟨v, λ hst w'' hw => ?_, λ hlo w'' => ?_, ?_⟩
   . have hnl : ∀ d, o.dst = some d -> d ∉ oi.looksAt ops := λ d hd hm => by
      have := h.clC i oi hi hCi' j (hst j o d ho hd hm)
      rw [this] at hC
      cases hC
     have hy : Yd P ops w'' oi v ac := by
      rcases hw with hw | hw
      . exact hv hst w'' (.inl hw)
      . rw [hw]
        rcases hpend i oi v hi hCi' hLi' (hv hst w (.inr rfl)) with h1 | h1
        . exact h1
        . exact hv hst w' (.inl h1)
     exact hy.congr (execOp_put oi (hs.sel i oi · · hi) ac o.dst u hnl) (wanted_put oi ac o.dst u hnl)
   . have hnl : ∀ d, o.dst = some d -> d ∉ oi.looksAt ops := λ d hd hm => by
      have := (hlo.look j o d ho hd hm).in_ hr h.clL
      rw [this] at hLi'
      cases hLi'
     exact (hlv hlo w'').congr (execOp_put oi (hs.sel i oi · · hi) ar o.dst u hnl) (wanted_put oi ar o.dst u hnl)
   . rw [Act.put_comm ac u v (λ d hd => hs.dst i j oi o d hi ho hd hne), hpv]
end
section
variable {B : qR} {C : Ctx} {ι : Nat -> Value} {σ : St} {a : Act} {w : World}
theorem K1 {P : Program} {fl : Bool} {σ : St} {oj oi : Oper} {K : Prop} (h : FG P fl σ oj oi K) : FG P fl σ oj oi True /\ K := by
 unfold FG at h ⊢
 repeat' split at h
 all_goals first | exact h.elim | skip
 all_goals simp_all
theorem GF {P : Program} {fl : Bool} {ops : Array Oper} {listed : Array Bool} {σ : St} {oj : Oper} : ∀ (l : List Oper) (s : Nat) {K : Prop}, EC P fl ops listed σ oj s l K ->
 K /\ ∀ (i : Nat) (oi : Oper), l[i]? = some oi -> listed.getD (s + i) false = true -> Bw oi.op = true -> waits oj (s + i) = false -> wG ops σ oi = false -> FG P fl σ oj oi True
 | [], s, K, h => ⟨h, λ i oi hi => by simp at hi⟩
 | o :: l, s, K, h => by
  have key : (EC P fl ops listed σ oj (s + 1) l K) /\ (listed.getD s false = true -> Bw o.op = true -> waits oj s = false -> wG ops σ o = false -> FG P fl σ oj o True) := by
   simp only [EC] at h
   split at h
   . obtain ⟨h1, h2⟩ := K1 h
     exact ⟨h2, λ _ _ _ _ => h1⟩
   . rename_i hn
     refine ⟨h, λ h1 h2 h3 h4 => ?_⟩
     exact (hn h1 h2 h3 h4).elim
  obtain ⟨hK, ih⟩ := GF l (s + 1) key.1
  refine ⟨hK, λ i oi hi h1 h2 h3 h4 => ?_⟩
  cases i with
  | zero => simp at hi; subst hi; exact key.2 (by simpa using h1) h2 (by simpa using h3) h4
  | succ i =>
   simp only [List.getElem?_cons_succ] at hi
   exact ih i oi hi (by rw [show s + 1 + i = s + (i + 1) by omega]; exact h1) h2 (by rw [show s + 1 + i = s + (i + 1) by omega]; exact h3) h4
theorem K0 {σ : St} {oj oi : Oper} {τ : St} {K : Prop} (h : DU σ oj oi τ K) : DU σ oj oi τ True /\ K := by
 unfold DU at h ⊢
 repeat' split at h
 all_goals simp_all
theorem FF {ops : Array Oper} {listed : Array Bool} {σ : St} {oj : Oper} {τ : St} : ∀ (l : List Oper) (s : Nat) {K : Prop}, Cx ops listed σ oj τ s l K ->
 K /\ ∀ (i : Nat) (oi : Oper), l[i]? = some oi -> listed.getD (s + i) false = true -> Bw oi.op = true -> waits oj (s + i) = false -> wG ops σ oi = false -> DU σ oj oi τ True
 | [], s, K, h => ⟨h, λ i oi hi => by simp at hi⟩
 | o :: l, s, K, h => by
  have key : (Cx ops listed σ oj τ (s + 1) l K) /\ (listed.getD s false = true -> Bw o.op = true -> waits oj s = false -> wG ops σ o = false -> DU σ oj o τ True) := by
   simp only [Cx] at h
   split at h
   . obtain ⟨h1, h2⟩ := K0 h
     exact ⟨h2, λ _ _ _ _ => h1⟩
   . rename_i hn
     refine ⟨h, λ h1 h2 h3 h4 => ?_⟩
     exact (hn h1 h2 h3 h4).elim
  obtain ⟨hK, ih⟩ := FF l (s + 1) key.1
  refine ⟨hK, λ i oi hi h1 h2 h3 h4 => ?_⟩
  cases i with
  | zero => simp at hi; subst hi; exact key.2 (by simpa using h1) h2 (by simpa using h3) h4
  | succ i =>
   simp only [List.getElem?_cons_succ] at hi
   exact ih i oi hi (by rw [show s + 1 + i = s + (i + 1) by omega]; exact h1) h2 (by rw [show s + 1 + i = s + (i + 1) by omega]; exact h3) h4
theorem Ka {ops : Array Oper} {oi : Oper} (hM : aJ B ι σ a w) (h : wG ops σ oi = true) : Region.wanted oi (yielded ops a.tmps) = false := by
 unfold wG at h
 split at h
 . cases h
 . rename_i j want hg
   split at h
   . cases h
   . rename_i g hj
     split at h
     . cases h
     . rename_i d hd
       split at h
       . rename_i t ht
         rw [Ik hg hj hd (Di hM ht)]
         split at h
         . rfl
         . rfl
         . cases h
       . rename_i xs ht
         exact DN hg hj hd (GC hM ht)
       . cases h
theorem zF (hM : aJ B ι σ a w) {k : Nat} {ow : Own} (hown : nth σ.own k = some (some ow)) {b : Nat} (hb : blk (ι k) = some b) : ∀ {l : List Operand}, C1 σ k l = true -> ∀ x ∈ l, ∀ j, (σ.ev x = .at (.lst j) \/ ∃ off, σ.ev x = .at (.ptr j off)) -> blk (ι j) ≠ some b
 | [], _, x, hx => by cases hx
 | y :: r, h, x, hx => by
  simp only [C1, Bool.and_eq_true] at h
  rcases List.mem_cons.1 hx with rfl | hx
  . intro j hj hbj
    have h1 := h.1
    rcases hj with hj | ⟨off, hj⟩
    all_goals
     simp only [hj] at h1
     split at h1
     . rename_i o' ho'
       have := hM.dist j k _ _ b ho' hown hbj hb
       subst this
       simp at h1
     . cases h1
  . exact zF hM hown hb h.2 x hx
theorem Tb {ops : Array Oper} {fl : Bool} {oj oi : Oper} {v : Value} {w' : World} (hM : aJ B ι σ a w) (hk : DI σ ι oj w w') (hst : FG C.P fl σ oj oi True) (hpost : fl = true -> ∃ τ : St, yM B τ.m τ.h w' /\ DU σ oj oi τ True) (hy : Yd C.P ops w oi v a) : Yd C.P ops w' oi v a \/ xL C.P oi = false := by
 unfold FG at hst
 split at hst
 . rename_i hm; exact .inr hm
 . left
   rcases hy with ⟨hw, hrun⟩ | hy
   . left
     refine ⟨hw, ?_⟩
     split at hst
     . rename_i T x hop
       split at hst
       . exact hst.elim
       . rename_i hT
         have hev := hM.ev x
         have gen : ∀ (b off : Nat) (cs : List Value), a.eval x = .pointer (some ⟨b, off, none⟩) -> cs.length = C.P.cellsOf T -> (∀ j u, cs[j]? = some u -> w.cell? ⟨b, off + j, none⟩ = some u) -> (∀ j u, cs[j]? = some u -> w'.cell? ⟨b, off + j, none⟩ = some u) ->
          (execOp a.eval oi).run C.P w' = .ok (.value v) w' := by
          intro b off cs hx hl hc hc'
          have h1 := zX hT hl hc
          have h2 := zX hT hl hc'
          have e1 : (execOp a.eval oi).run C.P w = .ok (.value (Td C.P T cs)) w := by
           unfold execOp
           simp only [hop, hx, Instr.loadAt, Instr.sureAddr, Sem.run_bind, Sem.run_pure, Result.andThen_ok, h1]
          have e2 : (execOp a.eval oi).run C.P w' = .ok (.value (Td C.P T cs)) w' := by
           unfold execOp
           simp only [hop, hx, Instr.loadAt, Instr.sureAddr, Sem.run_bind, Sem.run_pure, Result.andThen_ok, h2]
          rw [e1] at hrun
          simp only [Result.ok.injEq, Next.value.injEq, and_true] at hrun
          rw [e2, hrun]
         split at hst
         . rename_i k off hx
           rw [hx] at hev
           split at hst
           . rename_i T' cs hown
             split at hst
             . rename_i ht hle
               have hle := Nat.le_of_ble_eq_true hle
               obtain ⟨b, vs, hι, hh, hdc⟩ := sH hM hown
               obtain ⟨b', hb', hpt⟩ := hev
               rw [hι] at hb'
               simp only [Value.pointer.injEq, Option.some.injEq, Addr.mk.injEq] at hb'
               obtain ⟨rfl, -, -⟩ := hb'
               have hh' := hk.cells k T' cs b hown ht hι
               rw [hh] at hh'
               have hvs : cs.length = vs.toList.length := hdc.length
               refine gen b off ((vs.toList.drop off).take (C.P.cellsOf T)) hpt (by simp at hvs ⊢; omega) (λ j u hu => ?_) (λ j u hu => ?_)
               . rw [cell_of_heap hh]; exact uU hu
               . rw [cell_of_heap hh']; exact uU hu
             . exact hst.elim
           . exact hst.elim
         . rename_i b off d hx hd
           rw [hx] at hev
           have hev : a.eval x = .pointer (some ⟨b, off, none⟩) := hev
           split at hst
           . rename_i cs hcs
             split at hst
             . rename_i l hl
               split at hst
               . rename_i hlen
                 split at hst
                 . rename_i hgr
                   have hc := Dl hM.wrel hst.1
                   refine gen b off l hev (Nat.eq_of_beq_eq_true hlen) hc (λ j u hu => ?_)
                   have h1 := hc j u hu
                   cases hgr2 : xM oj.op with
                   | false =>
                    rw [hgr2, Bool.false_or] at hgr
                    obtain ⟨τ, hwτ, h2⟩ := hpost hgr
                    unfold DU at h2
                    simp only [hop, hx, hd, hcs, hl, hgr2] at h2
                    exact Dl hwτ h2.1 j u hu
                   | true =>
                   have hgr := hgr2
                   rw [<- h1]
                   exact World.cell?_of_block (w := w) (w' := w') (a := ⟨b, off + j, none⟩) (hk.ext hgr b (World.block_lt_of_cell? w ⟨b, off + j, none⟩ h1))
                 . refine gen b off l hev (Nat.eq_of_beq_eq_true hlen) (λ j u hu => hM.wrel.hsat _ _ _ (hst.1.rd j u hu)) (λ j u hu => hk.imm _ _ _ (hst.1.rd j u hu))
               . exact hst.elim
             . exact hst.elim
           . exact hst.elim
         . rename_i k i sz off d hx hd
           rw [hx] at hev
           split at hst
           . rename_i E' s xs cs hown hcs
             split at hst
             . rename_i l hl hs hap
               have hs := Nat.eq_of_beq_eq_true hs
               subst hs
               split at hst
               . rename_i hlen
                 obtain ⟨e, he, hel⟩ := hst.1
                 obtain ⟨hrows, hrow⟩ := nZ hM hown
                 obtain ⟨b, n, c, hι, hp⟩ := hev
                 have blkSame : ∀ b, blk (ι k) = some b -> w'.heap[b]? = w.heap[b]? := by
                  intro b hb
                  have hlt := nY (hM.own k _ hown) hb
                  unfold Kq at hap
                  rw [Bool.or_eq_true] at hap
                  rcases hap with hap | hap
                  . exact hk.ext hap b hlt
                  . split at hap
                    . rename_i l hl
                      refine hk.args l b hl hlt (hM.fresh k _ b hown hb).2.1 ?_
                      exact zF hM hown hb hap
                    . cases hap
                 have hrow' : w'.ownsRow 0 E' s (ι k) xs.length xs.flatten := ((hM.own k _ hown).world (λ b hb => blkSame b hb)).2
                 have rd : ∀ w1 : World, w1.ownsRow 0 E' s (ι k) xs.length xs.flatten -> ∀ j u, l[j]? = some u -> w1.cell? ⟨b, i * s + off + j, none⟩ = some u := by
                  intro w1 h1 j u hu
                  rw [<- hel] at hu
                  have hv' := uU hu
                  have hf := jS hrows.len he _ _ hv'
                  have := h1.cells (g := b) (by rw [hι]; rfl) _ _ hf
                  rw [Addr.add_none] at this
                  rw [<- this]
                  congr 1
                  simp only [Addr.mk.injEq, and_true, true_and]
                  omega
                 exact gen b (i * s + off) l hp (Nat.eq_of_beq_eq_true hlen) (rd w hrow) (rd w' hrow')
               . exact hst.elim
             . exact hst.elim
           . exact hst.elim
         . exact hst.elim
     . rename_i src dst x hop
       have hev := hM.ev x
       split at hst
       . rename_i k d hx hd
         rw [hx] at hev
         have hev : a.eval x = ι k := hev
         split at hst
         . rename_i E' sz xs s hown hs
           split at hst
           . rename_i E hsrc hdst
             split at hst
             . rename_i hE
               split at hst
               . rename_i hap
                 have hxs := hst.1
                 obtain ⟨hrows, hrow⟩ := nZ hM hown
                 have hbl : xs = bA s.data.toList := hxs
                 have blkSame : ∀ b, blk (ι k) = some b -> w'.heap[b]? = w.heap[b]? := by
                  intro b hb
                  have hlt := nY (hM.own k _ hown) hb
                  unfold Kq at hap
                  rw [Bool.or_eq_true] at hap
                  rcases hap with hap | hap
                  . exact hk.ext hap b hlt
                  . split at hap
                    . rename_i l hl
                      refine hk.args l b hl hlt (hM.fresh k _ b hown hb).2.1 ?_
                      exact zF hM hown hb hap
                    . cases hap
                 have hrow' : w'.ownsRow 0 E' sz (ι k) xs.length xs.flatten := ((hM.own k _ hown).world (λ b hb => blkSame b hb)).2
                 have go : ∀ w1 : World, w1.ownsRow 0 E' sz (ι k) xs.length xs.flatten -> (execOp a.eval oi).run C.P w1 = .ok (.value (.string ⟨s.data.toList.toArray⟩)) w1 := by
                  intro w1 h1
                  subst hbl
                  exact BJ hop hsrc hE hdst hev h1
                 rw [go w hrow] at hrun
                 rw [go w' hrow']
                 simp only [Result.ok.injEq, Next.value.injEq, and_true] at hrun
                 rw [hrun]
               . exact hst.elim
             . exact hst.elim
           . exact hst.elim
         . exact hst.elim
       . exact hst.elim
     . exact hst.elim
   . exact .inr hy
theorem Ju {g : Nat -> Prop} : ∀ {l : List Nat}, Ss g l -> ∀ j ∈ l, g j
 | [], _, j, hj => by cases hj
 | [i], h, j, hj => by simp at hj; subst hj; exact h
 | i :: k :: r, h, j, hj => by
  rcases List.mem_cons.1 hj with rfl | hj
  . exact h.1
  . exact Ju h.2 j hj
theorem Bz {ops : Array Oper} : ∀ {l : List Nat} {i : Nat} {o : Oper}, CI ops l = some (i, o) -> i ∈ l /\ ops[i]? = some o /\ Bw o.op = true
 | [], i, o, h => by simp [CI] at h
 | k :: r, i, o, h => by
  simp only [CI] at h
  split at h
  . rename_i ok hok
    split at h
    . rename_i hr
      simp only [Option.some.injEq, Prod.mk.injEq] at h
      obtain ⟨rfl, rfl⟩ := h
      rw [iC, Array.getElem?_toList] at hok
      exact ⟨List.mem_cons_self, hok, hr⟩
    . obtain ⟨h1, h2⟩ := Bz h
      exact ⟨List.mem_cons_of_mem _ h1, h2⟩
  . obtain ⟨h1, h2⟩ := Bz h
    exact ⟨List.mem_cons_of_mem _ h1, h2⟩
def sQ (ops : Array Oper) (L : Array Bool) : Nat := ((List.range ops.size).filter λ i => !L.getD i false).length
theorem DR {ops : Array Oper} {L : Array Bool} {i : Nat} (hsz : L.size = ops.size) (hi : i < ops.size) (hL : L.getD i false = false) : sQ ops (L.setIfInBounds i true) + 1 = sQ ops L := by
 unfold sQ
 have key : ∀ (l : List Nat), l.Nodup -> (l.filter λ j => !(L.setIfInBounds i true).getD j false).length + (if i ∈ l then 1 else 0) = (l.filter λ j => !L.getD j false).length := by
  intro l
  induction l with
  | nil => intro _; simp
  | cons j r ih =>
   intro hnd
   have hnd' := List.nodup_cons.1 hnd
   have := ih hnd'.2
   by_cases e : i = j
   . subst e
     have h1 : (L.setIfInBounds i true).getD i false = true := qV (by omega)
     have h2 : i ∉ r := hnd'.1
     simp only [List.filter_cons, h1, hL, Bool.not_true, Bool.not_false, if_true, Bool.false_eq_true, if_false, List.length_cons, List.mem_cons_self]
     simp only [h2, if_false] at this
     omega
   . have h1 : (L.setIfInBounds i true).getD j false = L.getD j false := getD_set_ne false e
     have h2 : (i ∈ j :: r) ↔ i ∈ r := by simp [e]
     simp only [List.filter_cons, h1]
     split
     . simp only [List.length_cons, h2]; omega
     . simp only [h2]; exact this
 have := key (List.range ops.size) List.nodup_range
 rw [if_pos (List.mem_range.2 hi)] at this
 exact this
theorem Fo {ops : Array Oper} {L : Array Bool} (hs : UA ops) (hsz : L.size = ops.size) (h : Region.ready .any ops L = []) : ∀ i, i < ops.size -> L.getD i false = true := by
 intro i
 induction i using Nat.strongRecOn with
 | _ i ih =>
  intro hi
  cases hL : L.getD i false with
  | true => rfl
  | false =>
   exfalso
   have ho : ops[i]? = some ops[i] := Array.getElem?_eq_getElem hi
   have : i ∈ Region.ready .any ops L := by
    rw [sG]
    refine ⟨?_, _, ho, λ k hk => ih k (hs.topo i _ k ho hk) (Nat.lt_trans (hs.topo i _ k ho hk) hi)⟩
    have hiL : i < L.size := by omega
    simp [Array.getD, hiL] at hL ⊢
    exact hL
   rw [h] at this
   cases this
theorem AM {ops : Array Oper} {L : Array Bool} (h : ∀ i, i < ops.size -> L.getD i false = true) : Region.ready .any ops L = [] := by
 cases hr : Region.ready .any ops L with
 | nil => rfl
 | cons i r =>
  exfalso
  have : i ∈ Region.ready .any ops L := by rw [hr]; exact List.mem_cons_self
  obtain ⟨h1, o, ho, _⟩ := sG.1 this
  have hi := (Array.getElem?_eq_some_iff.1 ho).1
  have := h i hi
  rw [(Gq h1).1] at this
  cases this
theorem Jw.eq_of_all {P : Program} {ops : Array Oper} {L Cl : Array Bool} {ar ac : Act} (h : Jw P ops L Cl ar ac w) (hall : ∀ i, i < ops.size -> L.getD i false = true) : ar = ac := by
 have ht : ar.tmps = ac.tmps := by
  apply Array.ext_getElem?
  intro t
  refine h.agree t (λ i o ho _ hL => ?_)
  have := hall i (Array.getElem?_eq_some_iff.1 ho).1
  rw [hL] at this; cases this
 have hd := h.df
 cases ar; cases ac
 simp at ht hd
 rw [ht, hd]
theorem RJ {ops : Array Oper} {R : St -> Prop} {n : Nat} {Cl : Array Bool} (h : Ax C ops n Cl σ R) (hr : Region.ready .any ops Cl = []) : R σ := by
 cases n <;> simp only [Ax, hr] at h <;> exact h
theorem MU {ops : Array Oper} {listed : Array Bool} {σ : St} {oj : Oper} {τ : St} {K : Prop} (h : Er C ops listed σ oj τ K) :
 (N7 C = true -> ∀ (i : Nat) (oi : Oper), ops.toList[i]? = some oi -> listed.getD (0 + i) false = true -> Bw oi.op = true -> waits oj (0 + i) = false -> wG ops σ oi = false -> DU σ oj oi τ True) /\ K := by
 unfold Er at h
 split at h
 . rename_i e
   obtain ⟨h1, h2⟩ := FF _ 0 h
   exact ⟨λ _ => h2, h1⟩
 . rename_i e
   refine ⟨λ e2 => ?_, h⟩
   rw [e] at e2
   cases e2
theorem RI (hspecs : ∀ g S, assoc C.specs g = some S -> Sound C.P g S) {ops : Array Oper} (hs : UA ops) {Q : Exit -> Act -> World -> Prop} {R : St -> Prop} (hQ : ∀ ι σ a w, aJ B ι σ a w -> R σ -> Q .normal a w)
 (hQp : ∀ c a w, ¬ Q (.panic c) a w) :
 ∀ (n : Nat) (fuel : Nat) (Cl : Array Bool) (ι : Nat -> Value) (σ : St) (ac : Act) (w : World), aJ B ι σ ac w -> Ax C ops n Cl σ R -> ∀ (L : Array Bool) (ar : Act), Jw C.P ops L Cl ar ac w -> sQ ops L = fuel ->
  wpAny C.P .any ops Q fuel L ar w := by
 have fin : ∀ (n : Nat) (Cl : Array Bool) (ι : Nat -> Value) (σ : St) (ac : Act) (w : World), aJ B ι σ ac w -> Ax C ops n Cl σ R -> ∀ (L : Array Bool) (ar : Act), Jw C.P ops L Cl ar ac w -> Region.ready .any ops L = [] -> Q .normal ar w := by
  intro n Cl ι σ ac w hM h L ar sim hr
  have hall := Fo hs sim.szL hr
  rw [sim.eq_of_all hall]
  exact hQ ι σ ac w hM (RJ h (AM (λ i hi => sim.sub i (hall i hi))))
 have zero : ∀ (n : Nat) (Cl : Array Bool) (ι : Nat -> Value) (σ : St) (ac : Act) (w : World), aJ B ι σ ac w -> Ax C ops n Cl σ R -> ∀ (L : Array Bool) (ar : Act), Jw C.P ops L Cl ar ac w -> sQ ops L = 0 -> wpAny C.P .any ops Q 0 L ar w := by
  intro n Cl ι σ ac w hM h L ar sim hf
  have hall : ∀ i, i < ops.size -> L.getD i false = true := by
   intro i hi
   unfold sQ at hf
   have hnil := List.eq_nil_of_length_eq_zero hf
   cases hL : L.getD i false with
   | true => rfl
   | false =>
    have : i ∈ (List.range ops.size).filter λ i => !L.getD i false := List.mem_filter.2 ⟨List.mem_range.2 hi, by simp [hL]⟩
    rw [hnil] at this; cases this
  have hr := AM hall
  exact ⟨hr, fin n Cl ι σ ac w hM h L ar sim hr⟩
 have stepP : ∀ (n fuel : Nat), (∀ (Cl : Array Bool) (ι : Nat -> Value) (σ : St) (ac : Act) (w : World), aJ B ι σ ac w -> Ax C ops n Cl σ R -> ∀ (L : Array Bool) (ar : Act), Jw C.P ops L Cl ar ac w -> sQ ops L = fuel -> wpAny C.P .any ops Q fuel L ar w) ->
  ∀ (Cl : Array Bool) (ι : Nat -> Value) (σ : St) (ac : Act) (w : World), aJ B ι σ ac w -> Ax C ops n Cl σ R -> ∀ (L : Array Bool) (ar : Act), Jw C.P ops L Cl ar ac w -> sQ ops L = fuel + 1 ->
   ∀ i ∈ Region.ready .any ops L, Cl.getD i false = true -> wpOp C.P ops Q i (wpAny C.P .any ops Q fuel (L.setIfInBounds i true)) ar w := by
  intro n fuel ih Cl ι σ ac w hM h L ar sim hf i hi hC
  obtain ⟨hun, o, ho, hw⟩ := sG.1 hi
  obtain ⟨hL, hlt⟩ := Gq hun
  obtain ⟨v, hv, hlv, hpv⟩ := sim.pend i o ho hC hL
  have hy : Yd C.P ops w o v ar := by
   rcases hs.look i o ho with hst | hlo
   . obtain ⟨he, hwe⟩ := DC (hs.sel i o · · ho) (sim.looks hst hw)
     exact (hv hst w (.inr rfl)).congr he hwe
   . exact hlv hlo w
  have hnext : wpAny C.P .any ops Q fuel (L.setIfInBounds i true) (ar.put o.dst v) w :=
   ih Cl ι σ ac w hM h _ _ (sim.stepA hs ho hC hw hpv) (by have := DR sim.szL (by have := sim.szL; omega) hL; omega)
  unfold wpOp
  simp only [ho]
  rcases hy with ⟨hwt, hrun⟩ | ⟨hwt, rfl⟩
  . rw [if_pos hwt]
    left
    unfold Oper.wp
    rw [hrun, Oper.upon_value]
    exact hnext
  . rw [if_neg (by simp [hwt])]
    exact hnext
 intro n
 induction n with
 | zero =>
  intro fuel
  induction fuel with
  | zero => exact zero 0
  | succ fuel ihf =>
   intro Cl ι σ ac w hM h L ar sim hf
   refine ⟨fin 0 Cl ι σ ac w hM h L ar sim, λ i hi => ?_⟩
   cases hC : Cl.getD i false with
   | true => exact stepP 0 fuel ihf Cl ι σ ac w hM h L ar sim hf i hi hC
   | false =>
    exfalso
    obtain ⟨hun, o, ho, hw⟩ := sG.1 hi
    have hiC : i ∈ Region.ready .any ops Cl := by
     rw [sG]
     refine ⟨?_, o, ho, λ k hk => sim.sub k (hw k hk)⟩
     have : i < Cl.size := by rw [sim.szC]; exact (Array.getElem?_eq_some_iff.1 ho).1
     simp [Array.getD, this] at hC ⊢
     exact hC
    simp only [Ax] at h
    split at h
    . rename_i hr; rw [hr] at hiC; cases hiC
    . exact h
 | succ n ihn =>
  intro fuel
  induction fuel with
  | zero => exact zero (n + 1)
  | succ fuel ihf =>
   intro Cl ι σ ac w hM h L ar sim hf
   refine ⟨fin (n + 1) Cl ι σ ac w hM h L ar sim, λ i hi => ?_⟩
   cases hC : Cl.getD i false with
   | true => exact stepP (n + 1) fuel ihf Cl ι σ ac w hM h L ar sim hf i hi hC
   | false =>
    obtain ⟨hun, o, ho, hw⟩ := sG.1 hi
    obtain ⟨hLi, hlt⟩ := Gq hun
    have hiC : i ∈ Region.ready .any ops Cl := by
     rw [sG]
     refine ⟨?_, o, ho, λ k hk => sim.sub k (hw k hk)⟩
     have : i < Cl.size := by rw [sim.szC]; exact (Array.getElem?_eq_some_iff.1 ho).1
     simp [Array.getD, this] at hC ⊢
     exact hC
    simp only [Ax] at h
    split at h
    . rename_i hr; rw [hr] at hiC; cases hiC
    . split at h
      ·
       rename_i k ok hfr
       obtain ⟨hkr, hok, hkrd⟩ := Bz hfr
       obtain ⟨hkun, ok', hok', hkw⟩ := sG.1 hkr
       rw [hok] at hok'
       cases hok'
       obtain ⟨hkC, hklt⟩ := Gq hkun
       obtain ⟨σ1, hM1, hfz, hc⟩ := Aw hM h
       rcases hc with ⟨hwt, h⟩ | ⟨hwt, h⟩
       . obtain ⟨v, x, hrun, hx, hK⟩ := R2 hM1 hkrd h
         have hsim := sim.take hs hok hkC hkw hkrd (v := v) (λ w'' hw'' => .inl ⟨hwt, hrun w'' hw''⟩)
         exact (ihn (fuel + 1) _ ι _ _ w (hM1.put ok.dst hx) hK L ar hsim hf).2 i hi
       . have hsim := sim.take hs hok hkC hkw hkrd (v := undef) (λ w'' _ => .inr ⟨hwt, rfl⟩)
         exact (ihn (fuel + 1) _ ι _ _ w (hM1.put ok.dst (x := .at (.val undef)) rfl) h L ar hsim hf).2 i hi
      ·
       have hg := Ju h i hiC
       split at hg
       . rename_i o' ho'
         rw [iC, Array.getElem?_toList, ho] at ho'
         cases ho'
         obtain ⟨hg, hstab⟩ := GF _ 0 hg
         obtain ⟨he, hwe⟩ := DC (hs.sel i o · · ho) ((hs.look i o ho).elim (sim.looks · hw) (sim.looks' · hC))
         have hgw := Lt hspecs hM hg (λ a' w' => ∃ ι' σ', aJ B ι' σ' a' w' /\ Er C ops Cl σ o σ' (Ax C ops n (Cl.setIfInBounds i true) σ' R) /\ DI σ ι o w w') Q (λ ι' σ' a' w' h1 h2 h3 => ⟨ι', σ', h1, h2, h3⟩)
         have hB : ∀ (u : Value) (w' : World), (∃ ι' σ', aJ B ι' σ' (ac.put o.dst u) w' /\ Er C ops Cl σ o σ' (Ax C ops n (Cl.setIfInBounds i true) σ' R) /\ DI σ ι o w w') ->
          wpAny C.P .any ops Q fuel (L.setIfInBounds i true) (ar.put o.dst u) w' := by
          rintro u w' ⟨ι', σ', hM', h', hk'⟩
          obtain ⟨hpo, h'⟩ := MU h'
          refine ihn fuel _ ι' σ' _ w' hM' h' _ _ (sim.stepB hs ho hC hw u w' ?_) (by have := DR sim.szL (by have := sim.szL; omega) hLi; omega)
          intro j oj v hj hCj hLj hy
          cases hun' : wG ops σ oj with
          | true =>
           have := Ka hM hun'
           rcases hy with ⟨h1, _⟩ | h1
           . rw [this] at h1; cases h1
           . exact .inl (.inr h1)
          | false =>
           have hnw : waits o j = false := by
            cases hwj : waits o j with
            | false => rfl
            | true => rw [hw j hwj] at hLj; cases hLj
           have hst := hstab j oj (by rw [Array.getElem?_toList]; exact hj) (by simpa using hCj) (sim.rd j oj hj hCj hLj) (by simpa using hnw) hun'
           exact Tb hM hk' hst (λ e => ⟨σ', hM'.wrel, hpo e j oj (by rw [Array.getElem?_toList]; exact hj) (by simpa using hCj) (sim.rd j oj hj hCj hLj) (by simpa using hnw) hun'⟩) hy
         unfold WX at hgw
         unfold wpOp
         simp only [ho]
         rw [hwe]
         split
         . rename_i hwt
           rw [if_pos hwt] at hgw
           left
           refine KK he hgw hB ?_ hQp
           rintro d w' ⟨ι', σ', hM', _⟩
           have := hM'.defers
           rw [<- hM.defers] at this
           cases hd : o.dst <;> simp [Act.put, hd] at this
         . rename_i hwt
           rw [if_neg hwt] at hgw
           exact hB undef w hgw
       . exact hg.elim
theorem aJ.drew {B : qR} {ι : Nat -> Value} {σ : St} {a : Act} {w : World} (h : aJ B ι σ a w) (k : Nat) : aJ B ι σ a { w with drawn := k } := by
 refine ⟨h.slots, h.defers, λ j o hj => (h.own j o hj).world (λ _ _ => rfl), h.dist, h.fresh, ?_, h.one⟩
 have hw := h.wrel
 exact ⟨hw.tape, hw.os, hw.output, hw.size, hw.frame, hw.hsat, hw.msat, hw.disj, hw.hle, hw.hold, hw.mfr⟩
end
end Go.Vc
namespace Go.Vc
open Go
section
variable {B : qR} {C : Ctx} {ι : Nat -> Value} {σ : St} {a : Act} {w : World}
theorem wF : ∀ {xs ys : List SV} {vs : List Value} {K : Prop}, Au xs ys K -> oF ι xs vs -> oF ι ys vs /\ K
 | [], [], vs, K, h, hd => ⟨hd, h⟩
 | x :: xs, y :: ys, [], K, _, hd => hd.elim
 | x :: xs, y :: ys, v :: vs, K, h, hd => by
  unfold Au at h
  split at h
  . rename_i h1 h2; cases h1
  . rename_i x' xs' ys' h1 h2
    simp only [List.cons.injEq] at h1 h2
    obtain ⟨rfl, rfl⟩ := h1
    obtain ⟨rfl, rfl⟩ := h2
    have := wF h hd.2
    exact ⟨⟨trivial, this.1⟩, this.2⟩
  . rename_i x' xs' y' ys' _ h1 h2
    simp only [List.cons.injEq] at h1 h2
    obtain ⟨rfl, rfl⟩ := h1
    obtain ⟨rfl, rfl⟩ := h2
    obtain ⟨rfl, h⟩ := h
    have := wF h hd.2
    exact ⟨⟨hd.1, this.1⟩, this.2⟩
  . exact h.elim
 | [], _ :: _, _, K, h, _ => by simp [Au] at h
 | _ :: _, [], _, K, h, _ => by simp [Au] at h
theorem uG : ∀ {xs ys : List (Option Own)} {K : Prop}, uH xs ys K -> (∀ k o, nth ys k = some (some o) -> nth xs k = some (some o)) /\ K
 | [], [], K, h => ⟨λ k o hk => by simp [nth] at hk, h⟩
 | x :: xs, none :: ys, K, h => by
  simp only [uH] at h
  obtain ⟨h1, h2⟩ := uG h
  refine ⟨λ k o hk => ?_, h2⟩
  cases k with
  | zero => simp [nth] at hk
  | succ k => exact h1 k o hk
 | x :: xs, some y :: ys, K, h => by
  simp only [uH] at h
  obtain ⟨rfl, h⟩ := h
  obtain ⟨h1, h2⟩ := uG h
  refine ⟨λ k o hk => ?_, h2⟩
  cases k with
  | zero => exact hk
  | succ k => exact h1 k o hk
 | [], _ :: _, K, h => by simp [uH] at h
 | _ :: _, [], K, h => by simp [uH] at h
theorem aJ.setSlot (hM : aJ B ι σ a w) {i : Nat} {x : SV} {v : Value} (hv : a.tmps[i]? = some v) (hx : Den ι x v) : aJ B ι (σ.put (some i) x) a w := by
 refine ⟨?_, hM.defers, hM.own, hM.dist, hM.fresh, hM.wrel, hM.one⟩
 have := hM.slots.set i hx
 show oF ι (σ.sl.set i x) a.tmps.toList
 have e : a.tmps.toList.set i v = a.tmps.toList := by
  apply List.ext_getElem?
  intro j
  rw [List.getElem?_set]
  split
  . rename_i hj
    subst hj
    rw [Array.getElem?_toList, hv]
    split
    . rfl
    . rename_i hlt
      simp at hlt
      rw [Array.getElem?_eq_none hlt] at hv
      cases hv
  . rfl
 rw [e] at this
 exact this
theorem aJ.nilList (hM : aJ B ι σ a w) (k E sz : Nat) : aJ B (upd ι k (.slice none 0 0)) ((σ.kill k).setOwn k (some (.lst E sz []))) a w := by
 refine hM.place k _ _ (AY.refl _ _) ⟨yQ sz, World.ownsRow_nil w 0 E sz⟩ rfl (λ b hb => by simp [blk] at hb)
theorem pZ (τ : St) : ∀ (ys : List SV) (i : Nat) (ι : Nat -> Value) (σ : St), aJ B ι σ a w -> ∃ ι', aJ B ι' (Km τ ys i σ) a w
 | [], i, ι, σ, hM => ⟨ι, hM⟩
 | y :: ys, i, ι, σ, hM => by
  simp only [Km]
  split
  . rename_i k
    split
    . rename_i hs
      split
      . rename_i E sz xs hτ hσ
        have hv : a.tmps[i]? = some (.slice none 0 0) := by
         rw [iC] at hs
         obtain ⟨v, hv, hd⟩ := hM.slots.get i _ hs
         rw [Array.getElem?_toList] at hv
         have hd : v = .slice none 0 0 := hd
         rw [hv, hd]
        exact pZ τ ys (i + 1) _ _ ((hM.nilList k E sz).setSlot hv (x := .at (.lst k)) (by show _ = _; simp))
      . exact pZ τ ys (i + 1) ι σ hM
    . exact pZ τ ys (i + 1) ι σ hM
  . exact pZ τ ys (i + 1) ι σ hM
theorem lG (τ : St) (q : Nat) : ∀ (ys : List At) (j : Nat) (ι : Nat -> Value) (σ : St), aJ B ι σ a w -> ∃ ι', aJ B ι' (C0 τ q ys j σ) a w
 | [], j, ι, σ, hM => ⟨ι, hM⟩
 | y :: ys, j, ι, σ, hM => by
  simp only [C0]
  split
  . rename_i k
    split
    . rename_i T cs hq
      split
      . rename_i hj
        split
        . rename_i E sz xs hτ hσ
          have hqk : q ≠ k := λ e => by subst e; rw [hσ] at hq; cases hq
          have h1 := hM.nilList k E sz
          have hq1 : nth ((σ.kill k).setOwn k (some (.lst E sz []))).own q = some (some (.cells T (cs.map (At.sub k (λ _ => .junk))))) := by
           simp only [Gm, St.setOwn, St.sub, vO, z6, hqk, false_and, if_false, hq]
           rfl
          obtain ⟨b, vs, hι, hh, hd⟩ := sH h1 hq1
          have hvj : vs.toList[j]? = some (.slice none 0 0) := by
           obtain ⟨b0, vs0, hι0, hh0, hd0⟩ := sH hM hq
           rw [iC] at hj
           obtain ⟨v, hv, hdv⟩ := hd0.get j _ hj
           have hdv : v = .slice none 0 0 := hdv
           rw [mC _ _ hqk, hι0] at hι
           simp only [Value.pointer.injEq, Option.some.injEq, Addr.mk.injEq] at hι
           obtain ⟨rfl, -, -⟩ := hι
           rw [hh0] at hh
           simp only [Option.some.injEq, Obj.cells.injEq] at hh
           rw [<- hh.1, hv, hdv]
          have hset : vs.toList.set j (.slice none 0 0) = vs.toList := by
           apply List.ext_getElem?
           intro t
           rw [List.getElem?_set]
           split
           . rename_i e
             subst e
             rw [hvj]
             split
             . rfl
             . rename_i hlt
               rw [List.getElem?_eq_none (Nat.le_of_not_lt hlt)] at hvj
               cases hvj
           . rfl
          have h2 : aJ B (upd ι k (.slice none 0 0)) (Dj ((σ.kill k).setOwn k (some (.lst E sz []))) q j (.lst k)) a w := by
           unfold Dj
           rw [hq1]
           refine h1.rewrite hq1 (AY.refl _ _) ⟨b, vs, hι, hh, ?_⟩
           have := hd.set j (x := .lst k) (v := .slice none 0 0) (by show _ = _; simp)
           rwa [hset] at this
          exact lG τ q ys (j + 1) _ _ h2
        . exact lG τ q ys (j + 1) ι σ hM
      . exact lG τ q ys (j + 1) ι σ hM
    . exact lG τ q ys (j + 1) ι σ hM
  . exact lG τ q ys (j + 1) ι σ hM
theorem wK (τ : St) : ∀ (ys : List (Option Own)) (q : Nat) (ι : Nat -> Value) (σ : St), aJ B ι σ a w -> ∃ ι', aJ B ι' (Gs τ ys q σ) a w
 | [], q, ι, σ, hM => ⟨ι, hM⟩
 | y :: ys, q, ι, σ, hM => by
  simp only [Gs]
  split
  . rename_i T cs
    obtain ⟨ι', hM'⟩ := lG τ q cs 0 ι σ hM
    exact wK τ ys (q + 1) ι' _ hM'
  . exact wK τ ys (q + 1) ι σ hM
theorem mQ {τ : St} {K : Prop} (hM : aJ B ι σ a w) (h : uF σ τ K) : ∃ ι', aJ B ι' τ a w /\ K := by
 obtain ⟨ι1, hM1⟩ := pZ τ τ.sl 0 ι σ hM
 obtain ⟨ι2, hM2⟩ := wK τ τ.own 0 ι1 _ hM1
 have hM2 : aJ B ι2 (conv σ τ) a w := hM2
 unfold uF at h
 obtain ⟨hsl, h⟩ := wF h hM2.slots
 obtain ⟨hown, hm, hh, hK⟩ := uG h
 refine ⟨ι2, ⟨hsl, hM2.defers, λ k o hk => hM2.own k o (hown k o hk), λ k k' o o' b hk hk' hb hb' => hM2.dist k k' o o' b (hown k o hk) (hown k' o' hk') hb hb', ?_, ?_, hM2.one⟩, hK⟩
 . intro k o b hk hb
   rw [<- hm, <- hh]
   exact hM2.fresh k o b (hown k o hk) hb
 . rw [<- hm, <- hh]
   exact hM2.wrel
theorem aJ.froze (hM : aJ B ι σ a w) {m2 : MH} {h2 : PH} (hF : A2 σ.m σ.h m2 h2) : aJ B ι { σ with m := m2, h := h2 } a w := by
 have hw := hM.wrel
 refine ⟨hM.slots, hM.defers, hM.own, hM.dist, λ k o b hk hb => ?_, ?_, hM.one⟩
 . obtain ⟨f1, f2, f3⟩ := hM.fresh k o b hk hb
   refine ⟨f1, ?_, λ i => ?_⟩
   . show m2 b = none
     cases e2 : m2 b with
     | none => rfl
     | some o => rw [hF.sub b o e2] at f2; cases f2
   . show h2 b i = none
     cases e2 : h2 b i with
     | none => rfl
     | some v =>
      rcases hF.new b i v e2 with h3 | ⟨cs, E, fz, h3, _, _⟩
      . rw [f3 i] at h3; cases h3
      . rw [f2] at h3; cases h3
 . refine ⟨hw.tape, hw.os, hw.output, hw.size, hw.frame, λ b o v e => ?_, λ b o e => hw.msat b o (hF.sub b o e), λ b o e i => ?_, λ b o v e => hF.le.le b o v (hw.hle b o v e), λ b h1 h2' => ?_, λ b o e => hw.mfr b o (hF.sub b o e)⟩
   . rcases hF.new b o v e with h3 | ⟨cs, E, fz, h3, h4, _⟩
     . exact hw.hsat b o v h3
     . rw [cell_of_heap (hw.msat b _ h3), Array.getElem?_toList]; exact h4
   . show h2 b i = none
     have e : m2 b = some o := e
     cases e2 : h2 b i with
     | none => rfl
     | some v =>
      rcases hF.new b i v e2 with h3 | ⟨cs, E, fz, h3, h4, h5⟩
      . rw [hw.disj b o (hF.sub b o e) i] at h3; cases h3
      . rw [h5] at e; cases e
   . funext i
     have e := congrFun (hw.hold b h1 h2') i
     show h2 b i = B.h0 b i
     cases e2 : B.h0 b i with
     | some v => exact hF.le.le b i v (hw.hle b i v e2)
     | none =>
      cases e3 : h2 b i with
      | none => rfl
      | some v =>
       rcases hF.new b i v e3 with h3 | ⟨cs, E, fz, h3, h4, h5⟩
       . rw [e, e2] at h3; cases h3
       . rcases hw.mfr b _ h3 with h6 | h6
         . omega
         . exact (h2' h6).elim
theorem D5 {τ : St} {K : Prop} (hM : aJ B ι σ a w) (h : J7 σ τ K) : ∃ ι', aJ B ι' τ a w /\ K := by
 obtain ⟨ι1, hM1⟩ := pZ τ τ.sl 0 ι σ hM
 obtain ⟨ι2, hM2⟩ := wK τ τ.own 0 ι1 _ hM1
 have hM2 : aJ B ι2 (conv σ τ) a w := hM2
 unfold J7 at h
 obtain ⟨hsl, h⟩ := wF h hM2.slots
 obtain ⟨hown, hF, hK⟩ := uG h
 have hM3 := hM2.froze hF
 exact ⟨ι2, ⟨hsl, hM2.defers, λ k o hk => hM2.own k o (hown k o hk), λ k k' o o' b hk hk' hb hb' => hM2.dist k k' o o' b (hown k o hk) (hown k' o' hk') hb hb', λ k o b hk hb => hM3.fresh k o b (hown k o hk) hb, hM3.wrel, hM2.one⟩, hK⟩
theorem FJ {c : sL} {R : c.A -> Prop} (hM : aJ B ι σ a w) (h : Gf c R σ) : ∃ x ι', R x /\ aJ B ι' (c.st x) a w := by
 unfold Gf at h
 split at h
 . obtain ⟨x, hx, hm⟩ := h
   obtain ⟨ι2, hM2, _⟩ := mQ hM hm
   exact ⟨x, ι2, hx, hM2⟩
 . obtain ⟨x, hx, hm⟩ := h ⟨hM.wrel.disj⟩
   obtain ⟨ι2, hM2, _⟩ := D5 hM hm
   exact ⟨x, ι2, hx, hM2⟩
theorem MS {c : sL} {I S : c.A -> Prop} (hM : aJ B ι σ a w) (h : Ks c I S σ) : ∃ x ι', I x /\ S x /\ aJ B ι' (c.st x) a w := by
 unfold Ks at h
 split at h
 . obtain ⟨x, hx, hs, hm⟩ := h
   obtain ⟨ι2, hM2, _⟩ := mQ hM hm
   exact ⟨x, ι2, hx, hs, hM2⟩
 . obtain ⟨x, hx, hs, hm⟩ := h ⟨hM.wrel.disj⟩
   obtain ⟨ι2, hM2, _⟩ := D5 hM hm
   exact ⟨x, ι2, hx, hs, hM2⟩
def QD (B : qR) (Q : Eu -> St -> Prop) : Exit -> Act -> World -> Prop
 | .normal, a, w => ∃ ι σ, aJ B ι σ a w /\ Q .normal σ
 | .exit id, a, w => ∃ ι σ, aJ B ι σ a w /\ Q (.exit id) σ
 | .ret, a, w => ∃ ι σ, aJ B ι σ a w /\ Q .ret σ
 | _, _, _ => False
theorem Ir (hspecs : ∀ g S, assoc C.specs g = some S -> Sound C.P g S) {ops : Array Oper} {Q : Eu -> St -> Prop} :
 ∀ (segs : List (Nat × sL)) (l : List Oper) (s : Nat) (ι : Nat -> Value) (σ : St) (a : Act) (w : World), (∀ j, l[j]? = ops.toList[s + j]?) -> aJ B ι σ a w -> On C ops segs l σ (Q .normal) -> wpOpsIn Fence.wide 0 C.P ops (QD B Q) (List.range' s l.length) a w
 | [], l, s, ι, σ, a, w, hl, hM, h => by
  have := Dk hspecs (ops := ops) (Q := QD B Q) (R := Q .normal) (rest := []) (λ ι σ a w hM h => ⟨ι, σ, hM, h⟩) l s ι σ a w (λ j _ => hl j) hM h
  simpa using this
 | (n, ann) :: segs, l, s, ι, σ, a, w, hl, hM, h => by
  obtain ⟨I, h1, h2⟩ := h
  have := Dk hspecs (ops := ops) (Q := QD B Q) (R := λ τ => ∃ x, I x /\ uF τ (ann.st x) True) (rest := List.range' (s + (l.take n).length) (l.drop n).length) (λ ι' σ' a' w' hM' hx => by
   obtain ⟨x, hx, hm⟩ := hx
   obtain ⟨ι2, hM2, _⟩ := mQ hM' hm
   refine Ir hspecs segs (l.drop n) (s + (l.take n).length) ι2 _ a' w' (λ j => ?_) hM2 (h2 x hx)
   rw [List.getElem?_drop, hl]
   by_cases hn : n <= l.length
   . congr 1; simp; omega
   . have e1 : l[n + j]? = none := List.getElem?_eq_none (by omega)
     have e2 : l[l.length + j]? = none := List.getElem?_eq_none (by omega)
     rw [hl] at e1 e2
     rw [e1, show s + (List.take n l).length + j = s + (l.length + j) by simp; omega, e2]) (l.take n) s ι σ a w (λ j hj => by
     rw [<- hl, List.getElem?_take]
     rw [if_pos (by simp at hj; omega)]) hM h1
  rwa [List.range'_append_1, <- List.length_append, List.take_append_drop] at this
theorem GA (hspecs : ∀ g S, assoc C.specs g = some S -> Sound C.P g S) : ∀ (c : Code) (σ : St) (Q : Eu -> St -> Prop) (ι : Nat -> Value) (a : Act) (w : World), aJ B ι σ a w -> VC C c σ Q -> c.wp C.P (QD B Q) a w := by
 intro c
 induction c with
 | skip => intro σ Q ι a w hM h; exact wp_skip ⟨ι, σ, hM, h⟩
 | label l => intro σ Q ι a w hM h; exact wp_label ⟨ι, σ, hM, h⟩
 | exit id => intro σ Q ι a w hM h; exact wp_exit ⟨ι, σ, hM, h⟩
 | ret => intro σ Q ι a w hM h; exact wp_ret ⟨ι, σ, hM, h⟩
 | goto l => intro σ Q ι a w hM h; exact h.elim
 | refuse why => intro σ Q ι a w hM h; exact h.elim
 | scope body ih => intro σ Q ι a w hM h; exact h.elim
 | rangeFunc f ps x y ihx ihy => intro σ Q ι a w hM h; exact h.elim
 | region id ops draw =>
  intro σ Q ι a w hM h
  cases draw with
  | false =>
   refine (wpIn_wide (n := 0)).1 (wpIn_region ?_)
   have := Ir hspecs (ops := ops) (Q := Q) (GL C id) ops.toList 0 ι σ a w (λ j => by simp) hM h
   rw [List.range_eq_range']
   simpa using this
  | true =>
   simp only [VC] at h
   split at h
   . rename_i h1 h2 h3
     have hs := UP h1 h2
     refine wp_region_any h3 ?_
     refine RI hspecs hs (Q := QD B Q) (R := Q .normal) (λ ι σ a w hM h => ⟨ι, σ, hM, h⟩) (λ c a w h => h) ops.size ops.size _ ι σ a _ (hM.drew (w.drawn + 1)) h _ a ?_ ?_
     . have hno : ∀ i, (Array.replicate ops.size false).getD i false = true -> False := by
        intro i hi
        by_cases hlt : i < ops.size
        . simp [Array.getD, hlt] at hi
        . simp [Array.getD, hlt] at hi
       exact ⟨by simp, by simp, λ i hi => hi, λ i o _ hi => (hno i hi).elim, λ i o _ hi => (hno i hi).elim, λ i o _ hi => (hno i hi).elim, rfl, rfl, λ t _ => rfl, λ i o _ hi => (hno i hi).elim⟩
     . unfold sQ
       rw [List.filter_eq_self.2]
       . simp
       . intro i hi
         by_cases hlt : i < ops.size <;> simp [Array.getD, hlt]
   . exact h.elim
 | seq x y ihx ihy =>
  intro σ Q ι a w hM h
  simp only [VC] at h
  split at h
  . obtain ⟨h, hall⟩ := h
    refine wp_seq (wp_mono (ihx σ _ ι a w hM h) ?_)
    intro e a' w' hq
    cases e with
    | normal =>
     obtain ⟨ι', σ', hM', x, hx, hm⟩ := hq
     show y.wp C.P (QD B Q) a' w'
     obtain ⟨ι2, hM2, _⟩ := mQ hM' hm
     exact ihy _ Q ι2 a' w' hM2 (hall x hx)
    | exit id => exact hq
    | ret => exact hq
    | goto l => exact hq
    | panic ch => exact hq
    | outgrown => exact hq
  . split at h
    . obtain ⟨I, h, hall⟩ := h
      refine wp_seq (wp_mono (ihx σ _ ι a w hM h) ?_)
      intro e a' w' hq
      cases e with
      | normal =>
       obtain ⟨ι', σ', hM', hm⟩ := hq
       show y.wp C.P (QD B Q) a' w'
       obtain ⟨x, ι2, hx, hM2⟩ := FJ hM' hm
       exact ihy _ Q ι2 a' w' hM2 (hall x hx)
      | exit id => exact hq
      | ret => exact hq
      | goto l => exact hq
      | panic ch => exact hq
      | outgrown => exact hq
    . refine wp_seq (wp_mono (ihx σ _ ι a w hM h) ?_)
      intro e a' w' hq
      cases e with
      | normal =>
       obtain ⟨ι', σ', hM', h'⟩ := hq
       show y.wp C.P (QD B Q) a' w'
       exact ihy σ' Q ι' a' w' hM' h'
      | exit id => exact hq
      | ret => exact hq
      | goto l => exact hq
      | panic ch => exact hq
      | outgrown => exact hq
 | cond c x y ihx ihy =>
  intro σ Q ι a w hM h
  simp only [VC] at h
  split at h
  . rename_i t hc
    have hev := hM.ev c
    rw [hc] at hev
    have hev : a.eval c = .bool t := hev
    rcases wU h with ⟨rfl, h⟩ | ⟨rfl, h⟩
    . exact wp_cond_true hev (ihx _ Q ι a w (hM.setTmp hc) h)
    . exact wp_cond_false hev (ihy _ Q ι a w (hM.setTmp hc) h)
  . exact h.elim
 | block id c ih =>
  intro σ Q ι a w hM h
  refine wp_block (wp_mono (ih σ _ ι a w hM h) ?_)
  intro e a' w' hq
  cases e with
  | normal => exact hq
  | exit i =>
   obtain ⟨ι', σ', hM', h'⟩ := hq
   show if i = id then _ else _
   simp only at h'
   split at h'
   . rename_i hb
     rw [if_pos (Nat.eq_of_beq_eq_true hb)]
     exact ⟨ι', σ', hM', h'⟩
   . rename_i hb
     rw [if_neg (λ e => by subst e; simp at hb)]
     exact ⟨ι', σ', hM', h'⟩
  | ret => exact hq
  | goto l => exact hq
  | panic ch => exact hq
  | outgrown => exact hq
 | loop c ih =>
  intro σ Q ι a w hM h
  simp only [VC] at h
  split at h
  . rename_i l hl
    obtain ⟨⟨x, hx, hm⟩, hall⟩ := h
    obtain ⟨ι2, hM2, _⟩ := mQ hM hm
    refine wp_loop_ghost (λ n a w => ∃ x ι, l.inv x /\ l.mu x = n /\ aJ B ι (l.st x) a w) (l.mu x) ⟨x, ι2, hx, rfl, hM2⟩ ?_
    rintro n a' w' ⟨x', ι', hx', rfl, hM'⟩
    refine wp_mono (ih _ _ ι' a' w' hM' (hall x' hx')) ?_
    intro e a'' w'' hq
    cases e with
    | normal =>
     obtain ⟨ι3, σ3, hM3, y, hy, hlt, hmy⟩ := hq
     obtain ⟨ι4, hM4, _⟩ := mQ hM3 hmy
     exact ⟨l.mu y, hlt, y, ι4, hy, rfl, hM4⟩
    | exit id => exact hq
    | ret => exact hq
    | goto l => exact hq
    | panic ch => exact hq
    | outgrown => exact hq
  . split at h
    . rename_i l hl
      obtain ⟨I, mu, hm, hall⟩ := h
      obtain ⟨x, ι2, hx, hM2⟩ := FJ hM hm
      refine wp_loop_ghost (λ n a w => ∃ x ι, I x /\ mu x = n /\ aJ B ι (l.st x) a w) (mu x) ⟨x, ι2, hx, rfl, hM2⟩ ?_
      rintro n a' w' ⟨x', ι', hx', rfl, hM'⟩
      refine wp_mono (ih _ _ ι' a' w' hM' (hall x' hx')) ?_
      intro e a'' w'' hq
      cases e with
      | normal =>
       obtain ⟨ι3, σ3, hM3, hmy⟩ := hq
       obtain ⟨y, ι4, hy, hlt, hM4⟩ := MS hM3 hmy
       exact ⟨mu y, hlt, y, ι4, hy, rfl, hM4⟩
      | exit id => exact hq
      | ret => exact hq
      | goto l => exact hq
      | panic ch => exact hq
      | outgrown => exact hq
    . exact h.elim
end
end Go.Vc
namespace Go.Vc
open Go
section
variable {B : qR} {C : Ctx} {ι : Nat -> Value} {σ : St} {a : Act} {w : World}
def Kf (tmps : Array Value) : ResultVar -> Sem Value
 | .tmp t => pure (tmps.getD t undef)
 | .cell a t => do loadVar t (<- asAddr (tmps.getD a undef))
theorem Na (fn : Func) (tmps : Array Value) : results fn tmps = (do let vs <- fn.results.mapM (Kf tmps); pure (if h : vs.size = 1 then vs[0] else .tuple vs)) := by
 unfold results
 congr 1
theorem K7 (hM : aJ B ι σ a w) {r : ResultVar} {x : SV} (h : Oq C σ r = some x) : ∃ v, (Kf a.tmps r).run C.P w = .ok v w /\ Den ι x v := by
 cases r with
 | tmp t =>
  simp only [Oq, Option.some.injEq] at h
  subst h
  exact ⟨_, rfl, hM.ev (.tmp t)⟩
 | cell ad T =>
  have hev := hM.ev (.tmp ad)
  simp only [Oq] at h
  split at h
  . rename_i k off hx
    rw [hx] at hev
    split at h
    . rename_i T' cs hk
      split at h
      . rename_i hle hT
        have hle := Nat.le_of_ble_eq_true hle
        simp only [Option.some.injEq] at h
        subst h
        obtain ⟨b, vs, hι, hh, hd⟩ := sH hM hk
        obtain ⟨b', hb', hp⟩ := hev
        rw [hι] at hb'
        simp only [Value.pointer.injEq, Option.some.injEq, Addr.mk.injEq] at hb'
        obtain ⟨rfl, -, -⟩ := hb'
        have hd' := (hd.drop off).take (C.P.cellsOf T)
        have hvs : cs.length = vs.toList.length := hd.length
        have hl := zX (w := w) (b := b) (off := off) (cs := (vs.toList.drop off).take (C.P.cellsOf T)) hT (by simp at hvs ⊢; omega) (λ j v hv => by rw [cell_of_heap hh]; exact uU hv)
        refine ⟨_, ?_, Ff hd'⟩
        have hp' : a.tmps.getD ad undef = .pointer (some ⟨b, off, none⟩) := hp
        simp only [Kf, hp', asAddr, Sem.run_bind, Sem.run_pure, Result.andThen_ok, hl]
      . cases h
    . cases h
  . cases h
theorem DX (hM : aJ B ι σ a w) : ∀ (l : List ResultVar) (xs : List SV), EH C σ l = some xs -> ∃ vs, (l.mapM (Kf a.tmps)).run C.P w = .ok vs w /\ oF ι xs vs
 | [], xs, h => by
  simp [EH] at h; subst h
  exact ⟨[], by simp, trivial⟩
 | r :: l, xs, h => by
  simp only [EH] at h
  split at h
  . rename_i x xs' hx hxs
    simp only [Option.some.injEq] at h
    subst h
    obtain ⟨v, hv, hd⟩ := K7 hM hx
    obtain ⟨vs, hvs, hds⟩ := DX hM l xs' hxs
    exact ⟨v :: vs, by simp [List.mapM_cons, hv, hvs], hd, hds⟩
  . cases h
theorem uK (hM : aJ B ι σ a w) {mv : Bool} : ∀ (xs : List SV) (ts : List TypeId) (rs : List CV) (vs : List Value), AW C.P σ mv xs ts = some rs -> oF ι xs vs ->
 rs.length = vs.length /\ (mv = false -> rs = vs.map .val) /\ ∀ (i : Nat) (r : CV) (v : Value), rs[i]? = some r -> vs[i]? = some v -> DJ w r v /\ ∀ b, iY r v = some b -> ∃ k ow, nth σ.own k = some (some ow) /\ blk (ι k) = some b
 | [], ts, rs, [], h, _ => by
  simp [AW] at h; subst h
  exact ⟨rfl, λ _ => rfl, λ i r v hr => by simp at hr⟩
 | [], _, _, _ :: _, _, hd => hd.elim
 | x :: xs, _, _, [], _, hd => hd.elim
 | x :: xs, ts, rs, v :: vs, h, hd => by
  simp only [AW] at h
  split at h
  . cases h
  . rename_i l hl
    obtain ⟨ih1, ih2, ih3⟩ := uK hM xs ts.tail l vs hl hd.2
    have fin : ∀ (c0 : CV), rs = c0 :: l -> (mv = false -> c0 = .val v) -> DJ w c0 v -> (∀ b, iY c0 v = some b -> ∃ k ow, nth σ.own k = some (some ow) /\ blk (ι k) = some b) ->
     rs.length = (v :: vs).length /\ (mv = false -> rs = (v :: vs).map .val) /\ ∀ (i : Nat) (r : CV) (u : Value), rs[i]? = some r -> (v :: vs)[i]? = some u -> DJ w r u /\ ∀ b, iY r u = some b -> ∃ k ow, nth σ.own k = some (some ow) /\ blk (ι k) = some b := by
     intro c0 hrs h1 h2 h3
     subst hrs
     refine ⟨by simp [ih1], λ hm => by rw [h1 hm, ih2 hm]; rfl, λ i r u hr hu => ?_⟩
     cases i with
     | zero => simp at hr hu; subst hr hu; exact ⟨h2, h3⟩
     | succ i => simp only [List.getElem?_cons_succ] at hr hu; exact ih3 i r u hr hu
    split at h
    . split at h
      . rename_i k
        have hv : v = ι k := hd.1
        split at h
        . rename_i E sz ys hk
          simp only [Option.some.injEq] at h
          obtain ⟨hr, ho⟩ := nZ hM hk
          exact fin _ h.symm (λ e => by cases e) ⟨hr, by rw [hv]; exact ho⟩ (λ b hb => ⟨k, _, hk, by rw [<- hv]; exact hb⟩)
        . cases h
      . have hv : v = .slice none 0 0 := hd.1
        split at h
        . rename_i E z hE
          simp only [Option.some.injEq] at h
          refine fin _ h.symm (λ e => by cases e) ⟨yQ _, by rw [hv]; exact World.ownsRow_nil w 0 E _⟩ (λ b hb => ?_)
          rw [hv] at hb
          simp [iY, blk] at hb
        . cases h
      . cases h
    . split at h
      . rename_i u hu
        simp only [Option.some.injEq] at h
        have hv := (hd.1).val? hu
        exact fin _ h.symm (λ _ => by rw [hv]) hv (λ b hb => by simp [iY] at hb)
      . cases h
theorem EG (hM : aJ B ι σ a w) {fn : Func} {K : CV -> MH -> PH -> Prop} (h : BK C fn K σ) :
 ∃ u, (results fn a.tmps).run C.P w = .ok u w /\ ∃ r m' h', K r m' h' /\ DJ w r u /\ yM B m' h' w /\ ∀ b, iY r u = some b -> (B.w0.heap.size <= b \/ B.E b) /\ m' b = none /\ ∀ i, h' b i = none := by
 unfold BK at h
 split at h
 . exact h.elim
 . rename_i xs hxs
   obtain ⟨τ', hMτ', h, _⟩ := lI _ _ hM h
   obtain ⟨τ, hMτ, h, _⟩ := vH _ _ hMτ' h
   split at h
   . exact h.elim
   . rename_i ys hys
     obtain ⟨vs, hvs, hds⟩ := DX hMτ _ _ hys
     have hres : (results fn a.tmps).run C.P w = .ok (if h : vs.toArray.size = 1 then vs.toArray[0] else .tuple vs.toArray) w := by
      rw [Na, Array.mapM_eq_mapM_toList]
      simp [hvs]
     have blocks : ∀ (rs : List CV) (r : CV) (v : Value), AW C.P τ C.retMove ys fn.resultTypes.toList = some rs -> (∃ i : Nat, rs[i]? = some r /\ vs[i]? = some v) -> DJ w r v /\ ∀ b, iY r v = some b -> (B.w0.heap.size <= b \/ B.E b) /\ τ.m b = none /\ ∀ i, τ.h b i = none := by
      rintro rs r v hrs ⟨i, hr, hv⟩
      obtain ⟨_, _, h3⟩ := uK hMτ _ _ _ _ hrs hds
      obtain ⟨h4, h5⟩ := h3 i r v hr hv
      refine ⟨h4, λ b hb => ?_⟩
      obtain ⟨k, ow, hk, hbk⟩ := h5 b hb
      exact hMτ.fresh k ow b hk hbk
     split at h
     . rename_i r hr
       obtain ⟨hlen, _, _⟩ := uK hMτ _ _ _ _ hr hds
       simp at hlen
       obtain ⟨v, rfl⟩ : ∃ v, vs = [v] := by
        match vs, hlen with
        | [v], _ => exact ⟨v, rfl⟩
       obtain ⟨h4, h5⟩ := blocks _ r v hr ⟨0, rfl, rfl⟩
       refine ⟨v, by simpa using hres, r, τ.m, τ.h, h, h4, hMτ.wrel, h5⟩
     . rename_i rs hne hrs
       split at h
       . exact h.elim
       . rename_i hmv
         obtain ⟨hlen, hval, _⟩ := uK hMτ _ _ _ _ hrs hds
         have hnl : vs.length ≠ 1 := by
          intro e
          rw [e] at hlen
          match rs, hlen with
          | [r], _ => exact hne r rfl
         refine ⟨.tuple vs.toArray, by rw [hres, dif_neg (by simpa using hnl)], .tup rs, τ.m, τ.h, h, ⟨vs.toArray, rfl, by simpa using hval hmv⟩, hMτ.wrel, λ b hb => by simp [iY] at hb⟩
     . exact h.elim
def Hh (n : Nat) (cvs : List CV) (vs : List Value) (k : Nat) : Value :=
 match cvs[k - n]?, vs[k - n]? with
 | some (.lst _ _ _), some v => v
 | _, _ => .slice none 0 0
theorem zE {w : World} : ∀ {cvs : List CV} {vs : List Value}, DK w cvs vs -> cvs.length = vs.length /\ ∀ (i : Nat) (c : CV) (v : Value), cvs[i]? = some c -> vs[i]? = some v -> DJ w c v
 | [], [], _ => ⟨rfl, λ i c v h => by simp at h⟩
 | c :: cs, v :: vs, h => by
  obtain ⟨h1, h2⟩ := zE h.2
  refine ⟨by simp [h1], λ i c' v' hc hv => ?_⟩
  cases i with
  | zero => simp at hc hv; subst hc hv; exact h.1
  | succ i => simp at hc hv; exact h2 i c' v' hc hv
 | [], _ :: _, h => h.elim
 | _ :: _, [], h => h.elim
theorem F0 {n : Nat} {all : List CV} {avs : List Value} {w : World} : ∀ (i : Nat) (cvs : List CV) (vs : List Value), DK w cvs vs -> (∀ j : Nat, cvs[j]? = all[i + j]?) -> (∀ j : Nat, vs[j]? = avs[i + j]?) ->
 oF (Hh n all avs) (CZ n i cvs) vs
 | i, [], [], _, _, _ => trivial
 | i, c :: cvs, v :: vs, h, h1, h2 => by
  have ih := F0 (n := n) (all := all) (avs := avs) (i + 1) cvs vs h.2 (λ j => by have := h1 (j + 1); simp only [List.getElem?_cons_succ] at this; rw [this]; congr 1; omega) (λ j => by have := h2 (j + 1); simp only [List.getElem?_cons_succ] at this; rw [this]; congr 1; omega)
  cases c with
  | val u => exact ⟨h.1, ih⟩
  | lst E sz xs =>
   refine ⟨?_, ih⟩
   show v = Hh n all avs (n + i)
   have e1 := h1 0
   have e2 := h2 0
   simp at e1 e2
   unfold Hh
   rw [show n + i - n = i by omega, <- e1, <- e2]
  | tup rs => exact ⟨trivial, ih⟩
 | i, [], _ :: _, h, _, _ => h.elim
 | i, _ :: _, [], h, _, _ => h.elim
theorem Ek : ∀ (cvs : List CV) (k : Nat) (o : Own), nth (wS cvs) k = some (some o) -> ∃ E sz xs, cvs[k]? = some (.lst E sz xs) /\ o = .lst E sz xs
 | [], k, o, h => by simp [wS, nth] at h
 | c :: cvs, 0, o, h => by
  cases c <;> simp [wS, nth] at h
  rename_i E sz xs
  exact ⟨E, sz, xs, rfl, h.symm⟩
 | c :: cvs, k + 1, o, h => by
  have : nth (wS cvs) k = some (some o) := by cases c <;> simpa [wS, nth] using h
  obtain ⟨E, sz, xs, h1, h2⟩ := Ek cvs k o this
  exact ⟨E, sz, xs, by simpa using h1, h2⟩
theorem Jr {ι : Nat -> Value} : ∀ (n : Nat) (vs : List Value), vs.length = n -> oF ι (List.replicate n (.at .junk)) vs
 | 0, [], _ => trivial
 | n + 1, v :: vs, h => ⟨trivial, Jr n vs (by simpa using h)⟩
 | 0, _ :: _, h => by simp at h
 | _ + 1, [], h => by simp at h
theorem oF.append {ι : Nat -> Value} : ∀ {xs xs' : List SV} {vs vs' : List Value}, oF ι xs vs -> oF ι xs' vs' -> oF ι (xs ++ xs') (vs ++ vs')
 | [], _, [], _, _, h' => by simpa using h'
 | _ :: _, _, _ :: _, _, h, h' => ⟨h.1, oF.append h.2 h'⟩
 | [], _, _ :: _, _, h, _ => h.elim
 | _ :: _, _, [], _, h, _ => h.elim
theorem Ej {w : World} {m : MH} {h : PH} {cvs : List CV} {vs : List Value} (n : Nat) (hp : C3 w m h cvs vs) :
 aJ ⟨w, zK m cvs vs, h, []⟩ (Hh n cvs vs) (entry n cvs m h) { tmps := vs.toArray ++ Array.replicate (n - vs.toArray.size) undef, defers := [] } w := by
 obtain ⟨hlen, hget⟩ := zE hp.args
 have hown : ∀ k o, nth (entry n cvs m h).own k = some (some o) -> n <= k /\ ∃ E sz xs, cvs[k - n]? = some (.lst E sz xs) /\ o = .lst E sz xs /\ ∃ v, vs[k - n]? = some v /\ Hh n cvs vs k = v /\ DJ w (.lst E sz xs) v := by
  intro k o hk
  simp only [entry] at hk
  rw [iC] at hk
  by_cases hkn : k < n
  . rw [List.getElem?_append_left (by simpa using hkn)] at hk
    simp [hkn] at hk
  . rw [List.getElem?_append_right (by simpa using Nat.le_of_not_lt hkn)] at hk
    simp only [List.length_replicate] at hk
    rw [<- iC] at hk
    obtain ⟨E, sz, xs, h1, h2⟩ := Ek cvs (k - n) o hk
    have hlt : k - n < vs.length := by
     rw [<- hlen]; exact (List.getElem?_eq_some_iff.1 h1).1
    have hv : vs[k - n]? = some vs[k - n] := List.getElem?_eq_getElem hlt
    refine ⟨by omega, E, sz, xs, h1, h2, _, hv, ?_, hget _ _ _ h1 hv⟩
    unfold Hh
    rw [h1, hv]
 refine ⟨?_, rfl, ?_, ?_, ?_, ?_, ?_⟩
 . have h1 := F0 (n := n) (all := cvs) (avs := vs) 0 cvs vs hp.args (λ j => by simp) (λ j => by simp)
   show oF _ (CZ n 0 cvs ++ List.replicate (n - cvs.length) (.at .junk)) _
   have : (vs.toArray ++ Array.replicate (n - vs.toArray.size) undef).toList = vs ++ List.replicate (n - vs.length) undef := by simp
   rw [this]
   exact h1.append (Jr _ _ (by simp [hlen]))
 . intro k o hk
   obtain ⟨hkn, E, sz, xs, h1, rfl, v, hv, hι, hok⟩ := hown k o hk
   rw [hι]
   exact hok
 . intro k k' o o' b hk hk' hb hb'
   obtain ⟨hkn, E, sz, xs, h1, rfl, v, hv, hι, hok⟩ := hown k o hk
   obtain ⟨hkn', E', sz', xs', h1', rfl, v', hv', hι', hok'⟩ := hown k' o' hk'
   rw [hι] at hb
   rw [hι'] at hb'
   have := hp.sep (k - n) (k' - n) _ _ v v' b h1 hv h1' hv' hb hb'
   omega
 . intro k o b hk hb
   obtain ⟨hkn, E, sz, xs, h1, rfl, v, hv, hι, hok⟩ := hown k o hk
   rw [hι] at hb
   obtain ⟨f1, f2⟩ := hp.free (k - n) _ v b h1 hv hb
   exact ⟨.inr (.inr ⟨k - n, _, v, h1, hv, hb⟩), f1, f2⟩
 . refine ⟨rfl, rfl, rfl, Nat.le_refl _, λ _ _ _ => rfl, hp.hsat, hp.msat, hp.disj, λ _ _ _ h => h, λ _ _ _ => rfl, λ b ob hb => .inr (.inl (by have hb : m b = some ob := hb; rw [hb]; simp))⟩
 . intro k
   unfold Hh
   split
   . rename_i E sz xs v h1 h2
     exact FP (hget _ _ _ h1 h2).2
   . rfl
theorem aI {P : Program} {f : FuncId} {fn : Func} {c : Code} (hf : P.funcs[f]? = some fn) (hb : fn.body = some c) (hname : (fn.name == "runtime.NumGoroutine") = false) {S : Spec}
 (hvc : ∀ cvs m h K, S cvs m h K -> ∃ C : Ctx, C.P = P /\ (∀ g S, assoc C.specs g = some S -> Sound P g S) /\ cG C fn c (entry fn.ntmps cvs m h) K) : Sound P f S := by
 refine ⟨⟨fn, hf, by rw [hb]; rfl, hname⟩, ?_⟩
 intro cvs vs m h w K hS hp
 obtain ⟨C, rfl, hspecs, hv⟩ := hvc cvs m h K hS
 refine calls_of_wp hf hb ?_
 refine wp_mono (GA hspecs c _ _ _ _ w (Ej fn.ntmps hp) hv) ?_
 intro e a' w' hq
 have key : (∃ ι σ, aJ ⟨w, zK m cvs vs, h, []⟩ ι σ a' w' /\ BK C fn K σ) -> a'.defers = [] /\ ∃ v, (results fn a'.tmps).run C.P w' = .ok v w' /\ ∃ r u m' h', Ending.returned v = .returned u /\ K r m' h' /\ DJ w' r u /\ yM ⟨w, zK m cvs vs, h, []⟩ m' h' w' /\
  ∀ b, iY r u = some b -> (w.heap.size <= b \/ zK m cvs vs b) /\ m' b = none /\ ∀ i, h' b i = none := by
  rintro ⟨ι, σ, hM, hr⟩
  obtain ⟨u, hu, r, m', h', h1, h2, h3, h4⟩ := EG hM hr
  exact ⟨hM.defers, u, hu, r, u, m', h', rfl, h1, h2, h3, h4⟩
 cases e with
 | normal => exact key hq
 | ret => exact key hq
 | exit id => obtain ⟨_, _, _, h⟩ := hq; exact h.elim
 | goto l => exact hq.elim
 | panic ch => exact hq.elim
 | outgrown => exact hq.elim
theorem gC {P : Program} {f : FuncId} {fn : Func} {c : Code} (hf : P.funcs[f]? = some fn) (hb : fn.body = some c) (hname : (fn.name == "runtime.NumGoroutine") = false) {S : Spec}
 (hvc : ∀ cvs m h K, S cvs m h K -> ∃ C : Ctx, C.P = P /\ (∀ g S, assoc C.specs g = some S -> Sound P g S) /\ cG C fn c (entry fn.ntmps cvs m h) (λ r m' h' => ∃ m2 h2, (∀ b o, m2 b = some o -> m' b = some o) /\ PH.le h h2 /\ PH.le h2 h' /\ K r m2 h2)) : Sound P f S := by
 have h0 := aI hf hb hname (S := λ cvs m h K => ∃ K', S cvs m h K' /\ K = λ r m' h' => ∃ m2 h2, (∀ b o, m2 b = some o -> m' b = some o) /\ PH.le h h2 /\ PH.le h2 h' /\ K' r m2 h2) (by
  rintro cvs m h K ⟨K', hS, rfl⟩
  exact hvc cvs m h K' hS)
 refine ⟨h0.1, λ cvs vs m h w K hS hp => ?_⟩
 refine (h0.2 cvs vs m h w _ ⟨K, hS, rfl⟩ hp).mono ?_
 rintro e w' ⟨r, u, m', h', he, ⟨m2, h2, k1, k2, k3, hK⟩, hok, hw, hfr⟩
 have hnone : ∀ b i, h' b i = none -> h2 b i = none := by
  intro b i e
  cases e2 : h2 b i with
  | none => rfl
  | some v => rw [k3.le b i v e2] at e; cases e
 refine ⟨r, u, m2, h2, he, hK, hok, ?_, λ b hb => ?_⟩
 . refine ⟨hw.tape, hw.os, hw.output, hw.size, hw.frame, λ b o v e => hw.hsat b o v (k3.le b o v e), λ b o e => hw.msat b o (k1 b o e), λ b o e i => hnone b i (hw.disj b o (k1 b o e) i), k2.le, λ b h1 h2' => ?_, λ b o e => hw.mfr b o (k1 b o e)⟩
   funext i
   have e := congrFun (hw.hold b h1 h2') i
   show h2 b i = h b i
   cases e2 : h b i with
   | some v => exact (k2.le b i v e2)
   | none => exact hnone b i (by rw [e]; exact e2)
 . obtain ⟨f1, f2, f3⟩ := hfr b hb
   refine ⟨f1, ?_, λ i => hnone b i (f3 i)⟩
   cases e2 : m2 b with
   | none => rfl
   | some o => rw [k1 b o e2] at f2; cases f2
def BD (h : PH) (K : CV -> MH -> PH -> Prop) : CV -> MH -> PH -> Prop := λ r m' h' => (∀ b o, m' b = some o -> ∀ i, h' b i = none) -> ∃ m2 h2, (∀ b o, m2 b = some o -> m' b = some o) /\ PH.le h h2 /\
 (∀ b i v, h2 b i = some v -> h' b i = some v \/ ∃ cs E fz, m' b = some (.cells cs E fz) /\ cs[i]? = some v /\ m2 b = none) /\ K r m2 h2
theorem IH {P : Program} {f : FuncId} {fn : Func} {c : Code} (hf : P.funcs[f]? = some fn) (hb : fn.body = some c) (hname : (fn.name == "runtime.NumGoroutine") = false) {S : Spec}
 (hvc : ∀ cvs m h K, S cvs m h K -> ∃ C : Ctx, C.P = P /\ (∀ g S, assoc C.specs g = some S -> Sound P g S) /\ cG C fn c (entry fn.ntmps cvs m h) (BD h K)) : Sound P f S := by
 have h0 := aI hf hb hname (S := λ cvs m h K => ∃ K', S cvs m h K' /\ K = BD h K') (by
  rintro cvs m h K ⟨K', hS, rfl⟩
  exact hvc cvs m h K' hS)
 refine ⟨h0.1, λ cvs vs m h w K hS hp => ?_⟩
 refine (h0.2 cvs vs m h w _ ⟨K, hS, rfl⟩ hp).mono ?_
 rintro e w' ⟨r, u, m', h', he, hStr, hok, hw, hfr⟩
 obtain ⟨m2, h2, k1, k2, k3, hK⟩ := hStr hw.disj
 refine ⟨r, u, m2, h2, he, hK, hok, ?_, λ b hb => ?_⟩
 . refine ⟨hw.tape, hw.os, hw.output, hw.size, hw.frame, λ b o v e => ?_, λ b o e => hw.msat b o (k1 b o e), λ b o e i => ?_, k2.le, λ b h1 h2' => ?_, λ b o e => hw.mfr b o (k1 b o e)⟩
   . rcases k3 b o v e with h3 | ⟨cs, E, fz, h3, h4, _⟩
     . exact hw.hsat b o v h3
     . rw [cell_of_heap (hw.msat b _ h3), Array.getElem?_toList]; exact h4
   . cases e2 : h2 b i with
     | none => rfl
     | some v =>
      rcases k3 b i v e2 with h3 | ⟨cs, E, fz, h3, h4, h5⟩
      . rw [hw.disj b o (k1 b o e) i] at h3; cases h3
      . rw [h5] at e; cases e
   . funext i
     have e := congrFun (hw.hold b h1 h2') i
     show h2 b i = h b i
     cases e2 : h b i with
     | some v => exact (k2.le b i v e2)
     | none =>
      cases e3 : h2 b i with
      | none => rfl
      | some v =>
       rcases k3 b i v e3 with h3 | ⟨cs, E, fz, h3, h4, h5⟩
       . rw [e] at h3
         have : h b i = some v := h3
         rw [e2] at this; cases this
       . rcases hw.mfr b _ h3 with h6 | h6
         . have h6 : w.heap.size <= b := h6
           have h1 : b < w.heap.size := h1
           omega
         . exact (h2' h6).elim
 . obtain ⟨f1, f2, f3⟩ := hfr b hb
   refine ⟨f1, ?_, λ i => ?_⟩
   . cases e2 : m2 b with
     | none => rfl
     | some o => rw [k1 b o e2] at f2; cases f2
   . cases e2 : h2 b i with
     | none => rfl
     | some v =>
      rcases k3 b i v e2 with h3 | ⟨cs, E, fz, h3, _, _⟩
      . rw [f3 i] at h3; cases h3
      . rw [f2] at h3; cases h3
end
end Go.Vc
namespace Go.Vc
open Go
theorem aB {c : Bool} {A B : Prop} (h1 : c = true -> A) (h2 : c = false -> B) : branch c A B := by
 cases c
 . exact h2 rfl
 . exact h1 rfl
theorem aC {p : Prop} [Decidable p] {A B : Prop} (h1 : p -> A) (h2 : ¬p -> B) : branch (decide p) A B :=
 aB (λ h => h1 (of_decide_eq_true h)) (λ h => h2 (of_decide_eq_false h))
theorem dP {n : Int} (h1 : -9223372036854775808 <= n) (h2 : n < 9223372036854775808) : IntKind.i64.wrap n = n := by
 rw [IntKind.wrap_i64]; omega
theorem bI.of_m {m : MH} {h : PH} {b off : Nat} {cs : Array Value} {E : TypeId} {fz : Nat × Nat} {l : List Value} (hm : m b = some (.cells cs E fz)) (hl : (cs.toList.drop off).take l.length = l) : bI m h b off l := .lent cs E fz hm hl
end Go.Vc
namespace Go.Ps
open Go Go.Vc Go.Proofs
variable {K : CV -> MH -> PH -> Prop} {m : MH} {h : PH} {ps : List Int} {cb : Nat} {l : List Int} {i : Nat} {N : Nat} {m' : MH} {h' : PH} {co : List Int} {gr : List Int} {od : List (Int × Bool)} {ta : Int} {li : Int} {xs : List (List Value)} {sz : Nat} {k : Nat} {ks : List (List Int)} {rs : List Int} {r : Sl} {a : List Int} {b : Nat}
structure VV where
 kind : Int
 int : Int
 text : ByteArray
structure OV where
 kind : Int
 index : Int
 value : VV
structure PV where
 op : Int
 cmp : Int
 left : OV
 right : OV
 args : Sl
structure QV where
 op : Int
 table : Int
 where_ : PV
 columns : Sl
 on : Sl
 group : Sl
 order : Sl
 limit : Int
 args : Sl
variable {v : QV}
structure eO where
 op : Int
 table : Int
 where_ : PV
 columns : Sl
 on : Sl
 group : Sl
 order : Sl
 limit : Int
 left : Int
 right : Int
structure oG where
 name : ByteArray
 kind : Int
structure BE where
 columns : Sl
 table : Int
structure dJ where
 name : ByteArray
 columns : Sl
 key : Int
 references : Sl
 checks : Sl
structure bH where
 version : Int
 tables : Sl
variable {sc : bH}
abbrev cZ (n : Int) : Value := .int .i64 n
abbrev nG (s : Sl) : Value := .slice s.a s.len s.cap
abbrev j7 : Value := .slice none 0 0
abbrev DL : Value := .string ⟨⟨[]⟩⟩
abbrev WT (b o : Nat) : Value := .pointer (some ⟨b, o, none⟩)
abbrev bL (n : Int) : At := .val (.int .i64 n)
abbrev gI (s : Sl) : At := .val (.slice s.a s.len s.cap)
abbrev uQ : At := .val (.slice none 0 0)
abbrev yL : At := .val (.string ⟨⟨[]⟩⟩)
abbrev jD (n : Int) : SV := .at (.val (.int .i64 n))
abbrev wO (s : Sl) : SV := .at (.val (.slice s.a s.len s.cap))
abbrev UR : SV := .at (.val (.slice none 0 0))
abbrev WZ (b o : Nat) : SV := .at (.ptr b o)
abbrev Qs (b o : Nat) : SV := .at (.val (.pointer (some ⟨b, o, none⟩)))
abbrev W2 (b : Bool) : SV := .at (.val (.bool b))
abbrev W0 (k : Nat) : SV := .at (.lst k)
abbrev fS (n : Int) : CV := .val (.int .i64 n)
abbrev uS (b : Bool) : CV := .val (.bool b)
abbrev dO (s : Sl) : CV := .val (.slice s.a s.len s.cap)
abbrev Fj : CV := .val (.slice none 0 0)
abbrev zN (b o : Nat) : CV := .val (.pointer (some ⟨b, o, none⟩))
abbrev kK (l : List Value) : CV := .val (.agg ⟨l⟩)
abbrev oQ (T : TypeId) (l : List At) : Option Own := some (.cells T l)
abbrev eQ {α : Type} (x : α) : Prop := x = x
abbrev eP (k : Nat) : Prop := WZ k 0 = WZ k 0
abbrev eL (k : Nat) : Prop := W0 k = W0 k
abbrev Jv (s : ByteArray) : At := .val (.string s)
abbrev zQ : List At := [bL 0, bL 0, bL 0, bL 0, bL 0, bL 0, bL 0, bL 0, yL, bL 0, bL 0, bL 0, bL 0, yL, uQ, uQ, uQ, uQ, uQ, bL 0, uQ]
abbrev zP : List At := [bL 0, bL 0, bL 0, bL 0, bL 0, bL 0, yL, bL 0, bL 0, bL 0, bL 0, yL, uQ]
def eI (n : Int) : List Value := [.int .i64 n]
def eS (s : Sl) : List Value := [.slice s.a s.len s.cap]
def VV.enc (v : VV) : List Value := [.int .i64 v.kind, .int .i64 v.int, .string v.text]
def OV.enc (o : OV) : List Value := [.int .i64 o.kind, .int .i64 o.index, .int .i64 o.value.kind, .int .i64 o.value.int, .string o.value.text]
def PV.enc (p : PV) : List Value :=
 [.int .i64 p.op, .int .i64 p.cmp,
  .int .i64 p.left.kind, .int .i64 p.left.index, .int .i64 p.left.value.kind, .int .i64 p.left.value.int, .string p.left.value.text,
  .int .i64 p.right.kind, .int .i64 p.right.index, .int .i64 p.right.value.kind, .int .i64 p.right.value.int, .string p.right.value.text,
  .slice p.args.a p.args.len p.args.cap]
def QV.enc (q : QV) : List Value :=
 [.int .i64 q.op, .int .i64 q.table,
  .int .i64 q.where_.op, .int .i64 q.where_.cmp,
  .int .i64 q.where_.left.kind, .int .i64 q.where_.left.index, .int .i64 q.where_.left.value.kind, .int .i64 q.where_.left.value.int, .string q.where_.left.value.text,
  .int .i64 q.where_.right.kind, .int .i64 q.where_.right.index, .int .i64 q.where_.right.value.kind, .int .i64 q.where_.right.value.int, .string q.where_.right.value.text,
  .slice q.where_.args.a q.where_.args.len q.where_.args.cap,
  .slice q.columns.a q.columns.len q.columns.cap, .slice q.on.a q.on.len q.on.cap, .slice q.group.a q.group.len q.group.cap, .slice q.order.a q.order.len q.order.cap,
  .int .i64 q.limit, .slice q.args.a q.args.len q.args.cap]
def eO.enc (q : eO) : List Value :=
 [.int .i64 q.op, .int .i64 q.table,
  .int .i64 q.where_.op, .int .i64 q.where_.cmp,
  .int .i64 q.where_.left.kind, .int .i64 q.where_.left.index, .int .i64 q.where_.left.value.kind, .int .i64 q.where_.left.value.int, .string q.where_.left.value.text,
  .int .i64 q.where_.right.kind, .int .i64 q.where_.right.index, .int .i64 q.where_.right.value.kind, .int .i64 q.where_.right.value.int, .string q.where_.right.value.text,
  .slice q.where_.args.a q.where_.args.len q.where_.args.cap,
  .slice q.columns.a q.columns.len q.columns.cap, .slice q.on.a q.on.len q.on.cap, .slice q.group.a q.group.len q.group.cap, .slice q.order.a q.order.len q.order.cap,
  .int .i64 q.limit, .int .i64 q.left, .int .i64 q.right]
def oG.enc (c : oG) : List Value := [.string c.name, .int .i64 c.kind]
def BE.enc (r : BE) : List Value := [.slice r.columns.a r.columns.len r.columns.cap, .int .i64 r.table]
def dJ.enc (t : dJ) : List Value := [.string t.name, .slice t.columns.a t.columns.len t.columns.cap, .int .i64 t.key, .slice t.references.a t.references.len t.references.cap, .slice t.checks.a t.checks.len t.checks.cap]
def bH.enc (s : bH) : List Value := [.int .i64 s.version, .slice s.tables.a s.tables.len s.tables.cap]
abbrev zV : List Value := [cZ 0, cZ 0, cZ 0, cZ 0, cZ 0, cZ 0, cZ 0, cZ 0, DL, cZ 0, cZ 0, cZ 0, cZ 0, DL, j7, j7, j7, j7, j7, cZ 0, j7]
abbrev pQ (p : PV) (r : List At) : List At := bL p.op :: bL p.cmp :: bL p.left.kind :: bL p.left.index :: bL p.left.value.kind :: bL p.left.value.int :: Jv p.left.value.text :: bL p.right.kind :: bL p.right.index :: bL p.right.value.kind :: bL p.right.value.int :: Jv p.right.value.text :: gI p.args :: r
abbrev qQ (q : QV) (x : At) : List At := bL q.op :: bL q.table :: pQ q.where_ [gI q.columns, gI q.on, gI q.group, gI q.order, bL q.limit, x]
def pM (p : Int × Int) : List Value := [.int .i64 p.1, .int .i64 p.2]
def xS (p : Int × Bool) : List Value := [.int .i64 p.1, .bool p.2]
def dI : UI := ⟨Int, eI⟩
def dS : UI := ⟨Sl, eS⟩
def dB : UI := ⟨Bool, λ b => [.bool b]⟩
def W5 : UI := ⟨UInt8, λ b => [.int .u8 b.toNat]⟩
def WU : UI := ⟨ByteArray, λ s => [.string s]⟩
def Wo : Option Nat -> Value
 | none => .nilFunc
 | some f => .func (.func f) #[] #[]
def dF : UI := ⟨Option Nat, λ f => [Wo f]⟩
structure NV where
 s : bH
 params : Sl
 q : QV
 args : Sl
def NV.enc (n : NV) : List Value := n.s.enc ++ eS n.params ++ n.q.enc ++ eS n.args
def dec : TypeId -> UI := λ T => match T with
 | 2 => dI
 | 3 => dI
 | 4 => dB
 | 5 => W5
 | 9 => WU
 | 50 => dI
 | 22 => dS
 | 23 => dS
 | 26 => dS
 | 36 => dS
 | 39 => dS
 | 40 => dS
 | 41 => dS
 | 47 => dS
 | 69 => dS
 | 70 => dS
 | 108 => dS
 | 88 => ⟨Nat, λ b => [.map (some b)]⟩
 | 28 => ⟨bH, bH.enc⟩
 | 33 => ⟨VV, VV.enc⟩
 | 35 => ⟨OV, OV.enc⟩
 | 38 => ⟨PV, PV.enc⟩
 | 43 => ⟨QV, QV.enc⟩
 | 60 => ⟨eO, eO.enc⟩
 | 49 => ⟨Sl × Sl, λ p => [.slice p.1.a p.1.len p.1.cap, .slice p.2.a p.2.len p.2.cap]⟩
 | 72 => ⟨dJ, dJ.enc⟩
 | 78 => ⟨Int × Int, pM⟩
 | 80 => ⟨Int × Bool, xS⟩
 | 84 => ⟨oG, oG.enc⟩
 | 86 => ⟨BE, BE.enc⟩
 | 155 => ⟨NV, NV.enc⟩
 | 156 => dF
 | _ => ⟨Unit, λ _ => []⟩
def aE (f : Func) : Code := match f.body with | some c => c | none => .skip
noncomputable def ctx (specs : List (Nat × Vc.Spec)) (loops : List (Nat × Gw)) (cuts : List (Nat × Og)) (moves : List (Nat × List Nat)) (retMove : Bool) : Ctx :=
 { P := Tryz.prog, loops2 := [], cuts2 := [], rcuts := [], heapT := [], specs := specs, dec := dec, loops := loops, cuts := cuts, moves := moves, retMove := retMove, yield := none }
noncomputable def cO (specs : List (Nat × Vc.Spec)) (loops : List (Nat × sL)) (cuts : List (Nat × sL)) (moves : List (Nat × List Nat)) (retMove : Bool) : Ctx :=
 { P := Tryz.prog, loops2 := loops, cuts2 := cuts, rcuts := [], heapT := [], specs := specs, dec := dec, loops := [], cuts := [], moves := moves, retMove := retMove, yield := none }
noncomputable def WV (specs : List (Nat × Vc.Spec)) (loops : List (Nat × sL)) (cuts : List (Nat × sL)) (rcuts : List (Nat × List (Nat × sL))) (moves : List (Nat × List Nat)) (retMove : Bool) : Ctx :=
 { P := Tryz.prog, loops2 := loops, cuts2 := cuts, rcuts := rcuts, heapT := [], specs := specs, dec := dec, loops := [], cuts := [], moves := moves, retMove := retMove, yield := none }
noncomputable def zD (specs : List (Nat × Vc.Spec)) (loops : List (Nat × sL)) (cuts : List (Nat × sL)) (rcuts : List (Nat × List (Nat × sL))) (heapT : List TypeId) (moves : List (Nat × List Nat)) (retMove : Bool) : Ctx :=
 { P := Tryz.prog, loops2 := loops, cuts2 := cuts, rcuts := rcuts, heapT := heapT, specs := specs, dec := dec, loops := [], cuts := [], moves := moves, retMove := retMove, yield := none }
theorem aH : ∀ g S, assoc ([] : List (Nat × Vc.Spec)) g = some S -> Sound Tryz.prog g S := λ g S h => by simp [assoc] at h
theorem aD {g0 : Nat} {S0 : Vc.Spec} {r : List (Nat × Vc.Spec)} (h0 : Sound Tryz.prog g0 S0) (hr : ∀ g S, assoc r g = some S -> Sound Tryz.prog g S) : ∀ g S, assoc ((g0, S0) :: r) g = some S -> Sound Tryz.prog g S := by
 intro g S h
 simp only [assoc] at h
 split at h
 . rename_i hb
   have := Nat.eq_of_beq_eq_true hb
   subst this
   simp at h
   subst h
   exact h0
 . exact hr g S h
def MM (n : Int) : List UInt8 -> Int × List UInt8
 | [] => (0, [])
 | b :: r => if n < 1 then (0, b :: r) else ((b.toNat : Int) % n, r)
structure Oi (m : MH) (h : PH) (cb : Nat) (r : List UInt8) : Prop where
 ex : ∃ (s : Sl) (cs : List UInt8) (k : Nat), m cb = some (.cells #[.slice s.a s.len s.cap, .int .i64 k] 68 (0, 0)) /\ cW h s 1 (bA cs) /\ k <= cs.length /\ cs.length <= 1000 /\ r = cs.drop k
structure bP (m m' : MH) (cb : Nat) : Prop where
 other : ∀ b, b ≠ cb -> m' b = m b
end Go.Ps
namespace Go.Vc
open Go
theorem PH.le.refl (h : PH) : PH.le h h := ⟨λ _ _ _ e => e⟩
theorem PH.le.trans {h h' h'' : PH} (a : PH.le h h') (b : PH.le h' h'') : PH.le h h'' := ⟨λ x y v e => b.le x y v (a.le x y v e)⟩
theorem cL.mono {h h' : PH} {b o : Nat} {l : List Value} (r : cL h b o l) (le : PH.le h h') : cL h' b o l := ⟨λ i v e => le.le _ _ _ (r.rd i v e)⟩
theorem cW.mono {h h' : PH} {s : Sl} {sz : Nat} {xs : List (List Value)} (r : cW h s sz xs) (le : PH.le h h') : cW h' s sz xs :=
 ⟨r.len, r.row.imp id λ ⟨b, o, e, k⟩ => ⟨b, o, e, λ i x hx => (k i x hx).mono le⟩, r.cap⟩
theorem cW.get {h : PH} {s : Sl} {sz : Nat} {xs : List (List Value)} (r : cW h s sz xs) {i : Nat} {e : List Value} (hi : xs[i]? = some e) :
 ∃ b o, s.a = some ⟨b, o, none⟩ /\ cL h b (o + i * sz) e := by
 rcases r.row with rfl | ⟨b, o, ha, k⟩
 . simp at hi
 . exact ⟨b, o, ha, k i e hi⟩
theorem cW.nil (h : PH) (sz : Nat) : cW h ⟨none, 0, 0⟩ sz [] := ⟨rfl, .inl rfl, Nat.le_refl _⟩
end Go.Vc
namespace Go.Ps
open Go Go.Vc Go.Proofs
variable {K : CV -> MH -> PH -> Prop} {m : MH} {h : PH} {ps : List Int} {cb : Nat} {sc : bH} {v : QV} {l : List Int} {i : Nat} {N : Nat} {m' : MH} {h' : PH} {co : List Int} {gr : List Int} {od : List (Int × Bool)} {ta : Int} {li : Int} {xs : List (List Value)} {sz : Nat} {k : Nat} {ks : List (List Int)} {rs : List Int} {r : Sl} {a : List Int} {b : Nat}
structure aU (h : PH) (s : Sl) (l : List Int) : Prop where
 row : cW h s 1 (l.map eI)
 len : l.length <= 17592186044416
theorem aU.mono {s : Sl} (r : aU h s l) (le : PH.le h h') : aU h' s l := ⟨r.row.mono le, r.len⟩
theorem aU.slen {s : Sl} (r : aU h s l) : s.len = l.length := by have := r.row.len; simpa using this
structure gM (h : PH) (s : Sl) (l : List (Int × Int)) : Prop where
 row : cW h s 2 (l.map pM)
 len : l.length <= 8796093022208
theorem gM.mono {s : Sl} {l : List (Int × Int)} (r : gM h s l) (le : PH.le h h') : gM h' s l := ⟨r.row.mono le, r.len⟩
theorem gM.slen {s : Sl} {l : List (Int × Int)} (r : gM h s l) : s.len = l.length := by have := r.row.len; simpa using this
structure fU (h : PH) (s : Sl) (l : List (Int × Bool)) : Prop where
 row : cW h s 2 (l.map xS)
 len : l.length <= 8796093022208
theorem fU.mono {s : Sl} {l : List (Int × Bool)} (r : fU h s l) (le : PH.le h h') : fU h' s l := ⟨r.row.mono le, r.len⟩
theorem fU.slen {s : Sl} {l : List (Int × Bool)} (r : fU h s l) : s.len = l.length := by have := r.row.len; simpa using this
inductive Pred where
 | mk (op cmp : Int) (left right : OV) (args : List Pred)
variable {p : Pred} {w : Pred}
mutual
def cX (h : PH) : Pred -> PV -> Prop
 | .mk op cmp l r args, v => v.op = op /\ v.cmp = cmp /\ v.left = l /\ v.right = r /\ args.length <= 502633886983 /\ ∃ vs : List PV, cW h v.args 13 (vs.map PV.enc) /\ kZ h args vs
def kZ (h : PH) : List Pred -> List PV -> Prop
 | [], vs => vs = []
 | p :: ps, vs => ∃ v vs', vs = v :: vs' /\ cX h p v /\ kZ h ps vs'
end
mutual
theorem cX.mono {h h' : PH} (le : PH.le h h') : ∀ {p : Pred} {v : PV}, cX h p v -> cX h' p v
 | .mk .., _, ⟨h1, h2, h3, h4, h5, vs, h6, h7⟩ => ⟨h1, h2, h3, h4, h5, vs, h6.mono le, kZ.mono le h7⟩
theorem kZ.mono {h h' : PH} (le : PH.le h h') : ∀ {ps : List Pred} {vs : List PV}, kZ h ps vs -> kZ h' ps vs
 | [], _, h => h
 | _ :: _, _, ⟨v, vs', h1, h2, h3⟩ => ⟨v, vs', h1, cX.mono le h2, kZ.mono le h3⟩
end
theorem kZ.length {h : PH} : ∀ {ps : List Pred} {vs : List PV}, kZ h ps vs -> vs.length = ps.length
 | [], _, h => by rw [show _ = [] from h]; rfl
 | _ :: _, _, ⟨_, _, h1, _, h3⟩ => by rw [h1]; simp [kZ.length h3]
theorem kZ.get {h : PH} : ∀ {ps : List Pred} {vs : List PV}, kZ h ps vs -> ∀ {i : Nat} {p : Pred}, ps[i]? = some p -> ∃ v, vs[i]? = some v /\ cX h p v
 | [], _, _, i, p, e => by simp at e
 | p0 :: ps, _, ⟨v, vs', rfl, h2, h3⟩, 0, p, e => by simp at e; subst e; exact ⟨v, rfl, h2⟩
 | p0 :: ps, _, ⟨v, vs', rfl, h2, h3⟩, i + 1, p, e => by simp at e; simpa using kZ.get h3 e
inductive Query where
 | mk (op table : Int) (wher : Pred) (columns : List Int) (on : List (Int × Int)) (group : List Int) (order : List (Int × Bool)) (limit : Int) (args : List Query)
variable {q : Query}
mutual
def cC (h : PH) : Query -> QV -> Prop
 | .mk op table w columns on group order limit args, v => v.op = op /\ v.table = table /\ cX h w v.where_ /\ aU h v.columns columns /\ gM h v.on on /\ aU h v.group group /\ fU h v.order order /\ v.limit = limit /\
  args.length <= 502633886983 /\ ∃ vs : List QV, cW h v.args 21 (vs.map QV.enc) /\ xQ h args vs
def xQ (h : PH) : List Query -> List QV -> Prop
 | [], vs => vs = []
 | p :: ps, vs => ∃ v vs', vs = v :: vs' /\ cC h p v /\ xQ h ps vs'
end
mutual
theorem cC.mono {h h' : PH} (le : PH.le h h') : ∀ {p : Query} {v : QV}, cC h p v -> cC h' p v
 | .mk .., _, ⟨h1, h2, h3, h4, h5, h6, h7, h8, h9, vs, h10, h11⟩ => ⟨h1, h2, h3.mono le, h4.mono le, h5.mono le, h6.mono le, h7.mono le, h8, h9, vs, h10.mono le, xQ.mono le h11⟩
theorem xQ.mono {h h' : PH} (le : PH.le h h') : ∀ {ps : List Query} {vs : List QV}, xQ h ps vs -> xQ h' ps vs
 | [], _, h => h
 | _ :: _, _, ⟨v, vs', h1, h2, h3⟩ => ⟨v, vs', h1, cC.mono le h2, xQ.mono le h3⟩
end
theorem xQ.length {h : PH} : ∀ {ps : List Query} {vs : List QV}, xQ h ps vs -> vs.length = ps.length
 | [], _, h => by rw [show _ = [] from h]; rfl
 | _ :: _, _, ⟨_, _, h1, _, h3⟩ => by rw [h1]; simp [xQ.length h3]
theorem xQ.get {h : PH} : ∀ {ps : List Query} {vs : List QV}, xQ h ps vs -> ∀ {i : Nat} {p : Query}, ps[i]? = some p -> ∃ v, vs[i]? = some v /\ cC h p v
 | [], _, _, i, p, e => by simp at e
 | p0 :: ps, _, ⟨v, vs', rfl, h2, h3⟩, 0, p, e => by simp at e; subst e; exact ⟨v, rfl, h2⟩
 | p0 :: ps, _, ⟨v, vs', rfl, h2, h3⟩, i + 1, p, e => by simp at e; simpa using xQ.get h3 e
def iv (n : Int) : SV := .at (.val (.int .i64 n))
def sv (s : Sl) : SV := .at (.val (.slice s.a s.len s.cap))
def bv (b : Bool) : SV := .at (.val (.bool b))
def vv (v : Value) : SV := .at (.val v)
def cS (s : Sl) : CV := .val (.slice s.a s.len s.cap)
def cI (n : Int) : CV := .val (.int .i64 n)
def cB (b : Bool) : CV := .val (.bool b)
def cP (b : Nat) : CV := .val (.pointer (some ⟨b, 0, none⟩))
def Av (id : Nat) (st : Nat -> St) (inv : Nat -> Prop) (mu : Nat -> Nat) : Nat × Gw := (id, { A := Nat, st := st, inv := inv, mu := mu })
theorem DM (h : i <= 140737488355328) : IntKind.i64.wrap ((i : Int) + 1) = ((i + 1 : Nat) : Int) := by
 rw [dP (by omega) (by omega)]; rfl
theorem aU.at {s : Sl} (r : aU h s l) {x : Int} (hi : l[i]? = some x) : ∃ b o, s.a = some ⟨b, o, none⟩ /\ cL h b (o + i) [.int .i64 x] := by
 obtain ⟨b, o, h1, h2⟩ := r.row.get (i := i) (e := eI x) (by simp [hi])
 exact ⟨b, o, h1, by simpa [eI] using h2⟩
theorem MT {p : Prop} (h : p := by repeat' (first | with_reducible rfl | exact trivial | refine ⟨?_, ?_⟩ | rfl | (rw [DM (by omega)]; done) | (rw [DM (by omega)]))) : p := h
def dR (k : Int) : Bool := k == 3 || k == 4 || k == 5
def EL (t : ByteArray) : Bool := t.toList == []
def AA (v : VV) : Bool :=
 if v.kind == 1 || v.kind == 2 then v.int == 0 && EL v.text
 else if v.kind == 3 then (v.int == 0 || v.int == 1) && EL v.text
 else if v.kind == 4 then EL v.text
 else if v.kind == 5 then v.int == 0 && (v.text.size : Int) <= 64
 else false
def C6 (v : VV) : Bool := AA v && v.kind >= 3
def aV (v : VV) : CV := .val (.agg #[.int .i64 v.kind, .int .i64 v.int, .string v.text])
def SO : Vc.Spec := λ cvs m h K => ∃ k, cvs = [cI k] /\ K (cB (dR k)) m h
def Fp : Vc.Spec := λ cvs m h K => ∃ v, cvs = [aV v] /\ K (cB (AA v)) m h
def Jz : Vc.Spec := λ cvs m h K => ∃ v, cvs = [aV v] /\ K (cB (C6 v)) m h
def Fu : Vc.Spec := λ cvs m h K => ∃ s l, cvs = [cS s] /\ aU h s l /\ K (cB (l.all dR)) m h
noncomputable def f54_ctx (s : Sl) (l : List Int) (m : MH) (h : PH) : Ctx :=
 ctx [(78, SO)] [Av 2 (λ i => cD 15 16 [(5, sv s), (6, iv s.len), (7, iv i)] [] m h) (λ i => i <= l.length /\ (l.take i).all dR = true) (λ i => l.length - i)] [] [] false
noncomputable def OP (s : Sl) (l : List Int) (m : MH) (h : PH) : Ctx :=
 ctx [] [Av 2 (λ i => cD 22 23 [(5, sv s), (6, iv s.len), (7, iv i)] [] m h) (λ i => i <= l.length /\ (l.take i).all dR = true) (λ i => l.length - i)] [] [] false
abbrev dT (a : Bool) (b : Prop) (c : Bool) (d e : Prop) : Prop := branch a b (branch c d e)
noncomputable abbrev gV  : CV := uS true
attribute [push_cast] dT gV
def LP (k : Int) (m : MH) (h : PH) (K : CV -> MH -> PH -> Prop) : Prop :=
  dT (k == 3) (K gV m h) (k == 4) (K gV m h) (K (uS (k == 5)) m h)
theorem Vl (k : Int) (m : MH) (h : PH) (K : CV -> MH -> PH -> Prop) : LP k m h K = (cG (ctx [] [] [] [] false) Tryz.f78 (aE Tryz.f78) (entry Tryz.f78.ntmps [cI k] m h) K) := by kernel_rfl
abbrev dW (a b : Int) (c d : Prop) : Prop := branch (a == b) c d
noncomputable abbrev CD (a : ByteArray) : Bool := a.toList == []
noncomputable abbrev aR  : CV := uS false
attribute [push_cast] dW CD aR
def CN (v : VV) (m : MH) (h : PH) (K : CV -> MH -> PH -> Prop) : Prop :=
  dT (v.kind == 1) (dW v.int 0 (K (uS (CD v.text)) m h) (K aR m h)) (v.kind == 2) (dW v.int 0 (K (uS (CD v.text)) m h) (K aR m h)) (dT (v.kind == 3) (dT (v.int == 0) (K (uS (CD v.text)) m h) (v.int == 1) (K (uS (CD v.text)) m h) (K aR m h)) (v.kind == 4) (K (uS (CD v.text)) m h) (dW v.kind 5 (dW v.int 0 (K (uS (decide ((↑v.text.size : Int) <= 64))) m h) (K aR m h)) (K aR m h)))
theorem TH (v : VV) (m : MH) (h : PH) (K : CV -> MH -> PH -> Prop) : CN v m h K = (cG (ctx [] [] [] [] false) Tryz.f132 (aE Tryz.f132) (entry Tryz.f132.ntmps [aV v] m h) K) := by kernel_rfl
abbrev gH (a : Prop) (b : Bool) (c d : Prop) : Prop := a /\ branch b c d
noncomputable abbrev D2 (a : CV) : List CV := [a]
abbrev cK (a b : CV) : Prop := D2 a = D2 b
attribute [push_cast] gH D2 cK
def Je (v : VV) (m : MH) (h : PH) (K : CV -> MH -> PH -> Prop) : Prop :=
  ∃ (v1 : VV), gH (cK (kK v.enc) (kK v1.enc)) (AA v1) (K (uS (decide (v.kind >= 3))) m h) (K aR m h)
theorem TR (v : VV) (m : MH) (h : PH) (K : CV -> MH -> PH -> Prop) : Je v m h K = (cG (ctx [(132, Fp)] [] [] [] false) Tryz.f124 (aE Tryz.f124) (entry Tryz.f124.ntmps [aV v] m h) K) := by kernel_rfl
abbrev dE (a b : Int) (c d : Prop) : Prop := branch (a != b) c d
attribute [push_cast] dE
def Jd (v : VV) (m : MH) (h : PH) (K : CV -> MH -> PH -> Prop) : Prop :=
  ∃ (v1 : VV), gH (cK (kK v.enc) (kK v1.enc)) (AA v1) (dE v.kind 1 (K (uS (v.kind != 2)) m h) (K aR m h)) (K aR m h)
theorem TQ (v : VV) (m : MH) (h : PH) (K : CV -> MH -> PH -> Prop) : Jd v m h K = (cG (ctx [(133, Fp)] [] [] [] false) Tryz.f125 (aE Tryz.f125) (entry Tryz.f125.ntmps [aV v] m h) K) := by kernel_rfl
abbrev gR (a : Prop) (b : Nat -> Prop) : Prop := a /\ ∀ (x : Nat), b x
abbrev aA (a b c : Prop) : Prop := a /\ b /\ c
abbrev qU (a : Bool) : Prop := a = true
noncomputable abbrev wZ (a : List Int) : Bool := List.all a dR
abbrev xT (a : Nat) (b : List Int) : Prop := a <= b.length /\ qU (wZ (List.take a b))
abbrev aK (a : Sl) : Prop := eQ (wO a)
noncomputable abbrev wR (a : Nat) : SV := jD (↑a : Int)
abbrev cF (a : Sl) : Prop := eQ (wR a.len)
abbrev bO (a : Nat) : Prop := jD 0 = wR a
abbrev cQ (a : Prop) (b c : Nat -> Nat -> Option Value) : Prop := aA a (b = c) True
abbrev bE (a b : Int) (c d : Prop) : Prop := branch (decide (a < b)) c d
noncomputable abbrev aF (a : Sl) : Int := (↑a.len : Int)
abbrev aY (a : Nat -> Nat -> Prop) : Prop := ∃ (x x1 : Nat), a x x1
abbrev aG (a b c d : Prop) : Prop := aA a b (c /\ d)
noncomputable abbrev Iz (a b : Nat) : Addr := Addr.mk a b Option.none
abbrev bC (a : Option Addr) (b c : Nat) : Prop := a = Option.some (Iz b c)
noncomputable abbrev iW (a : Nat) (b : Int) (c : Nat) : Nat := a + b.toNat * c
noncomputable abbrev bZ (a b c : Nat) : Nat := iW a (↑b : Int) c
noncomputable abbrev oB (a : Value) : List Value := [a]
noncomputable abbrev bT (a : Int) : List Value := oB (cZ a)
noncomputable abbrev y9 (a : Int) : Int := IntKind.wrap IntKind.i64 a
noncomputable abbrev eR (a b : Int) : Int := y9 (a + b)
abbrev aZ (a : Nat) (b : Int) (c : Nat) : Prop := jD (eR (↑a : Int) b) = wR c
attribute [push_cast] gR aA qU wZ xT aK wR cF bO cQ bE aF aY aG Iz bC iW bZ oB bT y9 eR aZ
def f54_nice (s : Sl) (l : List Int) (m : MH) (h : PH) (K : CV -> MH -> PH -> Prop) : Prop :=
  gR (∃ (x : Nat), aA (xT x l) (aK s) (aA (cF s) (bO x) (cQ (m = m) h h))) (λ x => xT x l -> bE (↑x : Int) (aF s) (aY (λ b o => aG (bC s.a b o) (0 <= (↑x : Int)) ((↑x : Int) < aF s) (∃ (y : Int), bI m h b (bZ o x 1) (bT y) /\ ∃ (k : Int), gH (cK (fS y) (fS k)) (!(dR k)) (K aR m h) (∃ (y1 : Nat), aA (xT y1 l) (l.length - y1 < l.length - x) (aA (aK s) (cF s) (aG (aZ x 1 y1) (m = m) (h = h) True)))))) (K gV m h))
theorem f54_vc (s : Sl) (l : List Int) (m : MH) (h : PH) (K : CV -> MH -> PH -> Prop) : f54_nice s l m h K = (cG (f54_ctx s l m h) Tryz.f54 (aE Tryz.f54) (entry Tryz.f54.ntmps [cS s] m h) K) := by kernel_rfl
def LH (s : Sl) (l : List Int) (m : MH) (h : PH) (K : CV -> MH -> PH -> Prop) : Prop :=
  gR (∃ (x : Nat), aA (xT x l) (aK s) (aA (cF s) (bO x) (cQ (m = m) h h))) (λ x => xT x l -> bE (↑x : Int) (aF s) (aY (λ b o => aG (bC s.a b o) (0 <= (↑x : Int)) ((↑x : Int) < aF s) (∃ (y : Int), bI m h b (bZ o x 1) (bT y) /\ dE y 3 (dE y 4 (dE y 5 (K aR m h) (∃ (y1 : Nat), aA (xT y1 l) (l.length - y1 < l.length - x) (aA (aK s) (cF s) (aG (aZ x 1 y1) (m = m) (h = h) True)))) (∃ (y1 : Nat), aA (xT y1 l) (l.length - y1 < l.length - x) (aA (aK s) (cF s) (aG (aZ x 1 y1) (m = m) (h = h) True)))) (∃ (y1 : Nat), aA (xT y1 l) (l.length - y1 < l.length - x) (aA (aK s) (cF s) (aG (aZ x 1 y1) (m = m) (h = h) True)))))) (K gV m h))
theorem Vb (s : Sl) (l : List Int) (m : MH) (h : PH) (K : CV -> MH -> PH -> Prop) : LH s l m h K = (cG (OP s l m h) Tryz.f87 (aE Tryz.f87) (entry Tryz.f87.ntmps [cS s] m h) K) := by kernel_rfl
theorem TG (v : VV) (m : MH) (h : PH) (K : CV -> MH -> PH -> Prop) : CN v m h K = cG (ctx [] [] [] [] false) Tryz.f133 (aE Tryz.f133) (entry Tryz.f133.ntmps [aV v] m h) K := by kernel_rfl
theorem gY {x y : Bool} (hK : K (cB x) m h) (e : x = y) : K (.val (.bool y)) m h := e ▸ hK
theorem PL {v : VV} (hK : K (cB (AA v)) m h) : CN v m h K := by
 dsimp only [CN, push_cast]
 repeat' (first | (refine aB (λ _ => ?_) (λ _ => ?_)) | (refine gY hK ?_; simp_all [AA, EL]))
theorem IJ : Sound Tryz.prog 78 SO := by
 refine aI (fn := Tryz.f78) (c := aE Tryz.f78) Tryz.func78 rfl (by decide) ?_
 rintro cvs m h K ⟨k, rfl, hK⟩
 refine ⟨ctx [] [] [] [] false, rfl, aH, ?_⟩
 rw [<- Vl k m h K]
 dsimp only [LP, push_cast]
 repeat' (first | (refine aB (λ _ => ?_) (λ _ => ?_)) | (refine gY hK ?_; simp_all [dR]))
theorem NA : Sound Tryz.prog 132 Fp := by
 refine aI (fn := Tryz.f132) (c := aE Tryz.f132) Tryz.func132 rfl (by decide) ?_
 rintro cvs m h K ⟨v, rfl, hK⟩
 refine ⟨ctx [] [] [] [] false, rfl, aH, ?_⟩
 rw [<- TH v m h K]
 exact PL hK
theorem Nz : Sound Tryz.prog 133 Fp := by
 refine aI (fn := Tryz.f133) (c := aE Tryz.f133) Tryz.func133 rfl (by decide) ?_
 rintro cvs m h K ⟨v, rfl, hK⟩
 refine ⟨ctx [] [] [] [] false, rfl, aH, ?_⟩
 rw [<- TG v m h K]
 exact PL hK
theorem NF : Sound Tryz.prog 124 Jz := by
 refine aI (fn := Tryz.f124) (c := aE Tryz.f124) Tryz.func124 rfl (by decide) ?_
 rintro cvs m h K ⟨v, rfl, hK⟩
 refine ⟨ctx [(132, Fp)] [] [] [] false, rfl, aD NA aH, ?_⟩
 rw [<- TR v m h K]
 dsimp only [Je, push_cast]
 refine ⟨v, rfl, ?_⟩
 repeat' (first | (refine aB (λ _ => ?_) (λ _ => ?_)) | (refine gY hK ?_; simp_all [C6]))
theorem ND : Sound Tryz.prog 125 Jz := by
 refine aI (fn := Tryz.f125) (c := aE Tryz.f125) Tryz.func125 rfl (by decide) ?_
 rintro cvs m h K ⟨v, rfl, hK⟩
 refine ⟨ctx [(133, Fp)] [] [] [] false, rfl, aD Nz aH, ?_⟩
 rw [<- TQ v m h K]
 dsimp only [Jd, push_cast]
 refine ⟨v, rfl, ?_⟩
 refine aB (λ h1 => aB (λ h2 => gY hK ?_) (λ h2 => gY hK ?_)) (λ h1 => gY hK ?_)
 . have h2 : v.kind ≠ 1 := by simpa using h2
   by_cases h3 : v.kind = 2
   . simp [C6, h1, h3]
   . have : 3 <= v.kind := by
      simp only [AA] at h1
      repeat' split at h1
      all_goals first | (simp_all; done) | skip
      all_goals simp_all
     simp [C6, h1, h3, this]
 . have h2 : v.kind = 1 := by simpa using h2
   simp [C6, h2]
 . simp [C6, h1]
theorem uM {α : Type} {p : α -> Bool} {l : List α} {x : α} (hx : l[i]? = some x) : (l.take (i + 1)).all p = ((l.take i).all p && p x) := by
 rw [List.take_add_one, List.all_append, hx]; simp
theorem Ay {α : Type} {p : α -> Bool} {l : List α} {x : α} (hx : l[i]? = some x) (hp : p x = false) : l.all p = false := by
 rw [List.all_eq_false]
 exact ⟨x, List.mem_of_getElem? hx, by simp [hp]⟩
theorem f54_sound : Sound Tryz.prog 54 Fu := by
 refine aI (fn := Tryz.f54) (c := aE Tryz.f54) Tryz.func54 rfl (by decide) ?_
 rintro cvs m h K ⟨s, l, rfl, hl, hK⟩
 refine ⟨f54_ctx s l m h, rfl, aD IJ aH, ?_⟩
 rw [<- f54_vc s l m h K]
 dsimp only [f54_nice, push_cast]
 have hs := hl.slen
 have hb := hl.len
 refine ⟨⟨0, ⟨by omega, by simp⟩, rfl, rfl, rfl, rfl, rfl, trivial⟩, λ i hi => aC (λ hlt => ?_) (λ hge => ?_)⟩
 . obtain ⟨x, hx⟩ : ∃ x, l[i]? = some x := ⟨l[i]'(by omega), List.getElem?_eq_getElem _⟩
   obtain ⟨b1, o1, e1, r1⟩ := hl.at hx
   refine ⟨b1, o1, e1, by omega, hlt, x, .imm (by simpa using r1), x, rfl, aB (λ hc => gY hK ?_) (λ hc => ?_)⟩
   . exact Ay hx (by simpa using hc)
   . refine ⟨i + 1, ⟨by omega, ?_⟩, by omega, rfl, rfl, by rw [DM (by omega)], rfl, rfl, trivial⟩
     rw [uM hx, hi.2]
     simpa using hc
 . refine gY hK ?_
   have := hi.2
   rwa [List.take_of_length_le (by omega)] at this
theorem QR : Sound Tryz.prog 87 Fu := by
 refine aI (fn := Tryz.f87) (c := aE Tryz.f87) Tryz.func87 rfl (by decide) ?_
 rintro cvs m h K ⟨s, l, rfl, hl, hK⟩
 refine ⟨OP s l m h, rfl, aH, ?_⟩
 rw [<- Vb s l m h K]
 dsimp only [LH, push_cast]
 have hs := hl.slen
 have hb := hl.len
 refine ⟨⟨0, ⟨by omega, by simp⟩, rfl, rfl, rfl, rfl, rfl, trivial⟩, λ i hi => aC (λ hlt => ?_) (λ hge => ?_)⟩
 . obtain ⟨x, hx⟩ : ∃ x, l[i]? = some x := ⟨l[i]'(by omega), List.getElem?_eq_getElem _⟩
   obtain ⟨b1, o1, e1, r1⟩ := hl.at hx
   have good : dR x = true -> (l.take (i + 1)).all dR = true := λ hc => by rw [uM hx, hi.2, hc]; rfl
   refine ⟨b1, o1, e1, by omega, hlt, x, .imm (by simpa using r1), ?_⟩
   have next : dR x = true -> ∃ (y : Nat), (y <= l.length /\ (l.take y).all dR = true) /\ l.length - y < l.length - i /\ y = i + 1 := λ hc => ⟨i + 1, ⟨by omega, good hc⟩, by omega, rfl⟩
   repeat' (first | (refine aB (λ _ => ?_) (λ _ => ?_)) | (refine gY hK (Ay hx ?_); simp_all [dR]; done) | (refine ⟨i + 1, ⟨by omega, good (by simp_all [dR])⟩, by omega, rfl, rfl, by rw [DM (by omega)], rfl, rfl, trivial⟩))
 . refine gY hK ?_
   have := hi.2
   rwa [List.take_of_length_le (by omega)] at this
def Sn (a b : VV) : Bool := a.kind == b.kind && (a.int == b.int && (a.text.toList == b.text.toList && true))
def N3 (a b : OV) : Bool := a.kind == b.kind && (a.index == b.index && (Sn a.value b.value && true))
theorem dY {f : Field} {fs : List Field} {d : Nat} {xs ys : Array Value} {w : World} {x y : Value} {r r' : Bool} (hn : (f.name == "_") = false) (hx : uW Tryz.prog (part f.type xs f.offset) = some x) (hy : uW Tryz.prog (part f.type ys f.offset) = some y)
 (he : (Op.equalIn d f.type x y).run Tryz.prog w = .ok r w) (hr : (Op.eqFields d xs ys fs).run Tryz.prog w = .ok r' w) : (Op.eqFields d xs ys (f :: fs)).run Tryz.prog w = .ok (r && r') w := by
 have hn : f.name ≠ "_" := by simpa using hn
 simp only [Op.eqFields, if_pos hn, Sem.run_bind, uV _ _ _ hx, uV _ _ _ hy, Result.andThen_ok, he]
 cases r
 . simp
 . simpa using hr
noncomputable def Dg (t k : Nat) : Field := (Tryz.prog.fieldsOf t).toList.getD k default
theorem PN (a b : VV) (d : Nat) (w : World) : (Op.equalIn (d + 2) 33 (.agg #[.int .i64 a.kind, .int .i64 a.int, .string a.text]) (.agg #[.int .i64 b.kind, .int .i64 b.int, .string b.text])).run Tryz.prog w = .ok (Sn a b) w := by
 rw [run_equalIn_struct w (d + 1) 33 _ _ (by kernel_rfl) (by kernel_rfl), show (Tryz.prog.fieldsOf 33).toList = [Dg 33 0, Dg 33 1, Dg 33 2] by kernel_rfl]
 refine dY (x := .int .i64 a.kind) (y := .int .i64 b.kind) (by kernel_rfl) (by kernel_rfl) (by kernel_rfl) (run_equalIn_int w d _ .i64 .i64 _ _ (by kernel_rfl)) ?_
 refine dY (x := .int .i64 a.int) (y := .int .i64 b.int) (by kernel_rfl) (by kernel_rfl) (by kernel_rfl) (run_equalIn_int w d _ .i64 .i64 _ _ (by kernel_rfl)) ?_
 refine dY (x := .string a.text) (y := .string b.text) (by kernel_rfl) (by kernel_rfl) (by kernel_rfl) (run_equalIn_string w d _ _ _ (by kernel_rfl)) ?_
 simp [Op.eqFields]
theorem Uo (a b : OV) (d : Nat) (w : World) : (Op.equalIn (d + 3) 35 (.agg #[.int .i64 a.kind, .int .i64 a.index, .int .i64 a.value.kind, .int .i64 a.value.int, .string a.value.text]) (.agg #[.int .i64 b.kind, .int .i64 b.index, .int .i64 b.value.kind, .int .i64 b.value.int, .string b.value.text])).run Tryz.prog w = .ok (N3 a b) w := by
 rw [run_equalIn_struct w (d + 2) 35 _ _ (by kernel_rfl) (by kernel_rfl), show (Tryz.prog.fieldsOf 35).toList = [Dg 35 0, Dg 35 1, Dg 35 2] by kernel_rfl]
 refine dY (x := .int .i64 a.kind) (y := .int .i64 b.kind) (by kernel_rfl) (by kernel_rfl) (by kernel_rfl) (run_equalIn_int w (d + 1) _ .i64 .i64 _ _ (by kernel_rfl)) ?_
 refine dY (x := .int .i64 a.index) (y := .int .i64 b.index) (by kernel_rfl) (by kernel_rfl) (by kernel_rfl) (run_equalIn_int w (d + 1) _ .i64 .i64 _ _ (by kernel_rfl)) ?_
 refine dY (x := .agg #[.int .i64 a.value.kind, .int .i64 a.value.int, .string a.value.text]) (y := .agg #[.int .i64 b.value.kind, .int .i64 b.value.int, .string b.value.text]) (by kernel_rfl) (by kernel_rfl) (by kernel_rfl) ?_ ?_
 . rw [show (Dg 35 2).type = 33 by kernel_rfl]; exact PN a.value b.value d w
 . simp [Op.eqFields]
theorem PO (a b : VV) : StructEq Tryz.prog 33 (.agg #[.int .i64 a.kind, .int .i64 a.int, .string a.text]) (.agg #[.int .i64 b.kind, .int .i64 b.int, .string b.text]) (Sn a b) :=
 ⟨by kernel_rfl, λ w => PN a b 9998 w⟩
theorem wJ (a b : OV) : StructEq Tryz.prog 35 (.agg #[.int .i64 a.kind, .int .i64 a.index, .int .i64 a.value.kind, .int .i64 a.value.int, .string a.value.text]) (.agg #[.int .i64 b.kind, .int .i64 b.index, .int .i64 b.value.kind, .int .i64 b.value.int, .string b.value.text]) (N3 a b) :=
 ⟨by kernel_rfl, λ w => Uo a b 9997 w⟩
theorem mN {a b : ByteArray} (h : a.toList = b.toList) : a = b := by
 rw [ByteArray.toList_eq, ByteArray.toList_eq] at h
 cases a; cases b
 simp only [ByteArray.mk.injEq]
 exact Array.toList_inj.1 h
theorem PQ {a b : VV} : Sn a b = true ↔ a = b := by
 obtain ⟨k, i, t⟩ := a
 obtain ⟨k', i', t'⟩ := b
 simp only [Sn, Bool.and_true, Bool.and_eq_true, beq_iff_eq, VV.mk.injEq]
 exact ⟨λ ⟨h1, h2, h3⟩ => ⟨h1, h2, mN h3⟩, λ ⟨h1, h2, h3⟩ => ⟨h1, h2, by rw [h3]⟩⟩
theorem mA {a b : OV} : N3 a b = true ↔ a = b := by
 obtain ⟨k, i, t⟩ := a
 obtain ⟨k', i', t'⟩ := b
 simp only [N3, Bool.and_true, Bool.and_eq_true, beq_iff_eq, OV.mk.injEq, PQ]
def zeroV : VV := ⟨0, 0, ⟨#[]⟩⟩
def cR : OV := ⟨0, 0, zeroV⟩
def qP (l : List Int) (o : OV) : Int := if o.index < 0 || o.index >= l.length || !Sn o.value zeroV then 0 else l.getD o.index.toNat 0
def kindOf (cols params : List Int) (o : OV) : Int :=
 if o.kind == 3 then (if o.index != 0 || !C6 o.value then 0 else o.value.kind)
 else if o.kind == 2 then qP params o
 else if o.kind == 1 then qP cols o
 else 0
def sU (v : PV) : Bool := v.cmp == 0 && N3 v.left cR && N3 v.right cR
def aO (o : OV) : CV := .val (.agg #[.int .i64 o.kind, .int .i64 o.index, .int .i64 o.value.kind, .int .i64 o.value.int, .string o.value.text])
def aP (p : PV) : CV := .val (.agg #[.int .i64 p.op, .int .i64 p.cmp,
 .int .i64 p.left.kind, .int .i64 p.left.index, .int .i64 p.left.value.kind, .int .i64 p.left.value.int, .string p.left.value.text,
 .int .i64 p.right.kind, .int .i64 p.right.index, .int .i64 p.right.value.kind, .int .i64 p.right.value.int, .string p.right.value.text,
 .slice p.args.a p.args.len p.args.cap])
def WR (s t : Sl) : CV := .val (.agg #[.slice s.a s.len s.cap, .slice t.a t.len t.cap])
def SI : Vc.Spec := λ cvs m h K => ∃ v, cvs = [aP v] /\ K (cB (sU v)) m h
def Qf : Vc.Spec := λ cvs m h K => ∃ s t cols params o, cvs = [cS s, cS t, aO o] /\ aU h s cols /\ aU h t params /\ K (cI (kindOf cols params o)) m h
def M0 : Vc.Spec := λ cvs m h K => ∃ s t cols params o, cvs = [WR s t, aO o] /\ aU h s cols /\ aU h t params /\ K (cI (kindOf cols params o)) m h
abbrev oL (a : Nat) (b c : List Value) (d : Bool) : Prop := StructEq Proofs.Tryz.prog a (Value.agg (Array.mk b)) (Value.agg (Array.mk c)) d
noncomputable abbrev u9 (a : PV) : List Value := a.left.enc
noncomputable abbrev aL (a b : Value) (c : List Value) : List Value := a :: b :: c
noncomputable abbrev aX  : Value := cZ 0
noncomputable abbrev sX  : List Value := oB DL
noncomputable abbrev tH (a : PV) : List Value := a.right.enc
attribute [push_cast] oL u9 aL aX sX tH
def Jh (v : PV) (m : MH) (h : PH) (K : CV -> MH -> PH -> Prop) : Prop :=
  dW v.cmp 0 (∃ (r : Bool), gH (oL 35 (u9 v) (aL aX aX (aL aX aX sX)) r) r (∃ (r1 : Bool), oL 35 (tH v) (aL aX aX (aL aX aX sX)) r1 /\ K (uS r1) m h) (K aR m h)) (K aR m h)
theorem Ue (v : PV) (m : MH) (h : PH) (K : CV -> MH -> PH -> Prop) : Jh v m h K = (cG (ctx [] [] [] [] false) Tryz.f109 (aE Tryz.f109) (entry Tryz.f109.ntmps [aP v] m h) K) := by kernel_rfl
noncomputable abbrev iA (a : OV) : Int := a.value.kind
abbrev fI (a b : Int) (c d : Prop) : Prop := branch (decide (a >= b)) c d
attribute [push_cast] iA fI
def CY (s t : Sl) (o : OV) (m : MH) (h : PH) (K : CV -> MH -> PH -> Prop) : Prop :=
  dT (o.kind == 3) (dE o.index 0 (K (fS 0) m h) (∃ (v : VV), gH (cK (kK o.value.enc) (kK v.enc)) (!(C6 v)) (K (fS 0) m h) (K (fS (iA o)) m h))) (o.kind == 2) (bE o.index 0 (K (fS 0) m h) (fI o.index (aF t) (K (fS 0) m h) (∃ (r : Bool), gH (oL 33 o.value.enc (aL aX aX sX) r) (!r) (K (fS 0) m h) (aY (λ b o1 => aG (bC t.a b o1) (0 <= o.index) (o.index < aF t) (∃ (y : Int), bI m h b (iW o1 o.index 1) (bT y) /\ K (fS y) m h)))))) (dW o.kind 1 (bE o.index 0 (K (fS 0) m h) (fI o.index (aF s) (K (fS 0) m h) (∃ (r : Bool), gH (oL 33 o.value.enc (aL aX aX sX) r) (!r) (K (fS 0) m h) (aY (λ b o1 => aG (bC s.a b o1) (0 <= o.index) (o.index < aF s) (∃ (y : Int), bI m h b (iW o1 o.index 1) (bT y) /\ K (fS y) m h)))))) (K (fS 0) m h))
theorem Ud (s t : Sl) (o : OV) (m : MH) (h : PH) (K : CV -> MH -> PH -> Prop) : CY s t o m h K = (cG (ctx [(124, Jz)] [] [] [] false) Tryz.f110 (aE Tryz.f110) (entry Tryz.f110.ntmps [cS s, cS t, aO o] m h) K) := by kernel_rfl
theorem Uc (s t : Sl) (o : OV) (m : MH) (h : PH) (K : CV -> MH -> PH -> Prop) : CY s t o m h K = (cG (ctx [(125, Jz)] [] [] [] false) Tryz.f111 (aE Tryz.f111) (entry Tryz.f111.ntmps [WR s t, aO o] m h) K) := by kernel_rfl
theorem wP {x y : Int} (hK : K (cI x) m h) (e : x = y) : K (.val (.int .i64 y)) m h := e ▸ hK
theorem aU.inb {s : Sl} (r : aU h s l) {n : Int} (h0 : 0 <= n) (h1 : n < (l.length : Int)) : ∃ b o, s.a = some ⟨b, o, none⟩ /\ cL h b (o + n.toNat * 1) [.int .i64 (l.getD n.toNat 0)] := by
 have hx : l[n.toNat]? = some (l.getD n.toNat 0) := by
  rw [List.getD_eq_getElem?_getD, List.getElem?_eq_getElem (by omega)]; simp
 obtain ⟨b, o, e, r⟩ := r.at hx
 exact ⟨b, o, e, by simpa using r⟩
theorem PM {s t : Sl} {cols params : List Int} {o : OV} (hs : aU h s cols) (ht : aU h t params) (hK : K (cI (kindOf cols params o)) m h) : CY s t o m h K := by
 have es := hs.slen
 have et := ht.slen
 dsimp only [CY, push_cast]
 refine aB (λ h1 => aB (λ h2 => wP hK ?_) (λ h2 => ⟨o.value, rfl, aB (λ h3 => wP hK ?_) (λ h3 => wP hK ?_)⟩)) (λ h1 => aB (λ h2 => ?_) (λ h2 => aB (λ h3 => ?_) (λ h3 => wP hK ?_)))
 . simp_all [kindOf]
 . simp_all [kindOf]
 . simp_all [kindOf]
 . have hk : kindOf cols params o = qP params o := by simp_all [kindOf]
   rw [hk] at hK
   refine aC (λ h3 => wP hK ?_) (λ h3 => aC (λ h4 => wP hK ?_) (λ h4 => ⟨Sn o.value zeroV, PO o.value zeroV, aB (λ h5 => wP hK ?_) (λ h5 => ?_)⟩))
   . simp [qP, h3]
   . rw [et] at h4; simp [qP, h4]
   . simp only [Bool.not_eq_true'] at h5; simp [qP, h5]
   . obtain ⟨b, off, e, r⟩ := ht.inb (n := o.index) (by omega) (by omega)
     refine ⟨b, off, e, by omega, by omega, _, .imm r, wP hK ?_⟩
     have h4' : ¬ o.index >= params.length := by omega
     simp only [Bool.not_eq_false'] at h5
     simp [qP, h3, h4', h5]
 . have hk : kindOf cols params o = qP cols o := by simp_all [kindOf]
   rw [hk] at hK
   refine aC (λ h3 => wP hK ?_) (λ h3 => aC (λ h4 => wP hK ?_) (λ h4 => ⟨Sn o.value zeroV, PO o.value zeroV, aB (λ h5 => wP hK ?_) (λ h5 => ?_)⟩))
   . simp [qP, h3]
   . rw [es] at h4; simp [qP, h4]
   . simp only [Bool.not_eq_true'] at h5; simp [qP, h5]
   . obtain ⟨b, off, e, r⟩ := hs.inb (n := o.index) (by omega) (by omega)
     refine ⟨b, off, e, by omega, by omega, _, .imm r, wP hK ?_⟩
     have h4' : ¬ o.index >= cols.length := by omega
     simp only [Bool.not_eq_false'] at h5
     simp [qP, h3, h4', h5]
 . simp_all [kindOf]
theorem NT : Sound Tryz.prog 109 SI := by
 refine aI (fn := Tryz.f109) (c := aE Tryz.f109) Tryz.func109 rfl (by decide) ?_
 rintro cvs m h K ⟨v, rfl, hK⟩
 refine ⟨ctx [] [] [] [] false, rfl, aH, ?_⟩
 rw [<- Ue v m h K]
 dsimp only [Jh, push_cast]
 refine aB (λ h1 => ⟨N3 v.left cR, wJ v.left cR, aB (λ h2 => ⟨N3 v.right cR, wJ v.right cR, gY hK ?_⟩) (λ h2 => gY hK ?_)⟩) (λ h1 => gY hK ?_)
 all_goals simp_all [sU]
theorem NS : Sound Tryz.prog 110 Qf := by
 refine aI (fn := Tryz.f110) (c := aE Tryz.f110) Tryz.func110 rfl (by decide) ?_
 rintro cvs m h K ⟨s, t, cols, params, o, rfl, hs, ht, hK⟩
 refine ⟨ctx [(124, Jz)] [] [] [] false, rfl, aD NF aH, ?_⟩
 rw [<- Ud s t o m h K]
 exact PM hs ht hK
theorem NR : Sound Tryz.prog 111 M0 := by
 refine aI (fn := Tryz.f111) (c := aE Tryz.f111) Tryz.func111 rfl (by decide) ?_
 rintro cvs m h K ⟨s, t, cols, params, o, rfl, hs, ht, hK⟩
 refine ⟨ctx [(125, Jz)] [] [] [] false, rfl, aD ND aH, ?_⟩
 rw [<- Uc s t o m h K]
 exact PM hs ht hK
def Pred.args : Pred -> List Pred
 | .mk _ _ _ _ l => l
mutual
def mR : Pred -> Int -> Int
 | .mk _ _ _ _ args, n => j9 args (n + 1)
def j9 : List Pred -> Int -> Int
 | [], n => n
 | p :: ps, n => if n <= 24 then j9 ps (mR p n) else n
end
mutual
def kW : Pred -> Nat -> Bool
 | .mk _ _ _ _ _, 0 => true
 | .mk _ _ _ _ args, n + 1 => wT args n
def wT : List Pred -> Nat -> Bool
 | [], _ => false
 | p :: ps, n => kW p n || wT ps n
end
mutual
theorem Bd : ∀ (p : Pred) (n : Int), n <= 24 -> n < mR p n /\ mR p n <= 25
 | .mk _ _ _ _ args, n, h => by
  have := C9 args (n + 1) (by omega)
  simp only [mR]; omega
theorem C9 : ∀ (ps : List Pred) (n : Int), n <= 25 -> n <= j9 ps n /\ j9 ps n <= 25
 | [], n, h => by simp only [j9]; omega
 | p :: ps, n, h => by
  simp only [j9]
  split
  . rename_i h1
    have h2 := Bd p n h1
    have h3 := C9 ps (mR p n) h2.2
    omega
  . omega
end
theorem JW (ps : List Pred) {n : Int} (h : ¬ n <= 24) : j9 ps n = n := by
 cases ps
 . simp [j9]
 . simp only [j9, if_neg h]
theorem En (n : Nat) : ∀ ps : List Pred, wT ps n = ps.any (kW · n)
 | [] => by simp [wT]
 | p :: ps => by simp [wT, En n ps]
theorem uL {p : Pred} {q : Pred} (h : q ∈ p.args) : SizeOf.sizeOf q < SizeOf.sizeOf p := by
 cases p with
 | mk op cmp l r args =>
  have := List.sizeOf_lt_of_mem h
  simp only [Pred.args] at this
  simp only [Pred.mk.sizeOf_spec]
  omega
theorem cX.open {v : PV} (r : cX h p v) : p.args.length <= 502633886983 /\ v.args.len = p.args.length /\ ∀ (i : Nat) (q : Pred), p.args[i]? = some q -> ∃ b o u, v.args.a = some ⟨b, o, none⟩ /\ cL h b (o + i * 13) (PV.enc u) /\ cX h q u := by
 cases p with
 | mk op cmp l r' args =>
  obtain ⟨h1, h2, h3, h4, h5, vs, h6, h7⟩ := r
  have hl := h7.length
  refine ⟨h5, ?_, λ i q hq => ?_⟩
  . have := h6.len; simp at this; simp only [Pred.args]; omega
  . obtain ⟨u, hu, hr⟩ := h7.get hq
    obtain ⟨b, o, e, r⟩ := h6.get (i := i) (e := PV.enc u) (by simp [hu])
    exact ⟨b, o, u, e, r, hr⟩
def Od (N : Nat) : Vc.Spec := λ cvs m h K => ∃ v p k, cvs = [aP v, cI k] /\ cX h p v /\ SizeOf.sizeOf p < N /\ 0 <= k /\ k <= 24 /\ K (cI (mR p k)) m h
def KD (N : Nat) : Vc.Spec := λ cvs m h K => ∃ v p, ∃ k : Nat, cvs = [aP v, cI k] /\ cX h p v /\ SizeOf.sizeOf p < N /\ k <= 100 /\ K (cB (kW p k)) m h
noncomputable def OW (N : Nat) (v : PV) (p : Pred) (k : Int) (m : MH) (h : PH) : Ctx :=
 ctx [(81, Od N)] [(3, { A := Nat × Int, st := λ x => cD 27 29 [(1, iv x.2), (2, .at (.ptr 2 0)), (5, iv x.1)] [(2, .cells 38 (v.enc.map .val))] m h, inv := λ x => x.1 <= p.args.length /\ 0 <= x.2 /\ x.2 <= 25 /\ j9 (p.args.drop x.1) x.2 = mR p k, mu := λ x => p.args.length - x.1 })] [] [] false
noncomputable def OT (N : Nat) (v : PV) (p : Pred) (k : Nat) (m : MH) (h : PH) : Ctx :=
 ctx [(82, KD N)] [Av 4 (λ i => cD 23 25 [(1, iv k), (2, .at (.ptr 2 0)), (10, iv v.args.len), (11, iv i)] [(2, .cells 38 (v.enc.map .val))] m h) (λ i => i <= p.args.length /\ (p.args.take i).any (kW · (k - 1)) = false) (λ i => p.args.length - i)] [] [] false
noncomputable abbrev jR (a : Pred) : Nat := a.args.length
abbrev bJ (a b : Int) : Prop := jD a = jD b
abbrev fL  : Prop := eP 2
noncomputable abbrev Db (a : Nat) (b : List Value) : Option Own := oQ a (List.map At.val b)
abbrev jA (a : PV) : Prop := eQ (Db 38 a.enc)
abbrev Gj (a : Option Addr) (b : Nat) (c : Sl) (d : Nat -> Nat -> PV -> Prop) : Prop := aY (λ x x1 => aG (bC a x x1) (0 <= (↑b : Int)) ((↑b : Int) < aF c) (∃ (x2 : PV), d x x1 x2))
abbrev kC (a : PV -> Pred -> Prop) : Prop := ∃ (x : PV) (x1 : Pred), a x x1
noncomputable abbrev lY (a b : CV) : List CV := a :: D2 b
noncomputable abbrev cV (a : CV) (b : Int) : List CV := lY a (fS b)
noncomputable abbrev eF (a : PV) : CV := kK a.enc
abbrev nV (a : Pred) (b : Nat) : Prop := SizeOf.sizeOf a < b
abbrev aW (a : Int) : Prop := 0 <= a
attribute [push_cast] jR bJ fL Db jA Gj kC lY cV eF nV aW
def LM (N : Nat) (v : PV) (p : Pred) (k : Int) (m : MH) (h : PH) (K : CV -> MH -> PH -> Prop) : Prop :=
  (∃ (x : Nat × Int), aA (aG (x.1 <= jR p) (0 <= x.2) (x.2 <= 25) (j9 (List.drop x.1 p.args) x.2 = mR p k)) (bJ (eR k 1) x.2) (aA fL (bO x.1) (aG (jA v) (m = m) (h = h) True))) /\ ∀ (x : Nat × Int), aG (x.1 <= jR p) (0 <= x.2) (x.2 <= 25) (j9 (List.drop x.1 p.args) x.2 = mR p k) -> bE (↑x.1 : Int) (aF v.args) (branch (decide (x.2 <= 24)) (Gj v.args.a x.1 v.args (λ b o y => bI m h b (bZ o x.1 13) y.enc /\ kC (λ v1 p1 => ∃ (k1 : Int), aA (cV (eF y) x.2 = cV (eF v1) k1) (cX h p1 v1) (aA (nV p1 N) (aW k1) (k1 <= 24 /\ ∃ (y1 : Nat × Int), aA (aG (y1.1 <= jR p) (0 <= y1.2) (y1.2 <= 25) (j9 (List.drop y1.1 p.args) y1.2 = mR p k)) (jR p - y1.1 < jR p - x.1) (aA (bJ (mR p1 k1) y1.2) fL (aA (aZ x.1 1 y1.1) (jA v) (aA (m = m) (h = h)
 True)))))))) (K (fS x.2) m h)) (K (fS x.2) m h)
theorem Vi (N : Nat) (v : PV) (p : Pred) (k : Int) (m : MH) (h : PH) (K : CV -> MH -> PH -> Prop) : LM N v p k m h K = (cG (OW N v p k m h) Tryz.f81 (aE Tryz.f81) (entry Tryz.f81.ntmps [aP v, cI k] m h) K) := by kernel_rfl
abbrev EM (a : Bool) : Prop := a = false
abbrev oT (a : PV) : Prop := cF a.args
noncomputable abbrev jY (a : Int) : Int := y9 (a - 1)
noncomputable abbrev mW (a : CV) (b : Nat) : List CV := cV a (↑b : Int)
abbrev bG (a b : PH) : Prop := a = b /\ True
attribute [push_cast] EM oT jY mW bG
def LL (N : Nat) (v : PV) (p : Pred) (k : Nat) (m : MH) (h : PH) (K : CV -> MH -> PH -> Prop) : Prop :=
  dW (↑k : Int) 0 (K gV m h) (gR (∃ (x : Nat), aA (x <= jR p /\ EM (List.any (List.take x p.args) (fun (x1 : Pred) => kW x1 (k - 1)))) (eQ (wR k)) (aA (eP 2) (oT v) (aA (bO x) (jA v) (aA (m = m) (h = h) True)))) (λ x => x <= jR p /\ EM (List.any (List.take x p.args) (fun (x1 : Pred) => kW x1 (k - 1))) -> bE (↑x : Int) (aF v.args) (aY (λ b o => aG (bC v.args.a b o) (0 <= (↑x : Int)) ((↑x : Int) < aF v.args) (∃ (y : PV), bI m h b (bZ o x 13) y.enc /\ kC (λ v1 p1 => ∃ (k1 : Nat), aA (cV (eF y) (jY (↑k : Int)) = mW (eF v1) k1) (cX h p1 v1) (aA (nV p1 N) (k1 <= 100) (branch (kW p1 k1) (K gV m h) (∃ (y1 : Nat), aA (y1 <= jR p /\ EM (List.any (List.take y1 p.args) (fun (x1 : Pred) => kW x1 (k - 1)))) (jR p - y1 < jR p - x) (aA (eQ (wR k))
 fL (aA (oT v) (aZ x 1 y1) (aA (jA v) (m = m) (bG h h))))))))))) (K aR m h)))
theorem Vh (N : Nat) (v : PV) (p : Pred) (k : Nat) (m : MH) (h : PH) (K : CV -> MH -> PH -> Prop) : LL N v p k m h K = (cG (OT N v p k m h) Tryz.f82 (aE Tryz.f82) (entry Tryz.f82.ntmps [aP v, cI k] m h) K) := by kernel_rfl
theorem OX : ∀ N, Sound Tryz.prog 81 (Od N)
 | 0 => by
  refine aI (fn := Tryz.f81) (c := aE Tryz.f81) Tryz.func81 rfl (by decide) ?_
  rintro cvs m h K ⟨v, p, k, rfl, hr, hN, _⟩
  omega
 | N + 1 => by
  refine aI (fn := Tryz.f81) (c := aE Tryz.f81) Tryz.func81 rfl (by decide) ?_
  rintro cvs m h K ⟨v, p, k, rfl, hr, hN, h0, h1, hK⟩
  refine ⟨OW N v p k m h, rfl, aD (OX N) aH, ?_⟩
  rw [<- Vi N v p k m h K]
  dsimp only [LM, push_cast]
  obtain ⟨hl, hlen, hget⟩ := hr.open
  refine ⟨⟨(0, k + 1), ⟨by simp, by simp; omega, by simp; omega, ?_⟩, by rw [dP (by omega) (by omega)], rfl, rfl, rfl, rfl, rfl, trivial⟩, ?_⟩
  . cases p; simp [mR, Pred.args]
  rintro ⟨i, n⟩ ⟨hi, hn0, hn1, he⟩
  simp only at hi hn0 hn1 he
  refine aC (λ hlt => aC (λ hn => ?_) (λ hn => wP hK ?_)) (λ hge => wP hK ?_)
  . simp only at hlt hn
    obtain ⟨q, hq⟩ : ∃ q, p.args[i]? = some q := ⟨p.args[i]'(by omega), List.getElem?_eq_getElem _⟩
    obtain ⟨b, o, u, ea, hrd, hru⟩ := hget i q hq
    have hd : p.args.drop i = q :: p.args.drop (i + 1) := by
     rw [List.drop_eq_getElem_cons (by omega)]; rw [List.getElem?_eq_getElem (by omega)] at hq; simp at hq; rw [hq]
    have hb := Bd q n hn
    refine ⟨b, o, ea, by simp, by simpa using hlt, u, .imm (by simpa using hrd), u, q, n, rfl, hru, ?_, hn0, hn, (i + 1, mR q n), ⟨by simp only; omega, by simp only; omega, by simp only; omega, ?_⟩, by simp only; omega, rfl, rfl, by rw [DM (by omega)], rfl, rfl, rfl, trivial⟩
    . have := uL (List.mem_of_getElem? hq); omega
    . rw [hd, j9, if_pos hn] at he; exact he
  . rw [<- he, JW _ hn]
  . rw [<- he, List.drop_of_length_le (by simp only at hge; omega)]; simp [j9]
theorem OU : ∀ N, Sound Tryz.prog 82 (KD N)
 | 0 => by
  refine aI (fn := Tryz.f82) (c := aE Tryz.f82) Tryz.func82 rfl (by decide) ?_
  rintro cvs m h K ⟨v, p, k, rfl, hr, hN, _⟩
  omega
 | N + 1 => by
  refine aI (fn := Tryz.f82) (c := aE Tryz.f82) Tryz.func82 rfl (by decide) ?_
  rintro cvs m h K ⟨v, p, k, rfl, hr, hN, h1, hK⟩
  refine ⟨OT N v p k m h, rfl, aD (OU N) aH, ?_⟩
  rw [<- Vh N v p k m h K]
  dsimp only [LL, push_cast]
  obtain ⟨hl, hlen, hget⟩ := hr.open
  refine aB (λ hk => gY hK ?_) (λ hk => ?_)
  . have : k = 0 := by have : (k : Int) = 0 := (by simpa using hk); omega
    subst this; cases p; simp [kW]
  . have hk : k ≠ 0 := by intro e; subst e; simp at hk
    have hdk : kW p k = p.args.any (kW · (k - 1)) := by
     obtain ⟨k', rfl⟩ : ∃ k', k = k' + 1 := ⟨k - 1, by omega⟩
     cases p; simp [kW, En, Pred.args]
    rw [hdk] at hK
    refine ⟨⟨0, ⟨by omega, by simp⟩, rfl, rfl, rfl, rfl, rfl, rfl, rfl, trivial⟩, λ i hi => aC (λ hlt => ?_) (λ hge => gY hK ?_)⟩
    . obtain ⟨q, hq⟩ : ∃ q, p.args[i]? = some q := ⟨p.args[i]'(by omega), List.getElem?_eq_getElem _⟩
      obtain ⟨b, o, u, ea, hrd, hru⟩ := hget i q hq
      refine ⟨b, o, ea, by omega, hlt, u, .imm (by simpa using hrd), u, q, k - 1, ?_, hru, ?_, by omega, aB (λ hd => gY hK ?_) (λ hd => ?_)⟩
      . rw [dP (by omega) (by omega), show ((k - 1 : Nat) : Int) = (k : Int) - 1 by omega]
      . have := uL (List.mem_of_getElem? hq); omega
      . rw [List.any_eq_true]; exact ⟨q, List.mem_of_getElem? hq, hd⟩
      . refine ⟨i + 1, ⟨by omega, ?_⟩, by omega, rfl, rfl, rfl, by rw [DM (by omega)], rfl, rfl, rfl, trivial⟩
        rw [List.take_add_one, List.any_append, hi.2, hq]; simpa using hd
    . have := hi.2
      rwa [List.take_of_length_le (by omega)] at this
def Dp (cmp : Int) (l r : OV) : Bool := cmp == 0 && N3 l cR && N3 r cR
mutual
def i6 (cols params : List Int) : Pred -> Bool
 | .mk op cmp l r args =>
  if op == 1 || op == 2 then Dp cmp l r && args.length == 0
  else if op == 3 then args.length == 0 && cmp >= 1 && cmp <= 6 && kindOf cols params l != 0 && kindOf cols params l == kindOf cols params r
  else if op == 4 || op == 5 || (op == 6 && args.length == 1) then Dp cmp l r && xR cols params args
  else false
def xR (cols params : List Int) : List Pred -> Bool
 | [] => true
 | p :: ps => i6 cols params p && xR cols params ps
end
theorem Fy (cols params : List Int) : ∀ ps : List Pred, xR cols params ps = ps.all (i6 cols params)
 | [] => by simp [xR]
 | p :: ps => by simp [xR, Fy cols params ps]
structure Gc (cols params : List Int) (v : PV) (p : Pred) : Prop where
 eq : i6 cols params p = (sU v && p.args.all (i6 cols params))
def Ku (N : Nat) : Vc.Spec := λ cvs m h K => ∃ s t cols params v p, cvs = [cS s, cS t, aP v] /\ aU h s cols /\ aU h t params /\ cX h p v /\ SizeOf.sizeOf p < N /\ K (cB (i6 cols params p)) m h
def HS (N : Nat) : Vc.Spec := λ cvs m h K => ∃ s t cols params v p, cvs = [WR s t, aP v] /\ aU h s cols /\ aU h t params /\ cX h p v /\ SizeOf.sizeOf p < N /\ K (cB (i6 cols params p)) m h
noncomputable def OR (N : Nat) (s t : Sl) (cols params : List Int) (v : PV) (p : Pred) (m : MH) (h : PH) : Ctx :=
 ctx [(83, Ku N), (109, SI), (110, Qf)]
  [Av 17 (λ i => cD 84 87 [(0, sv s), (1, sv t), (5, .at (.ptr 5 0)), (70, iv v.args.len), (71, iv i)] [(5, .cells 38 (v.enc.map .val))] m h) (λ i => i <= p.args.length /\ (p.args.take i).all (i6 cols params) = true) (λ i => p.args.length - i)]
  [(14, { A := Unit, st := λ _ => cD 84 87 [(0, sv s), (1, sv t), (5, .at (.ptr 5 0))] [(5, .cells 38 (v.enc.map .val))] m h, inv := λ _ => Gc cols params v p })] [] false
noncomputable def OL (N : Nat) (s t : Sl) (cols params : List Int) (v : PV) (p : Pred) (m : MH) (h : PH) : Ctx :=
 ctx [(89, HS N), (111, M0)]
  [Av 18 (λ i => cD 87 89 [(2, .at (.ptr 2 0)), (3, .at (.ptr 3 0)), (76, sv v.args), (77, iv v.args.len), (78, iv i)] [(2, .cells 150 [.val (.slice s.a s.len s.cap), .val (.slice t.a t.len t.cap)]), (3, .cells 38 (v.enc.map .val))] m h) (λ i => i <= p.args.length /\ (p.args.take i).all (i6 cols params) = true) (λ i => p.args.length - i)]
  [(15, { A := Unit, st := λ _ => cD 87 89 [(2, .at (.ptr 2 0)), (3, .at (.ptr 3 0))] [(2, .cells 150 [.val (.slice s.a s.len s.cap), .val (.slice t.a t.len t.cap)]), (3, .cells 38 (v.enc.map .val))] m h, inv := λ _ => Gc cols params v p })] [] false
noncomputable abbrev lE (a : PV) : Int := aF a.args
abbrev yY (a : Sl -> (List Int) -> Prop) : Prop := ∃ (x : Sl) (x1 : List Int), a x x1
abbrev xK (a : Sl -> (List Int) -> (List Int) -> Prop) : Prop := yY (λ x x1 => ∃ (x2 : List Int), a x x1 x2)
noncomputable abbrev bX (a : CV) (b : List Value) : List CV := lY a (kK b)
abbrev eT  : Prop := eP 5
noncomputable abbrev Bp (a : Nat) (b : Pred) (c d : List Int) : Bool := List.all (List.take a b.args) (i6 c d)
attribute [push_cast] lE yY xK bX eT Bp
def LK (N : Nat) (s t : Sl) (cols params : List Int) (v : PV) (p : Pred) (m : MH) (h : PH) (K : CV -> MH -> PH -> Prop) : Prop :=
  dT (v.op == 1) (∃ (v1 : PV), gH (cK (eF v) (eF v1)) (sU v1) (K (uS (lE v == 0)) m h) (K aR m h)) (v.op == 2) (∃ (v1 : PV), gH (cK (eF v) (eF v1)) (sU v1) (K (uS (lE v == 0)) m h) (K aR m h)) (dT (v.op == 3) (∃ (s1 : Sl), xK (λ t1 c p1 => ∃ (o : OV), aG (dO s :: bX (dO t) (u9 v) = dO s1 :: bX (dO t1) o.enc) (aU h s1 c) (aU h t1 p1) (dW (lE v) 0 (fI v.cmp 1 (branch (decide (v.cmp <= 6)) (dE (kindOf c p1 o) 0 (∃ (s2 : Sl), xK (λ t2 c1 p2 => ∃ (o1 : OV), aG (dO s :: bX (dO t) (tH v) = dO s2 :: bX (dO t2) o1.enc) (aU h s2 c1) (aU h t2 p2) (K (uS (kindOf c p1 o == kindOf c1 p2 o1)) m h))) (K aR m h)) (K aR m h)) (K aR m h)) (K aR m h)))) (v.op == 4) (∃ (x : Unit), aA (Gc cols params v p) (aK s) (aA (aK t) eT (aG (jA v) (m = m) (h
 = h) True))) (dT (v.op == 5) (∃ (x : Unit), aA (Gc cols params v p) (aK s) (aA (aK t) eT (aG (jA v) (m = m) (h = h) True))) (v.op == 6) (dE (lE v) 1 (K aR m h) (∃ (x : Unit), aA (Gc cols params v p) (aK s) (aA (aK t) eT (aG (jA v) (m = m) (h = h) True)))) (K aR m h))) /\ ∀ (_ : Unit), Gc cols params v p -> ∃ (v1 : PV), gH (cK (eF v) (eF v1)) (!(sU v1)) (K aR m h) (gR (∃ (x : Nat), aA (x <= jR p /\ qU (Bp x p cols params)) (aK s) (aA (aK t) eT (aA (oT v) (bO x) (aA (jA v) (m = m) (bG h h))))) (λ x => x <= jR p /\ qU (Bp x p cols params) -> bE (↑x : Int) (aF v.args) (aY (λ b o => aG (bC v.args.a b o) (0 <= (↑x : Int)) ((↑x : Int) < aF v.args) (∃ (y : PV), bI m h b (bZ o x 13) y.enc /\ ∃ (s1 : Sl), xK (λ t1 c p1
 => kC (λ v2 p2 => aA (dO s :: bX (dO t) y.enc = dO s1 :: bX (dO t1) v2.enc) (aU h s1 c) (aA (aU h t1 p1) (cX h p2 v2) (gH (nV p2 N) (!(i6 c p1 p2)) (K aR m h) (∃ (y1 : Nat), aA (y1 <= jR p /\ qU (Bp y1 p cols params)) (jR p - y1 < jR p - x) (aA (aK s) (aK t) (aA eT (oT v) (aA (aZ x 1 y1) (jA v) (cQ (m = m) h h)))))))))))) (K gV m h)))
theorem Vg (N : Nat) (s t : Sl) (cols params : List Int) (v : PV) (p : Pred) (m : MH) (h : PH) (K : CV -> MH -> PH -> Prop) : LK N s t cols params v p m h K = (cG (OR N s t cols params v p m h) Tryz.f83 (aE Tryz.f83) (entry Tryz.f83.ntmps [cS s, cS t, aP v] m h) K) := by kernel_rfl
noncomputable abbrev kY (a b : Value) : List Value := aL a b []
noncomputable abbrev gP (a b : Sl) : CV := kK (kY (nG a) (nG b))
abbrev hJ  : Prop := eP 3
noncomputable abbrev bB (a b : At) (c : List At) : List At := a :: b :: c
noncomputable abbrev kJ (a b : At) : List At := bB a b []
abbrev z7 (a b : Sl) : Prop := eQ (oQ 150 (kJ (gI a) (gI b)))
abbrev eJ (a : Prop) (b : Bool) (c d : Prop) : Prop := a -> branch b c d
attribute [push_cast] kY gP hJ bB kJ z7 eJ
def LF (N : Nat) (s t : Sl) (cols params : List Int) (v : PV) (p : Pred) (m : MH) (h : PH) (K : CV -> MH -> PH -> Prop) : Prop :=
  dT (v.op == 3) (∃ (s1 : Sl), xK (λ t1 c p1 => ∃ (o : OV), aG (bX (gP s t) (u9 v) = bX (gP s1 t1) o.enc) (aU h s1 c) (aU h t1 p1) (∃ (s2 : Sl), xK (λ t2 c1 p2 => ∃ (o1 : OV), aG (bX (gP s t) (tH v) = bX (gP s2 t2) o1.enc) (aU h s2 c1) (aU h t2 p2) (dW (lE v) 0 (fI v.cmp 1 (branch (decide (v.cmp <= 6)) (dE (kindOf c p1 o) 0 (K (uS (kindOf c p1 o == kindOf c1 p2 o1)) m h) (K aR m h)) (K aR m h)) (K aR m h)) (K aR m h)))))) (v.op == 1) (dE (lE v) 0 (K aR m h) (∃ (x : Unit), aA (Gc cols params v p) fL (aA hJ (z7 s t) (aG (jA v) (m = m) (h = h) True)))) (dT (v.op == 2) (dE (lE v) 0 (K aR m h) (∃ (x : Unit), aA (Gc cols params v p) fL (aA hJ (z7 s t) (aG (jA v) (m = m) (h = h) True)))) (v.op == 6) (dE (lE v) 1 (K aR
 m h) (∃ (x : Unit), aA (Gc cols params v p) fL (aA hJ (z7 s t) (aG (jA v) (m = m) (h = h) True)))) (dT (v.op == 4) (∃ (x : Unit), aA (Gc cols params v p) fL (aA hJ (z7 s t) (aG (jA v) (m = m) (h = h) True))) (v.op == 5) (∃ (x : Unit), aA (Gc cols params v p) fL (aA hJ (z7 s t) (aG (jA v) (m = m) (h = h) True))) (K aR m h))) /\ ∀ (_ : Unit), eJ (Gc cols params v p) (v.cmp != 0) (K aR m h) (∃ (r : Bool), gH (oL 35 (u9 v) (aL aX aX (aL aX aX sX)) r) (!r) (K aR m h) (∃ (r1 : Bool), gH (oL 35 (tH v) (aL aX aX (aL aX aX sX)) r1) (!r1) (K aR m h) (gR (∃ (x : Nat), aA (x <= jR p /\ qU (Bp x p cols params)) fL (aA (eP 3) (aK v.args) (aA (oT v) (bO x) (aA (z7 s t) (jA v) (cQ (m = m) h
 h))))) (λ x => x <= jR p /\ qU (Bp x p cols params) -> bE (↑x : Int) (aF v.args) (aY (λ b o => aG (bC v.args.a b o) (0 <= (↑x : Int)) ((↑x : Int) < aF v.args) (∃ (y : PV), bI m h b (bZ o x 13) y.enc /\ ∃ (s1 : Sl), xK (λ t1 c p1 => kC (λ v1 p2 => aA (bX (gP s t) y.enc = bX (gP s1 t1) v1.enc) (aU h s1 c) (aA (aU h t1 p1) (cX h p2 v1) (gH (nV p2 N) (!(i6 c p1 p2)) (K aR m h) (∃ (y1 : Nat), aA (y1 <= jR p /\ qU (Bp y1 p cols params)) (jR p - y1 < jR p - x) (aA (eP 2) (eP 3) (aA (aK v.args) (oT v) (aA (aZ x 1 y1) (z7 s t) (aG (jA v) (m = m) (h = h) True)))))))))))) (K gV m h)))))
theorem U9 (N : Nat) (s t : Sl) (cols params : List Int) (v : PV) (p : Pred) (m : MH) (h : PH) (K : CV -> MH -> PH -> Prop) : LF N s t cols params v p m h K = (cG (OL N s t cols params v p m h) Tryz.f89 (aE Tryz.f89) (entry Tryz.f89.ntmps [WR s t, aP v] m h) K) := by kernel_rfl
theorem cX.top {v : PV} (r : cX h p v) : p = .mk v.op v.cmp v.left v.right p.args := by
 cases p with
 | mk op cmp l r' args => obtain ⟨h1, h2, h3, h4, _⟩ := r; simp [Pred.args, h1, h2, h3, h4]
theorem FB {cols params : List Int} {h : PH} {p : Pred} {v : PV} (r : cX h p v) : i6 cols params p = if v.op == 1 || v.op == 2 then sU v && p.args.length == 0
 else if v.op == 3 then p.args.length == 0 && v.cmp >= 1 && v.cmp <= 6 && kindOf cols params v.left != 0 && kindOf cols params v.left == kindOf cols params v.right
 else if v.op == 4 || v.op == 5 || (v.op == 6 && p.args.length == 1) then sU v && p.args.all (i6 cols params)
 else false := by
 have := r.top
 generalize p.args = xs at this ⊢
 subst this
 rw [i6, Fy]; rfl
theorem Gn {n : Nat} {k : Nat} : ((n : Int) == (k : Int)) = (n == k) := by
 apply Bool.eq_iff_iff.2; rw [beq_iff_eq, beq_iff_eq]; omega
theorem OS : ∀ N, Sound Tryz.prog 83 (Ku N)
 | 0 => by
  refine aI (fn := Tryz.f83) (c := aE Tryz.f83) Tryz.func83 rfl (by decide) ?_
  rintro cvs m h K ⟨s, t, cols, params, v, p, rfl, _, _, hr, hN, _⟩
  omega
 | N + 1 => by
  refine aI (fn := Tryz.f83) (c := aE Tryz.f83) Tryz.func83 rfl (by decide) ?_
  rintro cvs m h K ⟨s, t, cols, params, v, p, rfl, hs, ht, hr, hN, hK⟩
  refine ⟨OR N s t cols params v p m h, rfl, aD (OS N) (aD NT (aD NS aH)), ?_⟩
  rw [<- Vg N s t cols params v p m h K]
  obtain ⟨hl, hlen, hget⟩ := hr.open
  have hv := FB (cols := cols) (params := params) hr
  have hz : ((v.args.len : Int) == 0) = (p.args.length == 0) := by rw [hlen]; exact Gn (k := 0)
  have h1 : ((v.args.len : Int) != 1) = (p.args.length != 1) := by rw [hlen]; simp only [bne]; rw [show (1 : Int) = ((1 : Nat) : Int) from rfl, Gn]
  dsimp only [LK, push_cast]
  refine ⟨?_, ?_⟩
  . refine aB (λ e => ⟨v, rfl, aB (λ e2 => gY hK ?_) (λ e2 => gY hK ?_)⟩) (λ e => aB (λ e1 => ⟨v, rfl, aB (λ e2 => gY hK ?_) (λ e2 => gY hK ?_)⟩) (λ e1 => aB (λ e2 => ⟨s, t, cols, params, v.left, rfl, hs, ht, ?_⟩) (λ e2 => ?_)))
    . rw [hv, hz]; simp [e, e2]
    . rw [hv]; simp [e, e2]
    . rw [hv, hz]; simp [e1, e2]
    . rw [hv]; simp [e1, e2]
    . have hv3 : i6 cols params p = (p.args.length == 0 && v.cmp >= 1 && v.cmp <= 6 && kindOf cols params v.left != 0 && kindOf cols params v.left == kindOf cols params v.right) := by rw [hv]; simp [e, e1, e2]
      rw [hv3] at hK
      refine aB (λ e3 => aB (λ e4 => aB (λ e5 => aB (λ e6 => ⟨s, t, cols, params, v.right, rfl, hs, ht, gY hK ?_⟩) (λ e6 => gY hK ?_)) (λ e5 => gY hK ?_)) (λ e4 => gY hK ?_)) (λ e3 => gY hK ?_)
      all_goals (rw [hz] at e3; simp only [beq_iff_eq, decide_eq_true_eq, decide_eq_false_iff_not] at *; simp [*])
    . refine aB (λ e3 => ⟨(), ⟨by rw [hv]; simp [e, e1, e2, e3]⟩, rfl, rfl, rfl, rfl, rfl, rfl, trivial⟩) (λ e3 => aB (λ e4 => ⟨(), ⟨by rw [hv]; simp [e, e1, e2, e4]⟩, rfl, rfl, rfl, rfl, rfl, rfl, trivial⟩) (λ e4 => aB (λ e5 => aB (λ e6 => gY hK ?_) (λ e6 => ⟨(), ⟨?_⟩, rfl, rfl, rfl, rfl, rfl, rfl, trivial⟩)) (λ e5 => gY hK ?_)))
      . rw [h1] at e6; rw [hv]; simp_all
      . rw [h1] at e6; rw [hv]; simp_all
      . rw [hv]; simp_all
  . intro _ htl
    rw [htl.eq] at hK
    refine ⟨v, rfl, aB (λ e => gY hK ?_) (λ e => ?_)⟩
    . simp_all
    . have e : sU v = true := by simpa using e
      rw [e, Bool.true_and] at hK
      refine ⟨⟨0, ⟨by omega, by simp⟩, rfl, rfl, rfl, rfl, rfl, rfl, rfl, rfl, trivial⟩, λ i hi => aC (λ hlt => ?_) (λ hge => gY hK ?_)⟩
      . obtain ⟨q, hq⟩ : ∃ q, p.args[i]? = some q := ⟨p.args[i]'(by omega), List.getElem?_eq_getElem _⟩
        obtain ⟨b, o, u, ea, hrd, hru⟩ := hget i q hq
        refine ⟨b, o, ea, by omega, hlt, u, .imm (by simpa using hrd), s, t, cols, params, u, q, rfl, hs, ht, hru, ?_, aB (λ hd => gY hK ?_) (λ hd => ?_)⟩
        . have := uL (List.mem_of_getElem? hq); omega
        . exact Ay hq (by simpa using hd)
        . refine ⟨i + 1, ⟨by omega, ?_⟩, by omega, rfl, rfl, rfl, rfl, by rw [DM (by omega)], rfl, rfl, rfl, trivial⟩
          rw [uM hq, hi.2]; simpa using hd
      . have := hi.2
        rwa [List.take_of_length_le (by omega)] at this
theorem OM : ∀ N, Sound Tryz.prog 89 (HS N)
 | 0 => by
  refine aI (fn := Tryz.f89) (c := aE Tryz.f89) Tryz.func89 rfl (by decide) ?_
  rintro cvs m h K ⟨s, t, cols, params, v, p, rfl, _, _, hr, hN, _⟩
  omega
 | N + 1 => by
  refine aI (fn := Tryz.f89) (c := aE Tryz.f89) Tryz.func89 rfl (by decide) ?_
  rintro cvs m h K ⟨s, t, cols, params, v, p, rfl, hs, ht, hr, hN, hK⟩
  refine ⟨OL N s t cols params v p m h, rfl, aD (OM N) (aD NR aH), ?_⟩
  rw [<- U9 N s t cols params v p m h K]
  obtain ⟨hl, hlen, hget⟩ := hr.open
  have hv := FB (cols := cols) (params := params) hr
  have hz : ((v.args.len : Int) == 0) = (p.args.length == 0) := by rw [hlen]; exact Gn (k := 0)
  have hz' : ((v.args.len : Int) != 0) = (p.args.length != 0) := by simp only [bne]; rw [hz]
  have h1 : ((v.args.len : Int) != 1) = (p.args.length != 1) := by rw [hlen]; simp only [bne]; rw [show (1 : Int) = ((1 : Nat) : Int) from rfl, Gn]
  have hnil : p.args.length = 0 -> p.args.all (i6 cols params) = true := λ e => by rw [List.eq_nil_of_length_eq_zero e]; rfl
  dsimp only [LF, push_cast]
  refine ⟨?_, ?_⟩
  . refine aB (λ e2 => ⟨s, t, cols, params, v.left, rfl, hs, ht, s, t, cols, params, v.right, rfl, hs, ht, ?_⟩) (λ e2 => aB (λ e => aB (λ e3 => gY hK ?_) (λ e3 => ⟨(), ⟨?_⟩, rfl, rfl, rfl, rfl, rfl, rfl, trivial⟩)) (λ e => aB (λ e1 => aB (λ e3 => gY hK ?_) (λ e3 => ⟨(), ⟨?_⟩, rfl, rfl, rfl, rfl, rfl, rfl, trivial⟩)) (λ e1 => aB (λ e5 => aB (λ e6 => gY hK ?_) (λ e6 => ⟨(), ⟨?_⟩, rfl, rfl, rfl, rfl, rfl, rfl, trivial⟩)) (λ e5 => aB (λ e3 => ⟨(), ⟨?_⟩, rfl, rfl, rfl, rfl, rfl, rfl, trivial⟩) (λ e3 => aB (λ e4 => ⟨(), ⟨?_⟩, rfl, rfl, rfl, rfl, rfl, rfl, trivial⟩) (λ e4 => gY hK ?_))))))
    . have e2' : v.op = 3 := by simpa using e2
      have hv3 : i6 cols params p = (p.args.length == 0 && v.cmp >= 1 && v.cmp <= 6 && kindOf cols params v.left != 0 && kindOf cols params v.left == kindOf cols params v.right) := by rw [hv]; simp [e2']
      rw [hv3] at hK
      refine aB (λ e3 => aB (λ e4 => aB (λ e5 => aB (λ e6 => gY hK ?_) (λ e6 => gY hK ?_)) (λ e5 => gY hK ?_)) (λ e4 => gY hK ?_)) (λ e3 => gY hK ?_)
      all_goals (rw [hz] at e3; simp only [beq_iff_eq, decide_eq_true_eq, decide_eq_false_iff_not] at *; simp [*])
    . rw [hz'] at e3; rw [hv]; simp_all
    . rw [hz'] at e3; rw [hv]
      have e3' : p.args.length = 0 := by simpa using e3
      rw [hnil e3', e3']; simp [e]
    . rw [hz'] at e3; rw [hv]; simp_all
    . rw [hz'] at e3; rw [hv]
      have e3' : p.args.length = 0 := by simpa using e3
      rw [hnil e3', e3']; simp [e1]
    . rw [h1] at e6; rw [hv]; simp_all
    . rw [h1] at e6; rw [hv]; simp_all
    . rw [hv]; simp [e, e1, e2, e3]
    . rw [hv]; simp [e, e1, e2, e4]
    . rw [hv]; simp_all
  . intro _ htl
    rw [htl.eq] at hK
    refine aB (λ e => gY hK ?_) (λ e => ⟨N3 v.left cR, wJ v.left cR, aB (λ e1 => gY hK ?_) (λ e1 => ⟨N3 v.right cR, wJ v.right cR, aB (λ e2 => gY hK ?_) (λ e2 => ?_)⟩)⟩)
    . simp_all [sU]
    . simp_all [sU]
    . simp_all [sU]
    . have e : sU v = true := by simp_all [sU]
      rw [e, Bool.true_and] at hK
      refine ⟨⟨0, ⟨by omega, by simp⟩, rfl, rfl, rfl, rfl, rfl, rfl, rfl, rfl, rfl, trivial⟩, λ i hi => aC (λ hlt => ?_) (λ hge => gY hK ?_)⟩
      . obtain ⟨q, hq⟩ : ∃ q, p.args[i]? = some q := ⟨p.args[i]'(by omega), List.getElem?_eq_getElem _⟩
        obtain ⟨b, o, u, ea, hrd, hru⟩ := hget i q hq
        refine ⟨b, o, ea, by omega, hlt, u, .imm (by simpa using hrd), s, t, cols, params, u, q, rfl, hs, ht, hru, ?_, aB (λ hd => gY hK ?_) (λ hd => ?_)⟩
        . have := uL (List.mem_of_getElem? hq); omega
        . exact Ay hq (by simpa using hd)
        . refine ⟨i + 1, ⟨by omega, ?_⟩, by omega, rfl, rfl, rfl, rfl, by rw [DM (by omega)], rfl, rfl, rfl, rfl, trivial⟩
          rw [uM hq, hi.2]; simpa using hd
      . have := hi.2
        rwa [List.take_of_length_le (by omega)] at this
theorem drop_cons {α : Type} {l : List α} {x : α} (h : l[i]? = some x) : l.drop i = x :: l.drop (i + 1) := by
 have hi : i < l.length := (List.getElem?_eq_some_iff.1 h).1
 rw [List.drop_eq_getElem_cons hi]
 rw [List.getElem?_eq_getElem hi] at h
 simp at h
 rw [h]
mutual
def j8 : Pred -> Nat -> Int -> Bool × Int
 | .mk _ _ _ _ args, k, b => if b < 1 then (false, b - 1) else match k with | 0 => (false, b - 1) | k + 1 => pL args k (b - 1)
def pL : List Pred -> Nat -> Int -> Bool × Int
 | [], _, b => (true, b)
 | p :: ps, k, b => match j8 p k b with | (false, b') => (false, b') | (true, b') => pL ps k b'
end
mutual
def F7 : Pred -> Int
 | .mk _ _ _ _ args => 1 + zO args
def zO : List Pred -> Int
 | [] => 0
 | p :: ps => F7 p + zO ps
end
mutual
theorem JL : ∀ p : Pred, 1 <= F7 p
 | .mk _ _ _ _ args => by have := BU args; simp only [F7]; omega
theorem BU : ∀ ps : List Pred, 0 <= zO ps
 | [] => by simp [zO]
 | p :: ps => by have := JL p; have := BU ps; simp only [zO]; omega
end
mutual
theorem Cz : ∀ (p : Pred) (n : Int), n <= 24 -> (n + F7 p <= 24 -> mR p n = n + F7 p) /\ (24 < n + F7 p -> mR p n = 25)
 | .mk _ _ _ _ args, n, h => by
  obtain ⟨h1, h2⟩ := G2 args (n + 1) (by omega)
  simp only [mR, F7]
  exact ⟨λ e => by rw [h1 (by omega)]; omega, λ e => h2 (by omega)⟩
theorem G2 : ∀ (ps : List Pred) (n : Int), n <= 25 -> (n + zO ps <= 24 -> j9 ps n = n + zO ps) /\ (24 < n + zO ps -> j9 ps n = 25)
 | [], n, h => by
  simp only [j9, zO]
  omega
 | p :: ps, n, h => by
  have h1 := JL p
  have h2 := BU ps
  simp only [j9, zO]
  by_cases h3 : n <= 24
  . rw [if_pos h3]
    have h4 := Cz p n h3
    have h5 := (Bd p n h3).2
    have h6 := G2 ps _ h5
    by_cases h7 : n + F7 p <= 24
    . have h8 := h4.1 h7
      rw [h8] at h6 ⊢
      exact ⟨λ e => by rw [h6.1 (by omega)]; omega, λ e => h6.2 (by omega)⟩
    . have h8 := h4.2 (by omega)
      rw [h8] at h6 ⊢
      exact ⟨λ e => by omega, λ e => h6.2 (by omega)⟩
  . rw [if_neg h3]; omega
end
mutual
theorem ED : ∀ (p : Pred) (k : Nat) (b : Int), 0 <= b -> ((j8 p k b).1 = true ↔ F7 p <= b /\ kW p k = false) /\ ((j8 p k b).1 = true -> (j8 p k b).2 = b - F7 p)
 | .mk _ _ _ _ args, k, b, h => by
  have hp := BU args
  simp only [j8, F7]
  by_cases h0 : b < 1
  . rw [if_pos h0]
    exact ⟨⟨λ e => (by cases e), λ e => (by omega)⟩, λ e => (by cases e)⟩
  . rw [if_neg h0]
    cases k with
    | zero => exact ⟨⟨λ e => (by cases e), λ e => (by simp [kW] at e)⟩, λ e => (by cases e)⟩
    | succ k =>
     obtain ⟨h1, h2⟩ := GI args k (b - 1) (by omega)
     simp only [kW]
     refine ⟨⟨λ e => ?_, λ e => h1.2 ⟨by omega, e.2⟩⟩, λ e => by have := h2 e; omega⟩
     have := h1.1 e
     exact ⟨by omega, this.2⟩
theorem GI : ∀ (ps : List Pred) (k : Nat) (b : Int), 0 <= b -> ((pL ps k b).1 = true ↔ zO ps <= b /\ wT ps k = false) /\ ((pL ps k b).1 = true -> (pL ps k b).2 = b - zO ps)
 | [], k, b, h => by simp [pL, zO, wT, h]
 | p :: ps, k, b, h => by
  obtain ⟨h1, h2⟩ := ED p k b h
  have hp := BU ps
  simp only [pL, zO, wT]
  cases e : j8 p k b with
  | mk r b' =>
   rw [e] at h1 h2
   cases r with
   | false =>
    refine ⟨⟨λ e => (by cases e), λ e => ?_⟩, λ e => (by cases e)⟩
    have := h1.2 ⟨by omega, (Bool.or_eq_false_iff.1 e.2).1⟩
    cases this
   | true =>
    have h3 := h2 rfl
    have h1 := h1.1 rfl
    simp only at h3
    obtain ⟨h4, h5⟩ := GI ps k b' (by omega)
    refine ⟨⟨λ e => ?_, λ e => ?_⟩, λ e => by have := h5 e; simp only; omega⟩
    . have := h4.1 e
      exact ⟨by omega, by rw [h1.2, this.2]; rfl⟩
    . exact h4.2 ⟨by omega, (Bool.or_eq_false_iff.1 e.2).2⟩
end
def fE (cols params : List Int) (p : Pred) : Int :=
 if !cols.all dR || !params.all dR then 1
 else if mR p 0 > 24 || kW p 8 then 2
 else if !i6 cols params p then 50 else 0
theorem Qp (p : Pred) : (j8 p 8 24).1 = !(decide (mR p 0 > 24) || kW p 8) := by
 have h1 := (ED p 8 24 (by omega)).1
 have h2 := Cz p 0 (by omega)
 rw [Bool.eq_iff_iff, h1]
 simp only [Bool.not_eq_true', Bool.or_eq_false_iff, decide_eq_false_iff_not]
 refine and_congr_left λ _ => ⟨λ e => ?_, λ e => ?_⟩
 . rw [h2.1 (by omega)]; omega
 . by_cases h3 : F7 p <= 24
   . exact h3
   . rw [h2.2 (by omega)] at e; omega
def pD (n : Int) : Obj := .cells #[.int .i64 n] 3 (0, 0)
def Ob (N : Nat) : Vc.Spec := λ cvs m h K => ∃ v p, ∃ k b : Nat, ∃ n, cvs = [aP v, cI (9 - k), cP b] /\ cX h p v /\ SizeOf.sizeOf p < N /\ k <= 9 /\ 0 <= n /\ n <= 24 /\ m b = some (pD n) /\ ∀ m', gS m m' b (pD (j8 p k n).2) -> K (cB (j8 p k n).1) m' h
noncomputable def ON (N : Nat) (v : PV) (p : Pred) (k b : Nat) (n : Int) (m : MH) (h : PH) : Ctx :=
 ctx [(88, Ob N)] [(5, { A := Nat × Int × MH, st := λ x => cD 36 39 [(1, iv (9 - k)), (2, vv (.pointer (some ⟨b, 0, none⟩))), (23, sv v.args), (24, iv v.args.len), (25, iv x.1)] [] x.2.2 h, inv := λ x => x.1 <= p.args.length /\ 0 <= x.2.1 /\ x.2.1 <= 24 /\ gS m x.2.2 b (pD x.2.1) /\ 1 <= k /\ pL (p.args.drop x.1) (k - 1) x.2.1 = j8 p k n, mu := λ x => p.args.length - x.1 })] [] [] false
def lW : Vc.Spec := λ cvs m h K => ∃ s t v cols params p, cvs = [cS s, cS t, aP v] /\ aU h s cols /\ aU h t params /\ cX h p v /\ K (cI (fE cols params p)) m h
noncomputable def f57_ctx (N : Nat) : Ctx := ctx [(54, Fu), (81, Od N), (82, KD N), (83, Ku N)] [] [] [] false
noncomputable def O9 (N : Nat) : Ctx := ctx [(87, Fu), (88, Ob N), (89, HS N)] [] [] [] false
abbrev xB (a : (Array Value) -> TypeId -> Prop) : Prop := ∃ (x : Array Value) (x1 : TypeId), a x x1
noncomputable abbrev xJ (a : Array Value) (b : TypeId) (c : Nat) : Obj := Obj.cells a b (c, c)
abbrev hO (a b : MH) (c : Nat) (d : List Value) (e : TypeId) : Prop := gS a b c (xJ (Array.mk d) e 0)
noncomputable abbrev mL (a : Value) (b : Nat) (c : List Value) : List Value := a :: List.drop b c
abbrev fB (a b : Int) (c d : Prop) : Prop := branch (decide (a > b)) c d
noncomputable abbrev pO (a : Nat) : Int := 9 - (↑a : Int)
abbrev eA (a : Int) : Prop := eQ (jD a)
abbrev cH (a : Nat) : Prop := eQ (Qs a 0)
noncomputable abbrev eH (a : Nat) : CV := zN a 0
attribute [push_cast] xB xJ hO mL fB pO eA cH eH
def LG (N : Nat) (v : PV) (p : Pred) (k b : Nat) (n : Int) (m : MH) (h : PH) (K : CV -> MH -> PH -> Prop) : Prop :=
  ∃ (y : Int), bI m h b 0 (bT y) /\ xB (λ c E => aA (KB m b (xJ c E 0)) (0 < c.size) (∀ (m1 : MH), hO m m1 b (mL (cZ (jY y)) 1 c.toList) E -> ∃ (y1 : Int), bI m1 h b 0 (bT y1) /\ bE y1 0 (K aR m1 h) (fB (pO k) 8 (K aR m1 h) ((∃ (x : Nat × Int × MH), aA (aA (x.1 <= jR p) (aW x.2.1) (aA (x.2.1 <= 24) (hO m x.2.2 b (bT x.2.1) 3) (1 <= k /\ pL (List.drop x.1 p.args) (k - 1) x.2.1 = j8 p k n))) (eA (pO k)) (aA (cH b) (aK v.args) (aA (oT v) (bO x.1) (aA (m1 = x.2.2) (h = h) True)))) /\ ∀ (x : Nat × Int × MH), aA (x.1 <= jR p) (aW x.2.1) (aA (x.2.1 <= 24) (hO m x.2.2 b (bT x.2.1) 3) (1 <= k /\ pL (List.drop x.1 p.args) (k - 1) x.2.1 = j8 p k n)) -> bE (↑x.1 : Int) (aF v.args) (aY (λ b1 o => aG (bC v.args.a b1 o) (0 <= (↑x.1 : Int)) ((↑x.1 :
 Int) < aF v.args) (∃ (y2 : PV), bI x.2.2 h b1 (bZ o x.1 13) y2.enc /\ kC (λ v1 p1 => aY (λ k1 b2 => ∃ (n1 : Int), aA (eF y2 :: lY (fS (eR (pO k) 1)) (eH b) = eF v1 :: lY (fS (pO k1)) (eH b2)) (cX h p1 v1) (aA (nV p1 N) (k1 <= 9) (aG (aW n1) (n1 <= 24) (x.2.2 b2 = Option.some (xJ (Array.mk (bT n1)) 3 0)) (∀ (m2 : MH), eJ (hO x.2.2 m2 b2 (bT (j8 p1 k1 n1).2) 3) (!(j8 p1 k1 n1).1) (K aR m2 h) (∃ (y3 : Nat × Int × MH), aA (aA (y3.1 <= jR p) (aW y3.2.1) (aA (y3.2.1 <= 24) (hO m y3.2.2 b (bT y3.2.1) 3) (1 <= k /\ pL (List.drop y3.1 p.args) (k - 1) y3.2.1 = j8 p k n))) (jR p - y3.1 < jR p - x.1) (aA (eA (pO k)) (cH b) (aA (aK v.args) (oT v) (aA (aZ x.1 1 y3.1) (m2 = y3.2.2) (bG h h))))))))))))) (K gV x.2.2 h)))))
theorem Va (N : Nat) (v : PV) (p : Pred) (k b : Nat) (n : Int) (m : MH) (h : PH) (K : CV -> MH -> PH -> Prop) : LG N v p k b n m h K = (cG (ON N v p k b n m h) Tryz.f88 (aE Tryz.f88) (entry Tryz.f88.ntmps [aP v, cI (9 - k), cP b] m h) K) := by kernel_rfl
abbrev nC (a : Sl) (b : PH) (c : (List Int) -> Prop) : Prop := yY (λ x x1 => aA (cK (dO a) (dO x)) (aU b x x1) (c x1))
abbrev rL (a : Bool) (b c : Prop) : Prop := branch (!a) b c
attribute [push_cast] nC rL
def f57_nice (N : Nat) (s t : Sl) (v : PV) (m : MH) (h : PH) (K : CV -> MH -> PH -> Prop) : Prop :=
  nC s h (λ l => rL (wZ l) (K (fS 1) m h) (nC t h (λ l1 => rL (wZ l1) (K (fS 1) m h) (kC (λ v1 p => ∃ (k : Int), aA (cV (eF v) 0 = cV (eF v1) k) (cX h p v1) (aA (nV p N) (aW k) (k <= 24 /\ fB (mR p k) 24 (K (fS 2) m h) (kC (λ v2 p1 => ∃ (k1 : Nat), aA (cV (eF v) 8 = mW (eF v2) k1) (cX h p1 v2) (aA (nV p1 N) (k1 <= 100) (branch (kW p1 k1) (K (fS 2) m h) (∃ (s1 : Sl), xK (λ t1 c p2 => kC (λ v3 p3 => aA (dO s :: bX (dO t) v.enc = dO s1 :: bX (dO t1) v3.enc) (aU h s1 c) (aA (aU h t1 p2) (cX h p3 v3) (gH (nV p3 N) (!(i6 c p2 p3)) (K (fS 50) m h) (K (fS 0) m h)))))))))))))))))
theorem f57_vc (N : Nat) (s t : Sl) (v : PV) (m : MH) (h : PH) (K : CV -> MH -> PH -> Prop) : f57_nice N s t v m h K = (cG (f57_ctx N) Tryz.f57 (aE Tryz.f57) (entry Tryz.f57.ntmps [cS s, cS t, aP v] m h) K) := by kernel_rfl
def LY (N : Nat) (s t : Sl) (v : PV) (m : MH) (h : PH) (K : CV -> MH -> PH -> Prop) : Prop :=
  nC s h (λ l => rL (wZ l) (K (fS 1) m h) (nC t h (λ l1 => rL (wZ l1) (K (fS 1) m h) (∀ (b : Nat) (m1 : MH), gX m h b -> hO m m1 b (bT 24) 3 -> kC (λ v1 p => aY (λ k b1 => ∃ (n : Int), aA (eF v :: lY (fS 1) (eH b) = eF v1 :: lY (fS (pO k)) (eH b1)) (cX h p v1) (aA (nV p N) (k <= 9) (aG (aW n) (n <= 24) (m1 b1 = Option.some (xJ (Array.mk (bT n)) 3 0)) (∀ (m2 : MH), eJ (hO m1 m2 b1 (bT (j8 p k n).2) 3) (!(j8 p k n).1) (K (fS 2) m2 h) (∃ (s1 : Sl), xK (λ t1 c p1 => kC (λ v2 p2 => aA (bX (gP s t) v.enc = bX (gP s1 t1) v2.enc) (aU h s1 c) (aA (aU h t1 p1) (cX h p2 v2) (gH (nV p2 N) (!(i6 c p1 p2)) (K (fS 50) m2 h) (K (fS 0) m2 h)))))))))))))))
theorem VA (N : Nat) (s t : Sl) (v : PV) (m : MH) (h : PH) (K : CV -> MH -> PH -> Prop) : LY N s t v m h K = (cG (O9 N) Tryz.f63 (aE Tryz.f63) (entry Tryz.f63.ntmps [cS s, cS t, aP v] m h) K) := by kernel_rfl
end Go.Ps
namespace Go.Vc
open Go.Ps Go.Proofs
theorem gS.trans {m m' m'' : MH} {b : Nat} {o o' : Obj} (h1 : gS m m' b o) (h2 : gS m' m'' b o') : gS m m'' b o' := ⟨h2.at_, λ b' hb => (h2.other b' hb).trans (h1.other b' hb)⟩
end Go.Vc
namespace Go.Ps
open Go Go.Vc Go.Proofs
variable {K : CV -> MH -> PH -> Prop} {m : MH} {h : PH} {ps : List Int} {cb : Nat} {sc : bH} {v : QV} {q : Query} {p : Pred} {l : List Int} {i : Nat} {N : Nat} {m' : MH} {h' : PH} {co : List Int} {gr : List Int} {od : List (Int × Bool)} {w : Pred} {ta : Int} {li : Int} {xs : List (List Value)} {sz : Nat} {k : Nat} {ks : List (List Int)} {rs : List Int} {r : Sl} {a : List Int} {b : Nat}
theorem OO : ∀ N, Sound Tryz.prog 88 (Ob N)
 | 0 => by
  refine aI (fn := Tryz.f88) (c := aE Tryz.f88) Tryz.func88 rfl (by decide) ?_
  rintro cvs m h K ⟨v, p, k, b, n, rfl, hr, hN, _⟩
  omega
 | N + 1 => by
  refine aI (fn := Tryz.f88) (c := aE Tryz.f88) Tryz.func88 rfl (by decide) ?_
  rintro cvs m h K ⟨v, p, k, b, n, rfl, hr, hN, hk, h0, h1, hm, hK⟩
  refine ⟨ON N v p k b n m h, rfl, aD (OO N) aH, ?_⟩
  rw [<- Va N v p k b n m h K]
  dsimp only [LG, push_cast]
  obtain ⟨hl, hlen, hget⟩ := hr.open
  have hw : IntKind.i64.wrap (n - 1) = n - 1 := dP (by omega) (by omega)
  refine ⟨n, .of_m hm rfl, _, _, ⟨hm⟩, by simp, λ m' hu => ?_⟩
  rw [hw] at hu
  have hu' : gS m m' b (pD (n - 1)) := hu
  refine ⟨n - 1, .of_m hu'.at_ rfl, aC (λ h2 => ?_) (λ h2 => aC (λ h3 => ?_) (λ h3 => ?_))⟩
  . have e : j8 p k n = (false, n - 1) := by cases p; simp only [j8]; rw [if_pos (by omega)]
    rw [e] at hK
    exact hK m' hu'
  . have hk0 : k = 0 := by omega
    subst hk0
    have e : j8 p 0 n = (false, n - 1) := by cases p; simp only [j8]; rw [if_neg (by omega)]
    rw [e] at hK
    exact hK m' hu'
  . refine ⟨⟨(0, n - 1, m'), ⟨by simp, by simp only; omega, by simp only; omega, hu', by omega, ?_⟩, MT⟩, ?_⟩
    . obtain ⟨k', rfl⟩ : ∃ k', k = k' + 1 := ⟨k - 1, by omega⟩
      cases p
      simp only [j8, List.drop_zero, Pred.args]
      rw [if_neg (by omega)]
      rfl
    . rintro ⟨i, x, mx⟩ ⟨hi, hx0, hx1, hmx, hk1, he⟩
      simp only at hi hx0 hx1 hmx he
      refine aC (λ hlt => ?_) (λ hge => ?_)
      . obtain ⟨q, hq⟩ : ∃ q, p.args[i]? = some q := ⟨p.args[i]'(by simp only at hlt; omega), List.getElem?_eq_getElem _⟩
        obtain ⟨b1, o, u, ea, hrd, hru⟩ := hget i q hq
        have hd : p.args.drop i = q :: p.args.drop (i + 1) := drop_cons hq
        refine ⟨b1, o, ea, by simp, by simpa using hlt, u, .imm (by simpa using hrd), u, q, k - 1, b, x, ?_, hru, ?_, by omega, hx0, hx1, hmx.at_, λ m2 hm2 => ?_⟩
        . rw [dP (by omega) (by omega), show (9 - ((k - 1 : Nat) : Int)) = 9 - (k : Int) + 1 by omega]
        . have := uL (List.mem_of_getElem? hq); omega
        . have hmt : gS m m2 b (pD (j8 q (k - 1) x).2) := hmx.trans hm2
          rw [hd, pL] at he
          obtain ⟨hs1, hs2⟩ := ED q (k - 1) x hx0
          cases e : j8 q (k - 1) x with
          | mk r x' =>
           rw [e] at he hmt hs1 hs2
           cases r with
           | false =>
            simp only at he
            rw [<- he] at hK
            exact hK m2 hmt
           | true =>
            have hs3 := hs1.1 rfl
            have hs4 := hs2 rfl
            have hq1 := JL q
            simp only at hs4 he
            exact ⟨(i + 1, x', m2), ⟨by simp only at hlt ⊢; omega, by simp only; omega, by simp only; omega, hmt, hk1, he⟩, by simp only at hlt ⊢; omega, MT⟩
      . rw [List.drop_of_length_le (by simp only at hge; omega)] at he
        simp only [pL] at he
        rw [<- he] at hK
        exact hK mx hmx
theorem f57_sound : Sound Tryz.prog 57 lW := by
 refine aI (fn := Tryz.f57) (c := aE Tryz.f57) Tryz.func57 rfl (by decide) ?_
 rintro cvs m h K ⟨s, t, v, cols, params, p, rfl, hs, ht, hr, hK⟩
 refine ⟨f57_ctx (SizeOf.sizeOf p + 1), rfl, aD f54_sound (aD (OX _) (aD (OU _) (aD (OS _) aH))), ?_⟩
 rw [<- f57_vc (SizeOf.sizeOf p + 1) s t v m h K]
 dsimp only [f57_nice, push_cast]
 refine ⟨s, cols, rfl, hs, aB (λ e1 => wP hK ?_) (λ e1 => ⟨t, params, rfl, ht, aB (λ e2 => wP hK ?_) (λ e2 => ⟨v, p, 0, rfl, hr, by omega, by omega, by omega, aB (λ e3 => wP hK ?_) (λ e3 => ⟨v, p, 8, rfl, hr, by omega, by omega, aB (λ e4 => wP hK ?_) (λ e4 => ⟨s, t, cols, params, v, p, rfl, hs, ht, hr, by omega, aB (λ e5 => wP hK ?_) (λ e5 => wP hK ?_)⟩)⟩)⟩)⟩)⟩
 all_goals (simp only [fE]; simp only [*, Bool.or_false, Bool.false_or, Bool.or_true, Bool.true_or, Bool.and_true, Bool.true_and, Bool.and_false, Bool.false_and, Bool.not_true, Bool.not_false, Bool.false_eq_true, if_true, if_false, ↓reduceIte])
theorem EY : Sound Tryz.prog 63 lW := by
 refine gC (fn := Tryz.f63) (c := aE Tryz.f63) Tryz.func63 rfl (by decide) ?_
 rintro cvs m h K ⟨s, t, v, cols, params, p, rfl, hs, ht, hr, hK⟩
 refine ⟨O9 (SizeOf.sizeOf p + 1), rfl, aD QR (aD (OO _) (aD (OM _) aH)), ?_⟩
 rw [<- VA (SizeOf.sizeOf p + 1) s t v m h _]
 dsimp only [LY, push_cast]
 have hK2 : ∀ (m' : MH), (∀ b o, m b = some o -> m' b = some o) -> ∀ x, fE cols params p = x -> ∃ m2 h2, (∀ b o, m2 b = some o -> m' b = some o) /\ PH.le h h2 /\ PH.le h2 h /\ K (.val (.int .i64 x)) m2 h2 := λ m' hm x e => ⟨m, h, hm, .refl _, .refl _, e ▸ hK⟩
 refine ⟨s, cols, rfl, hs, aB (λ e1 => hK2 m (λ _ _ e => e) _ ?_) (λ e1 => ⟨t, params, rfl, ht, aB (λ e2 => hK2 m (λ _ _ e => e) _ ?_) (λ e2 b m1 hb hm1 => ⟨v, p, 8, b, 24, rfl, hr, by omega, by omega, by omega, by omega, hm1.at_, λ m2 hm2 => ?_⟩)⟩)⟩
 . simp only [fE]; simp only [*, Bool.or_false, Bool.false_or, Bool.or_true, Bool.true_or, Bool.and_true, Bool.true_and, Bool.and_false, Bool.false_and, Bool.not_true, Bool.not_false, Bool.false_eq_true, if_true, if_false, ↓reduceIte]
 . simp only [fE]; simp only [*, Bool.or_false, Bool.false_or, Bool.or_true, Bool.true_or, Bool.and_true, Bool.true_and, Bool.and_false, Bool.false_and, Bool.not_true, Bool.not_false, Bool.false_eq_true, if_true, if_false, ↓reduceIte]
 . have hsub : ∀ b o, m b = some o -> m2 b = some o := λ b' o e => by
    have hne : b' ≠ b := λ e' => by rw [e', hb.m_] at e; cases e
    rw [hm2.other b' hne, hm1.other b' hne, e]
   have hsb := Qp p
   refine aB (λ e3 => hK2 m2 hsub _ ?_) (λ e3 => ⟨s, t, cols, params, v, p, rfl, hs, ht, hr, by omega, aB (λ e5 => hK2 m2 hsub _ ?_) (λ e5 => hK2 m2 hsub _ ?_)⟩)
   all_goals (rw [hsb, Bool.not_not] at e3; clear hsb; simp only [fE]; simp only [*, Bool.or_false, Bool.false_or, Bool.or_true, Bool.true_or, Bool.and_true, Bool.true_and, Bool.and_false, Bool.false_and, Bool.not_true, Bool.not_false, Bool.false_eq_true, if_true, if_false, ↓reduceIte])
structure iT {α β : Type} (h : PH) (sz : Nat) (enc : β -> List Value) (R : α -> β -> Prop) (s : Sl) (l : List α) : Prop where
 ex : ∃ vs : List β, cW h s sz (vs.map enc) /\ l.length = vs.length /\ ∀ (i : Nat) (x : α), l[i]? = some x -> ∃ v, vs[i]? = some v /\ R x v
 len : l.length <= 502633886983
theorem iT.slen {α β : Type} {enc : β -> List Value} {R : α -> β -> Prop} {s : Sl} {l : List α} (r : iT h sz enc R s l) : s.len = l.length := by
 obtain ⟨vs, h1, h2, _⟩ := r.ex
 have := h1.len
 simp at this
 omega
theorem iT.at {α β : Type} {enc : β -> List Value} {R : α -> β -> Prop} {s : Sl} {l : List α} (r : iT h sz enc R s l) {x : α} (hi : l[i]? = some x) :
 ∃ b o v, s.a = some ⟨b, o, none⟩ /\ cL h b (o + i * sz) (enc v) /\ R x v := by
 obtain ⟨vs, h1, _, h3⟩ := r.ex
 obtain ⟨v, hv, hr⟩ := h3 i x hi
 obtain ⟨b, o, e, k⟩ := h1.get (i := i) (e := enc v) (by simp [hv])
 exact ⟨b, o, v, e, k, hr⟩
theorem iT.mono {α β : Type} {enc : β -> List Value} {R R' : α -> β -> Prop} {s : Sl} {l : List α} (r : iT h sz enc R s l) (le : PH.le h h') (hR : ∀ x v, R x v -> R' x v) : iT h' sz enc R' s l := by
 obtain ⟨vs, h1, h2, h3⟩ := r.ex
 exact ⟨⟨vs, h1.mono le, h2, λ i x hx => (h3 i x hx).imp λ v hv => ⟨hv.1, hR _ _ hv.2⟩⟩, r.len⟩
theorem iT.nil {α β : Type} (h : PH) (sz : Nat) (enc : β -> List Value) (R : α -> β -> Prop) : iT h sz enc R ⟨none, 0, 0⟩ ([] : List α) :=
 ⟨⟨[], .nil h sz, rfl, λ i x hx => by simp at hx⟩, by simp⟩
theorem fP {α : Type} {l : List α} {i n : Nat} (hn : n = l.length) (hi : (i : Int) < (n : Int)) : ∃ x, l[i]? = some x := ⟨l[i]'(by omega), List.getElem?_eq_getElem _⟩
def Cr (h : PH) (s : Sl) (ps : List Pred) : Prop := iT h 13 PV.enc (cX h) s ps
theorem Cr.mono {s : Sl} {ps : List Pred} (r : Cr h s ps) (le : PH.le h h') : Cr h' s ps := iT.mono r le λ _ _ => cX.mono le
theorem kZ.toL {s : Sl} {ps : List Pred} {vs : List PV} (h1 : cW h s 13 (vs.map PV.enc)) (h2 : kZ h ps vs) (hl : ps.length <= 502633886983) : Cr h s ps :=
 ⟨⟨vs, h1, h2.length.symm, λ _ _ hx => h2.get hx⟩, hl⟩
theorem kZ.ofL {h : PH} : ∀ {ps : List Pred} {vs : List PV}, ps.length = vs.length -> (∀ (i : Nat) (x : Pred), ps[i]? = some x -> ∃ v, vs[i]? = some v /\ cX h x v) -> kZ h ps vs
 | [], [], _, _ => rfl
 | p :: ps, v :: vs, hl, hx => by
  obtain ⟨v', h1, h2⟩ := hx 0 p rfl
  simp at h1
  subst h1
  exact ⟨v, vs, rfl, h2, kZ.ofL (by simpa using hl) λ i x e => by simpa using hx (i + 1) x (by simpa using e)⟩
 | [], _ :: _, hl, _ => by simp at hl
 | _ :: _, [], hl, _ => by simp at hl
theorem cX.parts {op cmp : Int} {l r : OV} {args : List Pred} {v : PV} (x : cX h (.mk op cmp l r args) v) : v.op = op /\ v.cmp = cmp /\ v.left = l /\ v.right = r /\ Cr h v.args args := by
 obtain ⟨h1, h2, h3, h4, h5, vs, h6, h7⟩ := x
 exact ⟨h1, h2, h3, h4, h7.toL h6 h5⟩
theorem cX.mk {h : PH} {args : List Pred} {v : PV} (hl : Cr h v.args args) : cX h (.mk v.op v.cmp v.left v.right args) v := by
 obtain ⟨vs, h1, h2, h3⟩ := hl.ex
 exact ⟨rfl, rfl, rfl, rfl, hl.len, vs, h1, .ofL h2 h3⟩
def Uu (N : Nat) : Vc.Spec := λ cvs m h K => ∃ v w p q, cvs = [aP v, aP w] /\ cX h p v /\ cX h q w /\ SizeOf.sizeOf p < N /\ ∀ r : Bool, (r = true ↔ p = q) -> K (cB r) m h
def UH (N : Nat) : Vc.Spec := λ cvs m h K => ∃ s t ps qs, cvs = [cS s, cS t, .val (.func (.func 136) #[] #[])] /\ Cr h s ps /\ Cr h t qs /\ (∀ p ∈ ps, SizeOf.sizeOf p < N) /\ ∀ r : Bool, (r = true ↔ ps = qs) -> K (cB r) m h
noncomputable def Mq (N : Nat) : Ctx := ctx [(144, UH N)] [] [] [] false
noncomputable def Mo (N : Nat) (s t : Sl) (ps qs : List Pred) (m : MH) (h : PH) : Ctx :=
 ctx [(136, Uu N)] [Av 4 (λ i => cD 32 35 [(1, sv t), (2, vv (.func (.func 136) #[] #[])), (15, sv s), (16, iv s.len), (17, iv i)] [] m h) (λ i => i <= ps.length /\ ∀ j : Nat, j < i -> ps[j]? = qs[j]?) (λ i => ps.length - i)] [] [] false
noncomputable def f50_ctx (N : Nat) (v w : PV) (ps qs : List Pred) (m : MH) (h : PH) : Ctx :=
 ctx [(50, Uu N)] [Av 4 (λ i => cD 60 62 [(2, .at (.ptr 2 0)), (3, .at (.ptr 3 0)), (43, iv v.args.len), (44, iv i)] [(2, .cells 38 (v.enc.map .val)), (3, .cells 38 (w.enc.map .val))] m h) (λ i => i <= ps.length /\ ∀ j : Nat, j < i -> ps[j]? = qs[j]?) (λ i => ps.length - i)] [] [] false
abbrev gW (a : Sl -> Sl -> Prop) : Prop := ∃ (x x1 : Sl), a x x1
noncomputable abbrev qT  : Array Value := Array.mk []
abbrev dQ (a : Bool) (b : Prop) : Prop := qU a ↔ b
attribute [push_cast] gW qT dQ
def E7 (N : Nat) (v w : PV) (m : MH) (h : PH) (K : CV -> MH -> PH -> Prop) : Prop :=
  dW v.op w.op (dW v.cmp w.cmp (∃ (r : Bool), gH (oL 35 (u9 v) (u9 w) r) r (∃ (r1 : Bool), gH (oL 35 (tH v) (tH w) r1) r1 (gW (λ s t => ∃ (p q : List Pred), aA (dO v.args :: lY (dO w.args) (CV.val (Value.func (Fn.func 136) qT qT)) = dO s :: lY (dO t) (CV.val (Value.func (Fn.func 136) qT qT))) (Cr h s p) (aA (Cr h t q) (∀ (p1 : Pred), List.Mem p1 p -> nV p1 N) (∀ (r2 : Bool), dQ r2 (p = q) -> K (uS r2) m h)))) (K aR m h)) (K aR m h)) (K aR m h)) (K aR m h)
theorem TB (N : Nat) (v w : PV) (m : MH) (h : PH) (K : CV -> MH -> PH -> Prop) : E7 N v w m h K = (cG (Mq N) Tryz.f136 (aE Tryz.f136) (entry Tryz.f136.ntmps [aP v, aP w] m h) K) := by kernel_rfl
abbrev Du (a : List Pred) (b : Nat) (c : List Pred) : Prop := a[b]? = c[b]?
noncomputable abbrev xX (a : Fn) (b : Array Value) : SV := SV.at (At.val (Value.func a qT b))
attribute [push_cast] Du xX
def I6 (N : Nat) (s t : Sl) (ps qs : List Pred) (m : MH) (h : PH) (K : CV -> MH -> PH -> Prop) : Prop :=
  dE (aF s) (aF t) (K aR m h) (gR (∃ (x : Nat), aA (gR (x <= ps.length) (λ j => j < x -> Du ps j qs)) (aK t) (aA (eQ (xX (Fn.func 136) qT)) (aK s) (aA (cF s) (bO x) (aA (m = m) (h = h) True)))) (λ x => gR (x <= ps.length) (λ j => j < x -> Du ps j qs) -> bE (↑x : Int) (aF s) (aY (λ b o => aG (bC s.a b o) (0 <= (↑x : Int)) ((↑x : Int) < aF s) (∃ (y : PV), bI m h b (bZ o x 13) y.enc /\ Gj t.a x t (λ b1 o1 y1 => bI m h b1 (bZ o1 x 13) y1.enc /\ ∃ (v : PV), kC (λ w p => ∃ (q : Pred), aA (bX (eF y) y1.enc = bX (eF v) w.enc) (cX h p v) (aA (cX h q w) (nV p N) (∀ (r : Bool), eJ (dQ r (p = q)) (!r) (K aR m h) (∃ (y2 : Nat), aA (gR (y2 <= ps.length) (λ j => j < y2 -> Du ps j qs)) (ps.length - y2 < ps.length - x) (aA (aK t) (eQ (xX
 (Fn.func 136) qT)) (aA (aK s) (cF s) (aA (aZ x 1 y2) (m = m) (bG h h)))))))))))) (K gV m h)))
theorem Tx (N : Nat) (s t : Sl) (ps qs : List Pred) (m : MH) (h : PH) (K : CV -> MH -> PH -> Prop) : I6 N s t ps qs m h K = (cG (Mo N s t ps qs m h) Tryz.f144 (aE Tryz.f144) (entry Tryz.f144.ntmps [cS s, cS t, .val (.func (.func 136) #[] #[])] m h) K) := by kernel_rfl
def f50_nice (N : Nat) (v w : PV) (ps qs : List Pred) (m : MH) (h : PH) (K : CV -> MH -> PH -> Prop) : Prop :=
  dT (v.op != w.op) (K aR m h) (v.cmp != w.cmp) (K aR m h) (∃ (r : Bool), gH (oL 35 (u9 v) (u9 w) r) (!r) (K aR m h) (∃ (r1 : Bool), oL 35 (tH v) (tH w) r1 /\ dT (!r1) (K aR m h) (lE v != lE w) (K aR m h) (gR (∃ (x : Nat), aA (gR (x <= ps.length) (λ j => j < x -> Du ps j qs)) fL (aA (eP 3) (oT v) (aA (bO x) (jA v) (aA (jA w) (m = m) (bG h h))))) (λ x => gR (x <= ps.length) (λ j => j < x -> Du ps j qs) -> bE (↑x : Int) (aF v.args) (aY (λ b o => aG (bC v.args.a b o) (0 <= (↑x : Int)) ((↑x : Int) < aF v.args) (∃ (y : PV), bI m h b (bZ o x 13) y.enc /\ Gj w.args.a x w.args (λ b1 o1 y1 => bI m h b1 (bZ o1 x 13) y1.enc /\ ∃ (v1 : PV), kC (λ w1 p => ∃ (q : Pred), aA (bX (eF y) y1.enc = bX (eF v1) w1.enc) (cX h p v1) (aA
 (cX h q w1) (nV p N) (∀ (r2 : Bool), eJ (dQ r2 (p = q)) (!r2) (K aR m h) (∃ (y2 : Nat), aA (gR (y2 <= ps.length) (λ j => j < y2 -> Du ps j qs)) (ps.length - y2 < ps.length - x) (aA (eP 2) (eP 3) (aA (oT v) (aZ x 1 y2) (aA (jA v) (jA w) (cQ (m = m) h h)))))))))))) (K gV m h)))))
theorem f50_vc (N : Nat) (v w : PV) (ps qs : List Pred) (m : MH) (h : PH) (K : CV -> MH -> PH -> Prop) : f50_nice N v w ps qs m h K = (cG (f50_ctx N v w ps qs m h) Tryz.f50 (aE Tryz.f50) (entry Tryz.f50.ntmps [aP v, aP w] m h) K) := by kernel_rfl
theorem sK {α : Type} {a b : List α} (hl : a.length = b.length) (hi : a.length <= i) (h : ∀ j : Nat, j < i -> a[j]? = b[j]?) : a = b := by
 apply List.ext_getElem?
 intro j
 by_cases hj : j < i
 . exact h j hj
 . rw [List.getElem?_eq_none (by omega), List.getElem?_eq_none (by omega)]
theorem pG {α : Type} {a b : List α} {x y : α} (hx : a[i]? = some x) (hy : b[i]? = some y) (e : x = y) (h : ∀ j : Nat, j < i -> a[j]? = b[j]?) : ∀ j : Nat, j < i + 1 -> a[j]? = b[j]? := by
 intro j hj
 by_cases e' : j = i
 . subst e'; rw [hx, hy, e]
 . exact h j (by omega)
theorem FQ {α : Type} {a b : List α} {x y : α} (hx : a[i]? = some x) (hy : b[i]? = some y) (e : x ≠ y) : a ≠ b := λ h => by
 subst h; rw [hx] at hy; simp at hy; exact e hy
theorem Cc {α β : Type} {s t : Sl} {a : List α} {b : List β} (hs : s.len = a.length) (ht : t.len = b.length) (e : ((s.len : Int) != (t.len : Int)) = true) : a.length ≠ b.length := λ h => by
 rw [hs, ht, h] at e; simp at e
theorem Cd {α β : Type} {s t : Sl} {a : List α} {b : List β} (hs : s.len = a.length) (ht : t.len = b.length) (e : ((s.len : Int) != (t.len : Int)) = false) : a.length = b.length := by
 have : (s.len : Int) = t.len := by simpa using e
 omega
theorem TC {v w : PV} {q : Pred} (hv : cX h p v) (hw : cX h q w) (hN : SizeOf.sizeOf p < N + 1) (hK : ∀ r : Bool, (r = true ↔ p = q) -> K (cB r) m h) : E7 N v w m h K := by
 dsimp only [E7, push_cast]
 have hf : p ≠ q -> K (cB false) m h := λ h => hK false ⟨λ e => (by cases e), λ e => (h e).elim⟩
 have hargs := @uL p
 obtain ⟨op, cmp, l, r, ps⟩ := p
 obtain ⟨op', cmp', l', r', qs⟩ := q
 obtain ⟨rfl, rfl, rfl, rfl, hps⟩ := hv.parts
 obtain ⟨rfl, rfl, rfl, rfl, hqs⟩ := hw.parts
 refine aB (λ h1 => aB (λ h2 => ⟨_, wJ _ _, aB (λ h3 => ⟨_, wJ _ _, aB (λ h4 => ⟨v.args, w.args, ps, qs, rfl, hps, hqs, λ p hp => ?_, λ r hr => hK r (hr.trans ?_)⟩) (λ h4 => hf λ e => ?_)⟩) (λ h3 => hf λ e => ?_)⟩) (λ h2 => hf λ e => ?_)) (λ h1 => hf λ e => ?_)
 . have := hargs (q := p) hp
   omega
 . rw [mA] at h3 h4
   simp only [beq_iff_eq] at h1 h2
   rw [h1, h2, h3, h4]
   exact ⟨λ e => by rw [e], λ e => by injection e⟩
 . injection e with _ _ _ e _; rw [mA.2 e] at h4; cases h4
 . injection e with _ _ e _ _; rw [mA.2 e] at h3; cases h3
 . injection e with _ e _ _ _; rw [e] at h2; simp at h2
 . injection e with e _ _ _ _; rw [e] at h1; simp at h1
theorem Mr : ∀ N, Sound Tryz.prog 136 (Uu N)
 | 0 => by
  refine aI (fn := Tryz.f136) (c := aE Tryz.f136) Tryz.func136 rfl (by decide) ?_
  rintro cvs m h K ⟨v, w, p, q, rfl, hr, _, hN, _⟩
  omega
 | N + 1 => by
  have h144 : Sound Tryz.prog 144 (UH N) := by
   refine aI (fn := Tryz.f144) (c := aE Tryz.f144) Tryz.func144 rfl (by decide) ?_
   rintro cvs m h K ⟨s, t, ps, qs, rfl, ha, hb, hN, hK⟩
   refine ⟨Mo N s t ps qs m h, rfl, aD (Mr N) aH, ?_⟩
   rw [<- Tx N s t ps qs m h K]
   dsimp only [I6, push_cast]
   have hsa := ha.slen
   have htb := hb.slen
   have hla := ha.len
   have hf : ps ≠ qs -> K (cB false) m h := λ h => hK false ⟨λ e => (by cases e), λ e => (h e).elim⟩
   refine aB (λ h1 => hf (λ e => Cc hsa htb h1 (by rw [e]))) (λ h1 => ?_)
   have hl := Cd hsa htb h1
   refine ⟨⟨0, ⟨by omega, λ j hj => by omega⟩, MT⟩, λ i hi => aC (λ hlt => ?_) (λ hge => ?_)⟩
   . obtain ⟨x, hx⟩ := fP hsa hlt
     obtain ⟨y, hy⟩ : ∃ y, qs[i]? = some y := fP (n := s.len) (by omega) hlt
     obtain ⟨b1, o1, u, e1, r1, ru⟩ := ha.at hx
     obtain ⟨b2, o2, w, e2, r2, rw'⟩ := hb.at hy
     refine ⟨b1, o1, e1, by omega, hlt, u, .imm r1, b2, o2, e2, by omega, by omega, w, .imm r2, u, w, x, y, rfl, ru, rw', hN x (List.mem_of_getElem? hx), λ r hr => aB (λ hne => hf (FQ hx hy (λ e => ?_))) (λ he => ?_)⟩
     . have := hr.2 e; subst this; cases hne
     . have hr' : r = true := by simpa using he
       exact ⟨i + 1, ⟨by omega, pG hx hy (hr.1 hr') hi.2⟩, by omega, MT⟩
   . exact hK true ⟨λ _ => sK hl (by omega) hi.2, λ _ => rfl⟩
  refine aI (fn := Tryz.f136) (c := aE Tryz.f136) Tryz.func136 rfl (by decide) ?_
  rintro cvs m h K ⟨v, w, p, q, rfl, hr, hq, hN, hK⟩
  refine ⟨Mq N, rfl, aD h144 aH, ?_⟩
  rw [<- TB N v w m h K]
  exact TC hr hq hN hK
theorem f50_ok {v w : PV} {q : Pred} (hv : cX h p v) (hw : cX h q w) (hN : SizeOf.sizeOf p < N + 1) (hK : ∀ r : Bool, (r = true ↔ p = q) -> K (cB r) m h) : f50_nice N v w p.args q.args m h K := by
 dsimp only [f50_nice, push_cast]
 have hf : p ≠ q -> K (cB false) m h := λ h => hK false ⟨λ e => (by cases e), λ e => (h e).elim⟩
 have hargs := @uL p
 obtain ⟨op, cmp, l, r, ps⟩ := p
 obtain ⟨op', cmp', l', r', qs⟩ := q
 obtain ⟨rfl, rfl, rfl, rfl, ha⟩ := hv.parts
 obtain ⟨rfl, rfl, rfl, rfl, hb⟩ := hw.parts
 simp only [Pred.args] at hargs ⊢
 have hsa := ha.slen
 have htb := hb.slen
 have hla := ha.len
 refine aB (λ h1 => hf λ e => ?_) (λ h1 => aB (λ h2 => hf λ e => ?_) (λ h2 => ⟨_, wJ _ _, aB (λ h3 => hf λ e => ?_) (λ h3 => ⟨_, wJ _ _, aB (λ h4 => hf λ e => ?_) (λ h4 => aB (λ h5 => hf λ e => ?_) (λ h5 => ?_))⟩)⟩))
 . injection e with e _ _ _ _; rw [e] at h1; simp at h1
 . injection e with _ e _ _ _; rw [e] at h2; simp at h2
 . injection e with _ _ e _ _; rw [mA.2 e] at h3; cases h3
 . injection e with _ _ _ e _; rw [mA.2 e] at h4; cases h4
 . injection e with _ _ _ _ e; exact Cc hsa htb h5 (by rw [e])
 . have hl := Cd hsa htb h5
   have h3 : v.left = w.left := mA.1 (by simpa using h3)
   have h4 : v.right = w.right := mA.1 (by simpa using h4)
   have h1 : v.op = w.op := by simpa using h1
   have h2 : v.cmp = w.cmp := by simpa using h2
   rw [h1, h2, h3, h4] at hK hf
   have hf : ps ≠ qs -> K (cB false) m h := λ hne => hf λ e => hne (by injection e)
   refine ⟨⟨0, ⟨by omega, λ j hj => by omega⟩, MT⟩, λ i hi => aC (λ hlt => ?_) (λ hge => ?_)⟩
   . obtain ⟨x, hx⟩ := fP hsa hlt
     obtain ⟨y, hy⟩ : ∃ y, qs[i]? = some y := fP (n := v.args.len) (by omega) hlt
     obtain ⟨b1, o1, u, e1, r1, ru⟩ := ha.at hx
     obtain ⟨b2, o2, z, e2, r2, rz⟩ := hb.at hy
     refine ⟨b1, o1, e1, by omega, hlt, u, .imm r1, b2, o2, e2, by omega, by omega, z, .imm r2, u, z, x, y, rfl, ru, rz, ?_, λ r hr => aB (λ hne => hf (FQ hx hy (λ e => ?_))) (λ he => ?_)⟩
     . have := hargs (List.mem_of_getElem? hx); omega
     . have := hr.2 e; subst this; cases hne
     . have hr' : r = true := by simpa using he
       exact ⟨i + 1, ⟨by omega, pG hx hy (hr.1 hr') hi.2⟩, by omega, MT⟩
   . exact hK true ⟨λ _ => by rw [sK hl (by omega) hi.2], λ _ => rfl⟩
theorem f50_all : ∀ N, Sound Tryz.prog 50 (Uu N)
 | 0 => by
  refine aI (fn := Tryz.f50) (c := aE Tryz.f50) Tryz.func50 rfl (by decide) ?_
  rintro cvs m h K ⟨v, w, p, q, rfl, hr, _, hN, _⟩
  omega
 | N + 1 => by
  refine aI (fn := Tryz.f50) (c := aE Tryz.f50) Tryz.func50 rfl (by decide) ?_
  rintro cvs m h K ⟨v, w, p, q, rfl, hr, hq, hN, hK⟩
  refine ⟨f50_ctx N v w p.args q.args m h, rfl, aD (f50_all N) aH, ?_⟩
  rw [<- f50_vc N v w p.args q.args m h K]
  exact f50_ok hr hq hN hK
def SR : Vc.Spec := λ cvs m h K => ∃ v w p q, cvs = [aP v, aP w] /\ cX h p v /\ cX h q w /\ ∀ r : Bool, (r = true ↔ p = q) -> K (cB r) m h
theorem gN {f : FuncId} {S : Nat -> Vc.Spec} {S' : Vc.Spec} (h : ∀ N, Sound Tryz.prog f (S N)) (hs : ∀ cvs m h K, S' cvs m h K -> ∃ N, S N cvs m h K) : Sound Tryz.prog f S' := by
 refine ⟨(h 0).1, λ cvs vs m hh w K hS hp => ?_⟩
 obtain ⟨N, hN⟩ := hs cvs m hh K hS
 exact (h N).2 cvs vs m hh w K hN hp
theorem Nw : Sound Tryz.prog 136 SR := gN Mr λ _ _ _ _ ⟨v, w, p, q, e, h1, h2, h3⟩ => ⟨SizeOf.sizeOf p + 1, v, w, p, q, e, h1, h2, by omega, h3⟩
theorem f50_sound : Sound Tryz.prog 50 SR := gN f50_all λ _ _ _ _ ⟨v, w, p, q, e, h1, h2, h3⟩ => ⟨SizeOf.sizeOf p + 1, v, w, p, q, e, h1, h2, by omega, h3⟩
theorem Ei {d e c i : Nat} {is : List Nat} {xs ys : Array Value} {w : World} {x y : Value} {r r' : Bool} (hx : uW Tryz.prog (part e xs (i * c)) = some x) (hy : uW Tryz.prog (part e ys (i * c)) = some y)
 (he : (Op.equalIn d e x y).run Tryz.prog w = .ok r w) (hr : (Op.eqItems d e c xs ys is).run Tryz.prog w = .ok r' w) : (Op.eqItems d e c xs ys (i :: is)).run Tryz.prog w = .ok (r && r') w := by
 simp only [Op.eqItems, Sem.run_bind, uV _ _ _ hx, uV _ _ _ hy, Result.andThen_ok, he]
 cases r
 . simp
 . simpa using hr
def Wm (a b : Int × Int) : Bool := a.1 == b.1 && (a.2 == b.2 && true)
def Wl (a b : Int × Bool) : Bool := a.1 == b.1 && (a.2 == b.2 && true)
theorem MJ (a b : Int × Int) : StructEq Tryz.prog 78 (.agg #[.int .i64 a.1, .int .i64 a.2]) (.agg #[.int .i64 b.1, .int .i64 b.2]) (Wm a b) := by
 refine ⟨by kernel_rfl, λ w => ?_⟩
 obtain ⟨i, hi⟩ := Option.isSome_iff_exists.1 (show (Tryz.prog.info? 3).isSome = true by kernel_rfl)
 rw [run_equalIn_array w 9999 (e := 3) (n := 2) _ _ (by kernel_rfl) hi, show Tryz.prog.cellsOf 3 = 1 by kernel_rfl, show List.range 2 = [0, 1] from rfl]
 refine Ei (x := .int .i64 a.1) (y := .int .i64 b.1) (by kernel_rfl) (by kernel_rfl) (run_equalIn_int w 9998 _ .i64 .i64 _ _ (by kernel_rfl)) ?_
 refine Ei (x := .int .i64 a.2) (y := .int .i64 b.2) (by kernel_rfl) (by kernel_rfl) (run_equalIn_int w 9998 _ .i64 .i64 _ _ (by kernel_rfl)) ?_
 simp [Op.eqItems]
theorem MI (a b : Int × Bool) : StructEq Tryz.prog 80 (.agg #[.int .i64 a.1, .bool a.2]) (.agg #[.int .i64 b.1, .bool b.2]) (Wl a b) := by
 refine ⟨by kernel_rfl, λ w => ?_⟩
 rw [run_equalIn_struct w 9999 80 _ _ (by kernel_rfl) (by kernel_rfl), show (Tryz.prog.fieldsOf 80).toList = [Dg 80 0, Dg 80 1] by kernel_rfl]
 refine dY (x := .int .i64 a.1) (y := .int .i64 b.1) (by kernel_rfl) (by kernel_rfl) (by kernel_rfl) (run_equalIn_int w 9998 _ .i64 .i64 _ _ (by kernel_rfl)) ?_
 refine dY (x := .bool a.2) (y := .bool b.2) (by kernel_rfl) (by kernel_rfl) (by kernel_rfl) (run_equalIn_bool w 9998 _ _ _ (by kernel_rfl)) ?_
 simp [Op.eqFields]
theorem Eg {a b : Int × Int} : Wm a b = true ↔ a = b := by
 obtain ⟨a1, a2⟩ := a; obtain ⟨b1, b2⟩ := b; simp [Wm]
theorem Ef {a b : Int × Bool} : Wl a b = true ↔ a = b := by
 obtain ⟨a1, a2⟩ := a; obtain ⟨b1, b2⟩ := b; simp [Wl]
theorem gM.at {s : Sl} {l : List (Int × Int)} (r : gM h s l) {x : Int × Int} (hi : l[i]? = some x) : ∃ b o, s.a = some ⟨b, o, none⟩ /\ cL h b (o + i * 2) (pM x) := r.row.get (by simp [hi])
theorem fU.at {s : Sl} {l : List (Int × Bool)} (r : fU h s l) {x : Int × Bool} (hi : l[i]? = some x) : ∃ b o, s.a = some ⟨b, o, none⟩ /\ cL h b (o + i * 2) (xS x) := r.row.get (by simp [hi])
def Jy : Vc.Spec := λ cvs m h K => ∃ (s t : Sl) (a b : List (Int × Int)), cvs = [cS s, cS t] /\ gM h s a /\ gM h t b /\ ∀ r : Bool, (r = true ↔ a = b) -> K (cB r) m h
def Jx : Vc.Spec := λ cvs m h K => ∃ (s t : Sl) (a b : List (Int × Bool)), cvs = [cS s, cS t] /\ fU h s a /\ fU h t b /\ ∀ r : Bool, (r = true ↔ a = b) -> K (cB r) m h
noncomputable def Ed {α : Type} (s t : Sl) (a b : List α) (m : MH) (h : PH) : Ctx :=
 ctx [] [Av 4 (λ i => cD 26 28 [(0, sv s), (1, sv t), (12, iv s.len), (13, iv i)] [] m h) (λ i => i <= a.length /\ ∀ j : Nat, j < i -> a[j]? = b[j]?) (λ i => a.length - i)] [] [] false
abbrev Dv (a : List (Int × Int)) (b : Nat) (c : List (Int × Int)) : Prop := a[b]? = c[b]?
noncomputable abbrev rK (a : Int × Int) : List Value := kY (cZ a.1) (cZ a.2)
attribute [push_cast] Dv rK
def I9 (s t : Sl) (a b : List (Int × Int)) (m : MH) (h : PH) (K : CV -> MH -> PH -> Prop) : Prop :=
  dE (aF s) (aF t) (K aR m h) (gR (∃ (x : Nat), aA (gR (x <= a.length) (λ j => j < x -> Dv a j b)) (aK s) (aA (aK t) (cF s) (aG (bO x) (m = m) (h = h) True))) (λ x => gR (x <= a.length) (λ j => j < x -> Dv a j b) -> bE (↑x : Int) (aF s) (aY (λ b1 o => aG (bC s.a b1 o) (0 <= (↑x : Int)) ((↑x : Int) < aF s) (∃ (y : Int × Int), bI m h b1 (bZ o x 2) (rK y) /\ aY (λ b2 o1 => aG (bC t.a b2 o1) (0 <= (↑x : Int)) ((↑x : Int) < aF t) (∃ (y1 : Int × Int), bI m h b2 (bZ o1 x 2) (rK y1) /\ ∃ (r : Bool), gH (oL 78 (rK y) (rK y1) r) (!r) (K aR m h) (∃ (y2 : Nat), aA (gR (y2 <= a.length) (λ j => j < y2 -> Dv a j b)) (a.length - y2 < a.length - x) (aA (aK s) (aK t) (aA (cF s) (aZ x 1 y2) (aA (m = m) (h = h) True))))))))) (K gV m h)))
theorem TA (s t : Sl) (a b : List (Int × Int)) (m : MH) (h : PH) (K : CV -> MH -> PH -> Prop) : I9 s t a b m h K = (cG (Ed s t a b m h) Tryz.f137 (aE Tryz.f137) (entry Tryz.f137.ntmps [cS s, cS t] m h) K) := by kernel_rfl
abbrev Dw (a : List (Int × Bool)) (b : Nat) (c : List (Int × Bool)) : Prop := a[b]? = c[b]?
noncomputable abbrev pX (a : Int × Bool) : List Value := kY (cZ a.1) (Value.bool a.2)
attribute [push_cast] Dw pX
def I8 (s t : Sl) (a b : List (Int × Bool)) (m : MH) (h : PH) (K : CV -> MH -> PH -> Prop) : Prop :=
  dE (aF s) (aF t) (K aR m h) (gR (∃ (x : Nat), aA (gR (x <= a.length) (λ j => j < x -> Dw a j b)) (aK s) (aA (aK t) (cF s) (aG (bO x) (m = m) (h = h) True))) (λ x => gR (x <= a.length) (λ j => j < x -> Dw a j b) -> bE (↑x : Int) (aF s) (aY (λ b1 o => aG (bC s.a b1 o) (0 <= (↑x : Int)) ((↑x : Int) < aF s) (∃ (y : Int × Bool), bI m h b1 (bZ o x 2) (pX y) /\ aY (λ b2 o1 => aG (bC t.a b2 o1) (0 <= (↑x : Int)) ((↑x : Int) < aF t) (∃ (y1 : Int × Bool), bI m h b2 (bZ o1 x 2) (pX y1) /\ ∃ (r : Bool), gH (oL 80 (pX y) (pX y1) r) (!r) (K aR m h) (∃ (y2 : Nat), aA (gR (y2 <= a.length) (λ j => j < y2 -> Dw a j b)) (a.length - y2 < a.length - x) (aA (aK s) (aK t) (aA (cF s) (aZ x 1 y2) (aA (m = m) (h = h) True))))))))) (K gV m h)))
theorem Tz (s t : Sl) (a b : List (Int × Bool)) (m : MH) (h : PH) (K : CV -> MH -> PH -> Prop) : I8 s t a b m h K = (cG (Ed s t a b m h) Tryz.f138 (aE Tryz.f138) (entry Tryz.f138.ntmps [cS s, cS t] m h) K) := by kernel_rfl
theorem Nv : Sound Tryz.prog 137 Jy := by
 refine aI (fn := Tryz.f137) (c := aE Tryz.f137) Tryz.func137 rfl (by decide) ?_
 rintro cvs m h K ⟨s, t, a, b, rfl, ha, hb, hK⟩
 refine ⟨Ed s t a b m h, rfl, aH, ?_⟩
 rw [<- TA s t a b m h K]
 dsimp only [I9, push_cast]
 have hsa := ha.slen
 have htb := hb.slen
 have hla := ha.len
 have hf : a ≠ b -> K (cB false) m h := λ h => hK false ⟨λ e => (by cases e), λ e => (h e).elim⟩
 refine aB (λ h1 => hf (λ e => Cc hsa htb h1 (by rw [e]))) (λ h1 => ?_)
 have hl := Cd hsa htb h1
 refine ⟨⟨0, ⟨by omega, λ j hj => by omega⟩, MT⟩, λ i hi => aC (λ hlt => ?_) (λ hge => ?_)⟩
 . obtain ⟨x, hx⟩ := fP hsa hlt
   obtain ⟨y, hy⟩ : ∃ y, b[i]? = some y := fP (n := s.len) (by omega) hlt
   obtain ⟨b1, o1, e1, r1⟩ := ha.at hx
   obtain ⟨b2, o2, e2, r2⟩ := hb.at hy
   refine ⟨b1, o1, e1, by omega, hlt, x, .imm r1, b2, o2, e2, by omega, by omega, y, .imm r2, _, MJ x y, aB (λ hne => hf (FQ hx hy (λ e => ?_))) (λ he => ?_)⟩
   . rw [Eg.2 e] at hne; cases hne
   . exact ⟨i + 1, ⟨by omega, pG hx hy (Eg.1 (by simpa using he)) hi.2⟩, by omega, MT⟩
 . exact hK true ⟨λ _ => sK hl (by omega) hi.2, λ _ => rfl⟩
theorem Nu : Sound Tryz.prog 138 Jx := by
 refine aI (fn := Tryz.f138) (c := aE Tryz.f138) Tryz.func138 rfl (by decide) ?_
 rintro cvs m h K ⟨s, t, a, b, rfl, ha, hb, hK⟩
 refine ⟨Ed s t a b m h, rfl, aH, ?_⟩
 rw [<- Tz s t a b m h K]
 dsimp only [I8, push_cast]
 have hsa := ha.slen
 have htb := hb.slen
 have hla := ha.len
 have hf : a ≠ b -> K (cB false) m h := λ h => hK false ⟨λ e => (by cases e), λ e => (h e).elim⟩
 refine aB (λ h1 => hf (λ e => Cc hsa htb h1 (by rw [e]))) (λ h1 => ?_)
 have hl := Cd hsa htb h1
 refine ⟨⟨0, ⟨by omega, λ j hj => by omega⟩, MT⟩, λ i hi => aC (λ hlt => ?_) (λ hge => ?_)⟩
 . obtain ⟨x, hx⟩ := fP hsa hlt
   obtain ⟨y, hy⟩ : ∃ y, b[i]? = some y := fP (n := s.len) (by omega) hlt
   obtain ⟨b1, o1, e1, r1⟩ := ha.at hx
   obtain ⟨b2, o2, e2, r2⟩ := hb.at hy
   refine ⟨b1, o1, e1, by omega, hlt, x, .imm r1, b2, o2, e2, by omega, by omega, y, .imm r2, _, MI x y, aB (λ hne => hf (FQ hx hy (λ e => ?_))) (λ he => ?_)⟩
   . rw [Ef.2 e] at hne; cases hne
   . exact ⟨i + 1, ⟨by omega, pG hx hy (Ef.1 (by simpa using he)) hi.2⟩, by omega, MT⟩
 . exact hK true ⟨λ _ => sK hl (by omega) hi.2, λ _ => rfl⟩
noncomputable def Gr (s t : Sl) (a b : List Int) (m : MH) (h : PH) : Ctx :=
 ctx [] [Av 4 (λ i => cD 26 28 [(0, sv s), (1, sv t), (12, iv s.len), (13, iv i)] [] m h) (λ i => i <= a.length /\ ∀ j : Nat, j < i -> a[j]? = b[j]?) (λ i => a.length - i)] [] [] false
abbrev JY (a : List Int) (b : Nat) (c : List Int) : Prop := a[b]? = c[b]?
attribute [push_cast] JY
def Ec (s t : Sl) (a b : List Int) (m : MH) (h : PH) (K : CV -> MH -> PH -> Prop) : Prop :=
  dE (aF s) (aF t) (K aR m h) (gR (∃ (x : Nat), aA (gR (x <= a.length) (λ j => j < x -> JY a j b)) (aK s) (aA (aK t) (cF s) (aG (bO x) (m = m) (h = h) True))) (λ x => gR (x <= a.length) (λ j => j < x -> JY a j b) -> bE (↑x : Int) (aF s) (aY (λ b1 o => aG (bC s.a b1 o) (0 <= (↑x : Int)) ((↑x : Int) < aF s) (∃ (y : Int), bI m h b1 (bZ o x 1) (bT y) /\ aY (λ b2 o1 => aG (bC t.a b2 o1) (0 <= (↑x : Int)) ((↑x : Int) < aF t) (∃ (y1 : Int), bI m h b2 (bZ o1 x 1) (bT y1) /\ dE y y1 (K aR m h) (∃ (y2 : Nat), aA (gR (y2 <= a.length) (λ j => j < y2 -> JY a j b)) (a.length - y2 < a.length - x) (aA (aK s) (aK t) (aA (cF s) (aZ x 1 y2) (aA (m = m) (h = h) True))))))))) (K gV m h)))
theorem VU (s t : Sl) (a b : List Int) (m : MH) (h : PH) (K : CV -> MH -> PH -> Prop) : Ec s t a b m h K = (cG (Gr s t a b m h) Tryz.f36 (aE Tryz.f36) (entry 26 [cS s, cS t] m h) K) := by kernel_rfl
theorem UZ (s t : Sl) (a b : List Int) (m : MH) (h : PH) (K : CV -> MH -> PH -> Prop) : Ec s t a b m h K = (cG (Gr s t a b m h) Tryz.f99 (aE Tryz.f99) (entry 26 [cS s, cS t] m h) K) := by kernel_rfl
def rB : Vc.Spec := λ cvs m h K => ∃ (s t : Sl) (a b : List Int), cvs = [cS s, cS t] /\ aU h s a /\ aU h t b /\ ∀ r : Bool, (r = true ↔ a = b) -> K (cB r) m h
theorem Sk {s t : Sl} {b : List Int} (ha : aU h s a) (hb : aU h t b) (hK : ∀ r : Bool, (r = true ↔ a = b) -> K (cB r) m h) : Ec s t a b m h K := by
 dsimp only [Ec, push_cast]
 have hsa := ha.slen
 have htb := hb.slen
 have hla := ha.len
 have hf : a ≠ b -> K (cB false) m h := λ h => hK false ⟨λ e => by (cases e), λ e => (h e).elim⟩
 refine aB (λ h1 => hf (λ e => ?_)) (λ h1 => ?_)
 . subst e; rw [hsa, htb] at h1; simp at h1
 . have hl : a.length = b.length := by rw [hsa, htb] at h1; have : (a.length : Int) = b.length := (by simpa using h1); omega
   refine ⟨⟨0, ⟨by omega, λ j hj => by omega⟩, rfl, rfl, rfl, rfl, rfl, rfl, trivial⟩, λ i hi => aC (λ hlt => ?_) (λ hge => ?_)⟩
   . obtain ⟨x, hx⟩ : ∃ x, a[i]? = some x := ⟨a[i]'(by omega), List.getElem?_eq_getElem _⟩
     obtain ⟨y, hy⟩ : ∃ y, b[i]? = some y := ⟨b[i]'(by omega), List.getElem?_eq_getElem _⟩
     obtain ⟨b1, o1, e1, r1⟩ := ha.at hx
     obtain ⟨b2, o2, e2, r2⟩ := hb.at hy
     refine ⟨b1, o1, e1, by omega, hlt, x, .imm (by simpa using r1), b2, o2, e2, by omega, by omega, y, .imm (by simpa using r2), aB (λ hne => hf (λ e => ?_)) (λ he => ?_)⟩
     . subst e; rw [hx] at hy; simp at hy; subst hy; simp at hne
     . have : x = y := by simpa using he
       refine ⟨i + 1, ⟨by omega, λ j hj => ?_⟩, by omega, rfl, rfl, rfl, by rw [DM (by omega)], rfl, rfl, trivial⟩
       by_cases e : j = i
       . subst e; rw [hx, hy, this]
       . exact hi.2 j (by omega)
   . refine hK true ⟨λ _ => ?_, λ _ => rfl⟩
     apply List.ext_getElem?
     intro j
     by_cases hj : j < i
     . exact hi.2 j hj
     . rw [List.getElem?_eq_none (by omega), List.getElem?_eq_none (by omega)]
theorem IV : Sound Tryz.prog 36 rB := by
 refine aI (fn := Tryz.f36) (c := aE Tryz.f36) Tryz.func36 rfl (by decide) ?_
 rintro cvs m h K ⟨s, t, a, b, rfl, ha, hb, hK⟩
 exact ⟨Gr s t a b m h, rfl, aH, (VU s t a b m h K) ▸ Sk ha hb hK⟩
theorem CJ : Sound Tryz.prog 99 rB := by
 refine aI (fn := Tryz.f99) (c := aE Tryz.f99) Tryz.func99 rfl (by decide) ?_
 rintro cvs m h K ⟨s, t, a, b, rfl, ha, hb, hK⟩
 exact ⟨Gr s t a b m h, rfl, aH, (UZ s t a b m h K) ▸ Sk ha hb hK⟩
def aQ (v : QV) : CV := .val (.agg ⟨v.enc⟩)
def Query.args : Query -> List Query
 | .mk _ _ _ _ _ _ _ _ l => l
theorem qS {p : Query} {q : Query} (h : q ∈ p.args) : SizeOf.sizeOf q < SizeOf.sizeOf p := by
 cases p with
 | mk op t w c o g s l args =>
  have := List.sizeOf_lt_of_mem h
  simp only [Query.args] at this
  simp only [Query.mk.sizeOf_spec]
  omega
def sM (h : PH) (s : Sl) (ps : List Query) : Prop := iT h 21 QV.enc (cC h) s ps
theorem sM.mono {s : Sl} {ps : List Query} (r : sM h s ps) (le : PH.le h h') : sM h' s ps := iT.mono r le λ _ _ => cC.mono le
theorem xQ.ofL {h : PH} : ∀ {ps : List Query} {vs : List QV}, ps.length = vs.length -> (∀ (i : Nat) (x : Query), ps[i]? = some x -> ∃ v, vs[i]? = some v /\ cC h x v) -> xQ h ps vs
 | [], [], _, _ => rfl
 | p :: ps, v :: vs, hl, hx => by
  obtain ⟨v', h1, h2⟩ := hx 0 p rfl
  simp at h1
  subst h1
  exact ⟨v, vs, rfl, h2, xQ.ofL (by simpa using hl) λ i x e => by simpa using hx (i + 1) x (by simpa using e)⟩
 | [], _ :: _, hl, _ => by simp at hl
 | _ :: _, [], hl, _ => by simp at hl
structure iU (h : PH) (op table : Int) (w : Pred) (c : List Int) (o : List (Int × Int)) (g : List Int) (s : List (Int × Bool)) (l : Int) (args : List Query) (v : QV) : Prop where
 op_ : v.op = op
 table_ : v.table = table
 where_ : cX h w v.where_
 columns_ : aU h v.columns c
 on_ : gM h v.on o
 group_ : aU h v.group g
 order_ : fU h v.order s
 limit_ : v.limit = l
 args_ : sM h v.args args
theorem cC.parts {op table : Int} {c : List Int} {o : List (Int × Int)} {g : List Int} {s : List (Int × Bool)} {l : Int} {args : List Query} (x : cC h (.mk op table w c o g s l args) v) : iU h op table w c o g s l args v := by
 obtain ⟨h1, h2, h3, h4, h5, h6, h7, h8, h9, vs, h10, h11⟩ := x
 exact ⟨h1, h2, h3, h4, h5, h6, h7, h8, ⟨⟨vs, h10, h11.length.symm, λ _ _ hx => h11.get hx⟩, h9⟩⟩
theorem iU.rep {op table : Int} {c : List Int} {o : List (Int × Int)} {g : List Int} {s : List (Int × Bool)} {l : Int} {args : List Query} (x : iU h op table w c o g s l args v) : cC h (.mk op table w c o g s l args) v := by
 obtain ⟨vs, h1, h2, h3⟩ := x.args_.ex
 exact ⟨x.op_, x.table_, x.where_, x.columns_, x.on_, x.group_, x.order_, x.limit_, x.args_.len, vs, h1, .ofL h2 h3⟩
def Ut (N : Nat) : Vc.Spec := λ cvs m h K => ∃ v w p q, cvs = [aQ v, aQ w] /\ cC h p v /\ cC h q w /\ SizeOf.sizeOf p < N /\ ∀ r : Bool, (r = true ↔ p = q) -> K (cB r) m h
def Oe : Vc.Spec := λ cvs m h K => ∃ v w p q, cvs = [aQ v, aQ w] /\ cC h p v /\ cC h q w /\ ∀ r : Bool, (r = true ↔ p = q) -> K (cB r) m h
def UG (N : Nat) : Vc.Spec := λ cvs m h K => ∃ s t ps qs, cvs = [cS s, cS t, .val (.func (.func 134) #[] #[])] /\ sM h s ps /\ sM h t qs /\ (∀ p ∈ ps, SizeOf.sizeOf p < N) /\ ∀ r : Bool, (r = true ↔ ps = qs) -> K (cB r) m h
noncomputable def Ms (N : Nat) : Ctx := ctx [(136, SR), (99, rB), (137, Jy), (138, Jx), (139, UG N)] [] [] [] false
noncomputable def Mp (N : Nat) (s t : Sl) (ps qs : List Query) (m : MH) (h : PH) : Ctx :=
 ctx [(134, Ut N)] [Av 4 (λ i => cD 32 35 [(1, sv t), (2, vv (.func (.func 134) #[] #[])), (15, sv s), (16, iv s.len), (17, iv i)] [] m h) (λ i => i <= ps.length /\ ∀ j : Nat, j < i -> ps[j]? = qs[j]?) (λ i => ps.length - i)] [] [] false
noncomputable def PB (N : Nat) (v w : QV) (o o' : List (Int × Int)) (s s' : List (Int × Bool)) (ps qs : List Query) (m : MH) (h : PH) : Ctx :=
 ctx [(24, Ut N), (36, rB), (50, SR)]
  [Av 4 (λ i => cD 133 135 [(2, .at (.ptr 2 0)), (3, .at (.ptr 3 0)), (80, iv v.on.len), (81, iv i)] [(2, .cells 43 (v.enc.map .val)), (3, .cells 43 (w.enc.map .val))] m h) (λ i => i <= o.length /\ ∀ j : Nat, j < i -> o[j]? = o'[j]?) (λ i => o.length - i),
   Av 10 (λ i => cD 133 135 [(2, .at (.ptr 2 0)), (3, .at (.ptr 3 0)), (98, iv v.order.len), (99, iv i)] [(2, .cells 43 (v.enc.map .val)), (3, .cells 43 (w.enc.map .val))] m h) (λ i => i <= s.length /\ ∀ j : Nat, j < i -> s[j]? = s'[j]?) (λ i => s.length - i),
   Av 16 (λ i => cD 133 135 [(2, .at (.ptr 2 0)), (3, .at (.ptr 3 0)), (116, iv v.args.len), (117, iv i)] [(2, .cells 43 (v.enc.map .val)), (3, .cells 43 (w.enc.map .val))] m h) (λ i => i <= ps.length /\ ∀ j : Nat, j < i -> ps[j]? = qs[j]?) (λ i => ps.length - i)] [] [] false
noncomputable abbrev dL (a : CV) (b : Sl) : List CV := lY a (dO b)
abbrev rC (a b : Sl) (c : PH) (d : (List Int) -> (List Int) -> Bool -> Prop) : Prop := ∃ (x : Sl), xK (λ x1 x2 x3 => aG (dL (dO a) b = dL (dO x) x1) (aU c x x2) (aU c x1 x3) (∀ (x4 : Bool), d x2 x3 x4))
abbrev qM (a : Query) (b : Nat) : Prop := SizeOf.sizeOf a < b
attribute [push_cast] dL rC qM
def E9 (N : Nat) (v w : QV) (m : MH) (h : PH) (K : CV -> MH -> PH -> Prop) : Prop :=
  dW v.op w.op (dW v.table w.table (dW v.limit w.limit (∃ (v1 : PV), kC (λ w1 p => ∃ (q : Pred), aG (bX (eF v.where_) w.where_.enc = bX (eF v1) w1.enc) (cX h p v1) (cX h q w1) (∀ (r : Bool), eJ (dQ r (p = q)) r (rC v.columns w.columns h (λ a b r1 => eJ (dQ r1 (a = b)) r1 (gW (λ s t => ∃ (a1 b1 : List (Int × Int)), aG (dL (dO v.on) w.on = dL (dO s) t) (gM h s a1) (gM h t b1) (∀ (r2 : Bool), eJ (dQ r2 (a1 = b1)) r2 (rC v.group w.group h (λ a2 b2 r3 => eJ (dQ r3 (a2 = b2)) r3 (gW (λ s1 t1 => ∃ (a3 b3 : List (Int × Bool)), aG (dL (dO v.order) w.order = dL (dO s1) t1) (fU h s1 a3) (fU h t1 b3) (∀ (r4 : Bool), eJ (dQ r4 (a3 = b3)) r4 (gW (λ s2 t2 => ∃ (p1 q1 : List Query), aA (dO v.args :: lY (dO w.args) (CV.val (Value.func (Fn.func 134)
 qT qT)) = dO s2 :: lY (dO t2) (CV.val (Value.func (Fn.func 134) qT qT))) (sM h s2 p1) (aA (sM h t2 q1) (∀ (p2 : Query), List.Mem p2 p1 -> qM p2 N) (∀ (r5 : Bool), dQ r5 (p1 = q1) -> K (uS r5) m h)))) (K aR m h)))) (K aR m h))) (K aR m h)))) (K aR m h))) (K aR m h)))) (K aR m h)) (K aR m h)) (K aR m h)
theorem TE (N : Nat) (v w : QV) (m : MH) (h : PH) (K : CV -> MH -> PH -> Prop) : E9 N v w m h K = (cG (Ms N) Tryz.f134 (aE Tryz.f134) (entry Tryz.f134.ntmps [aQ v, aQ w] m h) K) := by kernel_rfl
abbrev Dx (a : List Query) (b : Nat) (c : List Query) : Prop := a[b]? = c[b]?
abbrev kS (a : QV -> Query -> Prop) : Prop := ∃ (x : QV) (x1 : Query), a x x1
noncomputable abbrev eN (a : QV) : CV := kK a.enc
noncomputable abbrev wD (a b : QV) : List CV := bX (eN a) b.enc
attribute [push_cast] Dx kS eN wD
def I7 (N : Nat) (s t : Sl) (ps qs : List Query) (m : MH) (h : PH) (K : CV -> MH -> PH -> Prop) : Prop :=
  dE (aF s) (aF t) (K aR m h) (gR (∃ (x : Nat), aA (gR (x <= ps.length) (λ j => j < x -> Dx ps j qs)) (aK t) (aA (eQ (xX (Fn.func 134) qT)) (aK s) (aA (cF s) (bO x) (aA (m = m) (h = h) True)))) (λ x => gR (x <= ps.length) (λ j => j < x -> Dx ps j qs) -> bE (↑x : Int) (aF s) (aY (λ b o => aG (bC s.a b o) (0 <= (↑x : Int)) ((↑x : Int) < aF s) (∃ (y : QV), bI m h b (bZ o x 21) y.enc /\ aY (λ b1 o1 => aG (bC t.a b1 o1) (0 <= (↑x : Int)) ((↑x : Int) < aF t) (∃ (y1 : QV), bI m h b1 (bZ o1 x 21) y1.enc /\ ∃ (v : QV), kS (λ w p => ∃ (q : Query), aA (wD y y1 = wD v w) (cC h p v) (aA (cC h q w) (qM p N) (∀ (r : Bool), eJ (dQ r (p = q)) (!r) (K aR m h) (∃ (y2 : Nat), aA (gR (y2 <= ps.length) (λ j => j < y2 -> Dx ps j qs)) (ps.length - y2 <
 ps.length - x) (aA (aK t) (eQ (xX (Fn.func 134) qT)) (aA (aK s) (cF s) (aA (aZ x 1 y2) (m = m) (bG h h))))))))))))) (K gV m h)))
theorem Ty (N : Nat) (s t : Sl) (ps qs : List Query) (m : MH) (h : PH) (K : CV -> MH -> PH -> Prop) : I7 N s t ps qs m h K = (cG (Mp N s t ps qs m h) Tryz.f139 (aE Tryz.f139) (entry Tryz.f139.ntmps [cS s, cS t, .val (.func (.func 134) #[] #[])] m h) K) := by kernel_rfl
abbrev dD (a : QV) : Prop := eQ (Db 43 a.enc)
abbrev oU (a : QV) : Prop := cF a.args
attribute [push_cast] dD oU
def Hz (N : Nat) (v w : QV) (o o' : List (Int × Int)) (s s' : List (Int × Bool)) (ps qs : List Query) (m : MH) (h : PH) (K : CV -> MH -> PH -> Prop) : Prop :=
  dT (v.op != w.op) (K aR m h) (v.table != w.table) (K aR m h) (dT (v.limit != w.limit) (K aR m h) (aF v.on != aF w.on) (K aR m h) (dT (aF v.order != aF w.order) (K aR m h) (aF v.args != aF w.args) (K aR m h) (rC v.columns w.columns h (λ a b r => eJ (dQ r (a = b)) (!r) (K aR m h) (rC v.group w.group h (λ a1 b1 r1 => eJ (dQ r1 (a1 = b1)) (!r1) (K aR m h) (∃ (v1 : PV), kC (λ w1 p => ∃ (q : Pred), aG (bX (eF v.where_) w.where_.enc = bX (eF v1) w1.enc) (cX h p v1) (cX h q w1) (∀ (r2 : Bool), eJ (dQ r2 (p = q)) (!r2) (K aR m h) (gR (∃ (x : Nat), aA (gR (x <= o.length) (λ j => j < x -> Dv o j o')) fL (aA (eP 3) (cF v.on) (aA (bO x) (dD v) (aA (dD w) (m = m) (bG h h))))) (λ x => gR (x <= o.length) (λ j => j < x -> Dv o j o')
 -> bE (↑x : Int) (aF v.on) (aY (λ b2 o1 => aG (bC v.on.a b2 o1) (0 <= (↑x : Int)) ((↑x : Int) < aF v.on) (∃ (y : Int × Int), bI m h b2 (bZ o1 x 2) (rK y) /\ aY (λ b3 o2 => aG (bC w.on.a b3 o2) (0 <= (↑x : Int)) ((↑x : Int) < aF w.on) (∃ (y1 : Int × Int), bI m h b3 (bZ o2 x 2) (rK y1) /\ ∃ (r3 : Bool), gH (oL 78 (rK y) (rK y1) r3) (!r3) (K aR m h) (∃ (y2 : Nat), aA (gR (y2 <= o.length) (λ j => j < y2 -> Dv o j o')) (o.length - y2 < o.length - x) (aA (eP 2) (eP 3) (aA (cF v.on) (aZ x 1 y2) (aA (dD v) (dD w) (cQ (m = m) h h)))))))))) (gR (∃ (x1 : Nat), aA (gR (x1 <= s.length) (λ j => j < x1 -> Dw s j s')) fL (aA (eP 3) (cF v.order) (aA (bO x1) (dD v) (aA (dD w) (m = m) (bG h h))))) (λ x1 => gR (x1 <= s.length) (λ j => j < x1 -> Dw s
 j s') -> bE (↑x1 : Int) (aF v.order) (aY (λ b2 o1 => aG (bC v.order.a b2 o1) (0 <= (↑x1 : Int)) ((↑x1 : Int) < aF v.order) (∃ (y : Int × Bool), bI m h b2 (bZ o1 x1 2) (pX y) /\ aY (λ b3 o2 => aG (bC w.order.a b3 o2) (0 <= (↑x1 : Int)) ((↑x1 : Int) < aF w.order) (∃ (y1 : Int × Bool), bI m h b3 (bZ o2 x1 2) (pX y1) /\ ∃ (r3 : Bool), gH (oL 80 (pX y) (pX y1) r3) (!r3) (K aR m h) (∃ (y2 : Nat), aA (gR (y2 <= s.length) (λ j => j < y2 -> Dw s j s')) (s.length - y2 < s.length - x1) (aA (eP 2) (eP 3) (aA (cF v.order) (aZ x1 1 y2) (aA (dD v) (dD w) (cQ (m = m) h h)))))))))) (gR (∃ (x2 : Nat), aA (gR (x2 <= ps.length) (λ j => j < x2 -> Dx ps j qs)) fL (aA (eP 3) (oU v) (aA (bO x2) (dD v) (aA (dD w) (m = m) (bG h h))))) (λ x2 => gR (x2 <=
 ps.length) (λ j => j < x2 -> Dx ps j qs) -> bE (↑x2 : Int) (aF v.args) (aY (λ b2 o1 => aG (bC v.args.a b2 o1) (0 <= (↑x2 : Int)) ((↑x2 : Int) < aF v.args) (∃ (y : QV), bI m h b2 (bZ o1 x2 21) y.enc /\ aY (λ b3 o2 => aG (bC w.args.a b3 o2) (0 <= (↑x2 : Int)) ((↑x2 : Int) < aF w.args) (∃ (y1 : QV), bI m h b3 (bZ o2 x2 21) y1.enc /\ ∃ (v2 : QV), kS (λ w2 p1 => ∃ (q1 : Query), aA (wD y y1 = wD v2 w2) (cC h p1 v2) (aA (cC h q1 w2) (qM p1 N) (∀ (r3 : Bool), eJ (dQ r3 (p1 = q1)) (!r3) (K aR m h) (∃ (y2 : Nat), aA (gR (y2 <= ps.length) (λ j => j < y2 -> Dx ps j qs)) (ps.length - y2 < ps.length - x2) (aA (eP 2) (eP 3) (aA (oU v) (aZ x2 1 y2) (aA (dD v) (dD w) (cQ (m = m) h h))))))))))))) (K gV m h))))))))))))))))
theorem V7 (N : Nat) (v w : QV) (o o' : List (Int × Int)) (s s' : List (Int × Bool)) (ps qs : List Query) (m : MH) (h : PH) (K : CV -> MH -> PH -> Prop) : Hz N v w o o' s s' ps qs m h K = (cG (PB N v w o o' s s' ps qs m h) Tryz.f24 (aE Tryz.f24) (entry Tryz.f24.ntmps [aQ v, aQ w] m h) K) := by kernel_rfl
theorem TF {w : QV} {p : Query} (hv : cC h p v) (hw : cC h q w) (hN : SizeOf.sizeOf p < N + 1) (hK : ∀ r : Bool, (r = true ↔ p = q) -> K (cB r) m h) : E9 N v w m h K := by
 dsimp only [E9, push_cast]
 have hf : p ≠ q -> K (cB false) m h := λ h => hK false ⟨λ e => (by cases e), λ e => (h e).elim⟩
 have hargs := @qS p
 obtain ⟨op, ta, wh, co, on, gr, od, li, ps⟩ := p
 obtain ⟨op', ta', wh', co', on', gr', od', li', qs⟩ := q
 have a := hv.parts
 have b := hw.parts
 refine aB (λ h1 => aB (λ h2 => aB (λ h3 => ⟨_, _, _, _, rfl, a.where_, b.where_, λ r4 h4 => aB (λ g4 => ⟨_, _, _, _, rfl, a.columns_, b.columns_, λ r5 h5 => aB (λ g5 => ⟨_, _, _, _, rfl, a.on_, b.on_, λ r6 h6 => aB (λ g6 => ⟨_, _, _, _, rfl, a.group_, b.group_, λ r7 h7 => aB (λ g7 => ⟨_, _, _, _, rfl, a.order_, b.order_, λ r8 h8 => aB (λ g8 => ⟨_, _, _, _, rfl, a.args_, b.args_, λ p hp => ?_, λ r hr => hK r (hr.trans ?_)⟩)
  (λ g8 => hf λ e => ?_)⟩) (λ g7 => hf λ e => ?_)⟩) (λ g6 => hf λ e => ?_)⟩) (λ g5 => hf λ e => ?_)⟩) (λ g4 => hf λ e => ?_)⟩) (λ h3 => hf λ e => ?_)) (λ h2 => hf λ e => ?_)) (λ h1 => hf λ e => ?_)
 . have := hargs (q := p) hp
   omega
 . rw [a.op_, b.op_, beq_iff_eq] at h1
   rw [a.table_, b.table_, beq_iff_eq] at h2
   rw [a.limit_, b.limit_, beq_iff_eq] at h3
   rw [h1, h2, h3, h4.1 g4, h5.1 g5, h6.1 g6, h7.1 g7, h8.1 g8]
   exact ⟨λ e => by rw [e], λ e => by injection e⟩
 . injection e with _ _ _ _ _ _ e _ _; rw [h8.2 e] at g8; cases g8
 . injection e with _ _ _ _ _ e _ _ _; rw [h7.2 e] at g7; cases g7
 . injection e with _ _ _ _ e _ _ _ _; rw [h6.2 e] at g6; cases g6
 . injection e with _ _ _ e _ _ _ _ _; rw [h5.2 e] at g5; cases g5
 . injection e with _ _ e _ _ _ _ _ _; rw [h4.2 e] at g4; cases g4
 . injection e with _ _ _ _ _ _ _ e _; rw [a.limit_, b.limit_, e] at h3; simp at h3
 . injection e with _ e _ _ _ _ _ _ _; rw [a.table_, b.table_, e] at h2; simp at h2
 . injection e with e _ _ _ _ _ _ _ _; rw [a.op_, b.op_, e] at h1; simp at h1
theorem Mt : ∀ N, Sound Tryz.prog 134 (Ut N)
 | 0 => by
  refine aI (fn := Tryz.f134) (c := aE Tryz.f134) Tryz.func134 rfl (by decide) ?_
  rintro cvs m h K ⟨v, w, p, q, rfl, hr, _, hN, _⟩
  omega
 | N + 1 => by
  have h139 : Sound Tryz.prog 139 (UG N) := by
   refine aI (fn := Tryz.f139) (c := aE Tryz.f139) Tryz.func139 rfl (by decide) ?_
   rintro cvs m h K ⟨s, t, ps, qs, rfl, ha, hb, hN, hK⟩
   refine ⟨Mp N s t ps qs m h, rfl, aD (Mt N) aH, ?_⟩
   rw [<- Ty N s t ps qs m h K]
   dsimp only [I7, push_cast]
   have hsa := ha.slen
   have htb := hb.slen
   have hla := ha.len
   have hf : ps ≠ qs -> K (cB false) m h := λ h => hK false ⟨λ e => (by cases e), λ e => (h e).elim⟩
   refine aB (λ h1 => hf (λ e => Cc hsa htb h1 (by rw [e]))) (λ h1 => ?_)
   have hl := Cd hsa htb h1
   refine ⟨⟨0, ⟨by omega, λ j hj => by omega⟩, MT⟩, λ i hi => aC (λ hlt => ?_) (λ hge => ?_)⟩
   . obtain ⟨x, hx⟩ := fP hsa hlt
     obtain ⟨y, hy⟩ : ∃ y, qs[i]? = some y := fP (n := s.len) (by omega) hlt
     obtain ⟨b1, o1, u, e1, r1, ru⟩ := ha.at hx
     obtain ⟨b2, o2, w, e2, r2, rw'⟩ := hb.at hy
     refine ⟨b1, o1, e1, by omega, hlt, u, .imm r1, b2, o2, e2, by omega, by omega, w, .imm r2, u, w, x, y, rfl, ru, rw', hN x (List.mem_of_getElem? hx), λ r hr => aB (λ hne => hf (FQ hx hy (λ e => ?_))) (λ he => ?_)⟩
     . have := hr.2 e; subst this; cases hne
     . have hr' : r = true := by simpa using he
       exact ⟨i + 1, ⟨by omega, pG hx hy (hr.1 hr') hi.2⟩, by omega, MT⟩
   . exact hK true ⟨λ _ => sK hl (by omega) hi.2, λ _ => rfl⟩
  refine aI (fn := Tryz.f134) (c := aE Tryz.f134) Tryz.func134 rfl (by decide) ?_
  rintro cvs m h K ⟨v, w, p, q, rfl, hr, hq, hN, hK⟩
  refine ⟨Ms N, rfl, aD Nw (aD CJ (aD Nv (aD Nu (aD h139 aH)))), ?_⟩
  rw [<- TE N v w m h K]
  exact TF hr hq hN hK
theorem V8 {w : QV} {op op' ta' : Int} {wh wh' : Pred} {co' gr' : List Int} {on on' : List (Int × Int)} {od' : List (Int × Bool)} {li' : Int} {ps qs : List Query} (a : iU h op ta wh co on gr od li ps v) (b : iU h op' ta' wh' co' on' gr' od' li' qs w)
 (hN : ∀ q ∈ ps, SizeOf.sizeOf q < N) (hK : ∀ r : Bool, (r = true ↔ Query.mk op ta wh co on gr od li ps = .mk op' ta' wh' co' on' gr' od' li' qs) -> K (cB r) m h) : Hz N v w on on' od od' ps qs m h K := by
 dsimp only [Hz, push_cast]
 have hf : Query.mk op ta wh co on gr od li ps ≠ .mk op' ta' wh' co' on' gr' od' li' qs -> K (cB false) m h := λ h => hK false ⟨λ e => (by cases e), λ e => (h e).elim⟩
 have oa := a.on_.slen
 have ob := b.on_.slen
 have ol := a.on_.len
 have sa := a.order_.slen
 have sb := b.order_.slen
 have sl := a.order_.len
 have qa := a.args_.slen
 have qb := b.args_.slen
 have ql := a.args_.len
 refine aB (λ h1 => hf λ e => ?_) (λ h1 => aB (λ h2 => hf λ e => ?_) (λ h2 => aB (λ h3 => hf λ e => ?_) (λ h3 => aB (λ h4 => hf λ e => ?_) (λ h4 => aB (λ h5 => hf λ e => ?_) (λ h5 => aB (λ h6 => hf λ e => ?_) (λ h6 => ⟨_, _, _, _, rfl, a.columns_, b.columns_, λ r7 h7 => aB (λ g7 => hf λ e => ?_) (λ g7 => ⟨_, _, _, _, rfl, a.group_, b.group_, λ r8 h8 => aB (λ g8 => hf λ e => ?_) (λ g8 => ⟨_, _, _, _, rfl, a.where_, b.where_, λ r9 h9 => aB (λ g9 => hf λ e => ?_) (λ g9 => ?_)⟩)⟩)⟩))))))
 . injection e with e _ _ _ _ _ _ _ _; rw [a.op_, b.op_, e] at h1; simp at h1
 . injection e with _ e _ _ _ _ _ _ _; rw [a.table_, b.table_, e] at h2; simp at h2
 . injection e with _ _ _ _ _ _ _ e _; rw [a.limit_, b.limit_, e] at h3; simp at h3
 . injection e with _ _ _ _ e _ _ _ _; exact Cc oa ob h4 (by rw [e])
 . injection e with _ _ _ _ _ _ e _ _; exact Cc sa sb h5 (by rw [e])
 . injection e with _ _ _ _ _ _ _ _ e; exact Cc qa qb h6 (by rw [e])
 . injection e with _ _ _ e _ _ _ _ _; rw [h7.2 e] at g7; cases g7
 . injection e with _ _ _ _ _ e _ _ _; rw [h8.2 e] at g8; cases g8
 . injection e with _ _ e _ _ _ _ _ _; rw [h9.2 e] at g9; cases g9
 . have e1 : op = op' := by rw [a.op_, b.op_] at h1; simpa using h1
   have e2 : ta = ta' := by rw [a.table_, b.table_] at h2; simpa using h2
   have e3 : li = li' := by rw [a.limit_, b.limit_] at h3; simpa using h3
   have e7 := h7.1 (by simpa using g7)
   have e8 := h8.1 (by simpa using g8)
   have e9 := h9.1 (by simpa using g9)
   subst e1 e2 e3 e7 e8 e9
   have l4 := Cd oa ob h4
   have l5 := Cd sa sb h5
   have l6 := Cd qa qb h6
   have f1 : on ≠ on' -> K (cB false) m h := λ hne => hf λ e => hne (by injection e)
   have f2 : od ≠ od' -> K (cB false) m h := λ hne => hf λ e => hne (by injection e)
   have f3 : ps ≠ qs -> K (cB false) m h := λ hne => hf λ e => hne (by injection e)
   refine ⟨⟨0, ⟨by omega, λ j hj => by omega⟩, MT⟩, λ i hi => aC (λ hlt => ?_) (λ hge => ?_)⟩
   . obtain ⟨x, hx⟩ := fP oa hlt
     obtain ⟨y, hy⟩ : ∃ y, on'[i]? = some y := fP (n := v.on.len) (by omega) hlt
     obtain ⟨b1, o1, e1, r1⟩ := a.on_.at hx
     obtain ⟨b2, o2, e2, r2⟩ := b.on_.at hy
     refine ⟨b1, o1, e1, by omega, hlt, x, .imm r1, b2, o2, e2, by omega, by omega, y, .imm r2, _, MJ x y, aB (λ hne => f1 (FQ hx hy (λ e => ?_))) (λ he => ?_)⟩
     . rw [Eg.2 e] at hne; cases hne
     . exact ⟨i + 1, ⟨by omega, pG hx hy (Eg.1 (by simpa using he)) hi.2⟩, by omega, MT⟩
   . have e4 := sK l4 (by omega) hi.2
     clear hi hge
     refine ⟨⟨0, ⟨by omega, λ j hj => by omega⟩, MT⟩, λ i hi => aC (λ hlt => ?_) (λ hge => ?_)⟩
     . obtain ⟨x, hx⟩ := fP sa hlt
       obtain ⟨y, hy⟩ : ∃ y, od'[i]? = some y := fP (n := v.order.len) (by omega) hlt
       obtain ⟨b1, o1, e1, r1⟩ := a.order_.at hx
       obtain ⟨b2, o2, e2, r2⟩ := b.order_.at hy
       refine ⟨b1, o1, e1, by omega, hlt, x, .imm r1, b2, o2, e2, by omega, by omega, y, .imm r2, _, MI x y, aB (λ hne => f2 (FQ hx hy (λ e => ?_))) (λ he => ?_)⟩
       . rw [Ef.2 e] at hne; cases hne
       . exact ⟨i + 1, ⟨by omega, pG hx hy (Ef.1 (by simpa using he)) hi.2⟩, by omega, MT⟩
     . have e5 := sK l5 (by omega) hi.2
       clear hi hge
       refine ⟨⟨0, ⟨by omega, λ j hj => by omega⟩, MT⟩, λ i hi => aC (λ hlt => ?_) (λ hge => ?_)⟩
       . obtain ⟨x, hx⟩ := fP qa hlt
         obtain ⟨y, hy⟩ : ∃ y, qs[i]? = some y := fP (n := v.args.len) (by omega) hlt
         obtain ⟨b1, o1, u, e1, r1, ru⟩ := a.args_.at hx
         obtain ⟨b2, o2, z, e2, r2, rz⟩ := b.args_.at hy
         refine ⟨b1, o1, e1, by omega, hlt, u, .imm r1, b2, o2, e2, by omega, by omega, z, .imm r2, u, z, x, y, rfl, ru, rz, hN x (List.mem_of_getElem? hx), λ r hr => aB (λ hne => f3 (FQ hx hy (λ e => ?_))) (λ he => ?_)⟩
         . have := hr.2 e; subst this; cases hne
         . have hr' : r = true := by simpa using he
           exact ⟨i + 1, ⟨by omega, pG hx hy (hr.1 hr') hi.2⟩, by omega, MT⟩
       . exact hK true ⟨λ _ => by rw [e4, e5, sK l6 (by omega) hi.2], λ _ => rfl⟩
theorem PC : ∀ N, Sound Tryz.prog 24 (Ut N)
 | 0 => by
  refine aI (fn := Tryz.f24) (c := aE Tryz.f24) Tryz.func24 rfl (by decide) ?_
  rintro cvs m h K ⟨v, w, p, q, rfl, hr, _, hN, _⟩
  omega
 | N + 1 => by
  refine aI (fn := Tryz.f24) (c := aE Tryz.f24) Tryz.func24 rfl (by decide) ?_
  rintro cvs m h K ⟨v, w, p, q, rfl, hr, hq, hN, hK⟩
  have hargs := @qS p
  obtain ⟨op, ta, wh, co, on, gr, od, li, ps⟩ := p
  obtain ⟨op', ta', wh', co', on', gr', od', li', qs⟩ := q
  refine ⟨PB N v w on on' od od' ps qs m h, rfl, aD (PC N) (aD IV (aD f50_sound aH)), ?_⟩
  rw [<- V7 N v w on on' od od' ps qs m h K]
  exact V8 hr.parts hq.parts (λ q hq => by have := hargs (q := q) hq; omega) hK
theorem Ny : Sound Tryz.prog 134 Oe := gN Mt λ _ _ _ _ ⟨v, w, p, q, e, h1, h2, h3⟩ => ⟨SizeOf.sizeOf p + 1, v, w, p, q, e, h1, h2, by omega, h3⟩
theorem I0 : Sound Tryz.prog 24 Oe := gN PC λ _ _ _ _ ⟨v, w, p, q, e, h1, h2, h3⟩ => ⟨SizeOf.sizeOf p + 1, v, w, p, q, e, h1, h2, by omega, h3⟩
structure Ref where
 columns : List Int
 table : Int
structure Et where
 name : ByteArray
 columns : List oG
 key : Int
 refs : List Ref
 checks : List Pred
structure oC where
 version : Int
 tables : List Et
variable {s : oC}
structure Kx (h : PH) (r : Ref) (v : BE) : Prop where
 columns : aU h v.columns r.columns
 table : v.table = r.table
def BP (h : PH) (s : Sl) (l : List oG) : Prop := iT h 2 oG.enc Eq s l
structure Fs (h : PH) (t : Et) (v : dJ) : Prop where
 name : v.name = t.name
 columns : BP h v.columns t.columns
 key : v.key = t.key
 refs : iT h 2 BE.enc (Kx h) v.references t.refs
 checks : Cr h v.checks t.checks
structure eW (h : PH) (s : oC) (v : bH) : Prop where
 version : v.version = s.version
 tables : iT h 5 dJ.enc (Fs h) v.tables s.tables
theorem Kx.mono {r : Ref} {v : BE} (x : Kx h r v) (le : PH.le h h') : Kx h' r v := ⟨x.columns.mono le, x.table⟩
theorem Fs.mono {t : Et} {v : dJ} (x : Fs h t v) (le : PH.le h h') : Fs h' t v :=
 ⟨x.name, iT.mono x.columns le λ _ _ e => e, x.key, x.refs.mono le λ _ _ e => e.mono le, x.checks.mono le⟩
theorem eW.mono {v : bH} (x : eW h s v) (le : PH.le h h') : eW h' s v := ⟨x.version, x.tables.mono le λ _ _ e => e.mono le⟩
def lower (c : Nat) : Bool := 97 <= c && c <= 122
def wQ (c : Nat) : Bool := lower c || (48 <= c && c <= 57) || c == 95
def nI (s : ByteArray) : List Nat := s.data.toList.map UInt8.toNat
def lL (s : ByteArray) : Bool := 1 <= s.size && s.size <= 32 && lower ((nI s).headD 0) && (nI s).all wQ
theorem Js (s : ByteArray) : (nI s).length = s.size := by simp [nI]
theorem RF {s : ByteArray} {c : Nat} (h : (nI s)[i]? = some c) : (s.get! i).toNat = c /\ c < 256 := by
 simp only [nI, List.getElem?_map, Option.map_eq_some_iff] at h
 obtain ⟨b, hb, rfl⟩ := h
 refine ⟨?_, b.toNat_lt⟩
 have hi : i < s.data.size := by
  have := (List.getElem?_eq_some_iff.1 hb).1
  simpa using this
 have : s.data[i]? = some b := by simpa using hb
 cases s with
 | mk bs =>
  show (bs[i]!).toNat = b.toNat
  rw [getElem!_def, this]
theorem Fh {s : ByteArray} (h : (s.get! i).toNat < 128) : Utf8.decode s i = ((s.get! i).toNat, 1) := by
 simp only [Utf8.decode, Nat.add_zero]
 rw [if_pos h]
theorem RD {s : ByteArray} (h : ¬ (s.get! i).toNat < 128) : 128 <= (Utf8.decode s i).1 := by
 simp only [Utf8.decode, Nat.add_zero]
 rw [if_neg h]
 repeat' split
 all_goals simp_all [Utf8.runeError]
 all_goals omega
def MK (s : ByteArray) : CV := .val (.string s)
def Qd : Vc.Spec := λ cvs m h K => ∃ s, cvs = [MK s] /\ K (cB (lL s)) m h
noncomputable def OQ (s : ByteArray) (m : MH) (h : PH) : Ctx :=
 ctx [] [(4, { A := Nat × Nat × MH, st := λ x => cD 44 45 [(15, vv (.pointer (some ⟨x.2.1, 0, none⟩)))] [] x.2.2 h, inv := λ x => x.1 <= s.size /\ gX m h x.2.1 /\ gS m x.2.2 x.2.1 (.stringIter s x.1) /\ (x.1 = 0 \/ lower ((nI s).headD 0) = true) /\ ((nI s).take x.1).all wQ = true, mu := λ x => s.size - x.1 })] [] [] false
noncomputable def MA (s : ByteArray) (m : MH) (h : PH) : Ctx :=
 ctx [] [Av 4 (λ i => cD 50 51 [(0, vv (.string s)), (3, iv i)] [] m h) (λ i => i <= s.size /\ ((nI s).take i).all wQ = true) (λ i => s.size - i)] [] [] false
abbrev kN (a b c : Prop) (d e : Nat -> Nat -> Option Value) : Prop := aA a b (aA c (d = e) True)
noncomputable abbrev iL (a : Nat × Nat × MH) : Nat := a.2.1
noncomputable abbrev iM (a : Nat × Nat × MH) : Nat -> Option Obj := a.2.2
abbrev z8 (a : Nat × Nat × MH) (b : ByteArray) (c : MH) (d : PH) (e : Nat) (g i : Bool) : Prop := aA (a.1 <= b.size) (gX c d (iL a)) (aA (gS c (iM a) (iL a) (Obj.stringIter b a.1)) (a.1 = e \/ qU g) (qU i))
noncomputable abbrev Ar (a : ByteArray) (b : Nat) : Bool := lower (List.headD (nI a) b)
noncomputable abbrev Bi (a : Nat) (b : ByteArray) : Bool := List.all (List.take a (nI b)) wQ
abbrev i7 (a b : Nat) : Prop := Qs a 0 = Qs b 0
noncomputable abbrev Bj (a : ByteArray) (b : Nat) : Nat := (Utf8.decode a b).1
abbrev pS (a : ByteArray) (b c : Nat) : Prop := a.size - b < a.size - c
attribute [push_cast] kN iL iM z8 Ar Bi i7 Bj pS
def Hn (s : ByteArray) (m : MH) (h : PH) (K : CV -> MH -> PH -> Prop) : Prop :=
  bE (↑s.size : Int) 1 (K aR m h) (fB (↑s.size : Int) 32 (K aR m h) (∀ (b : Nat) (m1 : MH), gX m h b -> gS m m1 b (Obj.stringIter s 0) -> (∃ (x : Nat × Nat × MH), kN (z8 x s m h 0 (Ar s 0) (Bi x.1 s)) (i7 b (iL x)) (m1 = iM x) h h) /\ ∀ (x : Nat × Nat × MH), z8 x s m h 0 (Ar s 0) (Bi x.1 s) -> ∃ (s1 : ByteArray) (p : Nat), aA (KB (iM x) (iL x) (Obj.stringIter s1 p)) (s1.size <= p -> K gV (iM x) h) (p < s1.size -> ∀ (m2 : MH), gS (iM x) m2 (iL x) (Obj.stringIter s1 (p + (Utf8.decode s1 p).2)) -> dT (decide ((↑(Bj s1 p) : Int) >= 97)) (rL (decide ((↑(Bj s1 p) : Int) <= 122)) (dT ((↑p : Int) == 0) (K aR m2 h) ((↑(Bj s1 p) : Int) != 95) (bE (↑(Bj s1 p) : Int) 48 (K aR m2 h) (fB (↑(Bj s1 p) : Int) 57 (K aR m2 h) (∃ (y : Nat × Nat × MH), aA (z8 y s m h 0
 (Ar s 0) (Bi y.1 s)) (pS s y.1 x.1) (aA (i7 (iL x) (iL y)) (m2 = iM y) (bG h h))))) (∃ (y : Nat × Nat × MH), aA (z8 y s m h 0 (Ar s 0) (Bi y.1 s)) (pS s y.1 x.1) (aA (i7 (iL x) (iL y)) (m2 = iM y) (bG h h)))) (∃ (y : Nat × Nat × MH), aA (z8 y s m h 0 (Ar s 0) (Bi y.1 s)) (pS s y.1 x.1) (aA (i7 (iL x) (iL y)) (m2 = iM y) (bG h h)))) ((↑p : Int) == 0) (K aR m2 h) (dE (↑(Bj s1 p) : Int) 95 (bE (↑(Bj s1 p) : Int) 48 (K aR m2 h) (fB (↑(Bj s1 p) : Int) 57 (K aR m2 h) (∃ (y : Nat × Nat × MH), aA (z8 y s m h 0 (Ar s 0) (Bi y.1 s)) (pS s y.1 x.1) (aA (i7 (iL x) (iL y)) (m2 = iM y) (bG h h))))) (∃ (y : Nat × Nat × MH), aA (z8 y s m h 0 (Ar s 0) (Bi y.1 s)) (pS s y.1 x.1) (aA (i7
 (iL x) (iL y)) (m2 = iM y) (bG h h)))))))
theorem Ve (s : ByteArray) (m : MH) (h : PH) (K : CV -> MH -> PH -> Prop) : Hn s m h K = (cG (OQ s m h) Tryz.f85 (aE Tryz.f85) (entry Tryz.f85.ntmps [MK s] m h) K) := by kernel_rfl
abbrev lT (a : Bool) (b : Prop) (c d : Int) (e g : Prop) : Prop := dT a b (decide (c > d)) e g
noncomputable abbrev yR (a : UInt8) : Int := (↑a.toNat : Int)
abbrev vS (a : Nat) (b : ByteArray) : Prop := a <= b.size /\ qU (Bi a b)
attribute [push_cast] lT yR vS
def Jk (s : ByteArray) (m : MH) (h : PH) (K : CV -> MH -> PH -> Prop) : Prop :=
  lT ((↑s.size : Int) == 0) (K aR m h) (↑s.size : Int) 32 (K aR m h) (aW 0 /\ ∃ (b : UInt8), s.data.toList[0]? = Option.some b /\ bE (↑b.toNat : Int) 97 (K aR m h) (aW 0 /\ ∃ (b1 : UInt8), s.data.toList[0]? = Option.some b1 /\ fB (yR b1) 122 (K aR m h) (gR (∃ (x : Nat), aA (vS x s) (eQ (SV.at (Jv s))) (aA (bO x) (m = m) (bG h h))) (λ x => vS x s -> bE (↑x : Int) (↑s.size : Int) (aW (↑x : Int) /\ ∃ (b2 : UInt8), s.data.toList[(↑x : Int).toNat]? = Option.some b2 /\ bE (↑b2.toNat : Int) 97 (bE (↑b2.toNat : Int) 48 (dE (yR b2) 95 (K aR m h) (∃ (y : Nat), aA (vS y s) (pS s y x) (aA (eQ (SV.at (Jv s))) (aZ x 1 y) (cQ (m = m) h h)))) (fB (yR b2) 57 (dE (yR b2) 95 (K aR m h) (∃ (y : Nat), aA (vS y s) (pS s y x) (aA (eQ (SV.at (Jv s))) (aZ x 1 y) (cQ
 (m = m) h h)))) (∃ (y : Nat), aA (vS y s) (pS s y x) (aA (eQ (SV.at (Jv s))) (aZ x 1 y) (cQ (m = m) h h))))) (fB (yR b2) 122 (bE (↑b2.toNat : Int) 48 (dE (yR b2) 95 (K aR m h) (∃ (y : Nat), aA (vS y s) (pS s y x) (aA (eQ (SV.at (Jv s))) (aZ x 1 y) (cQ (m = m) h h)))) (fB (yR b2) 57 (dE (yR b2) 95 (K aR m h) (∃ (y : Nat), aA (vS y s) (pS s y x) (aA (eQ (SV.at (Jv s))) (aZ x 1 y) (cQ (m = m) h h)))) (∃ (y : Nat), aA (vS y s) (pS s y x) (aA (eQ (SV.at (Jv s))) (aZ x 1 y) (cQ (m = m) h h))))) (∃ (y : Nat), aA (vS y s) (pS s y x) (aA (eQ (SV.at (Jv s))) (aZ x 1 y) (cQ (m = m) h h))))) (K gV m h)))))
theorem Uh (s : ByteArray) (m : MH) (h : PH) (K : CV -> MH -> PH -> Prop) : Jk s m h K = (cG (MA s m h) Tryz.f106 (aE Tryz.f106) (entry Tryz.f106.ntmps [MK s] m h) K) := by kernel_rfl
def lZ (h : PH) (K : CV -> MH -> PH -> Prop) : CV -> MH -> PH -> Prop := λ r m' h' => ∃ m2 h2, (∀ b o, m2 b = some o -> m' b = some o) /\ PH.le h h2 /\ PH.le h2 h' /\ K r m2 h2
theorem lZ.here {r : CV} (hK : K r m h) : lZ h K r m h := ⟨m, h, λ _ _ e => e, .refl _, .refl _, hK⟩
theorem lZ.sub {r : CV} (hm : ∀ b o, m b = some o -> m' b = some o) (hK : K r m h) : lZ h K r m' h := ⟨m, h, hm, .refl _, .refl _, hK⟩
theorem gS.keeps {o : Obj} (hb : gX m h b) (hu : gS m m' b o) : ∀ b o, m b = some o -> m' b = some o := λ b' o' e => by
 have hne : b' ≠ b := λ e' => by rw [e', hb.m_] at e; cases e
 rw [hu.other b' hne, e]
theorem QT : Sound Tryz.prog 85 Qd := by
 refine gC (fn := Tryz.f85) (c := aE Tryz.f85) Tryz.func85 rfl (by decide) ?_
 rintro cvs m h K ⟨s, rfl, hK⟩
 refine ⟨OQ s m h, rfl, aH, ?_⟩
 rw [<- Ve s m h _]
 show Hn s m h (lZ h K)
 dsimp only [Hn, push_cast]
 have hl := Js s
 refine aC (λ h1 => ?_) (λ h1 => aC (λ h2 => ?_) (λ h2 b m1 hb hm1 => ?_))
 . refine .here (gY hK ?_)
   have : ¬ 1 <= s.size := by omega
   simp [lL, this]
 . refine .here (gY hK ?_)
   have : ¬ s.size <= 32 := by omega
   simp [lL, this]
 refine ⟨⟨(0, b, m1), ⟨by simp, hb, hm1, .inl rfl, by simp⟩, MT⟩, ?_⟩
 rintro ⟨pos, b, mx⟩ ⟨hp, hb, hmx, hhead, hall⟩
 simp only at hp hb hmx hhead hall
 refine ⟨s, pos, ⟨hmx.at_⟩, λ hge => ?_, λ hlt m2 hm2 => ?_⟩
 . refine .sub (gS.keeps hb hmx) (gY hK ?_)
   rw [List.take_of_length_le (by omega)] at hall
   have h3 : lower ((nI s).headD 0) = true := by
    rcases hhead with e | e
    . omega
    . exact e
   have h1' : 1 <= s.size := by omega
   have h2' : s.size <= 32 := by omega
   simp only [lL, hall, h3, decide_eq_true h1', decide_eq_true h2']; rfl
 . have hm3 := hmx.trans hm2
   obtain ⟨c, hc⟩ : ∃ c, (nI s)[pos]? = some c := ⟨(nI s)[pos]'(by omega), List.getElem?_eq_getElem _⟩
   obtain ⟨hg, hc256⟩ := RF hc
   have hhd : pos = 0 -> (nI s).headD 0 = c := λ e => by
    subst e
    cases hcs : nI s with
    | nil => rw [hcs] at hc; simp at hc
    | cons x l => rw [hcs] at hc; simp at hc; simpa using hc
   have stop : ¬ ((97 <= (Utf8.decode s pos).1 /\ (Utf8.decode s pos).1 <= 122) \/ (pos ≠ 0 /\ ((Utf8.decode s pos).1 = 95 \/ (48 <= (Utf8.decode s pos).1 /\ (Utf8.decode s pos).1 <= 57)))) -> lZ h K (.val (.bool false)) m2 h := by
    intro hn
    refine .sub (gS.keeps hb hm3) (gY hK ?_)
    by_cases hlo : (s.get! pos).toNat < 128
    . rw [Fh hlo, hg] at hn
      by_cases hp0 : pos = 0
      . have : lower c = false := by
         simp only [lower, Bool.and_eq_false_iff, decide_eq_false_iff_not]; simp only at hn; omega
        simp only [lL, hhd hp0, this, Bool.and_false, Bool.false_and]
      . have : wQ c = false := by
         simp only [wQ, lower, Bool.or_eq_false_iff, Bool.and_eq_false_iff, decide_eq_false_iff_not, beq_eq_false_iff_ne]; simp only at hn; omega
        simp [lL, Ay hc this]
    . have : wQ c = false := by
       simp only [wQ, lower, Bool.or_eq_false_iff, Bool.and_eq_false_iff, decide_eq_false_iff_not, beq_eq_false_iff_ne]; omega
      simp [lL, Ay hc this]
   have go : ((97 <= (Utf8.decode s pos).1 /\ (Utf8.decode s pos).1 <= 122) \/ (pos ≠ 0 /\ ((Utf8.decode s pos).1 = 95 \/ (48 <= (Utf8.decode s pos).1 /\ (Utf8.decode s pos).1 <= 57)))) -> pos + 1 <= s.size /\ gS m m2 b (.stringIter s (pos + 1)) /\ lower ((nI s).headD 0) = true /\ ((nI s).take (pos + 1)).all wQ = true := by
    intro hy
    have hlo : (s.get! pos).toNat < 128 := by
     refine Decidable.byContradiction λ hlo => ?_
     have := RD hlo
     omega
    rw [Fh hlo] at hm3
    rw [Fh hlo, hg] at hy
    simp only at hy
    refine ⟨by omega, hm3, ?_, ?_⟩
    . rcases hhead with e | e
      . rw [hhd e]; simp only [lower, Bool.and_eq_true, decide_eq_true_eq]; omega
      . exact e
    . rw [uM hc, hall]
      simp only [wQ, lower, Bool.true_and, Bool.or_eq_true, Bool.and_eq_true, decide_eq_true_eq, beq_iff_eq]; omega
   have next : ((97 <= (Utf8.decode s pos).1 /\ (Utf8.decode s pos).1 <= 122) \/ (pos ≠ 0 /\ ((Utf8.decode s pos).1 = 95 \/ (48 <= (Utf8.decode s pos).1 /\ (Utf8.decode s pos).1 <= 57)))) -> _ := λ hy => (⟨(pos + 1, b, m2), ⟨(go hy).1, hb, (go hy).2.1, .inr (go hy).2.2.1, (go hy).2.2.2⟩, by show s.size - (pos + 1) < s.size - pos; omega, MT⟩ : ∃ (y : Nat × Nat × MH), (y.fst <= s.size /\ gX m h y.snd.fst /\ gS m y.snd.2 y.snd.fst (Obj.stringIter s y.fst) /\ (y.fst = 0 \/ lower ((nI s).headD 0) = true) /\ (List.take y.fst (nI s)).all wQ = true) /\ s.size - y.fst < s.size - pos /\ SV.at (At.val (Value.pointer (some (Addr.mk b 0 none)))) = SV.at (At.val (Value.pointer (some (Addr.mk y.snd.fst 0 none)))) /\ m2 = y.snd.2 /\ h = h /\ True)
   clear go hm3 hm2 hall hhead hhd hmx hm1 hK
   repeat' (first | (refine aB (λ _ => ?_) (λ _ => ?_)) | exact stop (by simp only [decide_eq_true_eq, decide_eq_false_iff_not, bne_iff_ne, ne_eq, beq_iff_eq, beq_eq_false_iff_ne, bne_eq_false_iff_eq, Bool.not_eq_true', Bool.not_eq_false'] at *; omega) | exact next (by simp only [decide_eq_true_eq, decide_eq_false_iff_not, bne_iff_ne, ne_eq, beq_iff_eq, beq_eq_false_iff_ne, bne_eq_false_iff_eq, Bool.not_eq_true', Bool.not_eq_false'] at *; omega))
theorem NX : Sound Tryz.prog 106 Qd := by
 refine aI (fn := Tryz.f106) (c := aE Tryz.f106) Tryz.func106 rfl (by decide) ?_
 rintro cvs m h K ⟨s, rfl, hK⟩
 refine ⟨MA s m h, rfl, aH, ?_⟩
 rw [<- Uh s m h K]
 dsimp only [Jk, push_cast]
 have hl := Js s
 refine aB (λ h1 => gY hK ?_) (λ h1 => aC (λ h2 => gY hK ?_) (λ h2 => ?_))
 . have : ¬ 1 <= s.size := by have : (s.size : Int) = 0 := (by simpa using h1); omega
   simp [lL, this]
 . have : ¬ s.size <= 32 := by omega
   simp [lL, this]
 have h1 : s.size ≠ 0 := by intro e; rw [e] at h1; simp at h1
 obtain ⟨c0, hc0⟩ : ∃ c, s.data.toList[0]? = some c := ⟨s.data.toList[0]'(by simpa using (by omega : 0 < s.size)), List.getElem?_eq_getElem _⟩
 have hhd : (nI s).headD 0 = c0.toNat := by
  unfold nI
  cases hcs : s.data.toList with
  | nil => rw [hcs] at hc0; simp at hc0
  | cons x l => rw [hcs] at hc0; simp at hc0; simp [hc0]
 refine ⟨by omega, c0, hc0, aC (λ h3 => gY hK ?_) (λ h3 => ⟨by omega, c0, hc0, aC (λ h4 => gY hK ?_) (λ h4 => ?_)⟩)⟩
 . have : lower c0.toNat = false := by simp only [lower, Bool.and_eq_false_iff, decide_eq_false_iff_not]; omega
   simp only [lL, hhd, this, Bool.and_false, Bool.false_and]
 . have : lower c0.toNat = false := by simp only [lower, Bool.and_eq_false_iff, decide_eq_false_iff_not]; omega
   simp only [lL, hhd, this, Bool.and_false, Bool.false_and]
 refine ⟨⟨0, ⟨by omega, by simp⟩, MT⟩, λ i hi => aC (λ hlt => ?_) (λ hge => gY hK ?_)⟩
 . obtain ⟨c, hc⟩ : ∃ c, s.data.toList[i]? = some c := ⟨s.data.toList[i]'(by simpa using (by omega : i < s.size)), List.getElem?_eq_getElem _⟩
   have hcc : (nI s)[i]? = some c.toNat := by simp [nI, hc]
   have stop : wQ c.toNat = false -> K (.val (.bool false)) m h := λ e => gY hK (by simp [lL, Ay hcc e])
   have next : wQ c.toNat = true -> ∃ (y : Nat), (y <= s.size /\ (List.take y (nI s)).all wQ = true) /\ s.size - y < s.size - i /\ SV.at (At.val (Value.string s)) = SV.at (At.val (Value.string s)) /\ SV.at (At.val (Value.int IntKind.i64 (IntKind.i64.wrap ((i : Int) + 1)))) = SV.at (At.val (Value.int IntKind.i64 (y : Int))) /\ m = m /\ h = h /\ True := λ e => ⟨i + 1, ⟨by omega, by rw [uM hcc, hi.2, e]; rfl⟩, by omega, MT⟩
   have hn : wQ c.toNat = true ↔ (97 <= c.toNat /\ c.toNat <= 122) \/ (48 <= c.toNat /\ c.toNat <= 57) \/ c.toNat = 95 := by
    simp only [wQ, lower, Bool.or_eq_true, Bool.and_eq_true, decide_eq_true_eq, beq_iff_eq]; omega
   have hn' : wQ c.toNat = false ↔ ¬ ((97 <= c.toNat /\ c.toNat <= 122) \/ (48 <= c.toNat /\ c.toNat <= 57) \/ c.toNat = 95) := by
    rw [<- hn]; simp
   refine ⟨by omega, c, by simpa using hc, ?_⟩
   clear hK hi hhd hcc hn'
   rw [hn] at next
   have stop := λ e => stop (by rw [<- Bool.not_eq_true, hn]; exact e)
   clear hn
   repeat' (first | (refine aB (λ _ => ?_) (λ _ => ?_)) | exact stop (by simp only [decide_eq_true_eq, decide_eq_false_iff_not, bne_iff_ne, ne_eq, beq_iff_eq, beq_eq_false_iff_ne, bne_eq_false_iff_eq, Bool.not_eq_true', Bool.not_eq_false'] at *; omega) | exact next (by simp only [decide_eq_true_eq, decide_eq_false_iff_not, bne_iff_ne, ne_eq, beq_iff_eq, beq_eq_false_iff_ne, bne_eq_false_iff_eq, Bool.not_eq_true', Bool.not_eq_false'] at *; omega))
 . have := hi.2
   rw [List.take_of_length_le (by omega)] at this
   have h5 : lower c0.toNat = true := by simp only [lower, Bool.and_eq_true, decide_eq_true_eq]; omega
   have h1' : 1 <= s.size := by omega
   have h2' : s.size <= 32 := by omega
   simp only [lL, this, hhd, h5, decide_eq_true h1', decide_eq_true h2']; rfl
theorem JJ : Tryz.prog.underlying 9 = some .string := by kernel_rfl
theorem JM : KeyLaw Tryz.prog 9 (λ v => ∃ s, v = .string s) := by
 refine ⟨⟨_, JJ⟩, ?_, ?_, ?_⟩
 . rintro _ w b ⟨s, rfl⟩
   have e : ∀ n : Nat, (Instr.checkKey b (n + 1) 9 (.string s)).run Tryz.prog w = .ok () w := λ n => by
    unfold Instr.checkKey
    simp only [Sem.run_bind, run_underlying JJ, Result.andThen]
    simp
   exact e 9999
 . rintro _ _ w ⟨s, rfl⟩ ⟨t, rfl⟩
   refine ⟨_, run_equalIn_string w 9999 9 s t JJ, ?_⟩
   rw [beq_iff_eq]
   exact ⟨λ e => by rw [mN e], λ e => by injection e with e; rw [e]⟩
 . rintro d _ _ r hd ⟨s, rfl⟩ ⟨t, rfl⟩ h
   rw [JJ] at hd
   cases hd
   simp only [Instr.sameNow, Option.some.injEq] at h
   subst h
   rw [beq_toListBytes, beq_iff_eq]
   exact ⟨λ e => by rw [mN e], λ e => by injection e with e; rw [e]⟩
def eG {α : Type} (T : List α -> α -> Prop) (l : List α) (i : Nat) : Prop := ∀ j x, j < i -> l[j]? = some x -> T (l.take j) x
def Good {α : Type} (T : List α -> α -> Prop) (l : List α) : Prop := ∀ (j : Nat) x, l[j]? = some x -> T (l.take j) x
theorem eG.zero {α : Type} {T : List α -> α -> Prop} {l : List α} : eG T l 0 := λ _ _ h => by omega
theorem eG.succ {α : Type} {T : List α -> α -> Prop} {l : List α} {x : α} (h : eG T l i) (hx : l[i]? = some x) (t : T (l.take i) x) : eG T l (i + 1) := by
 intro j y hj hy
 by_cases e : j = i
 . subst e; rw [hx] at hy; cases hy; exact t
 . exact h j y (by omega) hy
theorem eG.all {α : Type} {T : List α -> α -> Prop} {l : List α} (h : eG T l i) (hi : l.length <= i) : Good T l := λ j x hx => h j x (by have := (List.getElem?_eq_some_iff.1 hx).1; omega) hx
theorem Good.not {α : Type} {T : List α -> α -> Prop} {l : List α} {x : α} (hx : l[i]? = some x) (t : ¬ T (l.take i) x) : ¬ Good T l := λ h => t (h i x hx)
def M1 (pre : List oG) (c : oG) : Prop := lL c.name = true /\ dR c.kind = true /\ c.name ∉ pre.map oG.name
def AZ (pre : List Et) (t : Et) : Prop := lL t.name = true /\ 1 <= t.key /\ t.key <= t.columns.length /\ t.name ∉ pre.map Et.name /\ Good M1 t.columns
def j5 (s : oC) (t : Int) : List Int := if t < 0 then [] else match s.tables[t.toNat]? with | none => [] | some t => t.columns.map oG.kind
def QF (s : oC) (t : Int) : Bool := decide (0 <= t) && decide (t < s.tables.length)
def aS (v : bH) : CV := .val (.agg ⟨v.enc⟩)
def iH (s : oC) : Prop := ∀ t ∈ s.tables, t.columns.length <= 8
def WM : Vc.Spec := λ cvs m h K => ∃ v s t, cvs = [aS v, cI t] /\ eW h s v /\ K (cB (QF s t)) m h
def uO : Vc.Spec := λ cvs m h K => ∃ v s t, cvs = [aS v, cI t] /\ eW h s v /\ iH s /\ ∀ sl h', PH.le h h' -> aU h' sl (j5 s t) -> K (cS sl) m h'
noncomputable def f52_ctx (m : MH) (h : PH) : Ctx :=
 cO [] [(5, { A := Nat × Sl × List Int, st := λ x => cD 35 37 [(5, .at (.lst 32)), (22, sv x.2.1), (23, iv x.2.1.len), (24, iv x.1)] [(32, .lst 3 1 (x.2.2.map eI))] m h })] [] [] false
noncomputable def Pa (m : MH) (h : PH) : Ctx :=
 cO [(86, WM)] [(5, { A := Nat × Sl × List Int, st := λ x => cD 38 40 [(5, .at (.lst 19)), (25, sv x.2.1), (26, iv x.2.1.len), (27, iv x.1)] [(19, .lst 3 1 (x.2.2.map eI))] m h })] [] [] false
noncomputable abbrev iR (a : bH) : Int := aF a.tables
attribute [push_cast] iR
def LI (v : bH) (t : Int) (m : MH) (h : PH) (K : CV -> MH -> PH -> Prop) : Prop :=
  fI t 0 (K (uS (decide (t < iR v))) m h) (K aR m h)
theorem Vd (v : bH) (t : Int) (m : MH) (h : PH) (K : CV -> MH -> PH -> Prop) : LI v t m h K = (cG (cO [] [] [] [] false) Tryz.f86 (aE Tryz.f86) (entry Tryz.f86.ntmps [aS v, cI t] m h) K) := by kernel_rfl
noncomputable abbrev lR (a : bH) : Option Addr := a.tables.a
abbrev J4 (a : MH) (b : PH) (c d e : Nat) (g : List Value) (i : (Nat × Sl × List Int -> Prop) -> (Nat × Sl × List Int -> Nat) -> Prop) : Prop := bI a b c (d + e) g /\ ∃ (x : Nat × Sl × List Int -> Prop) (x1 : Nat × Sl × List Int -> Nat), i x x1
noncomputable abbrev cT (a : Sl) : List Value := oB (nG a)
abbrev J2 (a b : (Nat × Sl × List Int) -> Prop) : Prop := (∃ (x : Nat × Sl × List Int), a x) /\ ∀ (x : Nat × Sl × List Int), b x
abbrev bW (a b : Sl) : Prop := wO a = wO b
noncomputable abbrev jB (a : Nat × Sl × List Int) : Sl := a.2.1
abbrev fN (a b : Sl) : Prop := wR a.len = wR b.len
noncomputable abbrev cM (a b : Nat) (c : List (List Value)) : Option Own := Option.some (Own.lst a b c)
noncomputable abbrev Bn (a : List Int) : Option Own := cM 3 1 (List.map eI a)
abbrev yW (a b : Nat) (c : List Int) : Prop := cM a b [] = Bn c
noncomputable abbrev mU (a : Nat × Sl × List Int) : List Int := a.2.2
noncomputable abbrev tM (a : ByteArray) (b : Int) : List Value := kY (Value.string a) (cZ b)
abbrev fR (a : Nat) : Prop := a <= 140737488355328
noncomputable abbrev iV (a : List (List Value)) (b : Nat) : Nat := a.length + b
noncomputable abbrev bY (a : List Int) : List (List Value) := List.map eI a
abbrev kR (a : List (List Value)) : Prop := a.length < 140737488355328
abbrev mT (a : List (List Value)) (b : List Int) : Prop := cM 3 1 a = Bn b
noncomputable abbrev jG (a : List Value) : List (List Value) := [a]
noncomputable abbrev iK (a : List (List Value)) (b : List Value) : List (List Value) := a ++ jG b
abbrev uB (a : List Int) (b : Int) (c : List Int) : Prop := mT (iK (bY a) (bT b)) c
abbrev AN (a : Sl -> PH -> Prop) : Prop := ∀ (x : Sl) (x1 : PH), a x x1
abbrev eU (a b : PH) (c d : Prop) : Prop := PH.le a b -> c -> d
abbrev bQ (a : Nat -> Nat -> Option Value) (b : Nat) (c : List (List Value)) (d : Sl -> PH -> Prop) : Prop := AN (λ x x1 => eU a x1 (cW x1 x b c) (d x x1))
attribute [push_cast] lR J4 cT J2 bW jB fN cM Bn yW mU tM fR iV bY kR mT jG iK uB AN eU bQ
def f52_nice (v : bH) (t : Int) (m : MH) (h : PH) (K : CV -> MH -> PH -> Prop) : Prop :=
  bE t 0 (K Fj m h) (fI t (iR v) (K Fj m h) (aY (λ b o => aG (bC (lR v) b o) (0 <= t) (t < aF v.tables) (∃ (y : Sl), J4 m h b (iW o t 5) 1 (cT y) (λ I m1 => J2 (λ x => aA (I x) (eL 32) (aA (bW y (jB x)) (fN y (jB x)) (aA (bO x.1) (yW 3 1 (mU x)) (aA (m = m) (h = h) True)))) (λ x => I x -> bE (↑x.1 : Int) (aF (jB x)) (aY (λ b1 o1 => aG (bC (jB x).a b1 o1) (0 <= (↑x.1 : Int)) ((↑x.1 : Int) < aF (jB x)) (∃ (y1 : oG), aG (bI m h b1 (bZ o1 x.1 2) (tM y1.name y1.kind)) (fR (iV (bY (mU x)) 1 * 8)) (kR (bY (mU x))) (∃ (x1 : Nat × Sl × List Int), aA (I x1) (m1 x1 < m1 x) (aA (eL 32) (bW (jB x) (jB x1)) (aA (fN (jB x) (jB x1)) (aZ x.1 1 x1.1) (aA (uB (mU x) y1.kind (mU x1)) (m = m) (bG h
 h)))))))) (bQ h 1 (bY (mU x)) (λ s h1 => K (dO s) m h1))))))))
theorem f52_vc (v : bH) (t : Int) (m : MH) (h : PH) (K : CV -> MH -> PH -> Prop) : f52_nice v t m h K = (cG (f52_ctx m h) Tryz.f52 (aE Tryz.f52) (entry Tryz.f52.ntmps [aS v, cI t] m h) K) := by kernel_rfl
abbrev mX (a : bH -> oC -> Prop) : Prop := ∃ (x : bH) (x1 : oC), a x x1
noncomputable abbrev bK (a : bH) : CV := kK (kY (cZ a.version) (nG a.tables))
abbrev kT (a : Int) : Prop := a <= 281474976710656
attribute [push_cast] mX bK kT
def LZ (v : bH) (t : Int) (m : MH) (h : PH) (K : CV -> MH -> PH -> Prop) : Prop :=
  mX (λ v1 s => ∃ (t1 : Int), aA (cV (bK v) t = cV (bK v1) t1) (eW h s v1) (rL (QF s t1) (K Fj m h) (aY (λ b o => aG (bC (lR v) b o) (0 <= t) (t < aF v.tables) (∃ (y : Sl), aA (bI m h b (iW o t 5 + 1) (cT y)) (aW 0) (aA (aW (aF y)) (kT (aF y * 8)) (kT (aF y) /\ aY (λ b1 o1 => aG (bC (lR v) b1 o1) (0 <= t) (t < aF v.tables) (∃ (y1 : Sl), J4 m h b1 (iW o1 t 5) 1 (cT y1) (λ I m1 => J2 (λ x => aA (I x) (eL 19) (aA (bW y1 (jB x)) (fN y1 (jB x)) (aA (bO x.1) (yW 3 1 (mU x)) (aA (m = m) (h = h) True)))) (λ x => I x -> bE (↑x.1 : Int) (aF (jB x)) (aY (λ b2 o2 => aG (bC (jB x).a b2 o2) (0 <= (↑x.1 : Int)) ((↑x.1 : Int) < aF (jB x)) (∃ (y2 : oG), aG (bI m h b2 (bZ o2 x.1 2) (tM y2.name y2.kind))
 (fR (iV (bY (mU x)) 1 * 8)) (kR (bY (mU x))) (∃ (x1 : Nat × Sl × List Int), aA (I x1) (m1 x1 < m1 x) (aA (eL 19) (bW (jB x) (jB x1)) (aA (fN (jB x) (jB x1)) (aZ x.1 1 x1.1) (aA (uB (mU x) y2.kind (mU x1)) (m = m) (bG h h)))))))) (bQ h 1 (bY (mU x)) (λ s1 h1 => K (dO s1) m h1)))))))))))))
theorem VB (v : bH) (t : Int) (m : MH) (h : PH) (K : CV -> MH -> PH -> Prop) : LZ v t m h K = (cG (Pa m h) Tryz.f62 (aE Tryz.f62) (entry Tryz.f62.ntmps [aS v, cI t] m h) K) := by kernel_rfl
theorem cL.part {o : Nat} {l : List Value} (r : cL h b o l) (k n : Nat) : cL h b (o + k) ((l.drop k).take n) :=
 ⟨λ i v e => by
  have : l[k + i]? = some v := by
   rw [List.getElem?_take] at e
   split at e
   . rwa [List.getElem?_drop] at e
   . cases e
  have := r.rd (k + i) v this
  rwa [<- Nat.add_assoc] at this⟩
theorem BP.at {s : Sl} {l : List oG} (r : BP h s l) {x : oG} (hi : l[i]? = some x) : ∃ b o, s.a = some ⟨b, o, none⟩ /\ cL h b (o + i * 2) (oG.enc x) := by
 obtain ⟨b, o, v, e, k, rfl⟩ := iT.at r hi
 exact ⟨b, o, e, k⟩
theorem Ce {t : Int} (h : ¬ (0 <= t /\ t < s.tables.length)) : j5 s t = [] := by
 unfold j5
 split
 . rfl
 . rw [List.getElem?_eq_none (by omega)]
theorem FU {t : Int} {x : Et} (h : 0 <= t) (hx : s.tables[t.toNat]? = some x) : j5 s t = x.columns.map oG.kind := by
 unfold j5
 rw [if_neg (by omega), hx]
theorem eW.table {v : bH} (hs : eW h s v) {t : Int} (h0 : 0 <= t) (h1 : t < (v.tables.len : Int)) : ∃ x b o w, s.tables[t.toNat]? = some x /\ v.tables.a = some ⟨b, o, none⟩ /\ cL h b (o + t.toNat * 5) (dJ.enc w) /\ Fs h x w := by
 have hl := hs.tables.slen
 have hx : s.tables[t.toNat]? = some (s.tables[t.toNat]'(by omega)) := List.getElem?_eq_getElem _
 obtain ⟨b, o, w, e, r, k⟩ := hs.tables.at hx
 exact ⟨_, b, o, w, hx, e, r, k⟩
theorem gJ {α β : Type} {f : α -> β} {l : List α} {x : α} (hx : l[i]? = some x) : (l.take (i + 1)).map f = (l.take i).map f ++ [f x] := by
 rw [List.take_add_one, hx]; simp
theorem QS : Sound Tryz.prog 86 WM := by
 refine aI (fn := Tryz.f86) (c := aE Tryz.f86) Tryz.func86 rfl (by decide) ?_
 rintro cvs m h K ⟨v, s, t, rfl, hs, hK⟩
 refine ⟨cO [] [] [] [] false, rfl, aH, ?_⟩
 rw [<- Vd v t m h K]
 dsimp only [LI, push_cast]
 have hl := hs.tables.slen
 refine aC (λ h1 => gY hK ?_) (λ h1 => gY hK ?_)
 . have h1 : 0 <= t := h1
   simp only [QF, hl, decide_eq_true h1, Bool.true_and]
 . have h1 : ¬ 0 <= t := by omega
   simp only [QF, decide_eq_false h1, Bool.false_and]
theorem f52_sound : Sound Tryz.prog 52 uO := by
 refine aI (fn := Tryz.f52) (c := aE Tryz.f52) Tryz.func52 rfl (by decide) ?_
 rintro cvs m h K ⟨v, s, t, rfl, hs, h8, hK⟩
 refine ⟨f52_ctx m h, rfl, aH, ?_⟩
 rw [<- f52_vc v t m h K]
 dsimp only [f52_nice, push_cast]
 have hl := hs.tables.slen
 have hnil : j5 s t = [] -> K (.val (.slice none 0 0)) m h := λ e => hK ⟨none, 0, 0⟩ h (.refl _) (by rw [e]; exact ⟨.nil _ _, by simp⟩)
 refine aC (λ h1 => hnil (Ce (by omega))) (λ h1 => aC (λ h2 => hnil (Ce (by omega))) (λ h2 => ?_))
 obtain ⟨x, b, o, w, hx, ea, hr, hrep⟩ := hs.table (t := t) (by omega) (by omega)
 have hx8 := h8 x (List.mem_of_getElem? hx)
 have hcl := iT.slen hrep.columns
 rw [FU (by omega) hx] at hK
 refine ⟨b, o, ea, by omega, by omega, w.columns, .imm (cL.part hr 1 1), λ ⟨i, sl, l⟩ => sl = w.columns /\ i <= x.columns.length /\ l = (x.columns.take i).map oG.kind, λ ⟨i, _, _⟩ => x.columns.length - i, ⟨(0, w.columns, []), ⟨rfl, by simp, by simp⟩, MT⟩, ?_⟩
 rintro ⟨i, _, _⟩ ⟨rfl, hi, rfl⟩
 dsimp only
 refine aC (λ hlt => ?_) (λ hge sl h' hle hrow => ?_)
 . obtain ⟨c, hc⟩ := fP hcl hlt
   obtain ⟨b, o, e, r⟩ := BP.at hrep.columns hc
   refine ⟨b, o, e, by omega, hlt, c, .imm r, ?_, ?_, (i + 1, w.columns, (x.columns.take (i + 1)).map oG.kind), ⟨rfl, by omega, rfl⟩, by show x.columns.length - (i + 1) < x.columns.length - i; omega, ?_⟩
   . simp; omega
   . simp; omega
   . rw [gJ hc, List.map_append]
     exact MT
 . rw [List.take_of_length_le (by omega)] at hrow
   exact hK sl h' hle ⟨hrow, by simp; omega⟩
theorem EZ : Sound Tryz.prog 62 uO := by
 refine aI (fn := Tryz.f62) (c := aE Tryz.f62) Tryz.func62 rfl (by decide) ?_
 rintro cvs m h K ⟨v, s, t, rfl, hs, h8, hK⟩
 refine ⟨Pa m h, rfl, aD QS aH, ?_⟩
 rw [<- VB v t m h K]
 dsimp only [LZ, push_cast]
 have hl := hs.tables.slen
 have hnil : j5 s t = [] -> K (.val (.slice none 0 0)) m h := λ e => hK ⟨none, 0, 0⟩ h (.refl _) (by rw [e]; exact ⟨.nil _ _, by simp⟩)
 refine ⟨v, s, t, rfl, hs, aB (λ h1 => hnil (Ce ?_)) (λ h1 => ?_)⟩
 . simp only [QF, Bool.not_eq_true', Bool.and_eq_false_iff, decide_eq_false_iff_not] at h1; omega
 simp only [QF, Bool.not_eq_false', Bool.and_eq_true, decide_eq_true_eq] at h1
 obtain ⟨x, b, o, w, hx, ea, hr, hrep⟩ := hs.table (t := t) (by omega) (by omega)
 have hx8 := h8 x (List.mem_of_getElem? hx)
 have hcl := iT.slen hrep.columns
 rw [FU (by omega) hx] at hK
 refine ⟨b, o, ea, by omega, by omega, w.columns, .imm (cL.part hr 1 1), by omega, by omega, by omega, by omega, b, o, ea, by omega, by omega, w.columns, .imm (cL.part hr 1 1), λ ⟨i, sl, l⟩ => sl = w.columns /\ i <= x.columns.length /\ l = (x.columns.take i).map oG.kind, λ ⟨i, _, _⟩ => x.columns.length - i, ⟨(0, w.columns, []), ⟨rfl, by simp, by simp⟩, MT⟩, ?_⟩
 rintro ⟨i, _, _⟩ ⟨rfl, hi, rfl⟩
 dsimp only
 refine aC (λ hlt => ?_) (λ hge sl h' hle hrow => ?_)
 . obtain ⟨c, hc⟩ := fP hcl hlt
   obtain ⟨b, o, e, r⟩ := BP.at hrep.columns hc
   refine ⟨b, o, e, by omega, hlt, c, .imm r, ?_, ?_, (i + 1, w.columns, (x.columns.take (i + 1)).map oG.kind), ⟨rfl, by omega, rfl⟩, by show x.columns.length - (i + 1) < x.columns.length - i; omega, ?_⟩
   . simp; omega
   . simp; omega
   . rw [gJ hc, List.map_append]
     exact MT
 . rw [List.take_of_length_le (by omega)] at hrow
   exact hK sl h' hle ⟨hrow, by simp; omega⟩
end Go.Ps
