/-
  Part 8 of a proof that a law of the given program returns true: a condition generator that is proved sound, and contracts of functions. No condition of its own. Own work, joined by a program (pack2.py).
-/
import Derived.Test.YtileehgdfcknkaaGreatDoorMg
namespace Go.Ps
open Go Go.Vc Go.Proofs
variable {K : CV -> MH -> PH -> Prop} {m : MH} {h : PH} {s : nX} {ps : List Int} {cb : Nat} {sc : bL} {v : QV} {q : Query} {p : Pred} {l : List Int} {i : Nat} {N : Nat} {m' : MH} {h' : PH} {co : List Int} {gr : List Int} {od : List (Int × Bool)} {w : Pred} {ta : Int} {li : Int} {xs : List (List Value)} {sz : Nat} {k : Nat} {ks : List (List Int)} {rs : List Int} {r : Sl} {a : List Int} {b : Nat}
structure CK (s : nX) (c : Nat) (ls : List (List (List VV))) (k : Nat) (ts : List Int) : Prop where
 at_ : ∀ (j : Nat) (t : Int), ts[j]? = some t -> ∃ l, ls[k + j]? = some l /\ iC (gP s t).length l /\ l.length <= c
theorem CK.left {c : Nat} {ls : List (List (List VV))} {b : List Int} (x : CK s c ls k (a ++ b)) : CK s c ls k a :=
 ⟨λ j t h => x.at_ j t (by rw [Na (mG.1 h).1]; exact h)⟩
theorem CK.right {c : Nat} {ls : List (List (List VV))} {b : List Int} (x : CK s c ls k (a ++ b)) : CK s c ls (k + a.length) b :=
 ⟨λ j t h => by
  have := x.at_ (a.length + j) t (by rw [Ji aC, Nat.add_sub_cancel_left]; exact h)
  rwa [show k + a.length + j = k + (a.length + j) by omega]⟩
theorem xV {op : Int} {on : List (Int × Int)} {args : List Query} {ks : List Int} (h : bP s ps (.mk op ta w co on gr od li args) = (ks, 0)) :
 ∃ kss, eW s ps args = (kss, 0) /\ (kss.length : Int) = arity op /\ gZ s ps (.mk op ta w co on gr od li args) (kss.getD 0 []) (kss.getD 1 []) = (ks, 0) := by
 rw [bP] at h
 generalize eW s ps args = r at h
 obtain ⟨kss, e⟩ := r
 dsimp only at h
 split at h
 . rename_i e0
   subst e0
   split at h
   . rename_i h1; exact ⟨kss, rfl, h1, h⟩
   . simp [iO] at h
 . rename_i e0; simp only [iO, Ez] at h; exact absurd h.2 e0
theorem jR {qs : List Query} {kss : List (List Int)} (h : eW s ps (q :: qs) = (kss, 0)) : ∃ k kss', bP s ps q = (k, 0) /\ eW s ps qs = (kss', 0) /\ kss = k :: kss' := by
 rw [eW] at h
 generalize bP s ps q = r at h
 obtain ⟨k, e⟩ := r
 generalize eW s ps qs = r at h
 obtain ⟨ks, e'⟩ := r
 dsimp only at h
 split at h
 . rename_i e0
   split at h
   . rename_i e1
     simp only [Ez, and_true] at h
     exact ⟨k, ks, by rw [e0], by rw [e1], h.symm⟩
   . rename_i e1; simp only [Ez] at h; exact absurd h.2 e1
 . rename_i e0; simp only [Ez] at h; exact absurd h.2 e0
theorem j5 {ks : List Int} (h : z6 l = (ks, 0)) : ks = l /\ l.length <= 12 := by
 unfold z6 at h
 split at h
 . rename_i h1; simp only [Ez, and_true] at h; exact ⟨h.symm, h1⟩
 . simp at h
theorem SZ {op : Int} (h : arity op = 0) : op = 1 := by
 unfold arity at h
 split at h
 . rename_i e; simpa using e
 . split at h
   . omega
   . split at h <;> omega
mutual
theorem QN {s : nX} {ps : List Int} {c : Nat} (hc : 1 <= c) : ∀ {q : Query} {ks : List Int}, bP s ps q = (ks, 0) -> 1 <= mX c q
 | .mk op ta w co on gr od li args, ks, h => by
  obtain ⟨kss, h1, h2, h3⟩ := xV h
  have h4 := S4 hc h1
  rw [mX]
  split
  . exact hc
  . rename_i n1
    split
    . exact h4.1
    . match args, h1, h4 with
      | [], h1, _ => rw [eW] at h1; simp only [Ez, and_true] at h1; rw [<- h1] at h2; exact absurd (SZ h2.symm) n1
      | q :: qs, h1, h4 => exact h4.2 (by simp)
theorem S4 {s : nX} {ps : List Int} {c : Nat} (hc : 1 <= c) : ∀ {qs : List Query} {kss : List (List Int)}, eW s ps qs = (kss, 0) -> 1 <= vC c qs /\ (qs ≠ [] -> 1 <= yF c qs)
 | [], kss, h => by simp [vC]
 | q :: qs, kss, h => by
  obtain ⟨k, kss', h1, h2, h3⟩ := jR h
  have h4 := QN hc h1
  have h5 := S4 hc h2
  rw [vC, yF]
  exact ⟨Nat.mul_pos h4 h5.1, λ _ => by omega⟩
end
def M7 (c : Nat) : List Query -> List (List Int) -> List (List (List VV)) -> Prop
 | [], [], [] => True
 | q :: qs, k :: ks, l :: ls => iC k.length l /\ l.length <= mX c q /\ M7 c qs ks ls
 | _, _, _ => False
theorem NO {α : Type} : ∀ {l : List α}, l.length = 2 -> ∃ a b, l = [a, b]
 | [a, b], _ => ⟨a, b, rfl⟩
theorem M7.len {c : Nat} {qs : List Query} {ls : List (List (List VV))} (h : M7 c qs ks ls) : qs.length = ks.length /\ ls.length = ks.length := by
 induction qs generalizing ks ls with
 | nil =>
  match ks, ls, h with
  | [], [], _ => exact ⟨rfl, rfl⟩
  | _ :: _, [], h => exact h.elim
  | [], _ :: _, h => exact h.elim
  | _ :: _, _ :: _, h => exact h.elim
 | cons q qs ih =>
  match ks, ls, h with
  | [], [], h => exact h.elim
  | _ :: _, [], h => exact h.elim
  | [], _ :: _, h => exact h.elim
  | k :: ks, l :: ls, h =>
   obtain ⟨h1, h2⟩ := ih h.2.2
   exact ⟨by simp [h1], by simp [h2]⟩
theorem iC.filter {w : Nat} {l : List (List VV)} (x : iC w l) (p : List VV -> Bool) : iC w (l.filter p) :=
 ⟨λ r h => x.row r (List.mem_filter.1 h).1, λ r h => x.wid r (List.mem_filter.1 h).1, x.srt.filter p, Ae (Q5 _ _) x.len⟩
theorem Pr (x : List VV) : ∀ l : List (List VV), (GO x l).length <= l.length + 1
 | [] => by simp [GO]
 | y :: l => by
  have := Pr x l
  simp only [GO]
  split
  . simp
  . split <;> simp <;> omega
theorem EM : ∀ l : List (List VV), (Ag l).length <= l.length
 | [] => by simp [Ag]
 | x :: l => by
  have h1 := EM l
  have h2 := Pr x (Ag l)
  show (GO x (Ag l)).length <= (x :: l).length
  simp only [Gi]
  omega
theorem iC.set {w : Nat} {l : List (List VV)} (h1 : ∀ r ∈ l, OA r) (h2 : ∀ r ∈ l, r.length = w) (h3 : l.length <= 1000000) : iC w (Ag l) :=
 ⟨λ r h => h1 r (B7.1 h), λ r h => h2 r (B7.1 h), yG l, Ae (EM l) h3⟩
theorem F8 : ∀ {x y u v : List VV}, x.length = y.length -> dV (x ++ u) (y ++ v) = if dV x y ≠ 0 then dV x y else dV u v
 | [], [], u, v, _ => by simp [dV]
 | a :: x, b :: y, u, v, h => by
  simp only [Gi, Nat.add_right_cancel_iff] at h
  simp only [List.cons_append, dV]
  by_cases e : jX a b = 0
  . simp only [e, ne_eq, not_true_eq_false, if_false]; exact F8 h
  . simp [e]
 | [], _ :: _, _, _, h => by simp at h
 | _ :: _, [], _, _, h => by simp at h
theorem zA {on : List (Int × Int)} {b : List (List VV)} {x z : List VV} (h : z ∈ mW on b x) : ∃ y ∈ b, z = x ++ y := by
 unfold mW at h
 split at h
 . obtain ⟨y, hy, rfl⟩ := mH.1 h
   exact ⟨y, (List.mem_filter.1 hy).1, rfl⟩
 . simp at h
theorem iC.join {w w' : Nat} {a b : List (List VV)} {on : List (Int × Int)} (ha : iC w a) (hb : iC w' b) (hw : w + w' <= 12) (hl : a.length * b.length <= 1000000) : iC (w + w') (a.flatMap (mW on b)) := by
 refine ⟨λ r h => ?_, λ r h => ?_, ?_, Ae (uY λ x _ => zB) hl⟩
 . obtain ⟨x, hx, h⟩ := List.mem_flatMap.1 h
   obtain ⟨y, hy, rfl⟩ := zA h
   have h1 := ha.wid x hx
   have h2 := hb.wid y hy
   refine ⟨by rw [BG]; omega, λ v hv => ?_⟩
   rcases BZ.1 hv with hv | hv
   . exact (ha.row x hx).val v hv
   . exact (hb.row y hy).val v hv
 . obtain ⟨x, hx, h⟩ := List.mem_flatMap.1 h
   obtain ⟨y, hy, rfl⟩ := zA h
   rw [BG, ha.wid x hx, hb.wid y hy]
 . refine List.pairwise_flatMap.2 ⟨λ x hx => ?_, ?_⟩
   . unfold mW
     split
     . refine List.pairwise_map.2 ((hb.srt.filter _).imp fun {y z} h => ?_)
       rw [F8 rfl, if_neg (by rw [kT.2 rfl]; simp)]
       exact h
     . exact List.Pairwise.nil
   . refine ha.srt.imp_of_mem fun {x y} hx hy h z hz u hu => ?_
     obtain ⟨z', _, rfl⟩ := zA hz
     obtain ⟨u', _, rfl⟩ := zA hu
     rw [F8 (by rw [ha.wid x hx, ha.wid y hy]), if_pos aC]
     exact h
theorem J7 {c : Int} (h : El a c = true) : 0 <= c /\ c < a.length := by
 simp only [El, Gf, decide_eq_true_eq] at h; exact h
theorem Cy {α : Type} {T : List α -> α -> Prop} {l : List α} (h : Good T l) {x : α} (hx : x ∈ l) : ∃ pre, T pre x := by
 obtain ⟨i, hi, e⟩ := List.mem_iff_getElem.1 hx
 exact ⟨_, h i x (by rw [<- e]; exact kP hi)⟩
theorem EZ : ∀ (n : Nat) (l : List Int), l.Nodup -> (∀ x ∈ l, 0 <= x /\ x < n) -> l.length <= n
 | 0, [], _, _ => by simp
 | 0, x :: l, _, h => by have := h x (Gh ..); omega
 | n + 1, l, hd, h => by
  by_cases hn : (n : Int) ∈ l
  . have h1 := EZ n (l.erase n) (hd.erase _) (λ x hx => by
     have h2 := (hd.mem_erase_iff).1 hx
     have := h x h2.2
     omega)
    rw [List.length_erase_of_mem hn] at h1
    omega
  . have := EZ n l hd (λ x hx => by
     have := h x hx
     have h3 : x ≠ (n : Int) := λ e => hn (e ▸ hx)
     omega)
    omega
theorem Ka {α : Type} {T : List α -> α -> Prop} {l : List α} (f : α -> Int) (hT : ∀ pre x, T pre x -> f x ∉ pre.map f) (h : Good T l) : (l.map f).Nodup := by
 rw [List.nodup_iff_pairwise_ne, List.pairwise_map, List.pairwise_iff_getElem]
 intro i j hi hj hij e
 refine hT _ _ (h j l[j] (kP hj)) (mH.2 ⟨l[i], ?_, e⟩)
 rw [List.mem_take_iff_getElem]
 exact ⟨i, aC, rfl⟩
theorem J9 (h : Good (Hx a) gr) (hl : a.length <= 12) : gC a.length gr := by
 have h1 : ∀ c ∈ gr, 0 <= c /\ c < a.length := λ c hc => by obtain ⟨_, h2⟩ := Cy h hc; exact J7 h2.1
 have h2 := Ka id (λ pre x (h : Hx a pre x) => by simpa using h.2) h
 rw [List.map_id] at h2
 exact ⟨h1, by have := EZ _ _ h2 h1; omega⟩
theorem Lw {b : List Int} {on : List (Int × Int)} (h : Good (AA a b) on) (ha : a.length <= 12) (hb : b.length <= 12) : gC a.length (jU on) /\ gC b.length (fH on) := by
 have h1 : ∀ c ∈ jU on, 0 <= c /\ c < a.length := λ c hc => by
  obtain ⟨p, hp, rfl⟩ := mH.1 hc
  obtain ⟨_, h2⟩ := Cy h hp
  exact J7 h2.1
 have h2 : ∀ c ∈ fH on, 0 <= c /\ c < b.length := λ c hc => by
  obtain ⟨p, hp, rfl⟩ := mH.1 hc
  obtain ⟨_, h2⟩ := Cy h hp
  exact J7 h2.2.1
 have h3 : (jU on).Nodup := Ka Prod.fst (λ pre x (h : AA a b pre x) hm => by
  obtain ⟨y, hy, e⟩ := mH.1 hm
  exact (h.2.2.2 y hy).1 e) h
 have h4 := EZ _ _ h3 h1
 exact ⟨⟨h1, aC⟩, ⟨h2, by simp only [jU, fH, mI] at h4 ⊢; omega⟩⟩
theorem Pc {w : Nat} {r : List VV} (hr : OA r) (hw : r.length = w) (hc : gC w co) (hl : co.length <= 12) : OA (pick r co) /\ (pick r co).length = co.length :=
 ⟨⟨by simpa [pick] using hl, EX hr (by rw [hw]; exact hc)⟩, by simp [pick]⟩
theorem EI {c : Nat} {p : Query} : yF c [q, p] = mX c q + mX c p := by simp [yF]
theorem Nj {c : Nat} : yF c [q] = mX c q := by simp [yF]
theorem Wl {c : Nat} {p : Query} : vC c [q, p] = mX c q * mX c p := by simp [vC]
theorem Yf {c : Nat} {op : Int} {on : List (Int × Int)} {args : List Query} {ks : List Int} {kss : List (List Int)} {L : List (List (List VV))} (n1 : op ≠ 1)
 (h2 : (kss.length : Int) = arity op) (h12 : ∀ k ∈ kss, k.length <= 12) (h3 : gZ s ps (.mk op ta w co on gr od li args) (kss.getD 0 []) (kss.getD 1 []) = (ks, 0)) (hA : M7 c args kss L) (hb : mX c (.mk op ta w co on gr od li args) <= 1000000) :
 Z8 op (.mk op ta w co on gr od li args) L /\ iC ks.length (Z7 op (.mk op ta w co on gr od li args) L) /\ (Z7 op (.mk op ta w co on gr od li args) L).length <= mX c (.mk op ta w co on gr od li args) := by
 rw [mX, if_neg n1] at hb ⊢
 unfold gZ at h3
 dsimp only at h3
 split at h3
 . simp [iO] at h3
 have one : arity op = 1 -> ∃ q k l, args = [q] /\ kss = [k] /\ L = [l] /\ iC k.length l /\ l.length <= mX c q /\ k.length <= 12 := λ e => by
  obtain ⟨l1, l2⟩ := hA.len
  obtain ⟨k, rfl⟩ := List.length_eq_one_iff.1 (show kss.length = 1 by omega)
  obtain ⟨q, rfl⟩ := List.length_eq_one_iff.1 (show args.length = 1 by simpa using l1)
  obtain ⟨l, rfl⟩ := List.length_eq_one_iff.1 (show L.length = 1 by simpa using l2)
  exact ⟨q, k, l, rfl, rfl, rfl, hA.1, hA.2.1, h12 k (by simp)⟩
 have two : arity op = 2 -> ∃ q p k k' l l', args = [q, p] /\ kss = [k, k'] /\ L = [l, l'] /\ iC k.length l /\ l.length <= mX c q /\ iC k'.length l' /\ l'.length <= mX c p /\ k.length <= 12 /\ k'.length <= 12 := λ e => by
  obtain ⟨l1, l2⟩ := hA.len
  obtain ⟨k, k', rfl⟩ := NO (show kss.length = 2 by omega)
  obtain ⟨q, p, rfl⟩ := NO (show args.length = 2 by simpa using l1)
  obtain ⟨l, l', rfl⟩ := NO (show L.length = 2 by simpa using l2)
  exact ⟨q, p, k, k', l, l', rfl, rfl, rfl, hA.1, hA.2.1, hA.2.2.1, hA.2.2.2.1, h12 k (by simp), h12 k' (by simp)⟩
 have ar : op = 2 \/ op = 3 \/ op = 9 \/ op = 4 \/ op = 5 \/ op = 6 \/ op = 7 \/ op = 8 \/ op = 10 := by
  have : 0 <= arity op := by omega
  unfold arity at this
  split at this
  . rename_i e; simp at e; exact absurd e n1
  . split at this
    . rename_i e; simp at e; omega
    . split at this
      . rename_i e; simp at e; omega
      . omega
 rcases ar with rfl | rfl | rfl | rfl | rfl | rfl | rfl | rfl | rfl
 . obtain ⟨q, k, l, rfl, rfl, rfl, hr, hl, hk⟩ := one rfl
   simp only [show ((2 : Int) = 4) = False by decide, if_false, if_true] at h3 hb ⊢
   split at h3
   . obtain ⟨rfl, _⟩ := j5 h3
     refine ⟨⟨by simp, λ x hx => by simp at hx; subst hx; exact ⟨_, hr⟩⟩, hr.filter _, Ae (Q5 _ _) ?_⟩
     rw [Nj]; exact hl
   . rename_i e; simp only [iO, Ez] at h3; exact absurd h3.2 e
 . obtain ⟨q, k, l, rfl, rfl, rfl, hr, hl, hk⟩ := one rfl
   simp only [show ((3 : Int) = 4) = False by decide, show ((3 : Int) = 2) = False by decide, if_false, if_true] at h3 hb ⊢
   split at h3
   . rename_i hg
     obtain ⟨rfl, h12'⟩ := j5 h3
     rw [mI] at h12' ⊢
     have hc : gC k.length co := ⟨λ c hc => by obtain ⟨_, h2⟩ := Cy hg.2 hc; exact J7 h2, aC⟩
     rw [Nj] at hb ⊢
     refine ⟨⟨by simp, h12', _, hr, hc⟩, iC.set (λ r h => ?_) (λ r h => ?_) (by show (l.map _).length <= _; rw [mI]; exact hr.len), Ae (EM _) (by show (l.map _).length <= _; rw [mI]; exact hl)⟩
     . obtain ⟨x, hx, rfl⟩ := mH.1 h
       exact (Pc (hr.row x hx) (hr.wid x hx) hc h12').1
     . obtain ⟨x, hx, rfl⟩ := mH.1 h
       exact (Pc (hr.row x hx) (hr.wid x hx) hc h12').2
   . simp [iO] at h3
 . obtain ⟨q, k, l, rfl, rfl, rfl, hr, hl, hk⟩ := one rfl
   simp only [show ((9 : Int) = 4) = False by decide, show ((9 : Int) = 2) = False by decide, show ((9 : Int) = 3) = False by decide, show ((9 : Int) = 5) = False by decide, if_false, if_true] at h3 hb ⊢
   split at h3
   . rename_i hg
     obtain ⟨rfl, h12'⟩ := j5 h3
     rw [Nj] at hb ⊢
     exact ⟨⟨by simp, ⟨_, hr, J9 hg.group_ hk⟩, hg.low⟩, hr.filter _, Ae (Q5 _ _) hl⟩
   . simp [iO] at h3
 . obtain ⟨q, p, k, k', l, l', rfl, rfl, rfl, hr, hl, hr', hl', hk, hk'⟩ := two rfl
   simp only [show ((4 : Int) = 2) = False by decide, show ((4 : Int) = 3) = False by decide, if_false, if_true] at h3 hb ⊢
   split at h3
   . rename_i hg
     obtain ⟨rfl, h12'⟩ := j5 h3
     rw [Wl] at hb ⊢
     have hc := Lw hg hk hk'
     have hm : l.length * l'.length <= mX c q * mX c p := Nat.mul_le_mul hl hl'
     rw [BG] at h12' ⊢
     exact ⟨⟨⟨by simp, _, _, hr, hr', hc.1, hc.2⟩, Ae hm hb⟩, hr.join hr' h12' (Ae hm hb), Ae (uY λ x _ => zB) hm⟩
   . simp [iO] at h3
 . obtain ⟨q, p, k, k', l, l', rfl, rfl, rfl, hr, hl, hr', hl', hk, hk'⟩ := two rfl
   simp only [show ((5 : Int) = 2) = False by decide, show ((5 : Int) = 3) = False by decide, show ((5 : Int) = 4) = False by decide, if_false, if_true] at h3 hb ⊢
   split at h3
   . rename_i hg
     obtain ⟨rfl, h12'⟩ := j5 h3
     rw [EI] at hb ⊢
     have hc := Lw hg hk hk'
     exact ⟨⟨by simp, _, _, hr, hr', hc.1, hc.2⟩, hr.filter _, Ae (Q5 _ _) (by show l.length <= _; omega)⟩
   . simp [iO] at h3
 all_goals
  obtain ⟨q, p, k, k', l, l', rfl, rfl, rfl, hr, hl, hr', hl', hk, hk'⟩ := two rfl
 . simp only [show ((6 : Int) = 2) = False by decide, show ((6 : Int) = 3) = False by decide, show ((6 : Int) = 4) = False by decide, show ((6 : Int) = 5) = False by decide, show ((6 : Int) = 9) = False by decide, show ((6 : Int) = 10) = False by decide, if_false, if_true] at h3 hb ⊢
   split at h3
   . rename_i hg
     have hg : k = k' := hg
     subst hg
     obtain ⟨rfl, h12'⟩ := j5 h3
     rw [EI] at hb ⊢
     have hll : (l ++ l').length <= mX c q + mX c p := by rw [BG]; omega
     refine ⟨⟨by simp, λ x hx => by simp at hx; rcases hx with rfl | rfl; exact ⟨_, hr⟩; exact ⟨_, hr'⟩⟩, iC.set (λ r h => ?_) (λ r h => ?_) (Ae hll hb), Ae (EM _) hll⟩
     . rcases BZ.1 h with h | h
       . exact hr.row r h
       . exact hr'.row r h
     . rcases BZ.1 h with h | h
       . exact hr.wid r h
       . exact hr'.wid r h
   . simp [iO] at h3
 . simp only [show ((7 : Int) = 2) = False by decide, show ((7 : Int) = 3) = False by decide, show ((7 : Int) = 4) = False by decide, show ((7 : Int) = 5) = False by decide, show ((7 : Int) = 9) = False by decide, show ((7 : Int) = 10) = False by decide, if_false, if_true] at h3 hb ⊢
   split at h3
   . rename_i hg
     have hg : k = k' := hg
     subst hg
     obtain ⟨rfl, h12'⟩ := j5 h3
     rw [EI] at hb ⊢
     exact ⟨⟨by simp, _, λ x hx => by simp at hx; rcases hx with rfl | rfl; exact hr; exact hr'⟩, hr.filter _, Ae (Q5 _ _) (by show l.length <= _; omega)⟩
   . simp [iO] at h3
 . simp only [show ((8 : Int) = 2) = False by decide, show ((8 : Int) = 3) = False by decide, show ((8 : Int) = 4) = False by decide, show ((8 : Int) = 5) = False by decide, show ((8 : Int) = 9) = False by decide, show ((8 : Int) = 10) = False by decide, if_false, if_true] at h3 hb ⊢
   split at h3
   . rename_i hg
     have hg : k = k' := hg
     subst hg
     obtain ⟨rfl, h12'⟩ := j5 h3
     rw [EI] at hb ⊢
     exact ⟨⟨by simp, _, λ x hx => by simp at hx; rcases hx with rfl | rfl; exact hr; exact hr'⟩, hr.filter _, Ae (Q5 _ _) (by show l.length <= _; omega)⟩
   . simp [iO] at h3
 . simp only [show ((10 : Int) = 2) = False by decide, show ((10 : Int) = 3) = False by decide, show ((10 : Int) = 4) = False by decide, show ((10 : Int) = 5) = False by decide, show ((10 : Int) = 9) = False by decide, if_false, if_true] at h3 hb ⊢
   split at h3
   . rename_i hg
     obtain ⟨hg, hg2⟩ := hg
     have hg : k = k' := hg
     subst hg
     obtain ⟨rfl, h12'⟩ := j5 h3
     rw [EI] at hb ⊢
     exact ⟨⟨by simp, _, hr, hr', J9 hg2.group_ hk⟩, hr.filter _, Ae (Q5 _ _) (by show l.length <= _; omega)⟩
   . simp [iO] at h3
theorem QL {s : nX} {ps : List Int} {c : Nat} (hc : 1 <= c) : ∀ {qs : List Query} {kss : List (List Int)}, eW s ps qs = (kss, 0) -> ∀ q ∈ qs, mX c q <= yF c qs /\ mX c q <= vC c qs
 | [], _, _, q, hq => by simp at hq
 | p :: qs, kss, h, q, hq => by
  obtain ⟨k, kss', h1, h2, h3⟩ := jR h
  have h4 := QN hc h1
  have h5 := (S4 hc h2).1
  rw [yF, vC]
  rcases xA.1 hq with rfl | hq
  . exact ⟨aC, Nat.le_mul_of_pos_right _ h5⟩
  . have := QL hc h2 q hq
    exact ⟨aC, Ae this.2 (Nat.le_mul_of_pos_left _ h4)⟩
theorem J5 {s : nX} {ps : List Int} : ∀ {qs : List Query} {kss : List (List Int)}, eW s ps qs = (kss, 0) -> ∀ k ∈ kss, k.length <= 12
 | [], kss, h, k, hk => by rw [eW] at h; simp only [Ez, and_true] at h; subst h; simp at hk
 | q :: qs, kss, h, k, hk => by
  obtain ⟨k', kss', h1, h2, rfl⟩ := jR h
  rcases xA.1 hk with rfl | hk
  . have := Bu s ps q; rw [h1] at this; exact this
  . exact J5 h2 k hk
structure ajQ (c : Nat) (ls : List (List (List VV))) (q : Query) (k : Nat) (ks : List Int) : Prop where
 ok : UK ls q k
 rel : iC ks.length (iY ls q k).1
 bnd : (iY ls q k).1.length <= mX c q
 nxt : (iY ls q k).2 = k + (iZ q).length
mutual
theorem Qx {s : nX} {ps : List Int} {c : Nat} {ls : List (List (List VV))} (hc : 1 <= c) : ∀ {q : Query} {ks : List Int} {k : Nat}, bP s ps q = (ks, 0) -> CK s c ls k (iZ q) -> mX c q <= 1000000 -> ajQ c ls q k ks
 | .mk op ta w co on gr od li args, ks, k, h, hl, hb => by
  obtain ⟨kss, h1, h2, h3⟩ := xV h
  by_cases e : op = 1
  . subst e
    have h0 : args = [] := by
     cases args with
     | nil => rfl
     | cons q qs => obtain ⟨_, _, _, _, rfl⟩ := jR h1; simp [arity] at h2; omega
    subst h0
    have hs : iZ (.mk 1 ta w co on gr od li []) = [ta] := by simp [iZ, gU]
    unfold gZ at h3
    dsimp only at h3
    split at h3
    . simp [iO] at h3
    try rw [if_pos rfl] at h3
    split at h3
    . obtain ⟨rfl, _⟩ := j5 h3
      rw [hs] at hl
      obtain ⟨l, e1, e2, e3⟩ := hl.at_ 0 ta rfl
      rw [V6] at e1
      have e4 : (iY ls (.mk 1 ta w co on gr od li []) k) = (l, k + 1) := by rw [iY, if_pos rfl, Hy, e1]; rfl
      refine ⟨by rw [UK, if_pos rfl]; exact (mG.1 e1).1, by rw [e4]; exact e2, by rw [e4, mX, if_pos rfl]; exact e3, by rw [e4, hs]; rfl⟩
    . simp [iO] at h3
  . have hs : iZ (.mk op ta w co on gr od li args) = gU args := by simp [iZ, e]
    rw [hs] at hl
    have hb2 : ∀ q ∈ args, mX c q <= 1000000 := λ q hq => by
     have h5 := QL hc h1 q hq
     rw [mX, if_neg e] at hb
     split at hb <;> omega
    obtain ⟨o1, o2, o3⟩ := MN hc h1 hl hb2
    obtain ⟨n1, n2, n3⟩ := Yf e h2 (J5 h1) h3 o2 hb
    have e4 : iY ls (.mk op ta w co on gr od li args) k = (Z7 op (.mk op ta w co on gr od li args) (eN ls args k).1, (eN ls args k).2) := by rw [iY, if_neg e]
    exact ⟨by rw [UK, if_neg e]; exact ⟨n1, o1⟩, by rw [e4]; exact n2, by rw [e4]; exact n3, by rw [e4, hs]; exact o3⟩
theorem MN {s : nX} {ps : List Int} {c : Nat} {ls : List (List (List VV))} (hc : 1 <= c) : ∀ {qs : List Query} {kss : List (List Int)} {k : Nat}, eW s ps qs = (kss, 0) -> CK s c ls k (gU qs) -> (∀ q ∈ qs, mX c q <= 1000000) -> Pg ls qs k /\ M7 c qs kss (eN ls qs k).1 /\ (eN ls qs k).2 = k + (gU qs).length
 | [], kss, k, h, _, _ => by
  rw [eW] at h
  simp only [Ez, and_true] at h
  subst h
  simp [Pg, eN, M7, gU]
 | q :: qs, kss, k, h, hl, hb => by
  obtain ⟨k1, kss', h1, h2, rfl⟩ := jR h
  rw [gU] at hl
  have e1 := Qx hc h1 hl.left (hb q (Gh ..))
  have e2 := MN hc h2 hl.right (λ p hp => hb p (D3 _ hp))
  rw [<- e1.nxt] at e2
  rw [Pg, eN, gU]
  refine ⟨⟨e1.ok, e2.1⟩, ⟨e1.rel, e1.bnd, e2.2.1⟩, ?_⟩
  rw [e2.2.2, e1.nxt, BG]
  omega
end
structure vP (m : MH) (tb : Nat) (ws : List bR) : Prop where
 ex : ∃ cur : Array Value, m tb = some (.cells cur 86 (0, 0)) /\ cur.toList.take (ws.length * 5) = (ws.map bR.enc).flatten
def Um : Vc.Spec := λ cvs m h K => ∃ ver tb n cap ws w cols, ∃ t : Nat, cvs = [aS ⟨ver, ⟨some ⟨tb, 0, none⟩, n, cap⟩⟩, cI t] /\ t < n /\ vP m tb ws /\ ws[t]? = some w /\ BY h w.columns cols /\ cols.length <= 8 /\
 ∀ sl h', PH.le h h' -> Ints h' sl (cols.map mF.kind) -> K (cS sl) m h'
noncomputable def YW (cb : Nat) : Ctx :=
 vO [(15, Gc), (16, K3), (76, Us), (44, Um), (30, yA)] [] [(5, { A := Int × Int × MH × PH, st := λ ⟨n, id, m, h⟩ => cH 86 87 [(0, pv cb), (2, .at (.ptr 2 0)), (3, iv n), (4, iv id)] [(2, .cells 43 [.val (.int .i64 0), .val (.slice none 0 0)])] m h }),
  (9, { A := Int × bL × MH × PH, st := λ ⟨n, s, m, h⟩ => cH 86 87 [(0, pv cb), (2, .at (.ptr 2 0)), (3, iv n), (5, .at (.ptr 5 0))] [(2, .cells 43 [.val (.int .i64 0), .val (.slice none 0 0)]), (5, .cells 43 (s.enc.map .val))] m h }),
  (11, { A := Int × bL × MH × PH, st := λ ⟨n, s, m, h⟩ => cH 86 87 [(0, pv cb), (2, .at (.ptr 2 0)), (3, iv n), (5, .at (.ptr 5 0))] [(2, .cells 43 [.val (.int .i64 0), .val (.slice none 0 0)]), (5, .cells 43 (s.enc.map .val))] m h }),
  (13, { A := bL × MH × PH, st := λ ⟨s, m, h⟩ => cH 86 87 [(0, pv cb), (2, .at (.ptr 2 0)), (5, .at (.ptr 5 0))] [(2, .cells 43 [.val (.int .i64 0), .val (.slice none 0 0)]), (5, .cells 43 (s.enc.map .val))] m h }),
  (15, { A := bL × MH × PH, st := λ ⟨s, m, h⟩ => cH 86 87 [(2, .at (.ptr 2 0)), (5, .at (.ptr 5 0))] [(2, .cells 43 [.val (.int .i64 0), .val (.slice none 0 0)]), (5, .cells 43 (s.enc.map .val))] m h })] [] [41] [] false
def kQ (id : Int) : List u7 :=
 [⟨⟨⟨[112, 114, 111, 106, 101, 99, 116, 115]⟩⟩, [⟨⟨⟨[105, 100]⟩⟩, 4⟩, ⟨⟨⟨[111, 119, 110, 101, 114]⟩⟩, 4⟩], 1, [], []⟩,
  ⟨⟨⟨[116, 97, 115, 107, 115]⟩⟩, [⟨⟨⟨[105, 100]⟩⟩, id⟩, ⟨⟨⟨[112, 114, 111, 106, 101, 99, 116]⟩⟩, 4⟩, ⟨⟨⟨[116, 105, 116, 108, 101]⟩⟩, 5⟩, ⟨⟨⟨[100, 111, 110, 101]⟩⟩, 3⟩], 1, [], []⟩,
  ⟨⟨⟨[109, 101, 109, 98, 101, 114, 115]⟩⟩, [⟨⟨⟨[112, 114, 111, 106, 101, 99, 116]⟩⟩, 4⟩, ⟨⟨⟨[112, 101, 114, 115, 111, 110]⟩⟩, 4⟩], 2, [], []⟩,
  ⟨⟨⟨[97, 114, 99, 104, 105, 118, 101, 100]⟩⟩, [⟨⟨⟨[116, 97, 115, 107]⟩⟩, id⟩], 1, [], []⟩]
structure Jf (h : PH) (t : u7) (w : bR) : Prop where
 name_ : w.name = t.name
 key_ : w.key = t.key
 cols_ : BY h w.columns t.columns
def S6 (h : PH) (id : Int) (ws : List bR) : Prop := ws.length = 4 /\ ∀ (i : Nat) t, (kQ id)[i]? = some t -> ∃ w, ws[i]? = some w /\ Jf h t w
structure zK (m0 : MH) (h0 : PH) (cb : Nat) (tb n : Nat) (id : Int) (ws : List bR) (s : bL) (m : MH) (h : PH) : Prop where
 le_ : PH.le h0 h
 ver0 : 0 <= s.version
 ver1 : s.version <= 2
 case_ : aK m h cb
 n2 : 2 <= n
 n4 : n <= 4
 sl_ : ∃ cap, s.tables = ⟨some ⟨tb, 0, none⟩, n, cap⟩ /\ n <= cap
 id_ : id = 4 \/ id = 5
 new_ : m0 tb = none
 ne_ : tb ≠ cb
 row_ : vP m tb ws
 ws_ : S6 h id ws
 other_ : ∀ b, b ≠ cb -> b ≠ tb -> m b = m0 b
def Uc : Vc.Spec := λ cvs m h K => ∃ cb, cvs = [cP cb] /\ aK m h cb /\ ∀ tb n id ws s m' h', zK m h cb tb n id ws s m' h' -> K (aS s) m' h'
noncomputable def Zh : Ctx :=
 vO [(39, Uc)] [(3, { A := Nat × bL × MH × PH, st := λ ⟨i, s, m, h⟩ => cH 25 26 [(2, .at (.ptr 2 0)), (3, .at (.ptr 3 0)), (9, iv s.tables.len), (10, iv i)] [(2, .cells 43 [.val (.int .i64 0), .val (.slice none 0 0)]), (3, .cells 43 (s.enc.map .val))] m h })] [] [] [41] [] false
def GW (v : bL) (t : Int) (m : MH) (h : PH) (K : CV -> MH -> PH -> Prop) : Prop :=
  bA t 0 (K jZ m h) (fQ t (gL v) (K jZ m h) (II v 0 t m h (λ b => b) (λ o => o) 5 (λ y => y) (λ y I x => aA (I x) (eL 32) (aA (bD y (kI x)) (cM y (kI x)) (aA (bC x.1) (rQ (qD x)) (aA (m = m) (h = h) True)))) (λ I m1 x => IH (I x) x 0 (λ b o y => aL m h b (bN o x.1 2) (iD (zU y) (dQ y.kind))) (λ y x1 => aA (I x1) (m1 x1 < m1 x) (aA (eL 32) (bD (kI x) (kI x1)) (aA (cM (kI x) (kI x1)) (fK (bE x.1 1) = bV x1.1) (aA (rT (qD x) y.kind (qD x1)) (m = m) (cV h h))))) (bH h 1 (iI (qD x)) (λ s h1 => K (cK s) m h1)))))
theorem YR (v : bL) (t : Int) (m : MH) (h : PH) (K : CV -> MH -> PH -> Prop) : GW v t m h K = (Ap (NZ m h) Tryz.f44 (dK Tryz.f44) (entry Tryz.f44.ntmps [aS v, cI t] m h) K) := by kernel_rfl
abbrev sE (a : Int) : Prop := eQ (oQ 43 (pR (mK a) KJ))
abbrev wM (a : ByteArray) (b : Int) (c : ByteArray) (d : Int -> Int) (e : Int -> ByteArray -> Prop) : Prop := ∃ (x : Int), bB (iR a) b = bB (iR c) (d x) /\ ∃ (x1 : ByteArray), e x x1
noncomputable abbrev IK  : ByteArray := ByteArray.mk (Array.mk (fG 105 (fG 100 [])))
noncomputable abbrev IL (a : Nat) : ByteArray := ByteArray.mk (Array.mk (fG 112 (fG 114 (fG 111 (fG 106 (fG 101 (fG a (qI 116))))))))
noncomputable abbrev vF (a : ByteArray) (b : Int) : List Value := iD (Value.string a) (dQ b)
noncomputable abbrev Dj (a b c d : Nat) (e : List UInt8) (g : Sl) (i : Int) : List Value := aJ (Value.string (ByteArray.mk (Array.mk (fG a (fG b (fG c (fG d e))))))) (eA g) (aJ (dQ i) sR hU)
abbrev C8 (a : Int × bL × MH × PH -> Prop) (b c : Nat) (d e : Int) (g : (Int × bL × MH × PH) -> Prop) (i : Nat -> Option Obj) (j : Nat -> Nat -> Option Value) : Prop := ∃ (x : Int × bL × MH × PH), aA (a x) (dE b) (aA (eP c) (cL d x.1) (aA gJ (sE e) (aA (g x) (bJ i x.2.2) (lF j x.2.2))))
noncomputable abbrev rM (a : Int × bL × MH × PH) : bL := a.2.1
noncomputable abbrev rZ (a : Int × bL × MH × PH) : Nat -> Nat -> Option Value := a.2.2.2
abbrev pG (a b : bL) : Prop := oQ 43 (GF a) = oQ 43 (GF b)
attribute [push_cast] sE wM IK IL vF Dj C8 rM rZ pG
def Qb (cb : Nat) (m : MH) (h : PH) (K : CV -> MH -> PH -> Prop) : Prop :=
  fX cb 3 m h (λ k m1 => ∃ (I : Int × Int × MH × PH -> Prop), j7 cb 5 m1 h (λ c r => ∀ (m2 : MH), bK (aY m1 m2 c) (aK m2 h c) (branch r (∃ (x : Int × Int × MH × PH), aA (I x) (dE cb) (aA (eP 2) (cL (dZ (2 + k)) x.1) (aA (cL 5 x.2.1) (sE 0) (aA (bJ m2 x.2.2) (cE h x.2.2) True)))) (∃ (x : Int × Int × MH × PH), aA (I x) (dE cb) (aA (eP 2) (cL (dZ (2 + k)) x.1) (aA (cL 4 x.2.1) (sE 0) (aA (bJ m2 x.2.2) (cE h x.2.2) True)))))) /\ ∀ (x : Int × Int × MH × PH), I x -> fX cb 3 x.2.2.1 x.2.2.2 (λ k1 m2 => ∃ (n : ByteArray), wM IK 4 n (λ k2 => k2) (λ k2 n1 => wM (ByteArray.mk (Array.mk (fG 111 (fG 119 (fG 110 (fG 101 (qI 114))))))) 4 n1 (λ k3 => k3) (λ k3 n2 => wM IK x.2.1 n2 (λ k4 => k4) (λ k4 n3 => wM (IL 99) 4 n3 (λ k5 => k5) (fun
 k5 n4 => wM (ByteArray.mk (Array.mk (fG 116 (fG 105 (fG 116 (fG 108 (qI 101))))))) 5 n4 (λ k6 => k6) (λ k6 n5 => wM (ByteArray.mk (Array.mk (fG 100 (fG 111 (fG 110 (fG 101 [])))))) 3 n5 (λ k7 => k7) (λ k7 n6 => wM (IL 99) 4 n6 (λ k8 => k8) (λ k8 n7 => wM (ByteArray.mk (Array.mk (fG 112 (fG 101 (fG 114 (fG 115 (fG 111 (fG 110 [])))))))) 4 n7 (λ k9 => k9) (λ k9 n8 => ∃ (a : Int), bB (iR (ByteArray.mk (Array.mk (fG 116 (fG 97 (fG 115 (fG 107 []))))))) x.2.1 = bB (iR n8) a /\ bH x.2.2.2 2 (vF n k2 :: cT (vF n1 k3)) (λ s h1 => bH h1 2 (vF n2 k4 :: vF n3 k5 :: vF n4 k6 :: cT (vF n5 k7)) (λ s1 h2 => bH h2 2 (vF n6 k8 :: cT (vF n7 k9)) (λ s2 h3 => bH h3 2 (cT (vF n8 a)) (λ s3 h4 => gO (λ s4 m3 => nD m2 m3
 h4 s4 86 5 (Dj 112 114 111 106 (fG 101 (fG 99 (fG 116 (fG 115 [])))) s 1 :: Dj 116 97 115 107 (qI 115) s1 1 :: Dj 109 101 109 98 (fG 101 (fG 114 (qI 115))) s2 2 :: cT (Dj 97 114 99 104 (fG 105 (fG 118 (fG 101 (fG 100 [])))) s3 1)) -> aA (cA x.1) (x.1 <= (↑s4.cap : Int)) (∃ (I1 : Int × bL × MH × PH -> Prop), j7 cb 2 m3 h4 (λ c r => ∀ (m4 : MH), bK (aY m3 m4 c) (aK m4 h4 c) (branch r (bH h4 1 (cT (bZ 1)) (λ s5 h5 => aT (λ b o => aA (aU s4.a b o) ((0 : Int) <= 1) (1 < (↑x.1.toNat : Int) /\ bH h5 2 (cT (iD (eA s5) bO)) (λ s6 h6 => oO m4 b (o + 5 + 3) (aM s6) (λ m5 => C8 I1 cb 2 x.1 0 (λ x1 => oQ 43 (pR (mK k1) (At.val (Value.slice s4.a x.1.toNat s4.cap))) = oQ 43 (GF (rM x1))) m5 h6)))))) (C8 I1 cb 2 x.1 0 (λ x1 => oQ 43 (pR (mK
 k1) (At.val (Value.slice s4.a x.1.toNat s4.cap))) = oQ 43 (GF (rM x1))) m4 h4))) /\ ∀ (x1 : Int × bL × MH × PH), I1 x1 -> ∃ (I2 : Int × bL × MH × PH -> Prop), eJ x1.1 2 (j7 cb 3 x1.2.2.1 (rZ x1) (λ c r => ∀ (m4 : MH), bK (aY x1.2.2.1 m4 c) (aK m4 (rZ x1) c) (branch r (bH (rZ x1) 1 (cT (iK bO)) (λ s5 h5 => C0 (rM x1) 2 (λ b o => bH h5 2 (cT (iD (eA s5) bO)) (λ s6 h6 => oO m4 b (o + 10 + 3) (aM s6) (λ m5 => C8 I2 cb 2 x1.1 0 (λ x2 => pG (rM x1) (rM x2)) m5 h6))))) (C8 I2 cb 2 x1.1 0 (λ x2 => pG (rM x1) (rM x2)) m4 (rZ x1))))) (C8 I2 cb 2 x1.1 0 (λ x2 => pG (rM x1) (rM x2)) x1.2.2.1 (rZ x1)) /\ ∀ (x2 : Int × bL × MH × PH), I2 x2 -> ∃ (I3 : bL × MH × PH -> Prop), eJ x2.1 3 (j7 cb 3 x2.2.2.1 (rZ x2) (λ c r => ∀
 (m4 : MH), bK (aY x2.2.2.1 m4 c) (aK m4 (rZ x2) c) (branch r (bH (rZ x2) 1 (cT (iK bO)) (λ s5 h5 => C0 (rM x2) 3 (λ b o => bH h5 2 (cT (iD (eA s5) (dQ 1))) (λ s6 h6 => oO m4 b (o + 15 + 3) (aM s6) (λ m5 => ∃ (x3 : bL × MH × PH), aA (I3 x3) (dE cb) (aA (eP 2) (eP 5) (aA (sE 0) (pG (rM x2) x3.1) (aA (bJ m5 x3.2) (cE h6 x3.2) True)))))))) (∃ (x3 : bL × MH × PH), aA (I3 x3) (dE cb) (aA (eP 2) (eP 5) (aA (sE 0) (pG (rM x2) x3.1) (aA (bJ m4 x3.2) (cE (rZ x2) x3.2) True))))))) (∃ (x3 : bL × MH × PH), aA (I3 x3) (dE cb) (aA (eP 2) (eP 5) (aA (sE 0) (pG (rM x2) x3.1) (aA (bJ x2.2.2.1 x3.2) (cE (rZ x2) x3.2) True)))) /\ ∀ (x3 : bL × MH × PH), I3 x3 -> ∃ (I4 : bL × MH × PH -> Prop), j7 cb 3 x3.2.1 x3.2.2 (fun
 c r => ∀ (m4 : MH), bK (aY x3.2.1 m4 c) (aK m4 x3.2.2 c) (branch r (∃ (v : Int), aT (λ t n9 => ∃ (c1 : Nat) (w : List bR) (w1 : bR) (c2 : List mF) (t1 : Nat), aA (bB (cF x3.1) 1 = bB (kE (iD (dQ v) (Value.slice (uM t) n9 c1))) (↑t1 : Int)) (t1 < n9) (aA (vP m4 t w) (w[t1]? = Option.some w1) (aA (BY x3.2.2 w1.columns c2) (c2.length <= 8) (qT (λ s5 h5 => dG x3.2.2 h5 (Ints h5 s5 (List.map mF.kind c2)) (∃ (c3 : Nat), wS (λ s6 t2 c4 p d => aA (DR cb 0 :: cK s5 :: bB jZ 1 = DR c3 0 :: cK s6 :: fF t2 (↑d : Int)) (aK m4 h5 c3) (aA (Ints h5 s6 c4) (Ints h5 t2 p) (aA (fW c4) (fW p) (oC d /\ AZ (λ v1 p1 => dW (λ m5 h6 => dG h5 h6 (eD h6 p1 v1) (bK (vR c4 p d p1) (aY m4 m5 c3) (fY m5 h6 c3 (C0 x3.1 1 (λ b o => bH h6 13 (cT v1.enc) (λ s7 h7 => oO
 m5 b (o + 5 + 4) (aM s7) (λ m6 => ∃ (x4 : bL × MH × PH), aA (I4 x4) (eP 2) (aA gJ (sE 0) (bM (pG x3.1 x4.1) (bJ m6 x4.2) (cE h7 x4.2)))))))))))))))))))))) (∃ (x4 : bL × MH × PH), aA (I4 x4) (eP 2) (aA gJ (sE 0) (bM (pG x3.1 x4.1) (bJ m4 x4.2) (cE x3.2.2 x4.2)))))) /\ ∀ (x4 : bL × MH × PH), I4 x4 -> K (cF x4.1) x4.2.1 x4.2.2))))))))))))))))
noncomputable abbrev Bo (a : Nat × bL × MH × PH) : Sl := a.2.1.tables
attribute [push_cast] Bo
def Ku (cb : Nat) (m : MH) (h : PH) (K : CV -> MH -> PH -> Prop) : Prop :=
  ∃ (c : Nat), aA (mR (iH cb) = mR (iH c)) (aK m h c) (∀ (t n : Nat) (i : Int) (w : List bR) (s : bL), dW (λ m1 h1 => zK m h c t n i w s m1 h1 -> ∃ (I : Nat × bL × MH × PH -> Prop) (m2 : Nat × bL × MH × PH -> Nat), (∃ (x : Nat × bL × MH × PH), aA (I x) (eP 2) (aA (eP 3) (cM s.tables (Bo x)) (aA (bC x.1) (sE 0) (aA (pG s x.2.1) (bJ m1 x.2.2) (lF h1 x.2.2))))) /\ ∀ (x : Nat × bL × MH × PH), I x -> bA (↑x.1 : Int) (aG (Bo x)) (aT (λ b o => aA (aU (pK x.2.1) b o) (0 <= (↑x.1 : Int)) ((↑x.1 : Int) < aG (Bo x) /\ oO x.2.2.1 b (bN o x.1 5 + 3) hU (λ m3 => aT (λ b1 o1 => aA (aU (pK x.2.1) b1 o1) (0 <= (↑x.1 : Int)) ((↑x.1 : Int) < aG (Bo x) /\ oO m3 b1 (bN o1 x.1 5 + 4) hU (λ m4 => ∃ (x1 : Nat × bL × MH × PH), aA (I x1) (m2 x1 < m2 x)
 (aA (eP 2) (eP 3) (aA (cM (Bo x) (Bo x1)) (fK (bE x.1 1) = bV x1.1) (aA (sE 0) (pG x.2.1 x1.2.1) (jG (bJ m4 x1.2.2) (cE x.2.2.2 x1.2.2)))))))))))) (K (cF x.2.1) x.2.2.1 x.2.2.2)))
theorem Ra {α : Type} (l : List α) (o : Nat) (x : α) (h : o < l.length) : splice l o [x] = l.set o x := by
 rw [List.set_eq_take_append_cons_drop, if_pos h]; simp [splice]
theorem flatten_set : ∀ (ws : List bR) {i k : Nat} {w w' : bR} {x : Value}, ws[i]? = some w -> k < 5 -> w'.enc = w.enc.set k x -> ((ws.map bR.enc).flatten).set (i * 5 + k) x = ((ws.set i w').map bR.enc).flatten
 | [], i, k, w, w', x, h, _, _ => by simp at h
 | u :: ws, 0, k, w, w', x, h, hk, e => by
  simp at h; subst h
  simp only [EB, Jj, List.set_cons_zero, Nat.zero_mul, Ih, e]
  rw [List.set_append_left _ _ (by simpa [bR.enc] using hk)]
 | u :: ws, i + 1, k, w, w', x, h, hk, e => by
  simp only [EB, Jj, List.set_cons_succ]
  have hl : u.enc.length = 5 := rfl
  rw [List.set_append_right _ _ (by rw [hl]; omega), hl, show (i + 1) * 5 + k - 5 = i * 5 + k by omega, flatten_set ws (by simpa using h) hk e]
theorem Wx (ws : List bR) : ((ws.map bR.enc).flatten).length = ws.length * 5 := by
 induction ws with
 | nil => rfl
 | cons w ws ih => simp only [EB, Jj, BG, ih, Gi]; show 5 + _ = _; omega
theorem vP.big {tb : Nat} {ws : List bR} {cs : Array Value} {E : TypeId} {fz : Nat × Nat} (h : vP m tb ws) (hm : m tb = some (.cells cs E fz)) : ws.length * 5 <= cs.size := by
 obtain ⟨cur, h1, h2⟩ := h.ex
 rw [h1] at hm
 simp only [sW, Obj.cells.injEq] at hm
 obtain ⟨rfl, _, _⟩ := hm
 have := congrArg List.length h2
 rw [Wx] at this
 simp at this
 omega
theorem vP.store {tb : Nat} {ws : List bR} {w w' : bR} {x : Value} (h : vP m tb ws) (hi : ws[i]? = some w) (hk : k < 5) (e : w'.enc = w.enc.set k x) {cs : Array Value} {E : TypeId} {fz : Nat × Nat} (hm : m tb = some (.cells cs E fz))
 (hu : m' tb = some (.cells (splice cs.toList (i * 5 + k) [x]).toArray E (0, 0))) : vP m' tb (ws.set i w') := by
 have hb := h.big hm
 have hil := (mG.1 hi).1
 obtain ⟨cur, h1, h2⟩ := h.ex
 rw [h1] at hm
 simp only [sW, Obj.cells.injEq] at hm
 obtain ⟨rfl, rfl, _⟩ := hm
 refine ⟨_, hu, ?_⟩
 rw [Ra _ _ _ (by simp; omega), List.length_set, List.toList_toArray, List.take_set, h2]
 exact flatten_set ws hi hk e
theorem vP.rd {tb : Nat} {ws : List bR} (r : vP m tb ws) {j : Nat} {w : bR} {x : Value} (hi : ws[i]? = some w) (hj : w.enc[j]? = some x) : aL m h tb (i * 5 + j) [x] := by
 obtain ⟨cur, h1, h2⟩ := r.ex
 refine .of_m h1 ?_
 have h3 := lA (xs := ws.map bR.enc) (sz := 5) (λ e he => by obtain ⟨x, _, rfl⟩ := mH.1 he; rfl) (by rw [AD, hi]; rfl) j x hj
 rw [<- h2, DT] at h3
 split at h3
 . rw [drop_cons h3]; rfl
 . cases h3
theorem YS {ver : Int} {tb n cap : Nat} {ws : List bR} {w : bR} {cols : List mF} {t : Nat} (ht : t < n) (hr : vP m tb ws) (hw : ws[t]? = some w) (hc : BY h w.columns cols) (h8 : cols.length <= 8)
 (hK : ∀ sl h', PH.le h h' -> Ints h' sl (cols.map mF.kind) -> K (cS sl) m h') : GW ⟨ver, ⟨some ⟨tb, 0, none⟩, n, cap⟩⟩ t m h K := by
 dsimp only [GW, push_cast]
 have hcl := bW.slen hc
 refine aE (λ h1 => by omega) (λ h1 => aE (λ h2 => by have h2 : (t : Int) >= (n : Int) := h2; omega) (λ h2 => ?_))
 refine ⟨tb, 0, rfl, aC, by show (t : Int) < (n : Int); omega, w.columns, ?_, λ ⟨i, sl, l⟩ => sl = w.columns /\ i <= cols.length /\ l = (cols.take i).map mF.kind, λ ⟨i, _, _⟩ => cols.length - i, ⟨(0, w.columns, []), ⟨rfl, by simp, by simp⟩, MT⟩, ?_⟩
 . rw [Ih, Int.toNat_natCast]; exact hr.rd hw rfl
 rintro ⟨i, _, _⟩ ⟨rfl, hi, rfl⟩
 dsimp only
 refine aE (λ hlt => ?_) (λ hge sl h' hle hrow => ?_)
 . obtain ⟨c, hx⟩ := fE hcl hlt
   obtain ⟨b, o, e, r⟩ := BY.at hc hx
   refine ⟨b, o, e, aC, hlt, c, .imm r, ?_, ?_, (i + 1, w.columns, (cols.take (i + 1)).map mF.kind), ⟨rfl, aC, rfl⟩, by show cols.length - (i + 1) < cols.length - i; omega, ?_⟩
   . simp; omega
   . simp; omega
   . rw [fL hx, xH]
     exact MT
 . rw [EC aC] at hrow
   exact hK sl h' hle ⟨hrow, by simp; omega⟩
theorem Rw : Sound Tryz.prog 44 Um := by
 refine eK (fn := Tryz.f44) (c := dK Tryz.f44) Tryz.func44 rfl (by decide) ?_
 rintro cvs m h K ⟨ver, tb, n, cap, ws, w, cols, t, rfl, h1, h2, h3, h4, h5, h6⟩
 refine ⟨NZ m h, rfl, aF, ?_⟩
 rw [<- YR]
 exact YS h1 h2 h3 h4 h5 h6
theorem Jf.mono {t : u7} {w : bR} (x : Jf h t w) (le : PH.le h h') : Jf h' t w := ⟨x.name_, x.key_, bW.mono x.cols_ le λ _ _ e => e⟩
theorem S6.mono {id : Int} {ws : List bR} (x : S6 h id ws) (le : PH.le h h') : S6 h' id ws := ⟨x.1, λ i t e => let ⟨w, e1, e2⟩ := x.2 i t e; ⟨w, e1, e2.mono le⟩⟩
theorem S6.set {id : Int} {ws : List bR} {w w' : bR} (x : S6 h id ws) (hi : ws[i]? = some w) (e1 : w'.name = w.name) (e2 : w'.key = w.key) (e3 : w'.columns = w.columns) : S6 h id (ws.set i w') := by
 refine ⟨by rw [List.length_set]; exact x.1, λ j t e => ?_⟩
 obtain ⟨u, h1, h2⟩ := x.2 j t e
 by_cases hj : i = j
 . subst hj
   rw [hi] at h1; cases h1
   exact ⟨w', by rw [List.getElem?_set_self (mG.1 hi).1], ⟨by rw [e1]; exact h2.name_, by rw [e2]; exact h2.key_, by rw [e3]; exact h2.cols_⟩⟩
 . exact ⟨u, by rw [List.getElem?_set_ne hj]; exact h1, h2⟩
theorem zK.on {m0 m1 : MH} {h0 h1 : PH} {tb n : Nat} {id : Int} {ws : List bR} {s : bL} (x : zK m0 h0 cb tb n id ws s m h) (le : PH.le h h1) (ho : aY m m1 cb) (hc : aK m1 h1 cb) : zK m0 h0 cb tb n id ws s m1 h1 := by
 refine ⟨x.le_.trans le, x.ver0, x.ver1, hc, x.n2, x.n4, x.sl_, x.id_, x.new_, x.ne_, ?_, x.ws_.mono le, λ b n1 n2 => by rw [ho.other b n1]; exact x.other_ b n1 n2⟩
 obtain ⟨cur, e1, e2⟩ := x.row_.ex
 exact ⟨cur, by rw [ho.other tb x.ne_]; exact e1, e2⟩
theorem zK.store {m0 : MH} {h0 : PH} {tb n : Nat} {id : Int} {ws : List bR} {s : bL} (x : zK m0 h0 cb tb n id ws s m h) {o : Nat} {w w' : bR} {y : Value} (hi : ws[i]? = some w) (hk : k < 5) (ho : o = i * 5 + k) (e : w'.enc = w.enc.set k y) (e1 : w'.name = w.name) (e2 : w'.key = w.key) (e3 : w'.columns = w.columns) {Q : MH -> Prop}
 (hQ : ∀ m2, zK m0 h0 cb tb n id (ws.set i w') s m2 h -> Q m2) : ∃ (cs : Array Value) (E : TypeId), uT m tb (.cells cs E (0, 0)) /\ o < cs.size /\ ∀ m2 : MH, jH m m2 tb (.cells (splice cs.toList o [y]).toArray E (0, 0)) -> Q m2 := by
 obtain ⟨cur, h1, h2⟩ := x.row_.ex
 have hil := (mG.1 hi).1
 refine ⟨cur, 86, ⟨h1⟩, by have := x.row_.big h1; omega, λ m2 hu => hQ m2 ?_⟩
 subst ho
 refine ⟨x.le_, x.ver0, x.ver1, ?_, x.n2, x.n4, x.sl_, x.id_, x.new_, x.ne_, x.row_.store hi hk e h1 hu.at_, x.ws_.set hi e1 e2 e3, λ b n1 n2 => by rw [hu.other b n2]; exact x.other_ b n1 n2⟩
 obtain ⟨r, q, cs, k, q1, q2⟩ := x.case_
 exact ⟨r, q, cs, k, by rw [hu.other cb x.ne_.symm]; exact q1, q2⟩
theorem F3 {h : PH} {s : Sl} {l : List mF} (r : cN h s 2 (l.map mF.enc)) (hl : l.length <= 8) : BY h s l := ⟨⟨l, r, rfl, λ i x e => ⟨x, e, rfl⟩⟩, aC⟩
theorem nD.tabs {m m' : MH} {h : PH} {s : Sl} {w : bR} {ws : List bR} (x : nD m m' h s 86 5 ((w :: ws).map bR.enc)) : ∃ tb cap, s = ⟨some ⟨tb, 0, none⟩, ws.length + 1, cap⟩ /\ ws.length + 1 <= cap /\ vP m' tb (w :: ws) /\ cD m h tb /\ ∀ b, b ≠ tb -> m' b = m b := by
 rcases x.row.ex with ⟨_, e⟩ | ⟨b, cap, cur, e, hm, h1, _, h3, h4⟩
 . cases e
 . subst e
   refine ⟨b, cap, by simp, by simpa using h1, ⟨cur, hm, by simpa using h4⟩, x.fresh b 0 rfl, λ c hc => x.other c (λ i e => by simp only [sW, Addr.mk.injEq] at e; exact hc e.1.symm)⟩
theorem Vj : Sound Tryz.prog 39 Uc := by
 refine gX Tryz.func39 ?_
 rintro cvs m h K ⟨cb, rfl, hc, hK⟩
 refine ⟨YW cb, rfl, aD GN (aD xC (aD Vb (aD Rw (aD Dv aF)))), Qb cb m h K, by kernel_rfl, ?_⟩
 dsimp only [Qb, push_cast]
 refine ⟨cb, 3, rfl, hc, λ k m1 k0 k1 o1 c1 => ?_⟩
 have hk2 : IntKind.i64.wrap (2 + k) = 2 + k := eG aC aC
 rw [hk2]
 refine ⟨λ ⟨n, id, mx, hx⟩ => 2 <= n /\ n <= 4 /\ (id = 4 \/ id = 5) /\ hx = h /\ aY m mx cb /\ aK mx h cb, ⟨cb, 5, rfl, aC, aC, c1, λ r m2 o2 c2 => aB (λ _ => ⟨(2 + k, 5, m2, h), ⟨by show 2 <= 2 + k; omega, by show 2 + k <= 4; omega, .inr rfl, rfl, o1.trans o2, c2⟩, MT⟩) (λ _ => ⟨(2 + k, 4, m2, h), ⟨by show 2 <= 2 + k; omega, by show 2 + k <= 4; omega, .inl rfl, rfl, o1.trans o2, c2⟩, MT⟩)⟩, ?_⟩
 clear o1 c1 m1 hk2 k0 k1 k
 rintro ⟨n, id, m1, hx⟩ ⟨n2, n4, hid, rfl, o1, c1⟩
 dsimp only
 refine ⟨cb, 3, rfl, c1, λ k m2 k0 k1 o2 c2 => ?_⟩
 refine ⟨_, _, rfl, _, _, rfl, _, _, rfl, _, _, rfl, _, _, rfl, _, _, rfl, _, _, rfl, _, _, rfl, _, _, rfl, λ s1 h1 le1 r1 s2 h2 le2 r2 s3 h3 le3 r3 s4 h4 le4 r4 tl m3 hnew => ?_⟩
 obtain ⟨tb, cap, rfl, hcap, hrow, hun, hoth⟩ := nD.tabs (w := ⟨_, s1, 1, bX, bX⟩) (ws := [⟨_, s2, 1, bX, bX⟩, ⟨_, s3, 2, bX, bX⟩, ⟨_, s4, 1, bX, bX⟩]) hnew
 simp only [Gi, List.length_nil] at hcap
 have hle : PH.le hx h4 := ((le1.trans le2).trans le3).trans le4
 have tbcb : tb ≠ cb := λ e => by
  obtain ⟨r, q, cs, j, q1, _⟩ := c2
  have := hun.m_
  rw [e, q1] at this; cases this
 have hm0 : m tb = none := by rw [<- o1.other tb tbcb, <- o2.other tb tbcb]; exact hun.m_
 have c3 : aK m3 h4 cb := by
  obtain ⟨r, q, cs, j, q1, q2, q3⟩ := c2
  exact ⟨r, q, cs, j, by rw [hoth cb tbcb.symm]; exact q1, q2.mono hle, q3⟩
 have S0 : zK m hx cb tb n.toNat id _ ⟨k, ⟨some ⟨tb, 0, none⟩, n.toNat, cap⟩⟩ m3 h4 := ⟨hle, k0, by show k <= 2; omega, c3, aC, aC, ⟨cap, rfl, aC⟩, hid, hm0, tbcb, hrow, ⟨rfl, λ i t e => ?_⟩, λ b n1 n2 => by rw [hoth b n2, o2.other b n1, o1.other b n1]⟩
 rotate_left
 . match i, e with
   | 0, e => cases e; exact ⟨_, rfl, ⟨rfl, rfl, F3 (l := [⟨_, _⟩, ⟨_, _⟩]) (r1.mono ((le2.trans le3).trans le4)) (by decide)⟩⟩
   | 1, e => cases e; exact ⟨_, rfl, ⟨rfl, rfl, F3 (l := [⟨_, _⟩, ⟨_, _⟩, ⟨_, _⟩, ⟨_, _⟩]) (r2.mono (le3.trans le4)) (by simp)⟩⟩
   | 2, e => cases e; exact ⟨_, rfl, ⟨rfl, rfl, F3 (l := [⟨_, _⟩, ⟨_, _⟩]) (r3.mono le4) (by decide)⟩⟩
   | 3, e => cases e; exact ⟨_, rfl, ⟨rfl, rfl, F3 (l := [⟨_, _⟩]) r4 (by simp)⟩⟩
   | i + 4, e => simp [kQ] at e
 generalize hws : (bR.mk _ s1 1 bX bX :: _) = ws0 at S0
 clear hws hrow hnew r1 r2 r3 r4
 have getw : ∀ {ws : List bR} {i : Nat}, ws.length = 4 -> i < 4 -> ∃ w, ws[i]? = some w := λ hl hi => ⟨_, kP aC⟩
 refine ⟨aC, by show n <= (cap : Int); omega, λ ⟨n', s, mx, hy⟩ => n' = n /\ ∃ ws, zK m hx cb tb n.toNat id ws s mx hy, ⟨cb, 2, rfl, aC, aC, c3, λ r m4 o4 c4 => aB (λ _ s5 h5 le5 r5 => ⟨tb, 0, rfl, aC, aC, λ s6 h6 le6 r6 => ?_⟩) (λ _ => ⟨(n, ⟨k, ⟨some ⟨tb, 0, none⟩, n.toNat, cap⟩⟩, m4, h4), ⟨rfl, _, S0.on (.refl _) o4 c4⟩, MT⟩)⟩, ?_⟩
 . obtain ⟨w, hw⟩ := getw (i := 1) S0.ws_.1 aC
   exact (S0.on (le5.trans le6) o4 (c4.mono (le5.trans le6))).store (k := 3) (w' := { w with references := s6 }) hw aC rfl rfl rfl rfl rfl λ m5 x5 => ⟨(n, ⟨k, ⟨some ⟨tb, 0, none⟩, n.toNat, cap⟩⟩, m5, h6), ⟨rfl, _, x5⟩, MT⟩
 clear S0 c3 hoth hun hm0 hcap hle le1 le2 le3 le4 o1 o2 c1 c2
 rintro ⟨n', s, m4, h5⟩ ⟨rfl, ws, S0⟩
 dsimp only
 obtain ⟨cap, hsl, _⟩ := S0.sl_
 have hsa : s.tables.a = some ⟨tb, 0, none⟩ := by rw [hsl]
 have hsn : s.tables.len = n'.toNat := by rw [hsl]
 refine ⟨λ ⟨n, s, mx, hy⟩ => n = n' /\ ∃ ws, zK m hx cb tb n.toNat id ws s mx hy, aE (λ hn => ⟨cb, 3, rfl, aC, aC, S0.case_, λ r m5 o5 c5 => aB (λ _ s7 h7 le7 r7 => ⟨tb, 0, hsa, aC, aC, λ s8 h8 le8 r8 => ?_⟩) (λ _ => ⟨(n', s, m5, h5), ⟨rfl, _, S0.on (.refl _) o5 c5⟩, MT⟩)⟩) (λ _ => ⟨(n', s, m4, h5), ⟨rfl, _, S0⟩, MT⟩), ?_⟩
 . obtain ⟨w, hw⟩ := getw (i := 2) S0.ws_.1 aC
   exact (S0.on (le7.trans le8) o5 (c5.mono (le7.trans le8))).store (k := 3) (w' := { w with references := s8 }) hw aC rfl rfl rfl rfl rfl λ m5 x5 => ⟨(n', s, m5, h8), ⟨rfl, _, x5⟩, MT⟩
 clear S0 hsa hsn hsl
 rintro ⟨n'', s, m4, h5⟩ ⟨rfl, ws, S0⟩
 dsimp only
 obtain ⟨cap, hsl, _⟩ := S0.sl_
 have hsa : s.tables.a = some ⟨tb, 0, none⟩ := by rw [hsl]
 have hsn : s.tables.len = n''.toNat := by rw [hsl]
 refine ⟨λ ⟨s, mx, hy⟩ => ∃ ws, zK m hx cb tb n''.toNat id ws s mx hy, aE (λ hn => ⟨cb, 3, rfl, aC, aC, S0.case_, λ r m5 o5 c5 => aB (λ _ s7 h7 le7 r7 => ⟨tb, 0, hsa, aC, aC, λ s8 h8 le8 r8 => ?_⟩) (λ _ => ⟨(s, m5, h5), ⟨_, S0.on (.refl _) o5 c5⟩, MT⟩)⟩) (λ _ => ⟨(s, m4, h5), ⟨_, S0⟩, MT⟩), ?_⟩
 . obtain ⟨w, hw⟩ := getw (i := 3) S0.ws_.1 aC
   exact (S0.on (le7.trans le8) o5 (c5.mono (le7.trans le8))).store (k := 3) (w' := { w with references := s8 }) hw aC rfl rfl rfl rfl rfl λ m5 x5 => ⟨(s, m5, h8), ⟨_, x5⟩, MT⟩
 clear S0 hsa hsn hsl
 rintro ⟨s, m4, h5⟩ ⟨ws, S0⟩
 dsimp only
 obtain ⟨cap, hsl, _⟩ := S0.sl_
 have hsa : s.tables.a = some ⟨tb, 0, none⟩ := by rw [hsl]
 have hsn : s.tables.len = n''.toNat := by rw [hsl]
 refine ⟨λ ⟨s, mx, hy⟩ => ∃ ws, zK m hx cb tb n''.toNat id ws s mx hy, ⟨cb, 3, rfl, aC, aC, S0.case_, λ r m5 o5 c5 => aB (λ _ => ?_) (λ _ => ⟨(s, m5, h5), ⟨_, S0.on (.refl _) o5 c5⟩, MT⟩)⟩, λ ⟨s, m4, h5⟩ ⟨ws, S0⟩ => hK _ _ _ _ _ _ _ S0⟩
 have S1 := S0.on (.refl _) o5 c5
 obtain ⟨w, hw, hhalf⟩ := S1.ws_.2 1 _ rfl
 refine ⟨s.version, tb, n''.toNat, cap, ws, w, _, 1, by rw [hsl]; rfl, aC, S1.row_, hw, hhalf.cols_, by simp, λ sl h6 le6 hi6 => ?_⟩
 refine ⟨cb, sl, bX, _, [], 1, rfl, c5.mono le6, hi6, ⟨cN.nil _ _, by simp⟩, by simp, by simp, aC, λ pvv p m6 h7 le7 hp hpw o6 c6 => ⟨tb, 0, hsa, aC, aC, λ s8 h8 le8 r8 => ?_⟩⟩
 exact (S1.on ((le6.trans le7).trans le8) o6 (c6.mono le8)).store (k := 4) (w' := { w with checks := s8 }) hw aC rfl rfl rfl rfl rfl λ m5 x5 => ⟨(s, m5, h8), ⟨_, x5⟩, MT⟩
structure oK (s : nX) : Prop where
 ex : ∃ ver n id, 0 <= ver /\ ver <= 2 /\ 2 <= n /\ n <= 4 /\ (id = 4 \/ id = 5) /\ s = ⟨ver, (kQ id).take n⟩
def XI : Vc.Spec := λ cvs m h K => ∃ cb, cvs = [cP cb] /\ aK m h cb /\ ∀ s v m' h', oK s -> gR h' s v -> PH.le h h' -> aY m m' cb -> aK m' h' cb -> K (aS v) m' h'
theorem VD : Sound Tryz.prog 12 XI := by
 refine Yp Tryz.func12 ?_
 rintro cvs m h K ⟨cb, rfl, hc, hK⟩
 refine ⟨Zh, rfl, aD Vj aF, Ku cb m h (cZ h K), by kernel_rfl, ?_⟩
 show Ku cb m h (cZ h K)
 dsimp only [Ku, push_cast]
 refine ⟨cb, rfl, hc, λ tb n id ws s m1 h1 S1 => ?_⟩
 refine ⟨λ ⟨i, s', mx, hx⟩ => s' = s /\ hx = h1 /\ i <= n /\ ∃ ws, zK m h cb tb n id ws s mx h1 /\ ∀ j w, j < i -> ws[j]? = some w -> w.references = bX /\ w.checks = bX, λ ⟨i, _, _, _⟩ => n - i, ⟨(0, s, m1, h1), ⟨rfl, rfl, aC, ws, S1, λ j w hj => by omega⟩, MT⟩, ?_⟩
 clear S1 ws m1
 rintro ⟨i, s', m1, hx⟩ ⟨rfl, rfl, hi, ws, S1, hnil⟩
 dsimp only
 obtain ⟨cap, hsl, hscap⟩ := S1.sl_
 have hsa : s'.tables.a = some ⟨tb, 0, none⟩ := by rw [hsl]
 have hsn : s'.tables.len = n := by rw [hsl]
 have hn4 := S1.n4
 refine aE (λ hlt => ⟨tb, 0, hsa, aC, hlt, ?_⟩) (λ hge hdis => ?_)
 . obtain ⟨w, hw⟩ : ∃ w, ws[i]? = some w := ⟨_, kP (by have := S1.ws_.1; have := S1.n4; omega)⟩
   refine S1.store (i := i) (k := 3) (w' := { w with references := bX }) hw aC aC rfl rfl rfl rfl λ m2 S2 => ⟨tb, 0, hsa, aC, hlt, ?_⟩
   have hil := (mG.1 hw).1
   have hw2 : (ws.set i { w with references := bX })[i]? = some { w with references := bX } := List.getElem?_set_self hil
   refine S2.store (i := i) (k := 4) (w' := { w with references := bX, checks := bX }) hw2 aC aC rfl rfl rfl rfl λ m3 S3 => ⟨(i + 1, s', m3, hx), ⟨rfl, rfl, by show i + 1 <= n; omega, _, S3, λ j u hj hu => ?_⟩, by show n - (i + 1) < n - i; omega, MT⟩
   by_cases e : i = j
   . subst e
     rw [List.getElem?_set_self (by rw [List.length_set]; exact hil)] at hu
     cases hu; exact ⟨rfl, rfl⟩
   . rw [List.getElem?_set_ne e, List.getElem?_set_ne e] at hu
     exact hnil j u aC hu
 . have hdis := hdis
   obtain ⟨cur, hcur, htake⟩ := S1.row_.ex
   have hg0 : ∀ i, hx tb i = none := hdis tb _ hcur
   have hle3 : PH.le hx (λ x i => if x = tb then cur[i]? else hx x i) := ⟨λ x i v e => by
    have : x ≠ tb := λ e' => by rw [e', hg0 i] at e; cases e
    simp [this, e]⟩
   refine ⟨λ b => if b = tb then none else m1 b, λ x i => if x = tb then cur[i]? else hx x i, λ b o e => ?_, S1.le_.trans hle3, λ x i v e => ?_, hK ⟨s'.version, (kQ id).take n⟩ s' _ _ ⟨⟨_, _, _, S1.ver0, S1.ver1, S1.n2, S1.n4, S1.id_, rfl⟩⟩ ⟨rfl, ?_⟩ (S1.le_.trans hle3) ⟨λ b hb => ?_⟩ ?_⟩
   . by_cases e' : b = tb
     . simp [e'] at e
     . simpa [e'] using e
   . by_cases e' : x = tb
     . subst e'
       simp at e
       exact .inr ⟨cur, 86, (0, 0), hcur, e, by simp⟩
     . simp [e'] at e; exact .inl e
   . have hws4 := S1.ws_.1
     have hn4 := S1.n4
     refine ⟨⟨ws.take n, ⟨by rw [hsn]; simp; omega, .inr ⟨tb, 0, hsa, λ i e hi => ⟨λ j v hj => ?_⟩⟩, by rw [hsl]; exact hscap⟩, by simp [kQ]; omega, λ i t e => ?_⟩, by simp [kQ]; omega⟩
     . rw [List.map_take, DT] at hi
       split at hi
       . have h1 := lA (xs := ws.map bR.enc) (sz := 5) (λ e he => by obtain ⟨x, _, rfl⟩ := mH.1 he; rfl) hi j v hj
         rw [<- htake, DT] at h1
         split at h1
         . simp only [if_true, Ih]
           rw [<- BU]; exact h1
         . cases h1
       . cases hi
     . rw [DT] at e
       split at e
       . rename_i hin
         obtain ⟨w, e1, e2⟩ := S1.ws_.2 i t e
         obtain ⟨z1, z2⟩ := hnil i w aC e1
         have hh := e2.mono hle3
         have hnorc : t.refs = [] /\ t.checks = [] := by
          match i, e with
          | 0, e => cases e; exact ⟨rfl, rfl⟩
          | 1, e => cases e; exact ⟨rfl, rfl⟩
          | 2, e => cases e; exact ⟨rfl, rfl⟩
          | 3, e => cases e; exact ⟨rfl, rfl⟩
          | i + 4, e => simp [kQ] at e
         refine ⟨w, by rw [DT, if_pos hin]; exact e1, ⟨hh.name_, hh.cols_, hh.key_, by rw [z1, hnorc.1]; exact bW.nil _ _ _ _, by rw [z2, hnorc.2]; exact bW.nil _ _ _ _⟩⟩
       . cases e
   . by_cases e' : b = tb
     . subst e'; simp [S1.new_]
     . simp [e']; exact S1.other_ b hb e'
   . obtain ⟨r, q, cs, k, q1, q2, q3⟩ := S1.case_
     exact ⟨r, q, cs, k, by simp [S1.ne_.symm]; exact q1, q2.mono hle3, q3⟩
def QW (q : Query) : Prop :=
 match q with
 | .mk _ _ w _ _ _ _ _ args => Gb w /\ ∀ a ∈ args, QW a
 termination_by SizeOf.sizeOf q
theorem Rf {op : Int} {on : List (Int × Int)} {args : List Query} :
 QW (.mk op ta w co on gr od li args) ↔ Gb w /\ ∀ a ∈ args, QW a := by rw [QW.eq_def]
def XC (s : nX) : Prop := ∀ t, Ge (gP s t)
structure BQ (s : nX) (ps ks : List Int) (q0 q : Query) : Prop where
 qw : QW q
 siz : ∀ d, yB d q0 -> Lk d q
 kin : XC s -> Ge ps -> Ge ks -> ks ≠ [] -> ks.length <= 12 -> bP s ps q0 = (ks, 0) -> bP s ps q = (ks, 0)
def KQ (K : CV -> MH -> PH -> Prop) (m : MH) (h : PH) (cb : Nat) (R : Query -> Prop) : Prop := ∀ w q m' h', PH.le h h' -> cR h' q w -> R q -> aY m m' cb -> aK m' h' cb -> K (aQ w) m' h'
def Ol : Vc.Spec := λ cvs m h K => ∃ cb sc p k v s ps ks q, cvs = [cP cb, aS sc, cS p, cS k, aQ v] /\ aK m h cb /\ gR h s sc /\ pB s /\ s.tables.length <= 1000 /\ Ints h p ps /\ ps.length <= 1000 /\ Ints h k ks /\ ks.length <= 1000 /\ cR h q v /\ QW q /\ KQ K m h cb (BQ s ps ks q)
noncomputable def YY (cb : Nat) (sc : bL) (p k : Sl) (v : QV) : Ctx :=
 dM [(15, Gc), (44, vA), (40, XE), (16, K3), (30, yA)] [(3, { A := Int × Nat × MH × PH, st := λ ⟨f, n, m, h⟩ => cH 112 117 [(0, pv cb), (2, sv p), (3, sv k), (6, .at (.ptr 6 0)), (9, .at (.ptr 9 0)), (10, .at (.ptr 10 0)), (11, iv f), (12, iv n)] [(6, .cells 43 (sc.enc.map .val)), (9, .cells 38 (v.enc.map .val)), (10, .cells 38 (zO.enc.map .val))] m h }),
  (9, { A := Int × Nat × Int × Sl × List Int × Nat × MH × PH, st := λ ⟨f, n, t, have_, cols, i, m, h⟩ => cH 112 117 [(0, pv cb), (2, sv p), (3, sv k), (6, .at (.ptr 6 0)), (9, .at (.ptr 9 0)), (10, .at (.ptr 10 0)), (11, iv f), (12, iv n), (13, iv t), (14, sv have_), (15, .at (.lst 75)), (45, sv k), (46, iv k.len), (47, iv i)] [(6, .cells 43 (sc.enc.map .val)), (9, .cells 38 (v.enc.map .val)), (10, .cells 38 (zO.enc.map .val)), (75, .lst 3 1 (cols.map eI))] m h }),
  (13, { A := Int × Nat × Int × Sl × List Int × Nat × Int × Int × Nat × MH × PH, st := λ ⟨f, n, t, have_, cols, i, kind, fr, j, m, h⟩ => cH 112 117 [(0, pv cb), (2, sv p), (3, sv k), (6, .at (.ptr 6 0)), (9, .at (.ptr 9 0)), (10, .at (.ptr 10 0)), (11, iv f), (12, iv n), (13, iv t), (14, sv have_), (15, .at (.lst 75)), (17, iv kind), (18, iv fr), (45, sv k), (46, iv k.len), (47, iv i), (56, iv have_.len), (57, iv j)] [(6, .cells 43 (sc.enc.map .val)), (9, .cells 38 (v.enc.map .val)), (10, .cells 38 (zO.enc.map .val)), (75, .lst 3 1 (cols.map eI))] m h })] [] [] false
abbrev jE  : Prop := eP 10
noncomputable abbrev wN (a : Int × Nat × Int × Sl × List Int × Nat × MH × PH) : Sl := a.2.2.2.1
noncomputable abbrev kL (a : Int × Nat × Int × Sl × List Int × Nat × MH × PH) : Nat × MH × PH := a.2.2.2.2.2
noncomputable abbrev wO (a : Int × Nat × Int × Sl × List Int × Nat × MH × PH) : List Int := a.2.2.2.2.1
noncomputable abbrev nZ (a : Int × Nat × Int × Sl × List Int × Nat × MH × PH) : Nat -> Nat -> Option Value := cO (kL a)
noncomputable abbrev rG (a : Int × Nat × Int × Sl × List Int × Nat × Int × Int × Nat × MH × PH) : Sl := a.2.2.2.1
noncomputable abbrev Fw (a : Int × Nat × Int × Sl × List Int × Nat × Int × Int × Nat × MH × PH) : Int := a.2.2.2.2.2.2.1
noncomputable abbrev FE (a : Int × Nat × Int × Sl × List Int × Nat × Int × Int × Nat × MH × PH) : Int := a.2.2.2.2.2.2.2.1
noncomputable abbrev Df (a : Int × Nat × Int × Sl × List Int × Nat × Int × Int × Nat × MH × PH) : Nat := a.2.2.2.2.2.1
noncomputable abbrev nK (a : Int × Nat × Int × Sl × List Int × Nat × Int × Int × Nat × MH × PH) : Nat × MH × PH := a.2.2.2.2.2.2.2.2
noncomputable abbrev Bq (a : Int × Nat × Int × Sl × List Int × Nat × Int × Int × Nat × MH × PH) : List Int := a.2.2.2.2.1
noncomputable abbrev Fv (a : Int × Nat × Int × Sl × List Int × Nat × Int × Int × Nat × MH × PH) : Int := Int.tmod (dZ (FE a + (↑(nK a).1 : Int))) (aG (rG a))
abbrev Dg (a : Prop) (b c d : Nat) (e g : Sl) (i : Prop) : Prop := aA a (b < c) (aA (dE d) (aI e) (aA (aI g) (eP 6) (aA (eP 9) jE i)))
noncomputable abbrev FF (a : Sl) : List Value := aJ sR sR (aJ sR bO (aM a))
noncomputable abbrev Fx (a : PV) (b : Sl) : List Value := aJ (lJ a.left) (jI a.right) (aJ (rH a.right) (dQ (mZ a.right)) (aJ (mS a.right) (lJ a.right) (aJ (eA a.args) sR (FF b))))
noncomputable abbrev jC (a : Int) (b : List Value) : List Value := aJ (dQ a) bO (aJ bO bO (aJ bO bO (aJ bO bO b)))
attribute [push_cast] jE wN kL wO nZ rG Fw FE Df nK Bq Fv Dg FF Fx jC
def Qf (cb : Nat) (sc : bL) (p k : Sl) (v : QV) (m : MH) (h : PH) (K : CV -> MH -> PH -> Prop) : Prop :=
  fX cb (dZ (gL sc + 1)) m h (λ k1 m1 => ∃ (I : Int × Nat × MH × PH -> Prop) (m2 : Int × Nat × MH × PH -> Nat), (∃ (x : Int × Nat × MH × PH), aA (I x) (dE cb) (aA (aI p) (aI k) (aA (eP 6) (eP 9) (aA jE (cL k1 x.1) (aA (bC x.2.1) (bT sc) (aA (fC v) gV (jG (bJ m1 x.2.2) (cE h x.2.2)))))))) /\ ∀ (x : Int × Nat × MH × PH), I x -> bA (↑x.2.1 : Int) (aG sc.tables) (jO (gL sc = 0) /\ Be (bB (cF sc) (Int.tmod (dZ (x.1 + (↑x.2.1 : Int))) (gL sc))) (cO x.2) (λ s h1 => ∃ (I1 : Int × Nat × Int × Sl × List Int × Nat × MH × PH -> Prop) (m3 : Int × Nat × Int × Sl × List Int × Nat × MH × PH -> Nat), (∃ (x1 : Int × Nat × Int × Sl × List Int × Nat × MH × PH), aA (I1 x1) (dE cb) (aA (aI p) (aI k) (aA (eP 6) (eP 9) (aA jE (cL x.1 x1.1) (aA (cC x.2.1 x1.2.1) (cL
 (Int.tmod (dZ (x.1 + (↑x.2.1 : Int))) (gL sc)) x1.2.2.1) (aA (bD s (wN x1)) (eL 75) (aA (aI k) (bI k) (aA (bC (kL x1).1) (bT sc) (aA (fC v) gV (aA (rQ (wO x1)) (bJ (dD x.2) (kL x1).2) (lF h1 (kL x1).2))))))))))) /\ ∀ (x1 : Int × Nat × Int × Sl × List Int × Nat × MH × PH), I1 x1 -> bA (↑(kL x1).1 : Int) (aG k) (aT (λ b o => aA (aU k.a b o) (0 <= (↑(kL x1).1 : Int)) ((↑(kL x1).1 : Int) < aG k /\ ∃ (y : Int), aL (dD (kL x1)) (nZ x1) b (bN o (kL x1).1 1) (bZ y) /\ fX cb (aG (wN x1)) (dD (kL x1)) (nZ x1) (λ k2 m4 => ∃ (I2 : Int × Nat × Int × Sl × List Int × Nat × Int × Int × Nat × MH × PH -> Prop) (m5 : Int × Nat × Int × Sl × List Int × Nat × Int × Int × Nat × MH × PH -> Nat), (∃ (x2 : Int × Nat × Int × Sl × List Int × Nat × Int ×
 Int × Nat × MH × PH), aA (I2 x2) (dE cb) (aA (aI p) (aI k) (aA (eP 6) (eP 9) (aA jE (cL x1.1 x2.1) (aA (cC x1.2.1 x2.2.1) (cL x1.2.2.1 x2.2.2.1) (aA (bD (wN x1) (rG x2)) (eL 75) (aA (cL y (Fw x2)) (cL k2 (FE x2)) (aA (aI k) (bI k) (aA (cC (kL x1).1 (Df x2)) (cM (wN x1) (rG x2)) (aA (bC (nK x2).1) (bT sc) (aA (fC v) gV (aA (CZ (wO x1) (Bq x2)) (bJ m4 (nK x2).2) (lF (nZ x1) (nK x2).2))))))))))))) /\ ∀ (x2 : Int × Nat × Int × Sl × List Int × Nat × Int × Int × Nat × MH × PH), I2 x2 -> bA (↑(nK x2).1 : Int) (aG (rG x2)) (jO (aG (rG x2) = 0) /\ aT (λ b1 o1 => aA (aU (rG x2).a b1 o1) (0 <= Fv x2) (Fv x2 < aG (rG x2) /\ ∃ (y1 : Int), aL (dD (nK x2)) (cO (nK
 x2)) b1 (fM o1 (Fv x2) 1) (bZ y1) /\ dN y1 (Fw x2) (nT (iI (Bq x2)) 8 (∃ (x3 : Int × Nat × Int × Sl × List Int × Nat × MH × PH), Dg (I1 x3) (m3 x3) (m3 x1) cb p k (aA (cL x2.1 x3.1) (cC x2.2.1 x3.2.1) (aA (cL x2.2.2.1 x3.2.2.1) (bD (rG x2) (wN x3)) (aA (eL 75) (aI k) (aA (bI k) (fK (bE (Df x2) 1) = bV (kL x3).1) (aA (bT sc) (fC v) (aA gV (rT (Bq x2) (Fv x2) (wO x3)) (jG (bJ (dD (nK x2)) (kL x3).2) (cE (cO (nK x2)) (kL x3).2)))))))))) (∃ (x3 : Int × Nat × Int × Sl × List Int × Nat × Int × Int × Nat × MH × PH), Dg (I2 x3) (m5 x3) (m5 x2) cb p k (aA (cL x2.1 x3.1) (cC x2.2.1 x3.2.1) (aA (cL x2.2.2.1 x3.2.2.1) (bD (rG x2) (rG x3)) (aA (eL 75) (cL (Fw x2) (Fw x3)) (aA (cL
 (FE x2) (FE x3)) (aI k) (aA (bI k) (cC (Df x2) (Df x3)) (aA (cM (rG x2) (rG x3)) (fK (bE (nK x2).1 1) = bV (nK x3).1) (aA (bT sc) (fC v) (aA gV (CZ (Bq x2) (Bq x3)) (jG (bJ (dD (nK x2)) (nK x3).2) (cE (cO (nK x2)) (nK x3).2)))))))))))))) (∃ (x3 : Int × Nat × Int × Sl × List Int × Nat × MH × PH), Dg (I1 x3) (m3 x3) (m3 x1) cb p k (aA (cL x2.1 x3.1) (cC x2.2.1 x3.2.1) (aA (cL x2.2.2.1 x3.2.2.1) (bD (rG x2) (wN x3)) (aA (eL 75) (aI k) (aA (bI k) (fK (bE (Df x2) 1) = bV (kL x3).1) (aA (bT sc) (fC v) (aA gV (CZ (Bq x2) (wO x3)) (jG (bJ (dD (nK x2)) (kL x3).2) (cE (cO (nK x2)) (kL x3).2))))))))))))) (dN x1.1 (gL sc) (∃ (x2 : Int × Nat ×
 MH × PH), Dg (I x2) (m2 x2) (m2 x) cb p k (aA (cL x1.1 x2.1) (fK (bE x1.2.1 1) = bV x2.2.1) (aA (bT sc) (fC v) (bM gV (bJ (dD (kL x1)) x2.2.2) (cE (nZ x1) x2.2.2))))) (bA (↑(iI (wO x1)).length : Int) (aG k) (∃ (x2 : Int × Nat × MH × PH), Dg (I x2) (m2 x2) (m2 x) cb p k (aA (cL x1.1 x2.1) (fK (bE x1.2.1 1) = bV x2.2.1) (aA (bT sc) (fC v) (bM gV (bJ (dD (kL x1)) x2.2.2) (cE (nZ x1) x2.2.2))))) (jL x1.2.2.1 (λ t => j7 cb 2 (dD (kL x1)) (nZ x1) (λ c r => ∀ (m4 : MH), bK (aY (dD (kL x1)) m4 c) (aK m4 (nZ x1) c) (branch r ((∃ (c1 : Nat), wS (λ s1 t1 c2 p1 d => aA (DR cb 0 :: cK (wN x1) :: fF p 1 = DR c1 0 :: cK s1 :: fF t1 (↑d : Int)) (aK m4 (nZ x1) c1) (aA (Ints (nZ x1) s1 c2) (Ints
 (nZ x1) t1 p1) (aA (fW c2) (fW p1) (oC d /\ AZ (λ v1 p2 => dW (λ m5 h2 => dG (nZ x1) h2 (eD h2 p2 v1) (bK (vR c2 p1 d p2) (aY m4 m5 c1) (fY m5 h2 c1 (bH h2 21 (cT (wP (dQ 1) (dQ t))) (λ s2 h3 => bH h3 1 (iI (wO x1)) (λ s3 h4 => bH h4 21 (cT (aJ (dQ 2) bO (aJ (dQ v1.op) (dQ v1.cmp) (aJ (jI v1.left) (rH v1.left) (aJ (dQ (mZ v1.left)) (mS v1.left) (Fx v1 s2)))))) (λ s4 h5 => K (kE (jC 3 (xS (eA s3) (FF s4)))) m5 h5))))))))))))) /\ ∃ (c1 : Nat), wS (λ s1 t1 c2 p1 d => aA (DR cb 0 :: cK (wN x1) :: fF p 1 = DR c1 0 :: cK s1 :: fF t1 (↑d : Int)) (aK m4 (nZ x1) c1) (aA (Ints (nZ x1) s1 c2) (Ints (nZ x1) t1 p1) (aA (fW c2) (fW p1) (oC d /\ AZ (λ v1 p2 => dW (λ m5 h2 => dG (nZ x1) h2
 (eD h2 p2 v1) (bK (vR c2 p1 d p2) (aY m4 m5 c1) (fY m5 h2 c1 (bH h2 21 (cT (wP (dQ 1) (dQ t))) (λ s2 h3 => bH h3 1 (iI (wO x1)) (λ s3 h4 => bH h4 21 (cT (aJ (dQ 2) bO (aJ (dQ v1.op) (dQ v1.cmp) (aJ (jI v1.left) (rH v1.left) (aJ (dQ (mZ v1.left)) (mS v1.left) (Fx v1 s2)))))) (λ s4 h5 => K (kE (jC 3 (xS (eA s3) (FF s4)))) m5 h5))))))))))))) (bH (nZ x1) 1 (iI (wO x1)) (λ s1 h2 => bH h2 21 (cT (wP (dQ 1) (dQ t))) (λ s2 h3 => K (kE (jC 3 (xS (eA s1) (FF s2)))) m4 h3))))))))))) ((∃ (c : Nat), wS (λ s t c1 p1 d => aA (DR cb 0 :: cK k :: fF p 1 = DR c 0 :: cK s :: fF t (↑d : Int)) (aK (dD x.2) (cO x.2) c) (aA (Ints (cO x.2) s c1) (Ints (cO x.2) t p1) (aA (fW c1) (fW p1) (oC d /\ AZ
 (λ v1 p2 => dW (λ m3 h1 => dG (cO x.2) h1 (eD h1 p2 v1) (bK (vR c1 p1 d p2) (aY (dD x.2) m3 c) (fY m3 h1 c (bH h1 21 (cT v.enc) (λ s1 h2 => K (kE (aJ (dQ 2) bO (aJ (dQ v1.op) (dQ v1.cmp) (aJ (jI v1.left) (rH v1.left) (aJ (dQ (mZ v1.left)) (mS v1.left) (Fx v1 s1)))))) m3 h2))))))))))) /\ ∃ (c : Nat), wS (λ s t c1 p1 d => aA (DR cb 0 :: cK k :: fF p 1 = DR c 0 :: cK s :: fF t (↑d : Int)) (aK (dD x.2) (cO x.2) c) (aA (Ints (cO x.2) s c1) (Ints (cO x.2) t p1) (aA (fW c1) (fW p1) (oC d /\ AZ (λ v1 p2 => dW (λ m3 h1 => dG (cO x.2) h1 (eD h1 p2 v1) (bK (vR c1 p1 d p2) (aY (dD x.2) m3 c) (fY m3 h1 c (bH h1 21 (cT v.enc) (λ s1 h2 => K (kE (aJ (dQ 2) bO (aJ (dQ v1.op) (dQ v1.cmp) (aJ (jI v1.left) (rH
 v1.left) (aJ (dQ (mZ v1.left)) (mS v1.left) (Fx v1 s1)))))) m3 h2))))))))))))
theorem iL (h : PH) : Ints h bX [] := ⟨cN.nil _ _, by simp⟩
theorem oM (h : PH) : lK h bX [] := ⟨cN.nil _ _, by simp⟩
theorem sZ (h : PH) : iE h bX [] := ⟨cN.nil _ _, by simp⟩
theorem Ad (h : PH) : eD h gW fS := J3 (v := fS) rfl
theorem Aj {h : PH} {s : Sl} {v : QV} {q : Query} (r : cN h s 21 [QV.enc v]) (hq : cR h q v) : zL h s [q] := ⟨⟨[v], r, rfl, λ i x e => by
 match i, e with
 | 0, e => simp at e; subst e; exact ⟨v, rfl, hq⟩
 | i + 1, e => simp at e⟩, by simp⟩
theorem Ah (h : PH) (t : Int) : cR h (.mk 1 t gW [] [] [] [] 0 []) ⟨1, t, fS, bX, bX, bX, bX, 0, bX⟩ :=
 oJ.rep ⟨rfl, rfl, Ad h, iL h, oM h, iL h, sZ h, rfl, bW.nil _ _ _ _⟩
theorem Kb {v : PV} {s : Sl} (hp : eD h p v) (hq : zL h s [q]) : cR h (.mk 2 0 p [] [] [] [] 0 [q]) ⟨2, 0, v, bX, bX, bX, bX, 0, s⟩ :=
 oJ.rep ⟨rfl, rfl, hp, iL h, oM h, iL h, sZ h, rfl, hq⟩
theorem HL {h : PH} {c s : Sl} {cols : List Int} {q : Query} (hc : Ints h c cols) (hq : zL h s [q]) : cR h (.mk 3 0 gW cols [] [] [] 0 [q]) ⟨3, 0, fS, c, bX, bX, bX, 0, s⟩ :=
 oJ.rep ⟨rfl, rfl, Ad h, hc, oM h, iL h, sZ h, rfl, hq⟩
theorem AO : Gb gW := ⟨nE, nE, trivial⟩
theorem Nu {op : Int} {on : List (Int × Int)} (hw : Gb w) (hq : QW q) : QW (.mk op ta w co on gr od li [q]) := Rf.2 ⟨hw, λ a ha => by simp at ha; subst ha; exact hq⟩
theorem EU (t : Int) : QW (.mk 1 t gW [] [] [] [] 0 []) := Rf.2 ⟨AO, λ a ha => by simp at ha⟩
theorem Tr {a : Int} {n : Nat} (h0 : 0 <= a) (hn : 0 < n) : 0 <= a.tmod (n : Int) /\ a.tmod (n : Int) < (n : Int) := by
 rw [Int.tmod_eq_emod_of_nonneg h0]
 exact ⟨Int.emod_nonneg _ aC, Int.emod_lt_of_pos _ aC⟩
theorem GJ {k : List Int} {op : Int} {on : List (Int × Int)} (ha : arity op = 1) (h : bP s ps q = (k, 0)) : bP s ps (.mk op ta w co on gr od li [q]) = gZ s ps (.mk op ta w co on gr od li [q]) k [] := by
 have e : eW s ps [q] = ([k], 0) := xU (by simp [h])
 simp [bP, e, ha]
theorem UO {k k' : List Int} {op : Int} {on : List (Int × Int)} {p : Query} (ha : arity op = 2) (h : bP s ps q = (k, 0)) (h' : bP s ps p = (k', 0)) : bP s ps (.mk op ta w co on gr od li [q, p]) = gZ s ps (.mk op ta w co on gr od li [q, p]) k k' := by
 have e : eW s ps [q, p] = ([k, k'], 0) := xU (by simp [h, h'])
 simp [bP, e, ha]
theorem FK (h : l.length <= 12) : z6 l = (l, 0) := if_pos h
theorem J4 {s : nX} {ps : List Int} {t : Int} (h0 : 0 <= t) (h1 : t < s.tables.length) (hk : (gP s t).length <= 12) : bP s ps (.mk 1 t gW [] [] [] [] 0 []) = (gP s t, 0) := by
 have e1 : bP s ps (.mk 1 t gW [] [] [] [] 0 []) = gZ s ps (.mk 1 t gW [] [] [] [] 0 []) [] [] := by simp [bP, eW, arity]
 rw [e1]
 unfold gZ
 rw [if_neg (by simp [arity, dJ])]
 dsimp only
 rw [if_pos rfl, if_pos ⟨h0, h1⟩, FK hk]
theorem kinds_filter {k : List Int} (h : bP s ps q = (k, 0)) (hw : gY k ps w = 0) (hk : k.length <= 12) : bP s ps (.mk 2 0 w [] [] [] [] 0 [q]) = (k, 0) := by
 rw [GJ (by decide) h]
 unfold gZ
 rw [if_neg (by simp [arity, dJ])]
 dsimp only
 rw [if_neg (by decide), if_pos rfl, if_pos hw, FK hk]
theorem Lb {k : List Int} (h : bP s ps q = (k, 0)) (h0 : co ≠ []) (hi : ∀ c ∈ co, El k c = true) (hl : co.length <= 12) : bP s ps (.mk 3 0 gW co [] [] [] 0 [q]) = (co.map λ c => k.getD c.toNat 0, 0) := by
 rw [GJ (by decide) h]
 unfold gZ
 rw [if_neg (by simp [arity, dJ])]
 dsimp only
 rw [if_neg (by decide), if_neg (by decide), if_pos rfl, if_pos ⟨h0, λ j x hx => hi x (lP hx)⟩, FK (by simpa using hl)]
structure Ev (kt ks co : List Int) : Prop where
 in_ : ∀ c ∈ co, El kt c = true
 eq_ : (co.map λ c => kt.getD c.toNat 0) = ks
theorem Ev.kin {kt ks : List Int} (x : Ev kt ks co) (h : bP s ps q = (kt, 0)) (hn : ks ≠ []) (hl : ks.length <= 12) : bP s ps (.mk 3 0 gW co [] [] [] 0 [q]) = (ks, 0) := by
 have h1 : co.length = ks.length := by rw [<- x.eq_, mI]
 rw [Lb h (λ e => hn (VY (by rw [<- h1, e]; rfl))) x.in_ aC, x.eq_]
theorem Ev.snoc {kt ks : List Int} {c x : Int} (p : Ev kt (ks.take i) co) (hx : ks[i]? = some x) (hc : El kt c = true) (e : kt.getD c.toNat 0 = x) : Ev kt (ks.take (i + 1)) (co ++ [c]) :=
 ⟨λ y hy => by
  rcases BZ.1 hy with hy | hy
  . exact p.in_ y hy
  . simp at hy; subst hy; exact hc, by rw [xH, p.eq_, EA, hx, EB, List.map_nil, e]; rfl⟩
theorem LX : Sound Tryz.prog 26 Ol := by
 refine gX Tryz.func26 ?_
 rintro cvs m h K ⟨cb, sc, p, k, v, s, ps, ks, q, rfl, hc, hs, h8, hts, hp, hpl, hk, hkl, hq, hqw, hK⟩
 refine ⟨YY cb sc p k v, rfl, aD GN (aD Du (aD LV (aD xC (aD Dv aF)))), Qf cb sc p k v m h K, by kernel_rfl, ?_⟩
 have htl := hs.tables.slen
 have hkn := hk.slen
 have hw : IntKind.i64.wrap ((sc.tables.len : Int) + 1) = (sc.tables.len : Int) + 1 := eG aC aC
 dsimp only [Qf, push_cast]
 rw [hw]
 refine ⟨cb, _, rfl, hc, λ f m1 f0 f1 o1 c1 => ?_⟩
 refine ⟨λ ⟨f, n, mx, hx⟩ => 0 <= f /\ f <= sc.tables.len /\ n <= sc.tables.len /\ PH.le h hx /\ aY m mx cb /\ aK mx hx cb, λ ⟨_, n, _, _⟩ => sc.tables.len - n, ⟨(f, 0, m1, h), ⟨f0, by show f <= (sc.tables.len : Int); omega, aC, .refl _, o1, c1⟩, MT⟩, ?_⟩
 clear f0 f1 o1 c1 m1 hw
 rintro ⟨f, n, m1, hx⟩ ⟨f0, f1, hn, hle, o1, c1⟩
 dsimp only
 have pred : ∀ (kk : Sl) (kl : List Int) (mx : MH) (hx : PH) (Q : PV -> Pred -> MH -> PH -> Prop), Ints hx kk kl -> kl.length <= 1000 -> PH.le h hx -> aK mx hx cb -> (∀ v p m' h', PH.le hx h' -> eD h' p v -> vR kl ps 1 p -> aY mx m' cb -> aK m' h' cb -> Q v p m' h') ->
  ∃ (cb_2 : Nat) (s t : Sl) (cols params : List Int) (deep : Nat), [CV.val (.pointer (some ⟨cb, 0, none⟩)), CV.val (.slice kk.a kk.len kk.cap), CV.val (.slice p.a p.len p.cap), CV.val (.int .i64 1)] = [CV.val (.pointer (some ⟨cb_2, 0, none⟩)), CV.val (.slice s.a s.len s.cap), CV.val (.slice t.a t.len t.cap), CV.val (.int .i64 deep)] /\ aK mx hx cb_2 /\ Ints hx s cols /\ Ints hx t params /\ cols.length <= 1000 /\ params.length <= 1000 /\ deep <= 1000 /\
   ∀ (v : PV) (p : Pred) (m' : MH) (h' : PH), PH.le hx h' -> eD h' p v -> vR cols params deep p -> aY mx m' cb_2 -> aK m' h' cb_2 -> Q v p m' h' := λ kk kl mx hx Q h1 h2 h3 h4 h5 =>
  ⟨cb, kk, p, kl, ps, 1, rfl, h4, h1, hp.mono h3, h2, hpl, aC, λ v p m' h' q1 q2 qp q3 q4 => h5 v p m' h' q1 q2 qp q3 q4⟩
 refine aE (λ hlt => ?_) (λ hge => ?_)
 rotate_left
 . have fin : ∀ (w : PV) (p : Pred) (m' : MH) (h' : PH), PH.le hx h' -> eD h' p w -> vR ks ps 1 p -> aY m1 m' cb -> aK m' h' cb -> ∀ (s : Sl) (h'_1 : PH), PH.le h' h'_1 -> cN h'_1 s 21 [QV.enc v] -> K (aQ ⟨2, 0, w, bX, bX, bX, bX, 0, s⟩) m' h'_1 := λ w p m' h' q1 q2 qp q3 q4 s h2 q5 q6 =>
    hK _ _ m' h2 ((hle.trans q1).trans q5) (Kb (q2.mono q5) (Aj q6 (hq.mono ((hle.trans q1).trans q5)))) ⟨Nu qp.vals hqw, λ d hf => hf.filter, λ _ hps hks _ h12 hk0 => kinds_filter hk0 (qp.valid (by decide) hks hps) h12⟩ (o1.trans q3) (q4.mono q5)
   exact ⟨pred k ks m1 hx _ (hk.mono hle) hkl hle c1 fin, pred k ks m1 hx _ (hk.mono hle) hkl hle c1 fin⟩
 have hw2 : IntKind.i64.wrap (f + (n : Int)) = f + (n : Int) := eG aC aC
 rw [hw2]
 refine ⟨aC, sc, s, _, rfl, hs.mono hle, h8, λ hv h2 le2 hhv => ?_⟩
 have hvn := hhv.slen
 obtain ⟨T, hT⟩ : ∃ T, (f + (n : Int)).tmod (sc.tables.len : Int) = T := ⟨_, rfl⟩
 have hTr := Tr (a := f + (n : Int)) (n := sc.tables.len) aC aC
 rw [hT] at hhv hvn hTr ⊢
 have hv8 : (gP s T).length <= 8 := by
  unfold gP
  split
  . simp
  . split
    . simp
    . rename_i t ht
      simpa using h8 t (lP ht)
 obtain ⟨kt, hkt⟩ : ∃ kt, gP s T = kt := ⟨_, rfl⟩
 have hscan : bP s ps (.mk 1 T gW [] [] [] [] 0 []) = (kt, 0) := by rw [J4 hTr.1 aC aC, hkt]
 have hcolt : XC s -> Ge kt := λ x => by rw [<- hkt]; exact x T
 rw [hkt] at hhv hvn hv8
 refine ⟨λ ⟨f', n', t, have_, cols, i, mx, hx⟩ => f' = f /\ n' = n /\ have_ = hv /\ t = T /\ i <= ks.length /\ cols.length <= i /\ (cols.length = i -> Ev kt (ks.take i) cols) /\ PH.le h2 hx /\ aY m mx cb /\ aK mx hx cb, λ ⟨_, _, _, _, _, i, _, _⟩ => ks.length - i, ⟨(f, n, T, hv, [], 0, m1, h2), ⟨rfl, rfl, rfl, rfl, aC, by simp, λ _ => ⟨by simp, by simp⟩, .refl _, o1, c1.mono le2⟩, MT⟩, ?_⟩
 rintro ⟨f', n', t, hv, cols, i, m2, h3⟩ ⟨rfl, rfl, rfl, rfl, hi, hcl, hpk, le3, o2, c2⟩
 dsimp only
 have hle3 : PH.le h h3 := (hle.trans le2).trans le3
 refine aE (λ hlt2 => ?_) (λ hge2 => ?_)
 . obtain ⟨x, hx⟩ := fE hkn hlt2
   obtain ⟨b1, of1, e1, r1⟩ := (hk.mono hle3).at hx
   refine ⟨b1, of1, e1, aC, hlt2, x, .imm (by simpa using r1), cb, _, rfl, c2, λ fr m3 fr0 fr1 o3 c3 => ?_⟩
   refine ⟨λ ⟨f2, n2, t2, have_, cols2, i2, kind, fr', j, mx, hy⟩ => f2 = f' /\ n2 = n' /\ have_ = hv /\ t2 = t /\ cols2 = cols /\ i2 = i /\ kind = x /\ mx = m3 /\ hy = h3 /\ j <= hv.len /\ fr' = fr, λ ⟨_, _, _, _, _, _, _, _, j, _, _⟩ => hv.len - j, ⟨(f', n', t, hv, cols, i, x, fr, 0, m3, h3), ⟨rfl, rfl, rfl, rfl, rfl, rfl, rfl, rfl, rfl, aC, rfl⟩, MT⟩, ?_⟩
   rintro ⟨f2, n2, t2, hv, cols, i, kind, fr', j, m3, h3⟩ ⟨rfl, rfl, rfl, rfl, rfl, rfl, rfl, rfl, rfl, hj, rfl⟩
   dsimp only
   refine aE (λ hlt3 => ?_) (λ hge3 => ⟨(f2, n2, t2, _, _, _, _, _), ⟨rfl, rfl, rfl, rfl, by show i + 1 <= ks.length; omega, by show cols.length <= i + 1; omega, λ e => by have e : cols.length = i + 1 := e; omega, le3, o2.trans o3, c3⟩, by show ks.length - (i + 1) < ks.length - i; omega, MT⟩)
   have hw3 : IntKind.i64.wrap (fr' + (j : Int)) = fr' + (j : Int) := eG aC aC
   rw [hw3]
   have hm := Tr (a := fr' + (j : Int)) (n := Sl.len _) aC (show 0 < hv.len by omega)
   obtain ⟨b2, of2, e2, r2⟩ := (hhv.mono le3).inb (n := (fr' + (j : Int)).tmod (hv.len : Int)) hm.1 (by rw [<- hvn]; exact hm.2)
   refine ⟨aC, b2, of2, e2, hm.1, hm.2, _, .imm (by simpa using r2), aB (λ ek => ⟨by simp; omega, by simp; omega, (f2, n2, t2, _, cols ++ [(fr' + (j : Int)).tmod (hv.len : Int)], i + 1, _, _), ⟨rfl, rfl, rfl, rfl, by show i + 1 <= ks.length; omega, by simp; omega, λ e => ?_, le3, o2.trans o3, c3⟩, by show ks.length - (i + 1) < ks.length - i; omega, ?_⟩) (λ _ => ⟨(f2, n2, t2, hv, cols, i, kind, fr', j + 1, m3, h3), ⟨rfl, rfl, rfl, rfl, rfl, rfl, rfl, rfl, rfl, by show j + 1 <= hv.len; omega, rfl⟩, by show hv.len - (j + 1) < hv.len - j; omega, MT⟩)⟩
   . have e : (cols ++ [(fr' + (j : Int)).tmod (hv.len : Int)]).length = i + 1 := e
     rw [BG] at e
     exact (hpk (by simpa using e)).snoc hx (by simp only [El, Gf, decide_eq_true_eq]; omega) (by simpa using ek)
   . rw [xH]; exact MT
 . have hn1 : n' + 1 <= sc.tables.len := by omega
   have hi2 : i = ks.length := by omega
   refine aB (λ _ => ⟨(f', n' + 1, m2, h3), ⟨f0, f1, hn1, hle3, o2, c2⟩, by show sc.tables.len - (n' + 1) < sc.tables.len - n'; omega, MT⟩) (λ _ => aE (λ _ => ⟨(f', n' + 1, m2, h3), ⟨f0, f1, hn1, hle3, o2, c2⟩, by show sc.tables.len - (n' + 1) < sc.tables.len - n'; omega, MT⟩) (λ hnl => ⟨t, rfl, cb, 2, rfl, aC, aC, c2, λ r m4 o4 c4 => ?_⟩))
   have hpick : Ev kt ks cols := by
    rw [mI] at hnl
    have := hpk aC
    rwa [hi2, Ig] at this
   refine aB (λ _ => ?_) (λ _ s1 h5 le5 r5 s2 h6 le6 r6 => ?_)
   . have fin : ∀ (w : PV) (p : Pred) (m' : MH) (h' : PH), PH.le h3 h' -> eD h' p w -> vR kt ps 1 p -> aY m4 m' cb -> aK m' h' cb -> ∀ (s : Sl) (h'_1 : PH), PH.le h' h'_1 -> cN h'_1 s 21 [QV.enc ⟨1, t, fS, bX, bX, bX, bX, 0, bX⟩] -> ∀ (s_1 : Sl) (h'_2 : PH), PH.le h'_1 h'_2 -> cN h'_2 s_1 1 (cols.map eI) -> ∀ (s_2 : Sl) (h'_3 : PH), PH.le h'_2 h'_3 -> cN h'_3 s_2 21 [QV.enc ⟨2, 0, w, bX, bX, bX, bX, 0, s⟩] -> K (aQ ⟨3, 0, fS, s_1, bX, bX, bX, 0, s_2⟩) m' h'_3 := λ w p m' h' q1 q2 qp q3 q4 s h5 q5 q6 s1 h6 q7 q8 s2 h7 q9 q10 =>
      hK _ _ m' h7 ((((hle3.trans q1).trans q5).trans q7).trans q9) (HL (cols := cols) ⟨q8.mono q9, aC⟩ (Aj q10 (Kb (q2.mono ((q5.trans q7).trans q9)) (Aj (q6.mono (q7.trans q9)) (Ah _ t))))) ⟨Nu AO (Nu qp.vals (EU t)), λ d _ => Lk.three d (nP.one (nP.one nP.scan (by decide)) (by decide)), λ hsk hps _ hn h12 _ => hpick.kin (kinds_filter hscan (qp.valid (by decide) (hcolt hsk) hps) aC) hn h12⟩ ((o2.trans o4).trans q3) (q4.mono ((q5.trans q7).trans q9))
     exact ⟨pred hv kt m4 h3 _ (hhv.mono le3) aC hle3 c4 fin, pred hv kt m4 h3 _ (hhv.mono le3) aC hle3 c4 fin⟩
   . exact hK _ _ m4 h6 ((hle3.trans le5).trans le6) (HL (cols := cols) ⟨r5.mono le6, aC⟩ (Aj (v := ⟨1, t, fS, bX, bX, bX, bX, 0, bX⟩) r6 (Ah _ t))) ⟨Nu AO (EU t), λ d _ => Lk.three d (nP.mono (nP.one nP.scan (by decide)) (by decide) (by decide) (by decide)), λ _ _ _ hn h12 _ => hpick.kin hscan hn h12⟩ (o2.trans o4) (c4.mono (le5.trans le6))
def KQ2 (K : CV -> MH -> PH -> Prop) (m : MH) (h : PH) (cb : Nat) (s : nX) (ps : List Int) (d : Nat) : Prop := ∀ w q m' h', PH.le h h' -> cR h' q w -> QW q -> yB d q -> (fT s ps q).2 = 0 -> aY m m' cb -> aK m' h' cb -> K (aQ w) m' h'
def Tb (N : Nat) : Vc.Spec := λ cvs m h K => ∃ cb sc p s ps deep, cvs = [cP cb, aS sc, cS p, cI deep] /\ aK m h cb /\ gR h s sc /\ eH s = 0 /\ s.tables ≠ [] /\ Ints h p ps /\ ps.length <= 1000 /\ ps.all dO = true /\ -1 <= deep /\ deep <= 1000 /\ (deep + 1).toNat < N /\ KQ2 K m h cb s ps deep.toNat
noncomputable def Zf (N : Nat) (cb : Nat) (sc : bL) (p : Sl) : Ctx :=
 vO [(15, Gc), (40, XE), (25, CJ), (41, XK), (26, Ol), (42, ZI), (30, yA), (13, Tb N)] [(11, { A := QV × QV × Sl × Int × MH × PH, st := λ ⟨a, q, k, n, m, h⟩ => cH 171 175 [(0, pv cb), (2, sv p), (5, .at (.ptr 5 0)), (8, .at (.ptr 8 0)), (10, .at (.ptr 10 0)), (11, sv k), (13, .at (.ptr 13 0)), (14, iv n)] [(5, .cells 43 (sc.enc.map .val)), (8, .cells 38 (zO.enc.map .val)), (10, .cells 38 (a.enc.map .val)), (13, .cells 38 (q.enc.map .val))] m h })] [(7, { A := Int × Int × QV × QV × Sl × MH × PH, st := λ ⟨d, op, a, q, k, m, h⟩ => cH 171 175 [(0, pv cb), (2, sv p), (3, iv d), (5, .at (.ptr 5 0)), (8, .at (.ptr 8 0)), (9, iv op), (10, .at (.ptr 10 0)), (11, sv k), (13, .at (.ptr 13 0))] [(5, .cells 43 (sc.enc.map .val)), (8, .cells 38 (zO.enc.map .val)), (10, .cells 38 (a.enc.map .val)), (13, .cells 38 (q.enc.map .val))] m h }),
  (16, { A := Int × Int × QV × QV × Sl × Bool × MH × PH, st := λ ⟨d, op, a, q, k, t, m, h⟩ => cH 171 175 [(0, pv cb), (2, sv p), (3, iv d), (5, .at (.ptr 5 0)), (8, .at (.ptr 8 0)), (9, iv op), (10, .at (.ptr 10 0)), (11, sv k), (13, .at (.ptr 13 0)), (59, iv op), (84, bv t)] [(5, .cells 43 (sc.enc.map .val)), (8, .cells 38 (zO.enc.map .val)), (10, .cells 38 (a.enc.map .val)), (13, .cells 38 (q.enc.map .val))] m h }),
  (24, { A := Int × QV × QV × Sl × Bool × MH × PH, st := λ ⟨op, a, q, k, t, m, h⟩ => cH 171 175 [(0, pv cb), (2, sv p), (5, .at (.ptr 5 0)), (8, .at (.ptr 8 0)), (10, .at (.ptr 10 0)), (11, sv k), (13, .at (.ptr 13 0)), (59, iv op), (122, bv t)] [(5, .cells 43 (sc.enc.map .val)), (8, .cells 38 (zO.enc.map .val)), (10, .cells 38 (a.enc.map .val)), (13, .cells 38 (q.enc.map .val))] m h }),
  (20, { A := QV × QV × QV × Sl × Sl × MH × PH, st := λ ⟨a, b, q, k, l, m, h⟩ => cH 171 175 [(0, pv cb), (2, sv p), (5, .at (.ptr 5 0)), (8, .at (.ptr 8 0)), (10, .at (.ptr 10 0)), (11, sv k), (13, .at (.ptr 13 0)), (15, .at (.ptr 15 0)), (16, sv l)] [(5, .cells 43 (sc.enc.map .val)), (8, .cells 38 (zO.enc.map .val)), (10, .cells 38 (a.enc.map .val)), (13, .cells 38 (q.enc.map .val)), (15, .cells 38 (b.enc.map .val))] m h }),
  (30, { A := QV × QV × MH × PH, frz := true, st := λ ⟨a, q, m, h⟩ => cH 171 175 [(2, sv p), (5, .at (.ptr 5 0)), (8, .at (.ptr 8 0)), (10, .at (.ptr 10 0)), (13, .at (.ptr 13 0))] [(5, .cells 43 (sc.enc.map .val)), (8, .cells 38 (zO.enc.map .val)), (10, .cells 38 (a.enc.map .val)), (13, .cells 38 (q.enc.map .val))] m h })] [] [36, 1036, 1033] [] false
abbrev JX (a : Nat -> bL -> Prop) : Prop := ∃ (x : Nat) (x1 : bL), a x x1
noncomputable abbrev eB (a : Nat) (b : bL) (c : List CV) : List CV := DR a 0 :: cF b :: c
abbrev Fk (a : List CV) (b : PH) (c : nX -> (List Int) -> Query -> Sl -> PH -> Prop) : Prop := ∃ (x : bL) (x1 : Sl) (x2 : QV), DY (λ x3 x4 => ∃ (x5 : Query), aA (a = cF x :: aX (cK x1) (aR x2)) (gR b x3 x) (aA (Ints b x1 x4) (cR b x5 x2) (AS b (fT x3 x4 x5) (λ x6 x7 => c x3 x4 x5 x6 x7))))
noncomputable abbrev rD (a : Int × Int × QV × QV × Sl × MH × PH) : Sl × MH × PH := a.2.2.2.2
abbrev eT (a b : QV) : Prop := oZ 38 a.enc = oZ 38 b.enc
abbrev rV (a : List At) (b : QV) : Prop := oQ 38 a = oZ 38 b.enc
abbrev yS (a : Prop) (b : Nat) (c d e : Sl) (g : Prop) : Prop := aA a (dE b) (aA (aI c) gJ (aA (eP 8) jE (aA (bD d e) (eP 13) g)))
noncomputable abbrev p6 (a : QV × QV × Sl × Int × MH × PH) : MH × PH := a.2.2.2.2
noncomputable abbrev NF (a : QV × QV × Sl × Int × MH × PH) : Sl := a.2.1.columns
noncomputable abbrev sA (a : QV × QV × MH × PH) : Nat -> Option Obj := a.2.2.1
noncomputable abbrev uP (a : QV × QV × MH × PH) : Nat -> Nat -> Option Value := a.2.2.2
noncomputable abbrev mP (a : Int × QV × QV × Sl × Bool × MH × PH) : Sl := a.2.2.2.1
noncomputable abbrev yT (a : Int × QV × QV × Sl × Bool × MH × PH) : Bool := a.2.2.2.2.1
noncomputable abbrev lD (a : Int × QV × QV × Sl × Bool × MH × PH) : QV := a.2.1
noncomputable abbrev zT (a : Int × QV × QV × Sl × Bool × MH × PH) : QV := a.2.2.1
noncomputable abbrev rE (a : Int × Int × QV × QV × Sl × Bool × MH × PH) : QV := zT a.2
noncomputable abbrev tF (a : Int × QV × QV × Sl × Bool × MH × PH) : MH × PH := a.2.2.2.2.2
noncomputable abbrev mT (a : Int × QV × QV × Sl × Bool × MH × PH) : Nat -> Option Obj := (tF a).1
noncomputable abbrev jD (a : Int × QV × QV × Sl × Bool × MH × PH) : Nat -> Nat -> Option Value := (tF a).2
noncomputable abbrev jM (a : QV × QV × QV × Sl × Sl × MH × PH) : Sl × MH × PH := a.2.2.2.2
noncomputable abbrev qG (a : QV × QV × QV × Sl × Sl × MH × PH) : QV := a.2.2.1
noncomputable abbrev FG (a : QV × QV × QV × Sl × Sl × MH × PH) : Sl := (qG a).args
abbrev jQ (a : Nat -> bL -> Sl -> Sl -> QV -> Prop) (b : MH) (c : PH) (d : Nat -> nX -> (List Int) -> (List Int) -> Query -> QV -> Query -> Prop) : Prop := JX (λ x x1 => iW (λ x2 x3 => ∃ (x4 : QV), DY (λ x5 x6 => ∃ (x7 : List Int) (x8 : Query), aA (a x x1 x2 x3 x4) (aK b c x) (aA (gR c x5 x1) (pB x5) (aA (oC x5.tables.length) (Ints c x2 x6) (aA (fW x6) (Ints c x3 x7) (aA (fW x7) (cR c x8 x4) (QW x8 /\ ∀ (x9 : QV) (a1 : Query), d x x5 x6 x7 x8 x9 a1))))))))
attribute [push_cast] JX eB Fk rD eT rV yS p6 NF sA uP mP yT lD zT rE tF mT jD jM qG FG jQ
def Qq (N : Nat) (cb : Nat) (sc : bL) (p : Sl) (deep : Int) (m : MH) (h : PH) (K : CV -> MH -> PH -> Prop) : Prop :=
  fX cb 12 m h (λ k m1 => bA deep 1 (fX cb (ite (gL sc > 1) (gL sc) 1) m1 h (λ k1 m2 => jL k1 (λ t => K (kE (wP (dQ 1) (dQ t))) m2 h))) (cW (dZ (1 + k) == 1) (fX cb (ite (gL sc > 1) (gL sc) 1) m1 h (λ k1 m2 => jL k1 (λ t => K (kE (wP (dQ 1) (dQ t))) m2 h))) (gL sc == 0) (fX cb (ite (gL sc > 1) (gL sc) 1) m1 h (λ k1 m2 => jL k1 (λ t => K (kE (wP (dQ 1) (dQ t))) m2 h))) (JX (λ c s => ∃ (p1 : Sl), DY (λ s1 p2 => ∃ (d : Int), aA (eB cb sc (fF p (dZ (deep - 1))) = eB c s (fF p1 d)) (aK m1 h c) (aA (gR h s1 s) (eH s1 = 0) (aA (jO (s1.tables = [])) (Ints h p1 p2) (aA (fW p2) (dX (Ei p2)) (aA (Int.negSucc 0 <= d) (d <= 1000) ((d + 1).toNat < N /\ ∀ (w : QV) (q : Query), dW (λ m2 h1 => dG h h1 (cR h1 q w) (bK (QW q)
 (yB d.toNat q) (bK ((fT s1 p2 q).2 = 0) (aY m1 m2 c) (fY m2 h1 c (Fk (cF sc :: aX (cK p) (aR w)) h1 (λ _ _ _ s2 h2 => ∃ (I : Int × Int × QV × QV × Sl × MH × PH -> Prop), gO (λ s3 m3 => nD m2 m3 h2 s3 38 21 (cT w.enc) -> ∃ (x : Int × Int × QV × QV × Sl × MH × PH), aA (I x) (dE cb) (aA (aI p) (cL deep x.1) (aA gJ (eP 8) (aA (cL (dZ (1 + k)) x.2.1) jE (aA (bD s2 (rD x).1) (eP 13) (aA (bT sc) gV (aA (eT w x.2.2.1) (rV (dU (dZ (1 + k)) 0 (dU 0 0 (dU 0 0 (dU 0 0 (mJ QR (mK 0) (dU 0 0 (mJ (mK 0) QR (mJ KJ KJ (mJ KJ KJ (mJ KJ (mK 0) (qF s3))))))))))) x.2.2.2.1) (aA (bJ m3 (rD x).2) (cE h2 (rD x).2) True)))))))) /\ ∀ (x : Int × Int × QV × QV × Sl × MH × PH), I x -> ∃ (I1 : QV × QV × MH × PH -> Prop), dN x.2.1 3 (fX cb
 3 (hX (rD x)) (dP (rD x)) (λ k1 m3 => ∃ (I2 : QV × QV × Sl × Int × MH × PH -> Prop) (m4 : QV × QV × Sl × Int × MH × PH -> Nat), (∃ (x1 : QV × QV × Sl × Int × MH × PH), yS (I2 x1) cb p (rD x).1 x1.2.2.1 (aA (cL k1 x1.2.2.2.1) (bT sc) (aA gV (eT x.2.2.1 x1.1) (bM (eT x.2.2.2.1 x1.2.1) (bJ m3 (p6 x1)) (cE (dP (rD x)) (p6 x1)))))) /\ ∀ (x1 : QV × QV × Sl × Int × MH × PH), I2 x1 -> fQ x1.2.2.2.1 0 (fX cb (aG x1.2.2.1) (p6 x1).1 (p6 x1).2 (λ k2 m5 => ∃ (x2 : List (List Value)), aA (dC m5 (dA (NF x1)) 3 1 x2) (gH ((x2.length + 1) * 8)) (iA x2 /\ gO (λ s3 m6 => eC m5 m6 (dA (NF x1)) s3 3 1 (x2 ++ cT (bZ k2)) -> ∃ (x3 : QV × QV × Sl × Int × MH × PH), aA (I2 x3) (m4 x3 < m4 x1) (aA (dE cb) (aI p) (aA gJ (eP 8) (aA jE (bD
 x1.2.2.1 x3.2.2.1) (aA (eP 13) (cL (dZ (x1.2.2.2.1 - 1)) x3.2.2.2.1) (aA (bT sc) gV (aA (eT x1.1 x3.1) (rV (dU x1.2.1.op x1.2.1.table (Dp x1.2.1 (Aa s3) x1.2.1.on (pR (mK x1.2.1.limit) (Aa x1.2.1.args)))) x3.2.1) (aA (bJ m6 (p6 x3)) (cE (p6 x1).2 (p6 x3)) True))))))))))) (Ey (p6 x1).1 (p6 x1).2 -> ∃ (x2 : QV × QV × MH × PH), aA (I1 x2) (aI p) (aA (eP 5) (eP 8) (aA jE (eP 13) (aA (bT sc) gV (bM (eT x1.1 x2.1) (eT x1.2.1 x2.2.1) (CN (p6 x1).1 (p6 x1).2 (sA x2) (uP x2))))))))) (∃ (I2 : Int × Int × QV × QV × Sl × Bool × MH × PH -> Prop), dN x.2.1 4 (∃ (x1 : Int × Int × QV × QV × Sl × Bool × MH × PH), aA (I2 x1) (dE cb) (aA (aI p) (cL x.1 x1.1) (aA gJ (eP 8) (aA (cL x.2.1 x1.2.1) jE (aA (bD (rD x).1 (mP
 x1.2)) (eP 13) (aA (cL x.2.1 x1.2.1) (vH (yT x1.2)) (aA (bT sc) gV (aA (eT x.2.2.1 (lD x1.2)) (eT x.2.2.2.1 (rE x1)) (jG (bJ (hX (rD x)) (tF x1.2)) (cE (dP (rD x)) (tF x1.2))))))))))) (∃ (x1 : Int × Int × QV × QV × Sl × Bool × MH × PH), aA (I2 x1) (dE cb) (aA (aI p) (cL x.1 x1.1) (aA gJ (eP 8) (aA (cL x.2.1 x1.2.1) jE (aA (bD (rD x).1 (mP x1.2)) (eP 13) (aA (cL x.2.1 x1.2.1) (gM (x.2.1 == 5) (yT x1.2)) (aA (bT sc) gV (aA (eT x.2.2.1 (lD x1.2)) (eT x.2.2.2.1 (rE x1)) (jG (bJ (hX (rD x)) (tF x1.2)) (cE (dP (rD x)) (tF x1.2))))))))))) /\ ∀ (x1 : Int × Int × QV × QV × Sl × Bool × MH × PH), fP (I2 x1) (yT x1.2) (JX (λ c1 s3 => ∃ (p3 : Sl), DY (λ s4 p4 => ∃ (d1 : Int), aA
 (eB cb sc (fF p (dZ (x1.1 - 2))) = eB c1 s3 (fF p3 d1)) (aK (mT x1.2) (jD x1.2) c1) (aA (gR (jD x1.2) s4 s3) (eH s4 = 0) (aA (jO (s4.tables = [])) (Ints (jD x1.2) p3 p4) (aA (fW p4) (dX (Ei p4)) (aA (Int.negSucc 0 <= d1) (d1 <= 1000) ((d1 + 1).toNat < N /\ ∀ (w1 : QV) (q1 : Query), dW (λ m3 h3 => dG (jD x1.2) h3 (cR h3 q1 w1) (bK (QW q1) (yB d1.toNat q1) (bK ((fT s4 p4 q1).2 = 0) (aY (mT x1.2) m3 c1) (fY m3 h3 c1 (Fk (cF sc :: aX (cK p) (aR w1)) h3 (λ _ _ _ s5 h4 => ∃ (I3 : QV × QV × QV × Sl × Sl × MH × PH -> Prop), dN x1.2.1 4 (eJ (dZ (aG (mP x1.2) + aG s5)) 8 (∃ (x2 : QV × QV × QV × Sl × Sl × MH × PH), yS (I3 x2) cb p (mP x1.2) x2.2.2.2.1 (aA (eP 15) (bD s5 (jM x2).1) (aA (bT sc) gV (aA (eT (lD x1.2) x2.1)
 (rV (dU 5 (rE x1).table (Dp (rE x1) (Ck (rE x1)) (rE x1).on (pR (mK (rE x1).limit) (Aa (rE x1).args)))) (qG x2)) (aA (eT w1 x2.2.1) (bJ m3 (jM x2).2) (lF h4 (jM x2).2)))))) (∃ (x2 : QV × QV × QV × Sl × Sl × MH × PH), yS (I3 x2) cb p (mP x1.2) x2.2.2.2.1 (aA (eP 15) (bD s5 (jM x2).1) (aA (bT sc) gV (aA (eT (lD x1.2) x2.1) (eT (rE x1) (qG x2)) (aA (eT w1 x2.2.1) (bJ m3 (jM x2).2) (lF h4 (jM x2).2))))))) (∃ (x2 : QV × QV × QV × Sl × Sl × MH × PH), yS (I3 x2) cb p (mP x1.2) x2.2.2.2.1 (aA (eP 15) (bD s5 (jM x2).1) (aA (bT sc) gV (aA (eT (lD x1.2) x2.1) (eT (rE x1) (qG x2)) (aA (eT w1 x2.2.1) (bJ m3 (jM x2).2) (lF h4 (jM x2).2)))))) /\ ∀ (x2 : QV × QV × QV × Sl × Sl × MH × PH),
 I3 x2 -> (∃ (c2 : Nat), iW (λ s6 t => qS (λ a b => aA (iH cb :: aX (cK x2.2.2.2.1) (cK (jM x2).1) = iH c2 :: aX (cK s6) (cK t)) (aK (hX (jM x2)) (dP (jM x2)) c2) (aA (Ints (dP (jM x2)) s6 a) (Ints (dP (jM x2)) t b) (aA (fW a) (fW b) (∀ (o : Sl) (o1 : List (Int × Int)), dW (λ m4 h5 => dG (dP (jM x2)) h5 (lK h5 o o1) (bK (o1.length <= 10) (aY (hX (jM x2)) m4 c2) (fY m4 h5 c2 (gO (λ s7 m5 => nD m4 m5 h5 s7 38 21 (cT x2.2.1.enc) -> ∃ (x3 : List (List Value)), A1 (dC m5 (dA (FG x2)) 38 21 x3) (λ y => aA (dY 21 y) (nW m5 h5 (dA s7) 21 y) (aA (rJ x3 y 280) (rK x3 y) (∀ (s8 : Sl) (m6 : MH), bK (eC m5 m6 (dA (FG x2)) s8 38 21 (x3 ++ y)) (Ey m6 h5) (∃ (x4 : QV × QV × MH × PH), aA (I1 x4) (aI p) (aA (eP 5) (eP
 8) (aA jE (eP 13) (aA (bT sc) gV (bM (eT x2.1 x4.1) (rV (dU (qG x2).op (qG x2).table (Dp (qG x2) (Ck (qG x2)) o (pR (mK (qG x2).limit) (Aa s8)))) x4.2.1) (CN m6 h5 (sA x4) (uP x4))))))))))))))))))))) /\ gO (λ s6 m4 => nD (hX (jM x2)) m4 (dP (jM x2)) s6 38 21 (cT x2.2.1.enc) -> ∃ (c2 : Nat), iW (λ s7 t => qS (λ a b => aA (iH cb :: aX (cK x2.2.2.2.1) (cK (jM x2).1) = iH c2 :: aX (cK s7) (cK t)) (aK m4 (dP (jM x2)) c2) (aA (Ints (dP (jM x2)) s7 a) (Ints (dP (jM x2)) t b) (aA (fW a) (fW b) (∀ (o : Sl) (o1 : List (Int × Int)), dW (λ m5 h5 => dG (dP (jM x2)) h5 (lK h5 o o1) (bK (o1.length <= 10) (aY m4 m5 c2) (fY m5 h5 c2 (∃ (x3 : List (List Value)), A1 (dC m5 (dA (FG x2))
 38 21 x3) (λ y => aA (dY 21 y) (nW m5 h5 (dA s6) 21 y) (aA (rJ x3 y 280) (rK x3 y) (∀ (s8 : Sl) (m6 : MH), bK (eC m5 m6 (dA (FG x2)) s8 38 21 (x3 ++ y)) (Ey m6 h5) (∃ (x4 : QV × QV × MH × PH), aA (I1 x4) (aI p) (aA (eP 5) (eP 8) (aA jE (eP 13) (aA (bT sc) gV (bM (eT x2.1 x4.1) (rV (dU (qG x2).op (qG x2).table (Dp (qG x2) (Ck (qG x2)) o (pR (mK (qG x2).limit) (Aa s8)))) x4.2.1) (CN m6 h5 (sA x4) (uP x4)))))))))))))))))))))))))))))))))) (∃ (I3 : Int × QV × QV × Sl × Bool × MH × PH -> Prop), cW (x1.2.1 == 6) (∃ (x2 : Int × QV × QV × Sl × Bool × MH × PH), yS (I3 x2) cb p (mP x1.2) (mP x2) (aA (cL x1.2.1 x2.1) (vH (yT x2)) (aA (bT sc) gV (aA (eT (lD x1.2) (lD x2)) (eT (rE x1) (zT x2)) (aA (bJ
 (mT x1.2) (tF x2)) (cE (jD x1.2) (tF x2)) True))))) (x1.2.1 == 7) (∃ (x2 : Int × QV × QV × Sl × Bool × MH × PH), yS (I3 x2) cb p (mP x1.2) (mP x2) (aA (cL x1.2.1 x2.1) (vH (yT x2)) (aA (bT sc) gV (aA (eT (lD x1.2) (lD x2)) (eT (rE x1) (zT x2)) (aA (bJ (mT x1.2) (tF x2)) (cE (jD x1.2) (tF x2)) True))))) (∃ (x2 : Int × QV × QV × Sl × Bool × MH × PH), yS (I3 x2) cb p (mP x1.2) (mP x2) (aA (cL x1.2.1 x2.1) (gM (x1.2.1 == 8) (yT x2)) (aA (bT sc) gV (aA (eT (lD x1.2) (lD x2)) (eT (rE x1) (zT x2)) (aA (bJ (mT x1.2) (tF x2)) (cE (jD x1.2) (tF x2)) True))))) /\ ∀ (x2 : Int × QV × QV × Sl × Bool × MH × PH), I3 x2 -> cW (yT x2) (jQ (λ c1 s3 p3 k1 v => eB cb sc (cK p :: aX (cK
 (mP x2)) (aR (lD x2))) = eB c1 s3 (cK p3 :: aX (cK k1) (aR v))) (mT x2) (jD x2) (λ c1 s3 p3 k1 q1 w1 q2 => dW (λ m3 h3 => dG (jD x2) h3 (cR h3 q2 w1) (bK (BQ s3 p3 k1 q1 q2) (aY (mT x2) m3 c1) (fY m3 h3 c1 (gO (λ s4 m4 => nD m3 m4 h3 s4 38 21 (cT w1.enc) -> ∃ (x3 : List (List Value)), A1 (dC m4 (dA (zT x2).args) 38 21 x3) (λ y => aA (dY 21 y) (nW m4 h3 (dA s4) 21 y) (aA (rJ x3 y 280) (rK x3 y) (∀ (s5 : Sl) (m5 : MH), bK (eC m4 m5 (dA (zT x2).args) s5 38 21 (x3 ++ y)) (Ey m5 h3) (∃ (x4 : QV × QV × MH × PH), aA (I1 x4) (aI p) (aA (eP 5) (eP 8) (aA jE (eP 13) (aA (bT sc) gV (bM (eT (lD x2) x4.1) (rV (qQ (zT x2) (Aa s5)) x4.2.1) (CN m5 h3 (sA x4) (uP x4))))))))))))))))) (x2.1 == 9) (∃ (c1 : Nat) (v : QV),
 A8 (λ s3 k1 => aA (iH cb :: aX (aR (zT x2)) (cK (mP x2)) = iH c1 :: aX (Fg v v (aJ (lJ (fZ v)) (jI (eZ v)) (aJ (rH (eZ v)) (dQ (mZ (eZ v))) (aJ (mS (eZ v)) (lJ (eZ v)) (aJ (nL v) (nM v) (aJ (eA v.on) sR (aJ sR (dQ v.limit) (aM v.args)))))))) (cK s3)) (aK (mT x2) (jD x2) c1) (aA (Ints (jD x2) s3 k1) (fW k1) (∀ (g o : Sl) (k2 : Int) (g1 : List Int) (o1 : List (Int × Bool)), dW (λ m3 h3 => dG (jD x2) h3 (Ints h3 g g1) (bK (iE h3 o o1) (g1.length <= k1.length) (bK (o1.length <= k1.length) (cA k2) (bK (k2 <= 3) (aY (mT x2) m3 c1) (bK (aK m3 h3 c1) (Ey m3 h3) (∃ (x3 : QV × QV × MH × PH), aA (I1 x3) (aI p) (aA (eP 5) (eP 8) (aA jE (eP 13) (aA (bT sc) gV (bM (eT (lD x2) x3.1) (rV (dU
 v.op v.table (pQ v.where_ (mJ (Ck v) (Aa v.on) (mJ (Aa g) (Aa o) (pR (mK k2) (Aa v.args)))))) x3.2.1) (CN m3 h3 (sA x3) (uP x3)))))))))))))))) (dN x2.1 10 (∃ (c1 : Nat) (v : QV), A8 (λ s3 k1 => aA (iH cb :: aX (aR (zT x2)) (cK (mP x2)) = iH c1 :: aX (Fg v v (aJ (lJ (fZ v)) (jI (eZ v)) (aJ (rH (eZ v)) (dQ (mZ (eZ v))) (aJ (mS (eZ v)) (lJ (eZ v)) (aJ (nL v) (nM v) (aJ (eA v.on) sR (aJ sR (dQ v.limit) (aM v.args)))))))) (cK s3)) (aK (mT x2) (jD x2) c1) (aA (Ints (jD x2) s3 k1) (fW k1) (∀ (g o : Sl) (k2 : Int) (g1 : List Int) (o1 : List (Int × Bool)), dW (λ m3 h3 => dG (jD x2) h3 (Ints h3 g g1) (bK (iE h3 o o1) (g1.length <= k1.length) (bK (o1.length <= k1.length) (cA k2) (bK (k2 <= 3) (aY (mT x2) m3
 c1) (fY m3 h3 c1 (jQ (λ c2 s4 p3 k3 v1 => eB cb sc (cK p :: aX (cK (mP x2)) (aR (lD x2))) = eB c2 s4 (cK p3 :: aX (cK k3) (aR v1))) m3 h3 (λ c2 s4 p3 k3 q1 w1 q2 => dW (λ m4 h4 => dG h3 h4 (cR h4 q2 w1) (bK (BQ s4 p3 k3 q1 q2) (aY m3 m4 c2) (fY m4 h4 c2 (gO (λ s5 m5 => nD m4 m5 h4 s5 38 21 (cT w1.enc) -> ∃ (x3 : List (List Value)), A1 (dC m5 (dA v.args) 38 21 x3) (λ y => aA (dY 21 y) (nW m5 h4 (dA s5) 21 y) (aA (rJ x3 y 280) (rK x3 y) (∀ (s6 : Sl) (m6 : MH), bK (eC m5 m6 (dA v.args) s6 38 21 (x3 ++ y)) (Ey m6 h4) (∃ (x4 : QV × QV × MH × PH), aA (I1 x4) (aI p) (aA (eP 5) (eP 8) (aA jE (eP 13) (aA (bT sc) gV (bM (eT (lD x2) x4.1) (rV (dU v.op v.table (pQ v.where_ (mJ (Ck v) (Aa v.on) (mJ (Aa g) (Aa o) (pR (mK
 k2) (Aa s6)))))) x4.2.1) (CN m6 h4 (sA x4) (uP x4)))))))))))))))))))))))))) ((∃ (c1 : Nat), wS (λ s3 t c2 p3 d1 => aA (DR cb 0 :: cK (mP x2) :: fF p 2 = DR c1 0 :: cK s3 :: fF t (↑d1 : Int)) (aK (mT x2) (jD x2) c1) (aA (Ints (jD x2) s3 c2) (Ints (jD x2) t p3) (aA (fW c2) (fW p3) (oC d1 /\ AZ (λ v p4 => dW (λ m3 h3 => dG (jD x2) h3 (eD h3 p4 v) (bK (vR c2 p3 d1 p4) (aY (mT x2) m3 c1) (fY m3 h3 c1 (∀ (s4 : Sl) (m4 : MH), bK (nD m3 m4 h3 s4 38 21 (cT (lD x2).enc)) (Ey m4 h3) (∃ (x3 : QV × QV × MH × PH), aA (I1 x3) (aI p) (aA (eP 5) (eP 8) (aA jE (eP 13) (aA (bT sc) gV (bM (eT (lD x2) x3.1) (rV (dU 2 0 (pQ v (mJ KJ KJ (mJ KJ KJ (pR (mK 0) (Aa s4)))))) x3.2.1) (CN m4 h3 (sA x3) (uP
 x3))))))))))))))))) /\ gO (λ s3 m3 => nD (mT x2) m3 (jD x2) s3 38 21 (cT (lD x2).enc) -> ∃ (c1 : Nat), wS (λ s4 t c2 p3 d1 => aA (DR cb 0 :: cK (mP x2) :: fF p 2 = DR c1 0 :: cK s4 :: fF t (↑d1 : Int)) (aK m3 (jD x2) c1) (aA (Ints (jD x2) s4 c2) (Ints (jD x2) t p3) (aA (fW c2) (fW p3) (oC d1 /\ AZ (λ v p4 => dW (λ m4 h3 => dG (jD x2) h3 (eD h3 p4 v) (bK (vR c2 p3 d1 p4) (aY m3 m4 c1) (bK (aK m4 h3 c1) (Ey m4 h3) (∃ (x3 : QV × QV × MH × PH), aA (I1 x3) (aI p) (aA (eP 5) (eP 8) (aA jE (eP 13) (aA (bT sc) gV (bM (eT (lD x2) x3.1) (rV (dU 2 0 (pQ v (mJ KJ KJ (mJ KJ KJ (pR (mK 0) (Aa s3)))))) x3.2.1) (CN m4 h3 (sA x3) (uP x3)))))))))))))))))))) /\ ∀ (x1 : QV × QV × MH × PH), I1 x1 -> Fk (cF sc ::
 aX (cK p) (aR x1.2.1)) (uP x1) (λ s3 p3 q1 _ h3 => eE (fT s3 p3 q1).2 0 (K (aR x1.1) (sA x1) h3) (K (aR x1.2.1) (sA x1) h3))))))))))))))))))
structure qX (m0 m : MH) (s : Sl) (E : TypeId) (sz : Nat) (xs : List (List Value)) : Prop where
 row : dC m s E sz xs
 fresh : ∀ b i, s.a = some ⟨b, i, none⟩ -> m0 b = none
def Kept (m0 m : MH) (cb : Nat) : Prop := ∀ b o, m0 b = some o -> b ≠ cb -> m b = some o
theorem Kept.of {m0 : MH} (h : aY m0 m cb) : Kept m0 m cb := λ b o e n => by rw [h.other b n]; exact e
theorem Kept.on {m0 : MH} (k : Kept m0 m cb) (h : aY m m' cb) : Kept m0 m' cb := λ b o e n => by rw [h.other b n]; exact k b o e n
theorem aK.blk (c : aK m h cb) : ∃ cs, m cb = some (.cells cs 82 (0, 0)) := by
 obtain ⟨r, q, cs, k, q1, _⟩ := c
 exact ⟨_, q1⟩
theorem aK.keep (c : aK m h cb) (e : m' cb = m cb) (le : PH.le h h') : aK m' h' cb := by
 obtain ⟨r, q, cs, k, q1, q2, q3⟩ := c
 exact ⟨r, q, cs, k, by rw [e]; exact q1, q2.mono le, q3⟩
theorem Kept.free {m0 : MH} (k : Kept m0 m cb) (c : aK m h cb) (hb : m b = none) : m0 b = none := by
 cases e : m0 b with
 | none => rfl
 | some o =>
  by_cases hc : b = cb
  . obtain ⟨cs, e2⟩ := c.blk
    rw [hc, e2] at hb; cases hb
  . rw [k b o e hc] at hb; cases hb
theorem dC.nil (m : MH) (E : TypeId) (sz : Nat) : dC m bX E sz [] := ⟨⟨λ _ h => by simp at h, λ _ h => by simp at h⟩, .inl ⟨rfl, rfl⟩⟩
theorem qX.nil (m0 m : MH) (E : TypeId) (sz : Nat) : qX m0 m bX E sz [] := ⟨dC.nil m E sz, λ b i e => by cases e⟩
theorem qX.on {m0 : MH} {s : Sl} {E : TypeId} (r : qX m0 m s E sz xs) (o : aY m m' cb) (c : aK m h cb) (hE : E ≠ 82) : qX m0 m' s E sz xs := by
 refine ⟨dC.keep r.row (λ b i e => o.other b (λ e2 => ?_)), r.fresh⟩
 obtain ⟨cur, h1⟩ := dC.blk r.row e
 obtain ⟨cs, h2⟩ := c.blk
 rw [e2, h2] at h1
 simp only [sW, Obj.cells.injEq] at h1
 exact hE h1.2.1.symm
theorem qX.new {m0 : MH} {s t : Sl} {E E' : TypeId} {sz' : Nat} {ys : List (List Value)} (r : qX m0 m s E sz xs) (x : nD m m' h t E' sz' ys) : qX m0 m' s E sz xs := by
 refine ⟨dC.keep r.row (λ b i e => x.other b (λ j e2 => ?_)), r.fresh⟩
 obtain ⟨cur, h1⟩ := dC.blk r.row e
 rw [(x.fresh b j e2).m_] at h1; cases h1
theorem nD.frow {m0 : MH} {s : Sl} {E : TypeId} (x : nD m m' h s E sz xs) (k : Kept m0 m cb) (c : aK m h cb) : qX m0 m' s E sz xs := ⟨x.row, λ b i e => k.free c (x.fresh b i e).m_⟩
theorem nD.at_cb {s : Sl} {E : TypeId} (x : nD m m' h s E sz xs) (c : aK m h cb) : m' cb = m cb := x.other cb (λ i e => by
 obtain ⟨cs, e2⟩ := c.blk
 rw [(x.fresh cb i e).m_] at e2; cases e2)
theorem Kept.new {m0 : MH} {s : Sl} {E : TypeId} (k : Kept m0 m cb) (x : nD m m' h s E sz xs) : Kept m0 m' cb := λ b o e n => by
 rw [x.other b (λ i e2 => by have := (x.fresh b i e2).m_; rw [k b o e n] at this; cases this)]; exact k b o e n
theorem qX.grown {m0 : MH} {s s' : Sl} {E : TypeId} {zs : List (List Value)} (r : qX m0 m s E sz xs) (x : eC m m' s s' E sz zs) (k : Kept m0 m cb) (c : aK m h cb) : qX m0 m' s' E sz zs :=
 ⟨x.row, λ b i e => by
  rcases x.fresh b i e with h1 | ⟨j, h1⟩
  . exact k.free c h1
  . exact r.fresh b j h1⟩
theorem qX.apart {m0 : MH} {s t t' : Sl} {E E' : TypeId} {sz' : Nat} {ys zs : List (List Value)} (r : qX m0 m s E sz xs) (q : qX m0 m t E' sz' ys) (x : eC m m' t t' E' sz' zs) (hE : E ≠ E') : qX m0 m' s E sz xs := by
 refine ⟨dC.keep r.row (λ b i e => ?_), r.fresh⟩
 obtain ⟨cur, h1⟩ := dC.blk r.row e
 rw [h1]
 refine x.other b _ h1 (λ j e2 => ?_)
 obtain ⟨cur2, h2⟩ := dC.blk q.row e2
 rw [h1] at h2
 simp only [sW, Obj.cells.injEq] at h2
 exact hE h2.2.1
theorem Kept.grown {m0 : MH} {s s' : Sl} {E : TypeId} {zs : List (List Value)} (k : Kept m0 m cb) (r : qX m0 m s E sz xs) (x : eC m m' s s' E sz zs) : Kept m0 m' cb := λ b o e n => x.other b o (k b o e n) (λ i e2 => by rw [r.fresh b i e2] at e; cases e)
theorem eC.at_cb {m0 : MH} {s s' : Sl} {E : TypeId} {zs : List (List Value)} (x : eC m m' s s' E sz zs) (r : qX m0 m s E sz xs) (c : aK m h cb) (hE : E ≠ 82) : m' cb = m cb := by
 obtain ⟨cs, e⟩ := c.blk
 rw [e]
 refine x.other cb _ e (λ i e2 => ?_)
 obtain ⟨cur, h1⟩ := dC.blk r.row e2
 rw [e] at h1
 simp only [sW, Obj.cells.injEq] at h1
 exact hE h1.2.1.symm
theorem O3 {sz : Nat} : ∀ {xs : List (List Value)}, (∀ e ∈ xs, e.length = sz) -> xs.flatten.length = xs.length * sz
 | [], _ => by simp
 | x :: xs, h => by
  simp only [Jj, BG, Gi]
  rw [O3 (λ e he => h e (by simp [he])), h x (by simp), Nat.add_mul]; omega
theorem dC.src {s : Sl} {E : TypeId} {x : List Value} (r : dC m s E sz (x :: xs)) : nW m h s sz (x :: xs) := by
 rcases r.ex with ⟨_, e⟩ | ⟨b, cap, cur, rfl, hm, _, _, _, ht⟩
 . cases e
 . exact .lent b 0 cur E (0, 0) rfl rfl hm (by rw [List.drop_zero, O3 r.rows.len]; exact ht)
def uX (m0 m : MH) : MH := λ b => match m0 b with | some _ => m b | none => none
def By (m0 m : MH) (h : PH) : PH := λ b i => match m0 b, m b with | none, some (.cells cs _ _) => cs[i]? | _, _ => h b i
theorem NU {m0 m : MH} {h : PH} (d : Ey m h) : PH.le h (By m0 m h) := ⟨λ b i v e => by
 unfold By
 split
 . rename_i cs E fz h1 h2
   rw [d.disj b _ h2 i] at e; cases e
 . exact e⟩
theorem UT {m0 : MH} (d : Ey m h) : CN m h (uX m0 m) (By m0 m h) := by
 refine ⟨λ b o e => ?_, NU d, λ b i v e => ?_⟩
 . unfold uX at e
   split at e
   . exact e
   . cases e
 . unfold By at e
   split at e
   . rename_i cs E fz h1 h2
     exact .inr ⟨cs, E, fz, h2, e, by unfold uX; rw [h1]⟩
   . exact .inl e
theorem FT {p : Prop} (h : p := by repeat' (first | with_reducible rfl | exact trivial | exact UT (by assumption) | refine ⟨?_, ?_⟩ | rfl)) : p := h
theorem qX.ice {m0 : MH} {s : Sl} {E : TypeId} (r : qX m0 m s E sz xs) : cN (By m0 m h) s sz xs := by
 rcases r.row.ex with ⟨rfl, rfl⟩ | ⟨b, cap, cur, rfl, hm, hcp, _, _, ht⟩
 . exact cN.nil _ _
 . have h0 := r.fresh b 0 rfl
   refine ⟨rfl, .inr ⟨b, 0, rfl, λ i e hi => ⟨λ j v hj => ?_⟩⟩, hcp⟩
   have h1 := lA r.row.rows.len hi j v hj
   rw [<- ht, DT] at h1
   split at h1
   . unfold By
     rw [h0, hm]
     simp only [Ih]
     rw [<- BU]; exact h1
   . cases h1
theorem keep_other {m0 : MH} (k : Kept m0 m cb) : aY m0 (uX m0 m) cb := ⟨λ b hb => by
 unfold uX
 cases e : m0 b with
 | none => rfl
 | some o => exact k b o e hb⟩
theorem UQ {m0 : MH} (c : aK m h cb) (h0 : m0 cb ≠ none) (d : Ey m h) : aK (uX m0 m) (By m0 m h) cb := c.keep (by
 unfold uX
 cases e : m0 cb with
 | none => exact (h0 e).elim
 | some o => rfl) (NU d)
def QA (d : Nat) (q : Query) : Prop := QW q /\ Lk d q
structure QM (d : Nat) (m0 m : MH) (h : PH) (v : QV) (vs : List QV) : Prop where
 wher : ∃ w, eD h w v.where_ /\ Gb w
 cols : ∃ co : List Int, qX m0 m v.columns 3 1 (co.map eI) /\ co.length <= 1000
 on_ : ∃ l, lK h v.on l
 group_ : ∃ l, Ints h v.group l
 order_ : ∃ l, iE h v.order l
 args_ : qX m0 m v.args 38 21 (vs.map QV.enc)
 len_ : vs.length <= 2
 reps : ∀ v ∈ vs, ∃ q, cR h q v /\ QA d q
theorem O6 {d : Nat} {h : PH} : ∀ {vs : List QV}, (∀ v ∈ vs, ∃ q, cR h q v /\ QA d q) -> ∃ qs : List Query, qs.length = vs.length /\ (∀ q ∈ qs, QA d q) /\ ∀ (i : Nat) q, qs[i]? = some q -> ∃ v, vs[i]? = some v /\ cR h q v
 | [], _ => ⟨[], rfl, λ q hq => by simp at hq, λ i q e => by simp at e⟩
 | v :: vs, h1 => by
  obtain ⟨q, hq, hqw⟩ := h1 v (by simp)
  obtain ⟨qs, e1, ew, e2⟩ := O6 (vs := vs) (λ u hu => h1 u (by simp [hu]))
  refine ⟨q :: qs, by simp [e1], λ x hx => by rcases xA.1 hx with rfl | hx; exact hqw; exact ew x hx, λ i x e => ?_⟩
  cases i with
  | zero => simp at e; subst e; exact ⟨v, rfl, hq⟩
  | succ i => simpa using e2 i x (by simpa using e)
theorem QM.ice {n : Nat} {m0 : MH} {vs : List QV} (x : QM n m0 m h v vs) (d : Ey m h) : ∃ q, cR (By m0 m h) q v /\ QW q /\ yB (n + 1) q := by
 obtain ⟨w, hw, hww⟩ := x.wher
 obtain ⟨co, hc, hcl⟩ := x.cols
 obtain ⟨on, ho⟩ := x.on_
 obtain ⟨gr, hg⟩ := x.group_
 obtain ⟨od, hod⟩ := x.order_
 obtain ⟨qs, e1, ew, e2⟩ := O6 x.reps
 have le := NU (m0 := m0) d
 have hl := x.len_
 exact ⟨_, oJ.rep ⟨rfl, rfl, hw.mono le, ⟨hc.ice, aC⟩, ho.mono le, hg.mono le, hod.mono le, rfl, ⟨⟨vs, x.args_.ice, e1, λ i q e => let ⟨v, k1, k2⟩ := e2 i q e; ⟨v, k1, k2.mono le⟩⟩, aC⟩⟩, Rf.2 ⟨hww, λ a ha => (ew a ha).1⟩, yB.node (λ a ha => (ew a ha).2) aC⟩
theorem QM.on {n : Nat} {m0 : MH} {vs : List QV} (x : QM n m0 m h v vs) (o : aY m m' cb) (c : aK m h cb) (le : PH.le h h') : QM n m0 m' h' v vs := by
 obtain ⟨w, hw, hww⟩ := x.wher
 obtain ⟨co, hc, hcl⟩ := x.cols
 obtain ⟨on, ho⟩ := x.on_
 obtain ⟨gr, hg⟩ := x.group_
 obtain ⟨od, hod⟩ := x.order_
 exact ⟨⟨w, hw.mono le, hww⟩, ⟨co, hc.on o c (by decide), hcl⟩, ⟨on, ho.mono le⟩, ⟨gr, hg.mono le⟩, ⟨od, hod.mono le⟩, x.args_.on o c (by decide), x.len_, λ v hv => let ⟨q, e, ew⟩ := x.reps v hv; ⟨q, e.mono le, ew⟩⟩
theorem QM.new {d : Nat} {m0 : MH} {vs : List QV} {t : Sl} {E : TypeId} {ys : List (List Value)} (x : QM d m0 m h v vs) (n : nD m m' h' t E sz ys) (le : PH.le h h') : QM d m0 m' h' v vs := by
 obtain ⟨w, hw, hww⟩ := x.wher
 obtain ⟨co, hc, hcl⟩ := x.cols
 obtain ⟨on, ho⟩ := x.on_
 obtain ⟨gr, hg⟩ := x.group_
 obtain ⟨od, hod⟩ := x.order_
 exact ⟨⟨w, hw.mono le, hww⟩, ⟨co, hc.new n, hcl⟩, ⟨on, ho.mono le⟩, ⟨gr, hg.mono le⟩, ⟨od, hod.mono le⟩, x.args_.new n, x.len_, λ v hv => let ⟨q, e, ew⟩ := x.reps v hv; ⟨q, e.mono le, ew⟩⟩
theorem QM.grow {d : Nat} {m0 : MH} {v' : QV} {vs : List QV} {s' : Sl} {u : QV} (x : QM d m0 m h v vs) (g : eC m m' v.args s' 38 21 (vs.map QV.enc ++ [u.enc])) (k : Kept m0 m cb) (c : aK m h cb) (hu : ∃ q, cR h q u /\ QA d q) (hl : vs.length <= 1)
 (ew : v'.where_ = v.where_) (ec : v'.columns = v.columns) (eo : ∃ l, lK h v'.on l) (eg : ∃ l, Ints h v'.group l) (ed : ∃ l, iE h v'.order l) (ea : v'.args = s') : QM d m0 m' h v' (vs ++ [u]) := by
 obtain ⟨co, hc, hcl⟩ := x.cols
 refine ⟨by rw [ew]; exact x.wher, ⟨co, by rw [ec]; exact hc.apart x.args_ g (by decide), hcl⟩, eo, eg, ed, by rw [ea, xH]; exact x.args_.grown g k c, by simp; omega, λ v hv => ?_⟩
 rcases BZ.1 hv with h1 | h1
 . exact x.reps v h1
 . simp at h1; subst h1; exact hu
theorem Tx (h : eH s = 0) : BE s := Classical.byContradiction λ hn => by rw [tB hn] at h; cases h
theorem tA (h : eH s = 0) : pB s := λ t ht => by
 obtain ⟨i, hi⟩ := List.mem_iff_getElem?.1 ht
 have := (Tx h).2 i t hi
 exact this.1
theorem AK (h : eH s = 0) : s.tables.length <= 8 := (Tx h).1
theorem Eb (s : nX) (ps : List Int) (q : Query) : (fT s ps q).1.length <= 12 := by
 unfold fT
 split
 . split
   . split
     . exact Bu s ps q
     . simp [iO]
   . simp [iO]
 . simp [iO]
theorem Nq {t : Int} (he : eH s = 0) (hp : ps.all dO = true) (h0 : 0 <= t) (h1 : t < s.tables.length) : (fT s ps (.mk 1 t gW [] [] [] [] 0 [])).2 = 0 := by
 have h8 := tA he
 have hk : (gP s t).length <= 12 := by
  unfold gP
  split
  . simp
  . split
    . simp
    . rename_i x hx
      have := h8 x (lP hx)
      simp; omega
 have e1 : bP s ps (.mk 1 t gW [] [] [] [] 0 []) = gZ s ps (.mk 1 t gW [] [] [] [] 0 []) [] [] := by simp [bP, eW, arity]
 have e2 : kG (.mk 1 t gW [] [] [] [] 0 []) = true := by rfl
 unfold fT
 rw [if_pos he, if_pos hp, if_pos e2, e1]
 unfold gZ
 rw [if_neg (by simp [arity, dJ])]
 simp only [if_true]
 rw [if_pos ⟨h0, h1⟩]
 unfold z6
 rw [if_pos hk]
structure Mid (m0 : MH) (h3 : PH) (cb : Nat) (a q : QV) (mx : MH) : Prop where
 case_ : aK mx h3 cb
 kept : Kept m0 mx cb
 ex : ∃ o args, q = ⟨o, 0, fS, bX, bX, bX, bX, 0, args⟩ /\ qX m0 mx args 38 21 ([a].map QV.enc)
theorem Mid.qm {d : Nat} {m0 mx : MH} {h3 : PH} {a q : QV} (x : Mid m0 h3 cb a q mx) (hr : ∃ qa, cR h3 qa a /\ QA d qa) : QM d m0 mx h3 q [a] := by
 obtain ⟨o, args, rfl, hf⟩ := x.ex
 exact ⟨⟨_, Ad h3, AO⟩, ⟨[], qX.nil _ _ _ _, by simp⟩, ⟨_, oM _⟩, ⟨_, iL _⟩, ⟨_, sZ _⟩, hf, by simp, λ v hv => by simp at hv; subst hv; exact hr⟩
theorem TY : ∀ N, Sound Tryz.prog 13 (Tb N)
 | 0 => by
  refine eK (fn := Tryz.f13) (c := dK Tryz.f13) Tryz.func13 rfl (by decide) ?_
  rintro cvs m h K ⟨cb, sc, p, s, ps, deep, rfl, _, _, _, _, _, _, _, _, _, hN, _⟩
  omega
 | N + 1 => by
  refine gX Tryz.func13 ?_
  rintro cvs m h K ⟨cb, sc, p, s, ps, deep, rfl, hc, hs, he, hne, hp, hpl, hpk, d0, d1, hN, hK⟩
  refine ⟨Zf N cb sc p, rfl, aD GN (aD LV (aD LY (aD Vi (aD LX (aD Vh (aD Dv (aD (TY N) aF))))))), Qq N cb sc p deep m h K, by kernel_rfl, ?_⟩
  have htl := hs.tables.slen
  have h8 := tA he
  have ht8 := AK he
  have htp : 0 < s.tables.length := List.length_pos_iff.2 hne
  have hif : (if (sc.tables.len : Int) > 1 then (sc.tables.len : Int) else 1) = (sc.tables.len : Int) := by split <;> omega
  have hm0 : m cb ≠ none := by obtain ⟨cs, e⟩ := hc.blk; rw [e]; simp
  dsimp only [Qq, push_cast]
  rw [hif]
  refine ⟨cb, 12, rfl, hc, λ k m1 k0 k1 o1 c1 => ?_⟩
  refine aE (λ hd => ?_) (λ hd => aB (λ _ => ?_) (λ _ => aB (λ _ => ?_) (λ _ => ?_)))
  . exact ⟨cb, _, rfl, c1, λ k2 m2 k20 k21 o2 c2 => ⟨k2, rfl, hK _ _ m2 h (.refl _) (Ah h k2) (EU k2) (yB.mono (d := 0) nP.scan (To _)) (Nq he hpk k20 aC) (o1.trans o2) c2⟩⟩
  . exact ⟨cb, _, rfl, c1, λ k2 m2 k20 k21 o2 c2 => ⟨k2, rfl, hK _ _ m2 h (.refl _) (Ah h k2) (EU k2) (yB.mono (d := 0) nP.scan (To _)) (Nq he hpk k20 aC) (o1.trans o2) c2⟩⟩
  . exact ⟨cb, _, rfl, c1, λ k2 m2 k20 k21 o2 c2 => ⟨k2, rfl, hK _ _ m2 h (.refl _) (Ah h k2) (EU k2) (yB.mono (d := 0) nP.scan (To _)) (Nq he hpk k20 aC) (o1.trans o2) c2⟩⟩
  have hw1 : IntKind.i64.wrap (deep - 1) = deep - 1 := eG aC aC
  have hw2 : IntKind.i64.wrap (deep - 2) = deep - 2 := eG aC aC
  rw [hw1]
  refine ⟨cb, sc, p, s, ps, deep - 1, rfl, c1, hs, he, hne, hp, hpl, hpk, aC, aC, aC, λ a qa m2 h2 le2 ra qaw0 qaf qa0 o2 c2 => ⟨sc, p, a, s, ps, qa, rfl, hs.mono le2, hp.mono le2, ra, λ kk h3 le3 ik => ?_⟩⟩
  have hkl := Eb s ps qa
  obtain ⟨dd, hdd⟩ : ∃ dd, (deep - 1).toNat = dd := ⟨_, rfl⟩
  have hde : deep.toNat = dd + 1 := by omega
  rw [hdd] at qaf
  have qaw : QA dd qa := ⟨qaw0, qaf.arg⟩
  generalize hks : (fT s ps qa).fst = ks at ik hkl
  clear hks
  have hle3 : PH.le h h3 := le2.trans le3
  have ra3 : cR h3 qa a := ra.mono le3
  refine ⟨λ ⟨d, op, a', q, k', mx, hx⟩ => d = deep /\ a' = a /\ k' = kk /\ hx = h3 /\ Mid m h3 cb a q mx, λ s1 m3 hnew => ⟨(deep, IntKind.i64.wrap (1 + k), a, ⟨IntKind.i64.wrap (1 + k), 0, fS, bX, bX, bX, bX, 0, s1⟩, kk, m3, h3), ⟨rfl, rfl, rfl, rfl, ?_⟩, MT⟩, ?_⟩
  . have k2 := (Kept.of o1).on o2
    have c3 := c2.mono le3
    exact ⟨c3.keep (nD.at_cb hnew c3) (.refl _), k2.new hnew, _, _, rfl, nD.frow hnew k2 c3⟩
  rintro ⟨deep, op, a', q, k', mx, hx⟩ ⟨rfl, rfl, rfl, rfl, mid⟩
  dsimp only
  have reach : ∀ (q : QV) (vs : List QV) (my : MH) (hy : PH), PH.le hx hy -> Kept m my cb -> aK my hy cb -> QM dd m my hy q vs -> Ey my hy -> PH.le hx (By m my hy) /\ aY m (uX m my) cb /\ aK (uX m my) (By m my hy) cb /\ ∃ qq, cR (By m my hy) qq q /\ QW qq /\ yB (dd + 1) qq := λ q vs my hy l k c x d => ⟨l.trans (NU d), keep_other k, UQ c hm0 d, x.ice d⟩
  have join : ∀ (q : QV) (u : QV) (s1 : Sl) (my : MH) (hy : PH) (Q : Sl -> MH -> Prop), PH.le hx hy -> Kept m my cb -> aK my hy cb -> QM dd m my hy q [a'] -> qX m my s1 38 21 [u.enc] -> (∃ qu, cR hy qu u /\ QA dd qu) ->
   (∀ s' m', (∀ q' : QV, q'.where_ = q.where_ -> q'.columns = q.columns -> (∃ l, lK hy q'.on l) -> (∃ l, Ints hy q'.group l) -> (∃ l, iE hy q'.order l) -> q'.args = s' -> QM dd m m' hy q' [a', u]) -> Kept m m' cb -> aK m' hy cb -> Q s' m') ->
   ∃ xs, dC my ⟨q.args.a, q.args.len, q.args.cap⟩ 38 21 xs /\ ∃ ys, dY 21 ys /\ nW my hy ⟨s1.a, s1.len, s1.cap⟩ 21 ys /\ (xs.length + ys.length) * 280 <= 140737488355328 /\ xs.length + ys.length <= 140737488355328 /\ ∀ (s' : Sl) (m' : MH), eC my m' ⟨q.args.a, q.args.len, q.args.cap⟩ s' 38 21 (xs ++ ys) -> Q s' m' :=
   λ q u s1 my hy Q l k c x f hu hQ => ⟨_, x.args_.row, [u.enc], Wj [u], dC.src f.row, by simp, by simp, λ s' m' g => hQ s' m' (λ q' e1 e2 e3 e4 e5 e6 => x.grow g k c hu (by simp) e1 e2 e3 e4 e5 e6) (k.grown x.args_ g) (c.keep (eC.at_cb g x.args_ c (by decide)) (.refl _))⟩
  refine ⟨λ ⟨a2, q, my, hy⟩ => a2 = a' /\ PH.le hx hy /\ aY m my cb /\ aK my hy cb /\ ∃ qq, cR hy qq q /\ QW qq /\ yB (dd + 1) qq, aB (λ _ => ?_) (λ _ => ?_), ?_⟩
  ·
   refine ⟨cb, 3, rfl, mid.case_, λ n m3 n0 n1 o3 c3 => ?_⟩
   refine ⟨λ ⟨a2, q, k2, n, my, hy⟩ => a2 = a' /\ k2 = k' /\ hy = hx /\ -1 <= n /\ n <= 2 /\ aK my hx cb /\ Kept m my cb /\ QM dd m my hx q [a'] /\ ∃ co : List Int, qX m my q.columns 3 1 (co.map eI) /\ (co.length : Int) <= 2 - n, λ ⟨_, _, _, n, _, _⟩ => (n + 1).toNat, ⟨(a', q, k', n, m3, hx), ⟨rfl, rfl, rfl, by show -1 <= n; omega, by show n <= 2; omega, c3, mid.kept.on o3, (mid.qm ⟨qa, ra3, qaw⟩).on o3 mid.case_ (.refl _), [], ?_, by simp; omega⟩, MT⟩, ?_⟩
   . obtain ⟨o, args, rfl, hf⟩ := mid.ex
     exact qX.nil _ _ _ _
   clear mid q c3 o3 m3 n0 n1 n
   rintro ⟨a2, q, k2, n, my, hy⟩ ⟨rfl, rfl, rfl, n0, n1, cy, ky, qm, co, fco, hcol⟩
   dsimp only
   refine aE (λ hn => ⟨cb, _, rfl, cy, λ c m4 _ _ o4 c4 => ⟨_, (fco.on o4 cy (by decide)).row, by simp; omega, by simp; omega, λ s' m5 g => ?_⟩⟩) (λ hn d => ⟨(a2, q, uX m my, By m my hy), ⟨rfl, reach q _ my hy (.refl _) ky cy qm d⟩, FT⟩)
   have f4 := fco.on o4 cy (by decide)
   have q4 := qm.on o4 cy (.refl _)
   have k4 := ky.on o4
   have f5 : qX m m5 s' 3 1 ((co ++ [c]).map eI) := by rw [xH]; exact f4.grown g k4 c4
   have hw3 : IntKind.i64.wrap (n - 1) = n - 1 := eG aC aC
   rw [hw3]
   refine ⟨(a2, { q with columns := s' }, k2, n - 1, m5, hy), ⟨rfl, rfl, rfl, by show -1 <= n - 1; omega, by show n - 1 <= 2; omega, c4.keep (eC.at_cb g f4 c4 (by decide)) (.refl _), k4.grown f4 g, ⟨q4.wher, ⟨_, f5, by simp; omega⟩, q4.on_, q4.group_, q4.order_, q4.args_.apart f4 g (by decide), q4.len_, q4.reps⟩, _, f5, by simp; omega⟩, by show (n - 1 + 1).toNat < (n + 1).toNat; omega, MT⟩
  . refine ⟨λ ⟨d, op, a2, q, k2, t, my, hy⟩ => d = deep /\ a2 = a' /\ k2 = k' /\ hy = hx /\ Mid m hx cb a' q my, aB (λ _ => ⟨(deep, op, a', q, k', true, mx, hx), ⟨rfl, rfl, rfl, rfl, mid⟩, MT⟩) (λ _ => ⟨(deep, op, a', q, k', op == 5, mx, hx), ⟨rfl, rfl, rfl, rfl, mid⟩, MT⟩), ?_⟩
    clear mid q mx
    rintro ⟨deep, op, a', q, k', t, mx, hx⟩ ⟨rfl, rfl, rfl, rfl, mid⟩
    dsimp only
    refine aB (λ _ => ?_) (λ _ => ?_)
    ·
     rw [hw2]
     refine ⟨cb, sc, p, s, ps, deep - 2, rfl, mid.case_, hs.mono hle3, he, hne, hp.mono hle3, hpl, hpk, by show -1 <= deep - 2; omega, aC, aC, λ b qb m5 h5 le5 rb qbw0 qbf _ o5 c5 => ⟨sc, p, b, s, ps, qb, rfl, hs.mono (hle3.trans le5), hp.mono (hle3.trans le5), rb, λ l h6 le6 il => ?_⟩⟩
     have qbw : QA dd qb := ⟨qbw0, (qbf.mono aC).arg⟩
     have hll := Eb s ps qb
     generalize hls : (fT s ps qb).fst = ls at il hll
     have q6 : QM dd m m5 h6 q [a'] := (mid.qm ⟨qa, ra3, qaw⟩).on o5 mid.case_ (le5.trans le6)
     have k6 := mid.kept.on o5
     have c6 := c5.mono le6
     refine ⟨λ ⟨a2, b2, q, k2, l2, my, hy⟩ => a2 = a' /\ b2 = b /\ k2 = k' /\ l2 = l /\ hy = h6 /\ aK my h6 cb /\ Kept m my cb /\ QM dd m my h6 q [a'], aB (λ _ => aE (λ _ => ⟨(a', b, { q with op := 5 }, k', l, m5, h6), ⟨rfl, rfl, rfl, rfl, rfl, c6, k6, ⟨q6.wher, q6.cols, q6.on_, q6.group_, q6.order_, q6.args_, q6.len_, q6.reps⟩⟩, MT⟩) (λ _ => ⟨(a', b, q, k', l, m5, h6), ⟨rfl, rfl, rfl, rfl, rfl, c6, k6, q6⟩, MT⟩)) (λ _ => ⟨(a', b, q, k', l, m5, h6), ⟨rfl, rfl, rfl, rfl, rfl, c6, k6, q6⟩, MT⟩), ?_⟩
     have rb6 := rb.mono le6
     have hx6 : PH.le hx h6 := le5.trans le6
     clear q6 k6 c6 o5 c5 rb le5 mid q
     rintro ⟨a2, b, q, k2, l, my, h6⟩ ⟨rfl, rfl, rfl, rfl, rfl, c6, k6, q6⟩
     dsimp only
     refine ⟨⟨cb, k2, l, ks, ls, rfl, c6, ik.mono hx6, il, aC, aC, λ o on m7 h7 le7 hon _ o7 c7 s1 m8 hnew => ?_⟩, λ s1 m7 hnew => ⟨cb, k2, l, ks, ls, rfl, c6.keep (nD.at_cb hnew c6) (.refl _), ik.mono hx6, il, aC, aC, λ o on m8 h7 le7 hon _ o8 c8 => ?_⟩⟩
     . have k7 := k6.on o7
       refine join q b s1 m8 h7 _ (hx6.trans le7) (k7.new hnew) (c7.keep (nD.at_cb hnew c7) (.refl _)) ((q6.on o7 c6 le7).new hnew (.refl _)) (nD.frow hnew k7 c7) ⟨qb, rb6.mono le7, qbw⟩ (λ s' m9 hq k9 c9 d => ?_)
       exact ⟨(a2, { q with on := o, args := s' }, uX m m9, By m m9 h7), ⟨rfl, reach _ _ m9 h7 (hx6.trans le7) k9 c9 (hq { q with on := o, args := s' } rfl rfl ⟨on, hon⟩ (let ⟨l, e⟩ := q6.group_; ⟨l, e.mono le7⟩) (let ⟨l, e⟩ := q6.order_; ⟨l, e.mono le7⟩) rfl) d⟩, FT⟩
     . have k7 := k6.new hnew
       have c7 : aK m7 h6 cb := c6.keep (nD.at_cb hnew c6) (.refl _)
       have k8 := k7.on o8
       refine join q b s1 m8 h7 _ (hx6.trans le7) k8 c8 ((q6.new hnew (.refl _)).on o8 c7 le7) ((nD.frow hnew k6 c6).on o8 c7 (by decide)) ⟨qb, rb6.mono le7, qbw⟩ (λ s' m9 hq k9 c9 d => ?_)
       exact ⟨(a2, { q with on := o, args := s' }, uX m m9, By m m9 h7), ⟨rfl, reach _ _ m9 h7 (hx6.trans le7) k9 c9 (hq { q with on := o, args := s' } rfl rfl ⟨on, hon⟩ (let ⟨l, e⟩ := q6.group_; ⟨l, e.mono le7⟩) (let ⟨l, e⟩ := q6.order_; ⟨l, e.mono le7⟩) rfl) d⟩, FT⟩
    . refine ⟨λ ⟨op, a2, q, k2, t, my, hy⟩ => a2 = a' /\ k2 = k' /\ hy = hx /\ Mid m hx cb a' q my, aB (λ _ => ⟨(op, a', q, k', true, mx, hx), ⟨rfl, rfl, rfl, mid⟩, MT⟩) (λ _ => aB (λ _ => ⟨(op, a', q, k', true, mx, hx), ⟨rfl, rfl, rfl, mid⟩, MT⟩) (λ _ => ⟨(op, a', q, k', op == 8, mx, hx), ⟨rfl, rfl, rfl, mid⟩, MT⟩)), ?_⟩
      clear mid q mx
      rintro ⟨op, a', q, k', t, mx, hx⟩ ⟨rfl, rfl, rfl, mid⟩
      dsimp only
      have q3 := mid.qm ⟨qa, ra3, qaw⟩
      refine aB (λ _ => ?_) (λ _ => aB (λ _ => ?_) (λ _ => aB (λ _ => ?_) (λ _ => ?_)))
      ·
       refine ⟨cb, sc, p, k', a', s, ps, ks, qa, rfl, mid.case_, hs.mono hle3, h8, aC, hp.mono hle3, hpl, ik, aC, ra3, qaw.1, λ w qw m5 h5 le5 rw5 qww o5 c5 s1 m6 hnew => ?_⟩
       have k5 := mid.kept.on o5
       refine join q w s1 m6 h5 _ le5 (k5.new hnew) (c5.keep (nD.at_cb hnew c5) (.refl _)) ((q3.on o5 mid.case_ le5).new hnew (.refl _)) (nD.frow hnew k5 c5) ⟨qw, rw5, qww.qw, qww.siz dd qaf⟩ (λ s' m9 hq k9 c9 d => ?_)
       have q5 := q3.on o5 mid.case_ le5
       exact ⟨(a', { q with args := s' }, uX m m9, By m m9 h5), ⟨rfl, reach _ _ m9 h5 le5 k9 c9 (hq { q with args := s' } rfl rfl q5.on_ q5.group_ q5.order_ rfl) d⟩, FT⟩
      ·
       obtain ⟨o, args, rfl, hf⟩ := mid.ex
       refine ⟨cb, ⟨o, 0, fS, bX, bX, bX, bX, 0, args⟩, k', ks, rfl, mid.case_, ik, aC, λ g od kk gr odl m5 h5 le5 hg hod _ _ _ _ o5 c5 d => ?_⟩
       have q5 := q3.on o5 mid.case_ le5
       exact ⟨(a', ⟨o, 0, fS, bX, bX, g, od, kk, args⟩, uX m m5, By m m5 h5), ⟨rfl, reach _ [a'] m5 h5 le5 (mid.kept.on o5) c5 ⟨q5.wher, q5.cols, q5.on_, ⟨gr, hg⟩, ⟨odl, hod⟩, q5.args_, q5.len_, q5.reps⟩ d⟩, FT⟩
      ·
       obtain ⟨o, args, rfl, hf⟩ := mid.ex
       refine ⟨cb, ⟨o, 0, fS, bX, bX, bX, bX, 0, args⟩, k', ks, rfl, mid.case_, ik, aC, λ g od kk gr odl m5 h5 le5 hg hod _ _ _ _ o5 c5 => ?_⟩
       have q5 := q3.on o5 mid.case_ le5
       have q5' : QM dd m m5 h5 ⟨o, 0, fS, bX, bX, g, od, kk, args⟩ [a'] := ⟨q5.wher, q5.cols, q5.on_, ⟨gr, hg⟩, ⟨odl, hod⟩, q5.args_, q5.len_, q5.reps⟩
       refine ⟨cb, sc, p, k', a', s, ps, ks, qa, rfl, c5, hs.mono (hle3.trans le5), h8, aC, hp.mono (hle3.trans le5), hpl, ik.mono le5, aC, ra3.mono le5, qaw.1, λ w qw m6 h6 le6 rw6 qww o6 c6 s1 m7 hnew => ?_⟩
       have k6 := (mid.kept.on o5).on o6
       refine join ⟨o, 0, fS, bX, bX, g, od, kk, args⟩ w s1 m7 h6 _ (le5.trans le6) (k6.new hnew) (c6.keep (nD.at_cb hnew c6) (.refl _)) ((q5'.on o6 c5 le6).new hnew (.refl _)) (nD.frow hnew k6 c6) ⟨qw, rw6, qww.qw, qww.siz dd qaf⟩ (λ s' m9 hq k9 c9 d => ?_)
       exact ⟨(a', ⟨o, 0, fS, bX, bX, g, od, kk, s'⟩, uX m m9, By m m9 h6), ⟨rfl, reach _ _ m9 h6 (le5.trans le6) k9 c9 (hq ⟨o, 0, fS, bX, bX, g, od, kk, s'⟩ rfl rfl ⟨_, oM _⟩ ⟨gr, hg.mono le6⟩ ⟨odl, hod.mono le6⟩ rfl) d⟩, FT⟩
      ·
       refine ⟨⟨cb, k', p, ks, ps, 2, rfl, mid.case_, ik, hp.mono hle3, aC, hpl, aC, λ pv pp m5 h5 le5 rp rpw o5 c5 s1 m6 hnew d => ?_⟩, λ s1 m5 hnew => ⟨cb, k', p, ks, ps, 2, rfl, mid.case_.keep (nD.at_cb hnew mid.case_) (.refl _), ik, hp.mono hle3, aC, hpl, aC, λ pv pp m6 h5 le5 rp rpw o6 c6 d => ?_⟩⟩
       . have k5 := mid.kept.on o5
         exact ⟨(a', ⟨2, 0, pv, bX, bX, bX, bX, 0, s1⟩, uX m m6, By m m6 h5), ⟨rfl, reach _ [a'] m6 h5 le5 (k5.new hnew) (c5.keep (nD.at_cb hnew c5) (.refl _)) ⟨⟨pp, rp, rpw.vals⟩, ⟨[], qX.nil _ _ _ _, by simp⟩, ⟨_, oM _⟩, ⟨_, iL _⟩, ⟨_, sZ _⟩, nD.frow hnew k5 c5, by simp, λ v hv => by simp at hv; subst hv; exact ⟨qa, ra3.mono le5, qaw⟩⟩ d⟩, FT⟩
       . have k5 := mid.kept.new hnew
         have c5 : aK m5 hx cb := mid.case_.keep (nD.at_cb hnew mid.case_) (.refl _)
         exact ⟨(a', ⟨2, 0, pv, bX, bX, bX, bX, 0, s1⟩, uX m m6, By m m6 h5), ⟨rfl, reach _ [a'] m6 h5 le5 (k5.on o6) c6 ⟨⟨pp, rp, rpw.vals⟩, ⟨[], qX.nil _ _ _ _, by simp⟩, ⟨_, oM _⟩, ⟨_, iL _⟩, ⟨_, sZ _⟩, (nD.frow hnew mid.kept mid.case_).on o6 c5 (by decide), by simp, λ v hv => by simp at hv; subst hv; exact ⟨qa, ra3.mono le5, qaw⟩⟩ d⟩, FT⟩
  . rintro ⟨a2, q, my, hy⟩ ⟨rfl, ley, oy, cy, qq, rq, rqw, rqf⟩
    dsimp only
    refine ⟨sc, p, q, s, ps, qq, rfl, hs.mono (hle3.trans ley), hp.mono (hle3.trans ley), rq, λ sl h5 le5 _ => aB (λ e => ?_) (λ e => ?_)⟩
    . exact hK a2 qa my h5 ((hle3.trans ley).trans le5) ((ra3.mono ley).mono le5) qaw.1 (by rw [hde]; exact qaf.mono aC) qa0 oy (cy.mono le5)
    . exact hK q qq my h5 ((hle3.trans ley).trans le5) (rq.mono le5) rqw (by rw [hde]; exact rqf) (by simpa using e) oy (cy.mono le5)
mutual
def uU (st : List (List (List VV))) : Query -> List (List VV)
 | .mk op ta w co on gr od li args => if op = 1 then st.getD ta.toNat [] else Z7 op (.mk op ta w co on gr od li args) (OZ st args)
def OZ (st : List (List (List VV))) : List Query -> List (List (List VV))
 | [] => []
 | q :: qs => uU st q :: OZ st qs
end
structure CL (st ls : List (List (List VV))) (k : Nat) (ts : List Int) : Prop where
 at_ : ∀ (j : Nat) (t : Int), ts[j]? = some t -> ls.getD (k + j) [] = st.getD t.toNat []
theorem CL.left {st ls : List (List (List VV))} {b : List Int} (x : CL st ls k (a ++ b)) : CL st ls k a :=
 ⟨λ j t h => x.at_ j t (by rw [Na (mG.1 h).1]; exact h)⟩
theorem CL.right {st ls : List (List (List VV))} {b : List Int} (x : CL st ls k (a ++ b)) : CL st ls (k + a.length) b :=
 ⟨λ j t h => by
  have := x.at_ (a.length + j) t (by rw [Ji aC, Nat.add_sub_cancel_left]; exact h)
  rwa [show k + a.length + j = k + (a.length + j) by omega]⟩
theorem UG {args : List Query} {kss : List (List Int)} (h1 : eW s ps args = (kss, 0)) (h2 : (kss.length : Int) = arity 1) : args = [] := by
 cases args with
 | nil => rfl
 | cons q qs => obtain ⟨_, _, _, _, rfl⟩ := jR h1; simp [arity] at h2; omega
mutual
theorem MO {s : nX} {ps : List Int} {st ls : List (List (List VV))} : ∀ {q : Query} {ks : List Int} {k : Nat}, bP s ps q = (ks, 0) -> CL st ls k (iZ q) -> iY ls q k = (uU st q, k + (iZ q).length)
 | .mk op ta w co on gr od li args, ks, k, h, hl => by
  obtain ⟨kss, h1, h2, h3⟩ := xV h
  by_cases e : op = 1
  . subst e
    have h0 := UG h1 h2
    subst h0
    have hs : iZ (.mk 1 ta w co on gr od li []) = [ta] := by simp [iZ, gU]
    rw [hs] at hl ⊢
    have := hl.at_ 0 ta rfl
    rw [V6] at this
    rw [iY, uU, if_pos rfl, if_pos rfl, this]
    rfl
  . have hs : iZ (.mk op ta w co on gr od li args) = gU args := by simp [iZ, e]
    rw [hs] at hl ⊢
    rw [iY, uU, if_neg e, if_neg e, KB h1 hl]
theorem KB {s : nX} {ps : List Int} {st ls : List (List (List VV))} : ∀ {qs : List Query} {kss : List (List Int)} {k : Nat}, eW s ps qs = (kss, 0) -> CL st ls k (gU qs) -> eN ls qs k = (OZ st qs, k + (gU qs).length)
 | [], kss, k, h, _ => by simp [eN, OZ, gU]
 | q :: qs, kss, k, h, hl => by
  obtain ⟨k1, kss', h1, h2, rfl⟩ := jR h
  rw [gU] at hl
  rw [eN, OZ, gU, MO h1 hl.left, KB h2 hl.right, BG, Nat.add_assoc]
end
mutual
theorem Jw {s : nX} {ps : List Int} : ∀ {q : Query} {ks : List Int}, bP s ps q = (ks, 0) -> ∀ t ∈ iZ q, 0 <= t /\ t < s.tables.length
 | .mk op ta w co on gr od li args, ks, h, t, ht => by
  obtain ⟨kss, h1, h2, h3⟩ := xV h
  rw [iZ] at ht
  rcases BZ.1 ht with h5 | h5
  . split at h5
    . rename_i e
      subst e
      simp only [X5] at h5
      subst h5
      unfold gZ at h3
      dsimp only at h3
      split at h3
      . simp [iO] at h3
      try rw [if_pos rfl] at h3
      split at h3
      . rename_i h4; exact h4
      . simp [iO] at h3
    . simp at h5
  . exact Lq h1 t h5
theorem Lq {s : nX} {ps : List Int} : ∀ {qs : List Query} {kss : List (List Int)}, eW s ps qs = (kss, 0) -> ∀ t ∈ gU qs, 0 <= t /\ t < s.tables.length
 | [], kss, h, t, ht => by rw [gU] at ht; simp at ht
 | q :: qs, kss, h, t, ht => by
  obtain ⟨k1, kss', h1, h2, rfl⟩ := jR h
  rw [gU] at ht
  rcases BZ.1 ht with ht | ht
  . exact Jw h1 t ht
  . exact Lq h2 t ht
end
def wY (key : Int) (k : Int) (i : Nat) (v : VV) : Bool := jK v && (v.kind == k || ((v.kind == 2 || v.kind == 1) && decide (key <= (i : Int))))
def CB (t : u7) (r : List VV) : Bool := decide (r.length = t.columns.length) && (List.range r.length).all λ i => wY t.key (t.columns.getD i ⟨⟨#[]⟩, 0⟩).kind i (r.getD i zeroV)
def jJ (t : u7) (r : List VV) : List VV := r.take (max 0 (min t.key r.length)).toNat
def Ts (t : u7) (l : List (List VV)) : Prop := (∀ r ∈ l, CB t r = true) /\ ∀ (i : Nat) r r', l[i]? = some r -> l[i + 1]? = some r' -> dV (jJ t r) (jJ t r') < 0
def Jq (s : nX) (st : List (List (List VV))) : Prop := ∀ (i : Nat) t l, s.tables[i]? = some t -> st[i]? = some l -> Ts t l
open Classical in
noncomputable def sS (s : nX) (st : List (List (List VV))) : Int :=
 if eH s ≠ 0 then eH s else if 512 < (st.map λ l => (l.length : Int)).sum then 2 else if st.length ≠ s.tables.length then 80 else if Jq s st then 0 else 80
def StV (st : List (List (List VV))) : Prop := ∀ l ∈ st, ∀ r ∈ l, ∀ v ∈ r, Oq v.kind /\ Oq v.int
def xK (t : u7) (key row : List VV) : Bool -> List (List VV) -> List (List VV)
 | d, [] => if d then [] else [row]
 | d, r :: l => (if 0 <= dV (jJ t r) key /\ d = false then [row] else []) ++ ((if dV (jJ t r) key ≠ 0 then [r] else []) ++ xK t key row (d || decide (0 <= dV (jJ t r) key)) l)
def Lj (t : u7) (l : List (List VV)) : Prop := l.Pairwise λ x y => dV (jJ t x) (jJ t y) < 0
theorem N5 {x y z : List VV} (h1 : dV x y < 0) (h2 : dV y z < 0) : dV x z < 0 := by
 have := xX x y z aC aC
 rcases Int.lt_or_eq_of_le this with h | h
 . exact h
 . rw [kT] at h
   subst h
   have := kU x y
   omega
theorem JB {t : u7} {key row : List VV} : ∀ {l : List (List VV)}, (∀ r ∈ l, 0 < dV (jJ t r) key) -> xK t key row true l = l
 | [], _ => rfl
 | r :: l, h => by
  have h1 := h r (Gh ..)
  rw [xK, if_neg (by simp), if_pos aC, Bool.true_or, JB λ x hx => h x (D3 _ hx)]
  rfl
theorem It {t : u7} {key row z : List VV} : ∀ {l : List (List VV)} {d : Bool}, z ∈ xK t key row d l -> z = row \/ z ∈ l
 | [], d, h => by
  rw [xK] at h
  split at h
  . simp at h
  . simp at h; exact .inl h
 | r :: l, d, h => by
  rw [xK] at h
  rcases BZ.1 h with h | h
  . split at h
    . simp at h; exact .inl h
    . simp at h
  . rcases BZ.1 h with h | h
    . split at h
      . simp at h; exact .inr (by simp [h])
      . simp at h
    . exact (It h).imp id λ h => D3 _ h
theorem Iu {t : u7} {key row : List VV} : ∀ {l : List (List VV)} {d : Bool}, (xK t key row d l).length <= l.length + (if d then 0 else 1)
 | [], d => by rw [xK]; cases d <;> simp
 | r :: l, d => by
  have := Iu (t := t) (key := key) (row := row) (l := l) (d := d || decide (0 <= dV (jJ t r) key))
  rw [xK]
  simp only [BG, Gi]
  by_cases h : 0 <= dV (jJ t r) key
  . cases d <;> by_cases h2 : dV (jJ t r) key = 0 <;> simp [h, h2] at this ⊢ <;> omega
  . cases d <;> by_cases h2 : dV (jJ t r) key = 0 <;> simp [h, h2] at this ⊢ <;> omega
theorem JC {t : u7} {row : List VV} : ∀ {l : List (List VV)}, Lj t l -> Lj t (xK t (jJ t row) row false l)
 | [], _ => by rw [xK]; exact List.pairwise_singleton _ _
 | r :: l, h => by
  obtain ⟨h1, h2⟩ := List.pairwise_cons.1 h
  rw [xK]
  by_cases h3 : 0 <= dV (jJ t r) (jJ t row)
  . rw [if_pos ⟨h3, rfl⟩, show (false || decide (0 <= dV (jJ t r) (jJ t row))) = true by simp [h3]]
    by_cases h4 : dV (jJ t r) (jJ t row) = 0
    . rw [if_neg (by simp [h4])]
      have e := kT.1 h4
      rw [JB λ x hx => by
       have h5 := h1 x hx
       rw [e] at h5
       have := kU (jJ t x) (jJ t row)
       omega]
      exact List.pairwise_cons.2 ⟨λ x hx => by rw [<- e]; exact h1 x hx, h2⟩
    . rw [if_pos h4]
      have h5 : dV (jJ t row) (jJ t r) < 0 := by have := kU (jJ t row) (jJ t r); omega
      rw [JB λ x hx => by
       have h6 := N5 h5 (h1 x hx)
       have := kU (jJ t x) (jJ t row)
       omega]
      refine List.pairwise_cons.2 ⟨λ x hx => ?_, h⟩
      rcases xA.1 hx with rfl | hx
      . exact h5
      . exact N5 h5 (h1 x hx)
  . rw [if_neg (by simp [h3]), if_pos aC, show (false || decide (0 <= dV (jJ t r) (jJ t row))) = false by simp [h3]]
    refine List.pairwise_cons.2 ⟨λ x hx => ?_, JC h2⟩
    rcases It hx with rfl | hx
    . omega
    . exact h1 x hx
theorem OT {st : List (List (List VV))} (h : sS s st = 0) : eH s = 0 /\ st.length = s.tables.length /\ Jq s st /\ (st.map λ l => (l.length : Int)).sum <= 512 := by
 unfold sS at h
 split at h
 . rename_i h1; exact absurd h h1
 . rename_i h1
   split at h
   . simp at h
   . rename_i h2
     split at h
     . simp at h
     . rename_i h3
       split at h
       . rename_i h4; exact ⟨Classical.not_not.1 h1, Classical.not_not.1 h3, h4, aC⟩
       . simp at h
theorem Wv {t : u7} {x y : List VV} (h : x.length = y.length) : (jJ t x).length = (jJ t y).length := by simp [jJ, h]
theorem Xq {t : u7} {x y : List VV} (h : x.length = y.length) (hk : dV (jJ t x) (jJ t y) < 0) : dV x y < 0 := by
 have h1 : x = jJ t x ++ x.drop (max 0 (min t.key x.length)).toNat := (List.take_append_drop _ _).symm
 have h2 : y = jJ t y ++ y.drop (max 0 (min t.key y.length)).toNat := (List.take_append_drop _ _).symm
 rw [h1, h2, F8 (Wv h), if_pos aC]
 exact hk
theorem Lj.of {t : u7} : ∀ {l : List (List VV)}, (∀ (i : Nat) r r', l[i]? = some r -> l[i + 1]? = some r' -> dV (jJ t r) (jJ t r') < 0) -> Lj t l
 | [], _ => List.Pairwise.nil
 | [_], _ => List.pairwise_singleton _ _
 | a :: b :: l, h => by
  have h1 : Lj t (b :: l) := Lj.of λ i r r' e1 e2 => h (i + 1) r r' e1 e2
  refine List.pairwise_cons.2 ⟨λ x hx => ?_, h1⟩
  have h0 := h 0 a b rfl rfl
  rcases xA.1 hx with rfl | hx
  . exact h0
  . exact N5 h0 ((List.pairwise_cons.1 h1).1 x hx)
theorem Lj.adj {t : u7} {l : List (List VV)} (h : Lj t l) (i : Nat) (r r' : List VV) (e1 : l[i]? = some r) (e2 : l[i + 1]? = some r') : dV (jJ t r) (jJ t r') < 0 := by
 obtain ⟨h1, rfl⟩ := mG.1 e1
 obtain ⟨h2, rfl⟩ := mG.1 e2
 exact List.pairwise_iff_getElem.1 h i (i + 1) h1 h2 aC
theorem Wb {t : ByteArray} (h : t.toList = (⟨#[]⟩ : ByteArray).toList) : t.size <= 64 := by rw [xE h]; decide
theorem Ee {t : ByteArray} (h : Ce t = true) : t.size <= 64 := Wb (by simp only [Ce, beq_iff_eq] at h; rw [h, ByteArray.toList_eq])
theorem OJ {v : VV} (h : jK v = true) : v.text.size <= 64 := by
 unfold jK at h
 split at h
 . simp only [Gf] at h; exact Ee h.2
 . split at h
   . simp only [Gf] at h; exact Ee h.2
   . split at h
     . exact Ee h
     . split at h
       . simp at h; omega
       . cases h
theorem HJ (h : (fT s ps q).2 = 0) : eH s = 0 /\ ps.all dO = true /\ kG q = true /\ (bP s ps q).2 = 0 := by
 unfold fT at h
 split at h
 . rename_i h1
   split at h
   . rename_i h2
     split at h
     . rename_i h3; exact ⟨h1, h2, h3, h⟩
     . simp [iO] at h
   . simp [iO] at h
 . rename_i h1; simp [iO] at h; exact (h1 h).elim
theorem HB {v : VV} (h : jK v = true) : 1 <= v.kind /\ v.kind <= 5 /\ v.text.size <= 64 := by
 refine ⟨?_, ?_, OJ h⟩
 all_goals
  unfold jK at h
  split at h
  . rename_i e; simp at e; omega
  . split at h
    . rename_i e; simp at e; omega
    . split at h
      . rename_i e; simp at e; omega
      . split at h
        . rename_i e; simp at e; omega
        . cases h
theorem NX {t : u7} {r : List VV} (h : CB t r = true) : r.length = t.columns.length /\ ∀ v ∈ r, jK v = true := by
 simp only [CB, Gf, decide_eq_true_eq, Tn, XX] at h
 refine ⟨h.1, λ v hv => ?_⟩
 obtain ⟨i, hi, rfl⟩ := List.mem_iff_getElem.1 hv
 have h2 := h.2 i hi
 simp only [wY, Gf, Hy, kP hi, Option.getD_some] at h2
 exact h2.1
theorem X7 {t : u7} {l : List (List VV)} (h8 : t.columns.length <= 12) (hok : Ts t l) (hv : ∀ r ∈ l, ∀ v ∈ r, Oq v.kind /\ Oq v.int) (hl : l.length <= 1000000) : iC t.columns.length l := by
 have hw : ∀ r ∈ l, r.length = t.columns.length := λ r hr => (NX (hok.1 r hr)).1
 refine ⟨λ r hr => ⟨by rw [hw r hr]; exact h8, λ v hx => ?_⟩, hw, ?_, hl⟩
 . have h1 := (NX (hok.1 r hr)).2 v hx
   have h2 := hv r hr v hx
   exact ⟨h2.1, h2.2, (HB h1).2.2⟩
 . exact (Lj.of hok.2).imp_of_mem fun {x y} hx hy h => Xq (by rw [hw x hx, hw y hy]) h
def sK (st : List (List (List VV))) (q : Query) : List (List (List VV)) := (iZ q).map λ t => st.getD t.toNat []
theorem Z0 {st : List (List (List VV))} {t : Int} (hst : sS s st = 0) (hv : StV st) (h0 : 0 <= t) (h1 : t < s.tables.length) : iC (gP s t).length (st.getD t.toNat []) /\ st.getD t.toNat [] ∈ st := by
 obtain ⟨h2, h3, h4, h5⟩ := OT hst
 have ht : t.toNat < s.tables.length := by omega
 have hl : t.toNat < st.length := by omega
 have e1 : s.tables[t.toNat]? = some s.tables[t.toNat] := kP ht
 have e2 : st[t.toNat]? = some st[t.toNat] := kP hl
 have e3 : st.getD t.toNat [] = st[t.toNat] := by rw [Hy, e2]; rfl
 have hm : st[t.toNat] ∈ st := Q8 hl
 have h8 := tA h2 _ (Q8 ht)
 have hk : (gP s t).length = s.tables[t.toNat].columns.length := by rw [gP, if_neg aC, e1]; simp
 have hle : ∀ {l : List (List (List VV))} {x}, x ∈ l -> ((x.length : Nat) : Int) <= (l.map λ l => (l.length : Int)).sum := fun {l x} => by
  induction l with
  | nil => intro h; simp at h
  | cons a l ih =>
   intro h
   have h0 : ∀ l : List (List (List VV)), 0 <= (l.map λ l => (l.length : Int)).sum := λ l => by
    induction l with
    | nil => simp
    | cons a l ih => simp only [EB, List.sum_cons]; omega
   simp only [EB, List.sum_cons]
   rcases xA.1 h with rfl | h
   . have := h0 l; omega
   . have := ih h; omega
 have := hle hm
 rw [e3, hk]
 exact ⟨X7 aC (h4 _ _ _ e1 e2) (hv _ hm) aC, hm⟩
theorem Wf {st : List (List (List VV))} {ks : List Int} {c : Nat} (hst : sS s st = 0) (hv : StV st) (hc : ∀ l ∈ st, l.length <= c) (h1 : 1 <= c) (hq : bP s ps q = (ks, 0)) (hb : mX c q <= 1000000) :
 UK (sK st q) q 0 /\ (iY (sK st q) q 0).1 = uU st q /\ iC ks.length (uU st q) /\ (uU st q).length <= 1000000 := by
 have e1 : ∀ (j : Nat) (t : Int), (iZ q)[j]? = some t -> (sK st q)[0 + j]? = some (st.getD t.toNat []) := λ j t h => by rw [Ih, sK, AD, h]; rfl
 have x := Qx h1 (ls := sK st q) (k := 0) hq ⟨λ j t h => ⟨_, e1 j t h, by
  have ht := Jw hq t (lP h)
  have := Z0 hst hv ht.1 ht.2
  exact ⟨this.1, hc _ this.2⟩⟩⟩ hb
 have y := MO (st := st) (ls := sK st q) (k := 0) hq ⟨λ j t h => by rw [Hy, e1 j t h]; rfl⟩
 have e2 : (iY (sK st q) q 0).1 = uU st q := by rw [y]
 refine ⟨x.ok, e2, by rw [<- e2]; exact x.rel, ?_⟩
 rw [<- e2]; exact Ae x.bnd hb
def aSt (s : Sl) : CV := .val (.agg ⟨[.slice s.a s.len s.cap]⟩)
def ZN : Vc.Spec := λ cvs m h K => ∃ v s, cvs = [aS v, cI 3] /\ gR h s v /\ K (cI (eH s)) m h
def sO (st : List (List (List VV))) : Int := (st.map λ l => (l.length : Int)).sum
def Ur : Vc.Spec := λ cvs m h K => ∃ s st, cvs = [aSt s] /\ Leaves h s st /\ st.length <= 1000 /\ K (cI (sO st)) m h
def UY (s : nX) (t : Int) (r : List VV) : Bool := tK s t && (match s.tables[t.toNat]? with | some tb => CB tb r | none => false)
def FL (s : nX) (t : Int) (r : List VV) : List VV := match (if tK s t then s.tables[t.toNat]? else none) with | some tb => jJ tb r | none => []
def ZP : Vc.Spec := λ cvs m h K => ∃ v s t sl r, cvs = [aS v, cI t, cS sl, cI 3] /\ gR h s v /\ cJ h sl r /\ K (cB (UY s t r)) m h
def Ug : Vc.Spec := λ cvs m h K => ∃ v s t sl r, cvs = [aS v, cI t, cS sl] /\ gR h s v /\ cJ h sl r /\ ∀ s', cJ h s' (FL s t r) -> K (cS s') m h
def Ia : Vc.Spec := λ cvs m h K => ∃ v s sl st, cvs = [aS v, cI 3, aSt sl] /\ gR h s v /\ Leaves h sl st /\ st.length <= 1000 /\ K (cI (sS s st)) m h
noncomputable def YC : Ctx := dM [(104, adQ), (105, KK)] [(7, { A := Nat × bR × Sl × MH × PH, st := λ ⟨i, t, s, m, h⟩ => cH 95 99 [(3, iv 3), (9, .at (.ptr 9 0)), (41, sv s), (42, iv s.len), (43, iv i)] [(9, .cells 86 (t.enc.map .val))] m h })]
 [(12, { A := Nat × bR × VV × Sl × Bool × MH × PH, st := λ ⟨i, t, v, s, b, m, h⟩ => cH 95 99 [(3, iv 3), (9, .at (.ptr 9 0)), (10, iv i), (11, .at (.ptr 11 0)), (12, bv b), (41, sv s), (42, iv s.len), (43, iv i)] [(9, .cells 86 (t.enc.map .val)), (11, .cells 27 (v.enc.map .val))] m h }),
  (13, { A := Nat × bR × VV × Sl × Bool × Bool × MH × PH, st := λ ⟨i, t, v, s, b, c, m, h⟩ => cH 95 99 [(3, iv 3), (9, .at (.ptr 9 0)), (10, iv i), (11, .at (.ptr 11 0)), (12, bv b), (13, bv c), (41, sv s), (42, iv s.len), (43, iv i)] [(9, .cells 86 (t.enc.map .val)), (11, .cells 27 (v.enc.map .val))] m h })] [] false
noncomputable def YD (s : Sl) (m : MH) (h : PH) : Ctx := dM [] [(3, { A := Nat × Int, st := λ ⟨i, n⟩ => cH 19 20 [(3, iv n), (7, sv s), (8, iv s.len), (9, iv i)] [] m h })] [] [] false
noncomputable def f56_ctx (v : bL) (s : Sl) (m : MH) (h : PH) : Ctx := dM [(82, ZN), (83, Ur), (84, ZP), (85, Ug), (71, Ie)]
 [(9, { A := Nat, st := λ i => cH 69 72 [(1, iv 3), (3, .at (.ptr 3 0)), (29, sv s), (30, iv s.len), (31, iv i)] [(3, .cells 43 (v.enc.map .val))] m h }),
  (12, { A := Nat × Sl × Nat, st := λ ⟨i, u, j⟩ => cH 69 72 [(1, iv 3), (3, .at (.ptr 3 0)), (8, iv i), (9, sv u), (29, sv s), (30, iv s.len), (31, iv i), (36, sv u), (37, iv u.len), (38, iv j)] [(3, .cells 43 (v.enc.map .val))] m h })] [] [] false
def PQ (v : bL) (m : MH) (h : PH) (K : CV -> MH -> PH -> Prop) : Prop :=
  lH (λ v1 s => aA (mR (cF v) = mR (cF v1)) (gR h s v1) (eE (eH s) 0 (K (dH (eH s)) m h) (K (dH 0) m h)))
def PO (s : Sl) (m : MH) (h : PH) (K : CV -> MH -> PH -> Prop) : Prop :=
  ∃ (I : Nat × Int -> Prop) (m1 : Nat × Int -> Nat), (∃ (x : Nat × Int), aA (I x) (cL 0 x.2) (aA (aI s) (bI s) (bM (bC x.1) (m = m) (h = h)))) /\ ∀ (x : Nat × Int), I x -> bA (↑x.1 : Int) (aG s) (aT (λ b o => aA (aU s.a b o) (0 <= (↑x.1 : Int)) ((↑x.1 : Int) < aG s /\ ∃ (y : Sl), aL m h b (bN o x.1 1) (aM y) /\ ∃ (x1 : Nat × Int), aA (I x1) (m1 x1 < m1 x) (aA (cL (dZ (x.2 + aG y)) x1.2) (aI s) (aA (bI s) (fK (bE x.1 1) = bV x1.1) (aA (m = m) (h = h) True)))))) (K (dH x.2) m h)
abbrev iX  : Prop := eQ (fK 3)
noncomputable abbrev lW (a : Nat × bR × Sl × MH × PH) : Sl × MH × PH := a.2.2
noncomputable abbrev pD (a : Nat × bR × Sl × MH × PH) : Sl := (lW a).1
noncomputable abbrev Cj (a : Nat × bR × Sl × MH × PH) : bR := a.2.1
noncomputable abbrev Fy (a : Nat × bR × VV × Sl × Bool × MH × PH) : Bool := a.2.2.2.2.1
noncomputable abbrev wQ (a : Nat × bR × VV × Sl × Bool × MH × PH) : Sl := a.2.2.2.1
noncomputable abbrev GA (a : Nat × bR × VV × Sl × Bool × MH × PH) : bR := a.2.1
noncomputable abbrev wR (a : Nat × bR × VV × Sl × Bool × MH × PH) : MH × PH := a.2.2.2.2.2
noncomputable abbrev sB (a : Nat × bR × VV × Sl × Bool × Bool × MH × PH) : Sl := a.2.2.2.1
noncomputable abbrev Ch (a : Nat × bR × VV × Sl × Bool × Bool × MH × PH) : bR := a.2.1
noncomputable abbrev mU (a : Nat × bR × VV × Sl × Bool × Bool × MH × PH) : MH × PH := a.2.2.2.2.2.2
attribute [push_cast] iX lW pD Cj Fy wQ GA wR sB Ch mU
def PN (v : bL) (t : Int) (s : Sl) (m : MH) (h : PH) (K : CV -> MH -> PH -> Prop) : Prop :=
  lH (λ v1 s1 => ∃ (t1 : Int), aA (bB (cF v) t = bB (cF v1) t1) (gR h s1 v1) (gK (tK s1 t1) (K aW m h) (C0 v t (λ b o => ∃ (y : bR), aL m h b (fM o t 5) (uJ y) /\ eE (aG s) (AR y) (K aW m h) (∃ (I : Nat × bR × Sl × MH × PH -> Prop) (m1 : Nat × bR × Sl × MH × PH -> Nat), (∃ (x : Nat × bR × Sl × MH × PH), aA (I x) iX (aA (eP 9) (bD s (pD x)) (aA (cM s (pD x)) (bC x.1) (aA (oQ 86 (eR y) = oQ 86 (eR (Cj x))) (bJ m (lW x).2) (lF h (lW x).2))))) /\ ∀ (x : Nat × bR × Sl × MH × PH), I x -> bA (↑x.1 : Int) (aG (pD x)) (aT (λ b1 o1 => aA (aU (pD x).a b1 o1) (0 <= (↑x.1 : Int)) ((↑x.1 : Int) < aG (pD x) /\ ∃ (y1 : VV), aL (hX (lW x)) (dP (lW x)) b1 (bN o1 x.1 3) y1.enc /\ ∃ (v2 : VV), qB (iQ y1) (iQ v2)
 (gK (jK v2) (K aW (hX (lW x)) (dP (lW x))) (∃ (I1 : Nat × bR × VV × Sl × Bool × MH × PH -> Prop), dN y1.kind 2 (∃ (x1 : Nat × bR × VV × Sl × Bool × MH × PH), aA (I1 x1) iX (aA (eP 9) (cC x.1 x1.1) (aA (eP 11) (gM (decide ((↑x.1 : Int) >= (Cj x).key)) (Fy x1)) (aA (bD (pD x) (wQ x1)) (cM (pD x) (wQ x1)) (aA (cC x.1 x1.1) (oQ 86 (eR (Cj x)) = oQ 86 (eR (GA x1))) (aA (oZ 27 y1.enc = oZ 27 x1.2.2.1.enc) (bJ (hX (lW x)) (wR x1)) (lF (dP (lW x)) (wR x1)))))))) (∃ (x1 : Nat × bR × VV × Sl × Bool × MH × PH), aA (I1 x1) iX (aA (eP 9) (cC x.1 x1.1) (aA (eP 11) (AV (Fy x1)) (aA (bD (pD x) (wQ x1)) (cM (pD x) (wQ x1)) (aA (cC x.1 x1.1) (oQ 86 (eR (Cj x)) = oQ 86 (eR (GA
 x1))) (aA (oZ 27 y1.enc = oZ 27 x1.2.2.1.enc) (bJ (hX (lW x)) (wR x1)) (lF (dP (lW x)) (wR x1)))))))) /\ ∀ (x1 : Nat × bR × VV × Sl × Bool × MH × PH), I1 x1 -> ∃ (I2 : Nat × bR × VV × Sl × Bool × Bool × MH × PH -> Prop), dN x1.2.2.1.kind 1 (∃ (x2 : Nat × bR × VV × Sl × Bool × Bool × MH × PH), aA (I2 x2) iX (aA (eP 9) (cC x1.1 x2.1) (aA (eP 11) (gM (Fy x1) x2.2.2.2.2.1) (aA (gM (decide ((↑x1.1 : Int) >= (GA x1).key)) x2.2.2.2.2.2.1) (bD (wQ x1) (sB x2)) (aA (cM (wQ x1) (sB x2)) (cC x1.1 x2.1) (aA (oQ 86 (eR (GA x1)) = oQ 86 (eR (Ch x2))) (oZ 27 x1.2.2.1.enc = oZ 27 x2.2.2.1.enc) (jG (bJ (wR x1).1 (mU x2)) (cE (wR x1).2 (mU x2))))))))) (∃ (x2 : Nat × bR × VV × Sl × Bool × Bool × MH × PH), aA (I2 x2) iX (aA
 (eP 9) (cC x1.1 x2.1) (aA (eP 11) (gM (Fy x1) x2.2.2.2.2.1) (aA (AV x2.2.2.2.2.2.1) (bD (wQ x1) (sB x2)) (aA (cM (wQ x1) (sB x2)) (cC x1.1 x2.1) (aA (oQ 86 (eR (GA x1)) = oQ 86 (eR (Ch x2))) (oZ 27 x1.2.2.1.enc = oZ 27 x2.2.2.1.enc) (jG (bJ (wR x1).1 (mU x2)) (cE (wR x1).2 (mU x2))))))))) /\ ∀ (x2 : Nat × bR × VV × Sl × Bool × Bool × MH × PH), I2 x2 -> aT (λ b2 o2 => aA (aU (Ch x2).columns.a b2 o2) (0 <= (↑x2.1 : Int)) ((↑x2.1 : Int) < aG (Ch x2).columns /\ ∃ (y2 : Int), aL (mU x2).1 (mU x2).2 b2 (bN o2 x2.1 2 + 1) (bZ y2) /\ eE x2.2.2.1.kind y2 (gK x2.2.2.2.2.1 (gK x2.2.2.2.2.2.1 (K aW (mU x2).1 (mU x2).2) (∃ (x3 : Nat × bR × Sl × MH × PH), aA (I x3) (m1 x3 < m1 x) (aA iX (eP 9) (aA (bD (sB
 x2) (pD x3)) (cM (sB x2) (pD x3)) (aA (fK (bE x2.1 1) = bV x3.1) (oQ 86 (eR (Ch x2)) = oQ 86 (eR (Cj x3))) (jG (bJ (mU x2).1 (lW x3).2) (cE (mU x2).2 (lW x3).2))))))) (∃ (x3 : Nat × bR × Sl × MH × PH), aA (I x3) (m1 x3 < m1 x) (aA iX (eP 9) (aA (bD (sB x2) (pD x3)) (cM (sB x2) (pD x3)) (aA (fK (bE x2.1 1) = bV x3.1) (oQ 86 (eR (Ch x2)) = oQ 86 (eR (Cj x3))) (jG (bJ (mU x2).1 (lW x3).2) (cE (mU x2).2 (lW x3).2))))))) (∃ (x3 : Nat × bR × Sl × MH × PH), aA (I x3) (m1 x3 < m1 x) (aA iX (eP 9) (aA (bD (sB x2) (pD x3)) (cM (sB x2) (pD x3)) (aA (fK (bE x2.1 1) = bV x3.1) (oQ 86 (eR (Ch x2)) = oQ 86 (eR (Cj x3))) (jG (bJ (mU x2).1 (lW x3).2) (cE
 (mU x2).2 (lW x3).2))))))))))))) (K fJ (hX (lW x)) (dP (lW x))))))))
def PM (v : bL) (t : Int) (s : Sl) (m : MH) (h : PH) (K : CV -> MH -> PH -> Prop) : Prop :=
  bA t 0 (K jZ m h) (fQ t (gL v) (K jZ m h) (aT (λ b o => aA (aU (pK v) b o) (0 <= t) (t < aG v.tables /\ ∃ (y : Int), aA (aL m h b (fM o t 5 + 2) (bZ y)) (0 <= ite (pE s y > 0) (pE s y) 0) (ite (pE s y > 0) (pE s y) 0 <= (↑s.cap : Int) /\ K (CV.val (Value.slice s.a (ite (pE s y > 0) (pE s y) 0).toNat s.cap)) m h)))))
noncomputable abbrev lE (a : Nat × Sl × Nat) : Sl := a.2.1
noncomputable abbrev Dh (a : Nat × Sl × Nat) : Int := dZ ((↑a.2.2 : Int) - 1)
attribute [push_cast] lE Dh
def f56_nice (v : bL) (s : Sl) (m : MH) (h : PH) (K : CV -> MH -> PH -> Prop) : Prop :=
  lH (λ v1 s1 => aA (bB (cF v) 3 = bB (cF v1) 3) (gR h s1 v1) (eE (eH s1) 0 (K (dH (eH s1)) m h) (GD (λ s2 s3 => aA (mR (kE (aM s)) = mR (kE (aM s2))) (Leaves h s2 s3) (oC s3.length /\ cW (decide (sO s3 > 512)) (K (dH 2) m h) (aG s != gL v) (K (dH 80) m h) (nG (λ I x => aA (I x) iX (aA (eP 3) (aI s) (aA (bI s) (bC x) (aA (bT v) (m = m) (cV h h))))) (λ I m1 x => I x -> bA (↑x : Int) (aG s) (aT (λ b o => aA (aU s.a b o) (0 <= (↑x : Int)) ((↑x : Int) < aG s /\ ∃ (y : Sl), aL m h b (bN o x 1) (aM y) /\ ∃ (I1 : Nat × Sl × Nat -> Prop) (m2 : Nat × Sl × Nat -> Nat), (∃ (x1 : Nat × Sl × Nat), aA (I1 x1) iX (aA (eP 3) (cC x x1.1) (aA (bD y (lE x1)) (aI s) (aA (bI s) (cC x x1.1) (aA (bD y (lE x1)) (cM y (lE
 x1)) (aA (bC x1.2.2) (bT v) (dT m m h h))))))) /\ ∀ (x1 : Nat × Sl × Nat), I1 x1 -> bA (↑x1.2.2 : Int) (aG (lE x1)) (aT (λ b1 o1 => aA (aU (lE x1).a b1 o1) (0 <= (↑x1.2.2 : Int)) ((↑x1.2.2 : Int) < aG (lE x1) /\ ∃ (y1 : Sl), aL m h b1 (bN o1 x1.2.2 1) (aM y1) /\ lH (λ v2 s4 => ∃ (t : Int), nN (λ s5 r => aA (cF v :: dH (↑x1.1 : Int) :: fF y1 3 = cF v2 :: dH t :: fF s5 3) (gR h s4 v2) (cJ h s5 r /\ cW (!(UY s4 t r)) (K (dH 80) m h) (decide ((↑x1.2.2 : Int) > 0)) (aT (λ b2 o2 => aA (aU (lE x1).a b2 o2) (0 <= Dh x1) (Dh x1 < aG (lE x1) /\ ∃ (y2 : Sl), aL m h b2 (fM o2 (Dh x1) 1) (aM y2) /\ lH (λ v3 s6 => ∃ (t1 : Int), nN (λ s7 r1 => aA (cF v :: aX (dH (↑x1.1 : Int)) (cK y2) = cF v3 :: aX (dH t1) (cK s7)) (gR h s6 v3) (cJ
 h s7 r1 /\ ∀ (s8 : Sl), cJ h s8 (FL s6 t1 r1) -> aZ h b2 (fM o2 (Dh x1) 1) (aM y2) /\ lH (λ v4 s9 => ∃ (t2 : Int), nN (λ a r2 => aA (cF v :: aX (dH (↑x1.1 : Int)) (cK y1) = cF v4 :: aX (dH t2) (cK a)) (gR h s9 v4) (cJ h a r2 /\ ∀ (a1 : Sl), cJ h a1 (FL s9 t2 r2) -> aZ h b2 (fM o2 (Dh x1) 1) (aM y2) /\ C9 s8 a1 h (λ a2 b3 => fQ (dV a2 b3) 0 (K (dH 80) m h) (∃ (x2 : Nat × Sl × Nat), aA (I1 x2) (m2 x2 < m2 x1) (aA iX (eP 3) (aA (cC x1.1 x2.1) (bD (lE x1) (lE x2)) (aA (aI s) (bI s) (aA (cC x1.1 x2.1) (bD (lE x1) (lE x2)) (aA (cM (lE x1) (lE x2)) (fK (bE x1.2.2 1) = bV x2.2.2) (bM (bT v) (m = m) (h = h)))))))))))))))))) (∃ (x2 : Nat × Sl × Nat), aA (I1 x2) (m2 x2 < m2 x1) (aA iX (eP 3) (aA (cC x1.1 x2.1) (bD
 (lE x1) (lE x2)) (aA (aI s) (bI s) (aA (cC x1.1 x2.1) (bD (lE x1) (lE x2)) (aA (cM (lE x1) (lE x2)) (fK (bE x1.2.2 1) = bV x2.2.2) (bM (bT v) (m = m) (h = h)))))))))))))) (∃ (x2 : Nat), aA (I x2) (m1 x2 < m1 x) (aA iX (eP 3) (aA (aI s) (bI s) (aA (fK (bE x1.1 1) = bV x2) (bT v) (dT m m h h)))))))) (K (dH 0) m h))))))))
theorem cJ.cut {a : Option Addr} {len cap : Nat} {r : List VV} (x : cJ h ⟨a, len, cap⟩ r) {n : Nat} (hn : n <= r.length) : cJ h ⟨a, n, cap⟩ (r.take n) := by
 obtain ⟨⟨vs, h1, h2, h3⟩, h4⟩ := x
 refine ⟨⟨vs.take n, by rw [List.map_take]; exact cN.cut h1 n (by rw [mI]; omega), by rw [Hz, Hz, h2], λ i x hx => ?_⟩, by rw [Hz]; omega⟩
 rw [DT] at hx
 split at hx
 . rename_i hi
   obtain ⟨v, e1, e2⟩ := h3 i x hx
   exact ⟨v, by rw [DT, if_pos hi]; exact e1, e2⟩
 . cases hx
theorem abQ {v : bL} (hs : gR h s v) (hK : K (cI (eH s)) m h) : PQ v m h K :=
 ⟨v, s, rfl, hs, aB (λ _ => hK) (λ e => by rw [show eH s = 0 by simpa using e] at hK; exact hK)⟩
theorem U9 : Sound Tryz.prog 82 ZN := by
 refine gX Tryz.func82 ?_
 rintro cvs m h K ⟨v, s, rfl, hs, hK⟩
 refine ⟨dM [(79, Ay)] [] [] [] false, rfl, aD LP aF, PQ v m h K, by kernel_rfl, ?_⟩
 exact abQ hs hK
theorem Leaves.lens {s : Sl} {st : List (List (List VV))} (hl : Leaves h s st) {l : List (List VV)} (hm : l ∈ st) : l.length <= 502633886983 := by
 obtain ⟨i, hi, rfl⟩ := List.mem_iff_getElem.1 hm
 obtain ⟨_, _, _, _, _, hr⟩ := bW.at hl (kP hi)
 exact hr.len
theorem CE : ∀ {l : List (List (List VV))}, (∀ x ∈ l, x.length <= 502633886983) -> 0 <= sO l /\ sO l <= (l.length : Int) * 502633886983
 | [], _ => by simp [sO]
 | a :: l, h => by
  have h1 := h a (Gh ..)
  have h2 := CE (l := l) λ x hx => h x (D3 _ hx)
  simp only [sO, EB, List.sum_cons, Gi] at h2 ⊢
  omega
theorem SR {st : List (List (List VV))} {l : List (List VV)} (h : st[i]? = some l) : sO (st.take (i + 1)) = sO (st.take i) + (l.length : Int) := by
 rw [EA, h]; simp [sO]
theorem U8 : Sound Tryz.prog 83 Ur := by
 refine gX Tryz.func83 ?_
 rintro cvs m h K ⟨s, st, rfl, hl, hn, hK⟩
 refine ⟨YD s m h, rfl, aF, PO s m h K, by kernel_rfl, ?_⟩
 dsimp only [PO, push_cast]
 have hsl := bW.slen hl
 refine ⟨λ z => z.1 <= st.length /\ z.2 = sO (st.take z.1), λ z => st.length - z.1, ⟨(0, 0), ⟨by simp, by simp [sO]⟩, MT⟩, ?_⟩
 rintro ⟨i, n⟩ ⟨hi, hn2⟩
 dsimp only at hi hn2 ⊢
 subst hn2
 refine aE (λ hlt => ?_) (λ hge => ?_)
 . obtain ⟨l, hx⟩ := fE hsl hlt
   obtain ⟨b, o, u, ea, rd, hr⟩ := bW.at hl hx
   have hul := bW.slen hr
   have hb := CE (l := st.take (i + 1)) λ x hx => hl.lens (X0 hx)
   have hb2 := (CE (l := st.take i) λ x hx => hl.lens (X0 hx)).1
   have hs := SR hx
   rw [Hz] at hb
   refine ⟨b, o, ea, aC, aC, u, .imm rd, (i + 1, sO (st.take (i + 1))), ⟨by show i + 1 <= st.length; omega, rfl⟩, by show st.length - (i + 1) < st.length - i; omega, ?_⟩
   rw [eG aC aC, hul, <- hs]
   exact MT
 . rw [EC aC]; exact hK
theorem CA {t : u7} {r : List VV} : CB t r = true ↔ r.length = t.columns.length /\ ∀ i, i < r.length -> wY t.key (t.columns.getD i ⟨⟨#[]⟩, 0⟩).kind i (r.getD i zeroV) = true := by
 simp only [CB, Gf, decide_eq_true_eq, Tn, XX]
theorem Pz {t : Int} {r : List VV} {tb : u7} (ht : s.tables[t.toNat]? = some tb) (h : tK s t = true) : UY s t r = CB tb r := by
 simp only [UY, h, ht, Q6]
theorem U7 : Sound Tryz.prog 84 ZP := by
 refine gX Tryz.func84 ?_
 rintro cvs m h K ⟨v, s, t, sl, r, rfl, hs, hv, hK⟩
 refine ⟨YC, rfl, aD KA (aD Kz aF), PN v t sl m h K, by kernel_rfl, ?_⟩
 dsimp only [PN, push_cast]
 have htl := hs.tables.slen
 have hrl := bW.slen hv
 refine ⟨v, s, t, rfl, hs, aB (λ e => ?_) (λ e => ?_)⟩
 . have e : tK s t = false := by simpa using e
   simp only [UY, e, Tk] at hK; exact hK
 have e : tK s t = true := by simpa using e
 have he := e
 simp only [tK, Gf, decide_eq_true_eq] at he
 obtain ⟨tb, htb⟩ : ∃ tb, s.tables[t.toNat]? = some tb := ⟨_, kP aC⟩
 obtain ⟨b, o, y, ea, rd, hy⟩ := bW.at hs.tables htb
 rw [Pz htb e] at hK
 have hcl := bW.slen hy.columns
 have hk := hy.key
 refine ⟨b, o, ea, he.1, aC, y, .imm rd, aB (λ e1 => ?_) (λ e1 => ?_)⟩
 . have : CB tb r = false := by
    cases e2 : CB tb r with
    | false => rfl
    | true =>
     have := (CA.1 e2).1
     simp at e1; omega
   rw [this] at hK; exact hK
 have hwl : r.length = tb.columns.length := by simp at e1; omega
 have bad : ∀ i, i < r.length -> wY tb.key (tb.columns.getD i ⟨⟨#[]⟩, 0⟩).kind i (r.getD i zeroV) = false -> K (cB false) m h := λ i hi hf => by
  have : CB tb r = false := by
   cases e2 : CB tb r with
   | false => rfl
   | true => rw [(CA.1 e2).2 i hi] at hf; cases hf
  rw [this] at hK; exact hK
 refine ⟨λ z => z.2.1 = y /\ z.2.2.1 = sl /\ z.2.2.2.1 = m /\ z.2.2.2.2 = h /\ z.1 <= r.length /\ ∀ j, j < z.1 -> wY tb.key (tb.columns.getD j ⟨⟨#[]⟩, 0⟩).kind j (r.getD j zeroV) = true, λ z => r.length - z.1, ⟨(0, y, sl, m, h), ⟨rfl, rfl, rfl, rfl, by simp, λ j hj => by simp at hj⟩, MT⟩, ?_⟩
 rintro ⟨i, y', sl', m', h'⟩ ⟨e1, e2, e3, e4, hi, hall⟩
 dsimp only at e1 e2 e3 e4 hi hall ⊢
 subst e1 e2 e3 e4
 refine aE (λ hlt => ?_) (λ hge => ?_)
 . have hil : i < r.length := by omega
   have hx : r[i]? = some (r.getD i zeroV) := by rw [Hy, kP hil]; rfl
   obtain ⟨b2, o2, x, ea2, rd2, hxx⟩ := bW.at hv hx
   subst hxx
   have hc : tb.columns[i]? = some (tb.columns.getD i ⟨⟨#[]⟩, 0⟩) := by rw [Hy, kP aC]; rfl
   obtain ⟨b3, o3, c, ea3, rd3, hcc⟩ := bW.at hy.columns hc
   have badi := bad i hil
   have alli : wY tb.key (tb.columns.getD i ⟨⟨#[]⟩, 0⟩).kind i (r.getD i zeroV) = true -> ∀ j, j < i + 1 -> wY tb.key (tb.columns.getD j ⟨⟨#[]⟩, 0⟩).kind j (r.getD j zeroV) = true := λ hf j hj => by
    by_cases e5 : j = i
    . rw [e5]; exact hf
    . exact hall j aC
   generalize r.getD i zeroV = x at badi alli rd2 hx
   rw [hcc] at badi alli
   have go : wY tb.key c.kind i x = true -> ∃ z : Nat × bR × Sl × MH × PH, (z.2.1 = y' /\ z.2.2.1 = sl' /\ z.2.2.2.1 = m' /\ z.2.2.2.2 = h' /\ z.1 <= r.length /\ ∀ j, j < z.1 -> wY tb.key (tb.columns.getD j ⟨⟨#[]⟩, 0⟩).kind j (r.getD j zeroV) = true) /\ r.length - z.1 < r.length - i /\ z = (i + 1, y', sl', m', h') := λ hf => ⟨_, ⟨rfl, rfl, rfl, rfl, by show i + 1 <= r.length; omega, alli hf⟩, by show r.length - (i + 1) < r.length - i; omega, rfl⟩
   refine ⟨b2, o2, ea2, aC, aC, x, .imm rd2, x, rfl, aB (λ ev => badi ?_) (λ ev => ?_)⟩
   . have ev : jK x = false := by simpa using ev
     simp [wY, ev]
   have ev : jK x = true := by simpa using ev
   refine ⟨λ z => z = (i, y', x, sl', (x.kind == 2 && decide ((i : Int) >= y'.key)), m', h'), aB (λ e2 => ⟨_, rfl, by rw [e2]; exact MT⟩) (λ e2 => ⟨_, rfl, by rw [e2]; exact MT⟩), ?_⟩
   rintro _ rfl
   dsimp only
   refine ⟨λ z => z = (i, y', x, sl', (x.kind == 2 && decide ((i : Int) >= y'.key)), (x.kind == 1 && decide ((i : Int) >= y'.key)), m', h'), aB (λ e2 => ⟨_, rfl, by rw [e2]; exact MT⟩) (λ e2 => ⟨_, rfl, by rw [e2]; exact MT⟩), ?_⟩
   rintro _ rfl
   dsimp only
   have hfv : wY tb.key c.kind i x = (x.kind == c.kind || ((x.kind == 2 && decide ((i : Int) >= y'.key)) || (x.kind == 1 && decide ((i : Int) >= y'.key)))) := by
    rw [hk]; simp only [wY, ev, Q6, ge_iff_le, Bool.and_or_distrib_right]
   generalize hb1 : (x.kind == 2 && decide ((i : Int) >= y'.key)) = B1 at hfv ⊢
   generalize hb2 : (x.kind == 1 && decide ((i : Int) >= y'.key)) = B2 at hfv ⊢
   refine ⟨b3, o3, ea3, aC, aC, c.kind, .imm (aZ.part rd3 1 1), aB (λ e3 => aB (λ e4 => aB (λ e5 => badi ?_) (λ e5 => ?_)) (λ e4 => ?_)) (λ e3 => ?_)⟩
   . have e3 : (x.kind == c.kind) = false := by simpa using e3
     have e4 : B1 = false := by simpa using e4
     have e5 : B2 = false := by simpa using e5
     rw [hfv, e3, e4, e5]; rfl
   all_goals
    obtain ⟨_, g1, g2, rfl⟩ := go (by rw [hfv]; simp_all)
    refine ⟨_, g1, g2, ?_⟩
    dsimp only
    rw [kC (by have := bW.len hv; omega)]
    exact MT
 . have : CB tb r = true := CA.2 ⟨hwl, λ j hj => hall j aC⟩
   rw [this] at hK; exact hK
theorem U6 : Sound Tryz.prog 85 Ug := by
 refine gX Tryz.func85 ?_
 rintro cvs m h K ⟨v, s, t, sl, r, rfl, hs, hv, hK⟩
 refine ⟨dM [] [] [] [] false, rfl, aF, PM v t sl m h K, by kernel_rfl, ?_⟩
 dsimp only [PM, push_cast]
 have htl := hs.tables.slen
 have hrl := bW.slen hv
 have none_ : tK s t = false -> K jZ m h := λ e => hK ⟨none, 0, 0⟩ (by simp only [FL, e]; exact bW.nil _ _ _ _)
 refine aE (λ h1 => none_ (by simp [tK]; omega)) (λ h1 => aE (λ h2 => none_ (by simp [tK]; omega)) (λ h2 => ?_))
 have e : tK s t = true := by simp [tK]; omega
 obtain ⟨tb, htb⟩ : ∃ tb, s.tables[t.toNat]? = some tb := ⟨_, kP aC⟩
 obtain ⟨b, o, y, ea, rd, hy⟩ := bW.at hs.tables htb
 have hk := hy.key
 obtain ⟨a, len, cap⟩ := sl
 have hcap : len <= cap := by obtain ⟨vs, h5, _⟩ := hv.ex; exact h5.cap
 have hrl : len = r.length := hrl
 have hmm : (if (if (len : Int) < y.key then (len : Int) else y.key) > 0 then (if (len : Int) < y.key then (len : Int) else y.key) else 0) = max 0 (min tb.key r.length) := by
  rw [<- hk]; split <;> split <;> omega
 refine ⟨b, o, ea, aC, aC, y.key, .imm (aZ.part rd 2 1), ?_⟩
 dsimp only
 rw [hmm]
 refine ⟨aC, aC, hK ⟨a, (max 0 (min tb.key r.length)).toNat, cap⟩ ?_⟩
 have e2 : FL s t r = r.take (max 0 (min tb.key r.length)).toNat := by simp only [FL, e, if_true, htb]; rfl
 rw [e2]
 exact hv.cut aC
theorem Dr {t : Nat} {tb : u7} (h : s.tables[t]? = some tb) (r : List VV) : FL s t r = jJ tb r := by
 have : t < s.tables.length := (mG.1 h).1
 have e : tK s (t : Int) = true := by simp [tK]; omega
 simp only [FL, e, if_true, Int.toNat_natCast, h]
theorem TN {t : Nat} {tb : u7} (h : s.tables[t]? = some tb) (r : List VV) : UY s t r = CB tb r := by
 have : t < s.tables.length := (mG.1 h).1
 have e : tK s (t : Int) = true := by simp [tK]; omega
 exact Pz (by simpa using h) e
theorem f56_sound : Sound Tryz.prog 56 Ia := by
 refine gX Tryz.func56 ?_
 rintro cvs m h K ⟨v, s, sl, st, rfl, hs, hl, hn, hK⟩
 refine ⟨f56_ctx v sl m h, rfl, aD U9 (aD U8 (aD U7 (aD U6 (aD Dt aF)))), f56_nice v sl m h K, by kernel_rfl, ?_⟩
 dsimp only [f56_nice, push_cast]
 have htl := hs.tables.slen
 have hsl := bW.slen hl
 unfold sS at hK
 refine ⟨v, s, rfl, hs, aB (λ e => ?_) (λ e => ⟨sl, st, rfl, hl, hn, aE (λ e2 => ?_) (λ e2 => aB (λ e3 => ?_) (λ e3 => ?_))⟩)⟩
 . rw [if_pos (by simpa using e)] at hK; exact hK
 all_goals rw [if_neg (by simpa using e)] at hK
 . rw [if_pos (by unfold sO at e2; omega)] at hK; exact hK
 all_goals rw [if_neg (by unfold sO at e2; omega)] at hK
 . rw [if_pos (by simp at e3; omega)] at hK; exact hK
 have hlen : st.length = s.tables.length := by simp at e3; omega
 rw [if_neg (by simp [hlen])] at hK
 have bad : ¬ Jq s st -> K (cI 80) m h := λ hb => by rw [if_neg hb] at hK; exact hK
 refine ⟨λ i => i <= st.length /\ ∀ (j : Nat) t l, j < i -> s.tables[j]? = some t -> st[j]? = some l -> Ts t l, λ i => st.length - i, ⟨0, ⟨by simp, λ j t l hj => by omega⟩, MT⟩, ?_⟩
 rintro i ⟨hi, hall⟩
 refine aE (λ hlt => ?_) (λ hge => ?_)
 . obtain ⟨l, hx⟩ := fE hsl hlt
   obtain ⟨b, o, u, ea, rd, hr⟩ := bW.at hl hx
   have hul := bW.slen hr
   have hll := bW.len hr
   obtain ⟨tb, htb⟩ : ∃ tb, s.tables[i]? = some tb := ⟨_, kP aC⟩
   have badi : ¬ Ts tb l -> K (cI 80) m h := λ hb => bad λ hok => hb (hok i tb l htb hx)
   refine ⟨b, o, ea, aC, aC, u, .imm rd, λ z => z.1 = i /\ z.2.1 = u /\ z.2.2 <= l.length /\ (∀ k r, k < z.2.2 -> l[k]? = some r -> CB tb r = true) /\ ∀ k r r', k + 1 < z.2.2 -> l[k]? = some r -> l[k + 1]? = some r' -> dV (jJ tb r) (jJ tb r') < 0, λ z => l.length - z.2.2, ⟨(i, u, 0), ⟨rfl, rfl, by simp, λ k r hk => by simp at hk, λ k r r' hk => by simp at hk⟩, MT⟩, ?_⟩
   rintro ⟨i', u', j⟩ ⟨e1, e2, hj, hfit, hkey⟩
   dsimp only at e1 e2 hj hfit hkey ⊢
   subst e1 e2
   refine aE (λ hlt2 => ?_) (λ hge2 => ?_)
   . obtain ⟨r, hxr⟩ := fE hul hlt2
     obtain ⟨b2, o2, w, ea2, rd2, hv⟩ := bW.at hr hxr
     refine ⟨b2, o2, ea2, aC, aC, w, .imm rd2, v, s, i', w, r, rfl, hs, hv, aB (λ ef => badi λ hok => ?_) (λ ef => ?_)⟩
     . rw [TN htb, hok.1 r (lP hxr)] at ef; cases ef
     have hf : CB tb r = true := by rw [TN htb] at ef; simpa using ef
     have hfit' : ∀ k r, k < j + 1 -> l[k]? = some r -> CB tb r = true := λ k r' hk hr' => by
      by_cases e5 : k = j
      . subst e5; rw [hxr] at hr'; cases hr'; exact hf
      . exact hfit k r' aC hr'
     refine aE (λ hj0 => ?_) (λ hj0 => ?_)
     . have hw : IntKind.i64.wrap ((j : Int) - 1) = ((j - 1 : Nat) : Int) := by rw [eG aC aC]; omega
       obtain ⟨r0, hx0⟩ : ∃ r0, l[j - 1]? = some r0 := ⟨_, kP aC⟩
       obtain ⟨b3, o3, w3, ea3, rd3, hv3⟩ := bW.at hr hx0
       rw [hw]
       refine ⟨b3, o3, ea3, aC, aC, w3, .imm rd3, v, s, i', w3, r0, rfl, hs, hv3, λ s1 hs1 => ⟨rd3, v, s, i', w, r, rfl, hs, hv, λ s2 hs2 => ⟨rd3, s1, s2, _, _, rfl, hs1, hs2, aE (λ hc => badi λ hok => ?_) (λ hc => ?_)⟩⟩⟩
       . rw [Dr htb, Dr htb] at hc
         have := hok.2 (j - 1) r0 r hx0 (by rw [show j - 1 + 1 = j by omega]; exact hxr)
         omega
       . rw [Dr htb, Dr htb] at hc
         refine ⟨(i', u', j + 1), ⟨rfl, rfl, by show j + 1 <= l.length; omega, hfit', λ k r1 r2 hk h1 h2 => ?_⟩, by show l.length - (j + 1) < l.length - j; omega, ?_⟩
         . by_cases e5 : k + 1 = j
           . have : k = j - 1 := by omega
             subst this
             rw [hx0] at h1
             rw [e5, hxr] at h2
             cases h1; cases h2
             omega
           . exact hkey k r1 r2 (by have : k + 1 < j + 1 := hk; omega) h1 h2
         . dsimp only
           rw [kC aC]; exact MT
     . refine ⟨(i', u', j + 1), ⟨rfl, rfl, by show j + 1 <= l.length; omega, hfit', λ k r1 r2 hk h1 h2 => by have : k + 1 < j + 1 := hk; omega⟩, by show l.length - (j + 1) < l.length - j; omega, ?_⟩
       dsimp only
       rw [kC aC]; exact MT
   . refine ⟨i' + 1, ⟨aC, λ k t l' hk ht hl' => ?_⟩, aC, ?_⟩
     . by_cases e5 : k = i'
       . subst e5
         rw [htb] at ht; cases ht
         rw [hx] at hl'; cases hl'
         refine ⟨λ r hr => ?_, λ k r r' h1 h2 => hkey k r r' ?_ h1 h2⟩
         . obtain ⟨n, hn, rfl⟩ := List.mem_iff_getElem.1 hr
           exact hfit n _ aC (kP hn)
         . have := (mG.1 h2).1; omega
       . exact hall k t l' aC ht hl'
     . rw [kC aC]; exact MT
 . rw [if_pos] at hK
   . exact hK
   . exact λ j t l h1 h2 => hall j t l (by have := (mG.1 h2).1; omega) h1 h2
def Ic : Vc.Spec := λ cvs m h K => ∃ sc p v s ps q, cvs = [aS sc, cS p, aQ v] /\ gR h s sc /\ Ints h p ps /\ cR h q v /\ kG q = true /\ KR K m h (fT s ps q)
noncomputable def f55q_ctx (p : Sl) (N : Nat) : Ctx := { vO [(79, Ay), (80, Oe), (81, BF N)]
 [(5, { A := Nat × Nat × Nat × Nat × Nat × MH × PH, st := λ ⟨i, a, b, c, d, m, h⟩ => cH 53 56 [(1, sv p), (3, vv (.pointer (some ⟨a, 0, none⟩))), (5, vv (.pointer (some ⟨b, 0, none⟩))), (6, vv (.pointer (some ⟨c, 0, none⟩))), (7, vv (.pointer (some ⟨d, 0, none⟩))), (18, sv p), (19, iv p.len), (20, iv i)] [] m h })] [] [] [200003, 200005, 200006, 200007, 200011, 0] [] false with elemT := [3, 38] }
noncomputable abbrev nH (a : Nat × Nat × Nat × Nat × Nat × MH × PH) : Nat := a.2.2.2.1
noncomputable abbrev iJ (a : Nat × Nat × Nat × Nat × Nat × MH × PH) : Nat × MH × PH := iS a.2
noncomputable abbrev nI (a : Nat × Nat × Nat × Nat × Nat × MH × PH) : Nat := (iJ a).1
abbrev NC (a b : Int) (c : Prop) (d : (Nat × Nat × Nat × Nat × Nat × MH × PH) -> Prop) : Prop := eE a b c (∃ (x : Nat × Nat × Nat × Nat × Nat × MH × PH), d x)
attribute [push_cast] nH iJ nI NC
def f55q_nice (sc : bL) (p : Sl) (v : QV) (N : Nat) (m : MH) (h : PH) (K : CV -> MH -> PH -> Prop) : Prop :=
  ∀ (b : Nat) (m1 : MH), bK (cD m h b) (bG m m1 b (iD (pP sc) (pO sc)) 43) (∀ (b1 : Nat) (m2 : MH), bK (cD m1 h b1) (bG m1 m2 b1 v.enc 38) (∀ (b2 : Nat) (m3 : MH), bK (cD m2 h b2) (bG m2 m3 b2 hU 33) (∀ (b3 : Nat) (m4 : MH), bK (cD m3 h b3) (bG m3 m4 b3 (iK bO) 54) (∃ (y : bL), aL m4 h b 0 (iD (pP y) (pO y)) /\ lH (λ v1 s => aA (mR (cF y) = mR (cF v1)) (gR h s v1) (eE (eH s) 0 (gG (λ c E => aA (uT m4 b2 (eV c E 0)) (fD 0 c) (∀ (m5 : MH), bG m4 m5 b2 (eU sR 1 c) E -> gG (λ c1 E1 => aA (uT m5 b3 (eV c1 E1 0)) (fD 0 c1) (∀ (m6 : MH), bG m5 m6 b3 (eU (dQ (eH s)) 1 c1) E1 -> hP m6 h b2 0 (λ y1 => ∃ (y2 : Int), aL m6 h b3 0 (bZ y2) /\ K (CV.tup (bB (cK y1) y2)) m6 h)))))) (∃ (I : Nat × Nat × Nat × Nat × Nat × MH × PH -> Prop) (m5
 : Nat × Nat × Nat × Nat × Nat × MH × PH -> Nat), (∃ (x : Nat × Nat × Nat × Nat × Nat × MH × PH), aA (I x) (aI p) (aA (cY b x.2.1) (cY b1 x.2.2.1) (aA (cY b2 (nH x)) (cY b3 (nI x)) (aA (aI p) (bI p) (bM (bC x.1) (bJ m4 (iJ x).2) (cE h (iJ x).2)))))) /\ ∀ (x : Nat × Nat × Nat × Nat × Nat × MH × PH), I x -> bA (↑x.1 : Int) (aG p) (aT (λ b4 o => aA (aU p.a b4 o) (0 <= (↑x.1 : Int)) ((↑x.1 : Int) < aG p /\ ∃ (y1 : Int), aL (dD (iJ x)) (cO (iJ x)) b4 (bN o x.1 1) (bZ y1) /\ NC y1 3 (NC y1 4 (NC y1 5 (gG (λ c E => aA (uT (dD (iJ x)) (nH x) (eV c E 0)) (fD 0 c) (∀ (m6 : MH), bG (dD (iJ x)) m6 (nH x) (eU sR 1 c) E -> gG (λ c1 E1 => aA (uT m6 (nI x) (eV c1 E1 0)) (fD 0 c1) (∀ (m7 : MH), bG m6 m7 (nI x)
 (eU (dQ 1) 1 c1) E1 -> hP m7 (cO (iJ x)) (nH x) 0 (λ y2 => ∃ (y3 : Int), aL m7 (cO (iJ x)) (nI x) 0 (bZ y3) /\ K (CV.tup (bB (cK y2) y3)) m7 (cO (iJ x)))))))) (λ x1 => aA (I x1) (m5 x1 < m5 x) (aA (aI p) (cY x.2.1 x1.2.1) (aA (cY x.2.2.1 x1.2.2.1) (cY (nH x) (nH x1)) (aA (cY (nI x) (nI x1)) (aI p) (lX (bI p) (fK (bE x.1 1) = bV x1.1) (bJ (dD (iJ x)) (iJ x1).2) (cE (cO (iJ x)) (iJ x1).2))))))) (λ x1 => aA (I x1) (m5 x1 < m5 x) (aA (aI p) (cY x.2.1 x1.2.1) (aA (cY x.2.2.1 x1.2.2.1) (cY (nH x) (nH x1)) (aA (cY (nI x) (nI x1)) (aI p) (lX (bI p) (fK (bE x.1 1) = bV x1.1) (bJ (dD (iJ x)) (iJ x1).2) (cE (cO (iJ x)) (iJ x1).2))))))) (λ x1 => aA (I x1) (m5
 x1 < m5 x) (aA (aI p) (cY x.2.1 x1.2.1) (aA (cY x.2.2.1 x1.2.2.1) (cY (nH x) (nH x1)) (aA (cY (nI x) (nI x1)) (aI p) (lX (bI p) (fK (bE x.1 1) = bV x1.1) (bJ (dD (iJ x)) (iJ x1).2) (cE (cO (iJ x)) (iJ x1).2))))))))) (∀ (b4 : Nat) (m6 : MH), bK (cD (dD (iJ x)) (cO (iJ x)) b4) (bG (dD (iJ x)) m6 b4 (iK bO) 3) (gG (λ c E => aA (uT m6 b4 (eV c E 0)) (fD 0 c) (∀ (m7 : MH), bG m6 m7 b4 (eU bO 1 c) E -> ∃ (y1 : QV), aL m7 (cO (iJ x)) x.2.2.1 0 y1.enc /\ ∃ (v2 : QV), jT (qA y1 = qA v2) (λ b5 => ∀ (h1 : PH), dG (cO (iJ x)) h1 (aZ h1 b5 0 v2.enc) (∃ (S : PH -> List Value -> List (List Value) -> Prop) (x1 : List (Int × QV)) (I1 : Nat -> MH -> PH -> Prop), aA (CM Proofs.Tryz.prog 114 S) (S h1 (iK (UC b5 0))
 (List.map (fun (x2 : Int × QV) => iD (dQ x2.1) (Value.agg (Array.mk x2.2.enc))) x1)) (aA (I1 0 m7 h1) (∀ (k : Nat) (e : Int) (e1 : QV), dW (λ m8 h2 => bK (x1[k]? = Option.some (e, e1)) (PH.le h1 h2) (I1 k m8 h2 -> tV m8 h2 b4 0 (λ y2 => gG (λ c1 E1 => aA (uT m8 b4 (eV c1 E1 0)) (fD 0 c1) (∀ (m9 : MH), bG m8 m9 b4 (eU (dQ (dZ (y2 + 1))) 1 c1) E1 -> tV m9 h2 b4 0 (λ y3 => cW (decide (y3 > 24)) (gG (λ c2 E2 => aA (uT m9 (nH x) (eV c2 E2 0)) (fD 0 c2) (∀ (a : MH), bG m9 a (nH x) (eU sR 1 c2) E2 -> gG (λ c3 E3 => aA (uT a (nI x) (eV c3 E3 0)) (fD 0 c3) (∀ (a1 : MH), bG a a1 (nI x) (eU (dQ 2) 1 c3) E3 -> False))))) (decide (e > 8)) (gG (λ c2 E2 => aA (uT m9 (nH x) (eV c2 E2 0)) (fD 0 c2) (∀ (a : MH), bG m9 a (nH x) (eU sR 1 c2) E2 -> gG
 (λ c3 E3 => aA (uT a (nI x) (eV c3 E3 0)) (fD 0 c3) (∀ (a1 : MH), bG a a1 (nI x) (eU (dQ 2) 1 c3) E3 -> False))))) (I1 (k + 1) m9 h2)))))))) (dW (λ m8 h2 => dG h1 h2 (I1 x1.length m8 h2) (∃ (y2 : bL), aL m8 h2 x.2.1 0 (iD (pP y2) (pO y2)) /\ ∃ (y3 : QV), aL m8 h2 x.2.2.1 0 y3.enc /\ Fh y2 p y3 h2 (λ v3 s1 p1 q => aA (cR h2 q v3) (qE q N) (AS h2 (bP s1 p1 q) (λ s2 h3 => gG (λ c1 E1 => aA (uT m8 (nH x) (eV c1 E1 0)) (fD 0 c1) (∀ (m9 : MH), bG m8 m9 (nH x) (eU (eA s2) 1 c1) E1 -> gG (λ c2 E2 => aA (uT m9 (nI x) (eV c2 E2 0)) (fD 0 c2) (∀ (a : MH), bG m9 a (nI x) (eU (dQ (bP s1 p1 q).2) 1 c2) E2 -> hP a h3 (nH x) 0 (λ y4 => ∃ (y5 : Int), aL a h3 (nI x) 0 (bZ y5) /\ K (CV.tup (bB (cK y4) y5)) a h3)))))))))))))))))))))))))
mutual
theorem KE : ∀ (p : Query) (n : Nat), lO p n = false -> DQ p <= n
 | .mk _ _ _ _ _ _ _ _ args, 0, h => by simp [lO] at h
 | .mk _ _ _ _ _ _ _ _ args, n + 1, h => by
  simp only [lO] at h
  have := H4 args n h
  simp only [DQ]; omega
theorem H4 : ∀ (ps : List Query) (n : Nat), sN ps n = false -> zF ps <= n
 | [], _, _ => by simp [zF]
 | p :: ps, n, h => by
  simp only [sN, Zz] at h
  have h1 := KE p n h.1
  have h2 := H4 ps n h.2
  simp only [zF]; omega
end
mutual
theorem qW.deep {h : PH} : ∀ {q : Query} {v : QV} {d : Nat} {es : List (Nat × QV)}, qW h q v d es -> ∀ e ∈ es, e.1 < d + DQ q
 | .mk op ta _ _ _ _ _ _ args, v, d, es, w, e, he => by
  rw [qW] at w
  obtain ⟨vs, ess, h1, h2, rfl⟩ := w
  simp only [DQ]
  rcases xA.1 he with rfl | he
  . show d < _; omega
  . have := gT.deep h2 e he; omega
theorem gT.deep {h : PH} : ∀ {qs : List Query} {vs : List QV} {d : Nat} {es : List (Nat × QV)}, gT h qs vs d es -> ∀ e ∈ es, e.1 < d + zF qs
 | [], vs, d, es, w, e, he => by rw [gT] at w; rw [w.2] at he; simp at he
 | q :: qs, vs, d, es, w, e, he => by
  rw [gT] at w
  obtain ⟨v, vs', e1, e2, h1, h2, h3, h4, rfl⟩ := w
  simp only [zF]
  rcases BZ.1 he with he | he
  . have := qW.deep h3 e he; omega
  . have := gT.deep h4 e he; omega
end
theorem Wk {m mx : MH} {h hx : PH} {b6 b7 : Nat} {x6 x7 : Value} {sl : Sl} {e : Int} {K : CV -> MH -> PH -> Prop} (h67 : b6 ≠ b7) (n6 : m b6 = none) (n7 : m b7 = none) (a6 : mx b6 = some (.cells #[x6] 33 (0, 0))) (a7 : mx b7 = some (.cells #[x7] 54 (0, 0))) (s : Sub m mx) (le : PH.le h hx) (hK : K (.tup [cS sl, cI e]) m hx) :
 ∃ (cs : Array Value) (E : TypeId), uT mx b6 (.cells cs E (0, 0)) /\ 0 < cs.size /\ ∀ m' : MH, jH mx m' b6 (.cells (Array.mk (eA sl :: cs.toList.drop 1)) E (0, 0)) -> ∃ (cs : Array Value) (E : TypeId), uT m' b7 (.cells cs E (0, 0)) /\ 0 < cs.size /\ ∀ m2 : MH, jH m' m2 b7 (.cells (Array.mk (dQ e :: cs.toList.drop 1)) E (0, 0)) -> ∃ y : Sl, aL m2 hx b6 0 [eA y] /\ ∃ y1 : Int, aL m2 hx b7 0 [dQ y1] /\ cZ h K (.tup [cS y, cI y1]) m2 hx := by
 refine ⟨_, _, ⟨a6⟩, by simp, λ m1 u1 => ⟨_, _, ⟨by rw [u1.other b7 (Ne.symm h67)]; exact a7⟩, by simp, λ m2 u2 => ⟨sl, .of_m (by rw [u2.other b6 h67]; exact u1.at_) rfl, e, .of_m u2.at_ rfl, λ _ => ⟨m, hx, λ b o e2 => ?_, le, λ b i v e2 => .inl e2, hK⟩⟩⟩⟩
 rw [u2.other b (λ e3 => by rw [e3, n7] at e2; cases e2), u1.other b (λ e3 => by rw [e3, n6] at e2; cases e2)]
 exact s b o e2
theorem f55q_sound : Sound Tryz.prog 55 Ic := by
 refine D1 Tryz.func55 ?_
 rintro cvs m h K ⟨sc, p, v, s, ps, q, rfl, hs, hp, hq, hsm, hK⟩
 refine ⟨f55q_ctx p (SizeOf.sizeOf q + 1), rfl, aD LP (aD Kg (aD (Va _) aF)), f55q_nice sc p v (SizeOf.sizeOf q + 1) m h (cZ h K), by kernel_rfl, ?_⟩
 show f55q_nice sc p v (SizeOf.sizeOf q + 1) m h (cZ h K)
 dsimp only [f55q_nice, push_cast]
 have hl := hp.slen
 have hlen := hp.len
 have hcn := Lp hsm
 have hdp : DQ q <= 8 := KE q 8 (by simp only [kG, Gf, V5] at hsm; exact hsm.2)
 unfold fT at hK
 rw [if_pos hsm] at hK
 intro b3 m1 u1 w1 b5 m2 u2 w2 b6 m3 u3 w3 b7 m4 u4 w4
 obtain ⟨s1, n3⟩ := gE (Sub.refl m) u1 w1
 obtain ⟨s2, n5⟩ := gE s1 u2 w2
 obtain ⟨s3, n6⟩ := gE s2 u3 w3
 obtain ⟨s4, n7⟩ := gE s3 u4 w4
 have up : ∀ {ma mb : MH} {b : Nat} {o : Obj} {hh : PH}, cD ma hh b -> jH ma mb b o -> ∀ {x o'}, ma x = some o' -> mb x = some o' := fun {ma mb b o hh} u w {x o'} e => by rw [w.other x (λ e2 => by rw [e2, u.m_] at e; cases e)]; exact e
 have a3 := up u4 w4 (up u3 w3 (up u2 w2 w1.at_))
 have a5 := up u4 w4 (up u3 w3 w2.at_)
 have a6 := up u4 w4 w3.at_
 have a7 := w4.at_
 have d67 : b6 ≠ b7 := λ e => by have e2 := w3.at_; rw [e, u4.m_] at e2; cases e2
 refine ⟨sc, .of_m a3 rfl, sc, s, rfl, hs, aB (λ h1 => ?_) (λ h1 => ?_)⟩
 . rw [if_neg (by simpa using h1)] at hK
   exact Wk (sl := bX) d67 n6 n7 a6 a7 s4 (.refl _) (hK bX h (.refl _) (iL h))
 have h1 : eH s = 0 := by simpa using h1
 rw [if_pos h1] at hK
 refine ⟨λ z => z.2 = (b3, b5, b6, b7, m4, h) /\ z.1 <= ps.length /\ (ps.take z.1).all dO = true, λ z => ps.length - z.1, ⟨(0, b3, b5, b6, b7, m4, h), ⟨rfl, by simp, by simp⟩, MT⟩, ?_⟩
 rintro ⟨i, z⟩ ⟨ez, hi, hall⟩
 dsimp only at ez hi hall
 subst ez
 dsimp only
 refine aE (λ hlt => ?_) (λ hge => ?_)
 . obtain ⟨x, hx⟩ := fE hl hlt
   obtain ⟨b, o, e, r⟩ := hp.at' hx
   have good : dO x = true -> (ps.take (i + 1)).all dO = true := λ hc => by rw [xZ hx, hall, hc]; rfl
   have hw : IntKind.i64.wrap ((i : Int) + 1) = ((i + 1 : Nat) : Int) := kC aC
   have go : dO x = true -> ((i + 1, b3, b5, b6, b7, m4, h) : Nat × Nat × Nat × Nat × Nat × MH × PH).2 = (b3, b5, b6, b7, m4, h) /\ i + 1 <= ps.length /\ (ps.take (i + 1)).all dO = true := λ hc => ⟨rfl, aC, good hc⟩
   rw [hw]
   refine ⟨b, o, e, aC, hlt, x, .imm r, aB (λ c1 => aB (λ c2 => aB (λ c3 => ?_) (λ c3 => ⟨(i + 1, b3, b5, b6, b7, m4, h), go ?_, by show ps.length - (i + 1) < ps.length - i; omega, MT⟩)) (λ c2 => ⟨(i + 1, b3, b5, b6, b7, m4, h), go ?_, by show ps.length - (i + 1) < ps.length - i; omega, MT⟩)) (λ c1 => ⟨(i + 1, b3, b5, b6, b7, m4, h), go ?_, by show ps.length - (i + 1) < ps.length - i; omega, MT⟩)⟩
   . have : dO x = false := by simp_all [dO]
     rw [if_neg (λ e => by rw [zJ hx this] at e; cases e)] at hK
     exact Wk (sl := bX) d67 n6 n7 a6 a7 s4 (.refl _) (hK bX h (.refl _) (iL h))
   . simp_all [dO]
   . simp_all [dO]
   . simp_all [dO]
 rw [EC aC] at hall
 rw [if_pos hall] at hK
 intro b11 m5 u5 w5
 refine ⟨_, _, ⟨w5.at_⟩, by simp, λ m6 w6 => ?_⟩
 have k6 : ∀ {x o'}, m4 x = some o' -> m6 x = some o' /\ x ≠ b11 := fun {x o'} e => by
  have : x ≠ b11 := λ e2 => by rw [e2, u5.m_] at e; cases e
  exact ⟨by rw [w6.other x this]; exact up u5 w5 e, this⟩
 refine ⟨v, .of_m (k6 a5).1 rfl, v, rfl, λ bw h1' le1 hbw => ?_⟩
 obtain ⟨es, hw⟩ := qW.of (hq.mono le1) 1
 have hes := hw.small
 have hdeep := hw.deep
 refine ⟨Je, es.map λ e => ((e.1 : Int), e.2), λ k mx hx => hx = h1' /\ Ax m6 mx b11 /\ mx b11 = some (.cells #[dQ (k : Nat)] 3 (0, 0)), TH, ⟨bw, v, q, es, rfl, hbw, hw, aC, by rw [List.map_map]; rfl⟩, ⟨rfl, λ x o e _ => e, w6.at_⟩, ?_, ?_⟩
 . rintro k d e' mx hx hk - ⟨rfl, hsx, hb11⟩
   rw [AD] at hk
   cases hek : es[k]? with
   | none => rw [hek] at hk; cases hk
   | some e =>
    rw [hek] at hk
    simp only [Option.map_some, sW, Ez] at hk
    obtain ⟨rfl, rfl⟩ := hk
    have hkl := (mG.1 hek).1
    have hde := hdeep e (lP hek)
    have hw2 : IntKind.i64.wrap ((k : Int) + 1) = ((k + 1 : Nat) : Int) := kC aC
    refine ⟨k, .of_m hb11 rfl, _, _, ⟨hb11⟩, by simp, λ m7 w7 => ⟨((k + 1 : Nat) : Int), ?_, aE (λ hgt => by omega) (λ _ => aE (λ hgt => by omega) (λ _ => ⟨rfl, λ x o e1 e2 => by rw [w7.other x e2]; exact hsx x o e1 e2, ?_⟩))⟩⟩
    . rw [<- hw2]; exact .of_m w7.at_ rfl
    . rw [<- hw2]; exact w7.at_
 . rintro mx hx - ⟨rfl, hsx, hb11⟩
   have kx : ∀ {x o'}, m4 x = some o' -> mx x = some o' := fun {x o'} e => hsx x o' (k6 e).1 (k6 e).2
   refine ⟨sc, .of_m (kx a3) rfl, v, .of_m (kx a5) rfl, sc, p, v, s, ps, q, rfl, hs.mono le1, tA h1, hp.mono le1, hq.mono le1, aC, λ sl h7 le7 hi7 => ?_⟩
   exact Wk d67 n6 n7 (kx a6) (kx a7) (λ x o e => kx (s4 x o e)) (le1.trans le7) (hK sl h7 (le1.trans le7) hi7)
noncomputable def DO (s : nX) (st : List (List (List VV))) (q : Query) : List (List VV) × Int :=
 if (fT s [] q).2 ≠ 0 then ([], (fT s [] q).2) else if sS s st ≠ 0 then ([], sS s st) else (uU st q, 0)
def Uw (st : List (List (List VV))) (q : Query) : Prop := ∃ c, 1 <= c /\ (∀ l ∈ st, l.length <= c) /\ mX c q <= 1000000
structure Oi (h : PH) (sl : Sl) (st : List (List (List VV))) : Prop where
 lea : Leaves h sl st
 len : st.length <= 1000
 val : StV st
theorem Oi.mono {sl : Sl} {st : List (List (List VV))} (x : Oi h sl st) (le : PH.le h h') : Oi h' sl st := ⟨bW.mono x.lea le λ l s hr => bW.mono hr le λ r t hv => cJ.mono hv le, x.len, x.val⟩
def XF : Vc.Spec := λ cvs m h K => ∃ v s sl st w q, cvs = [aS v, aSt sl, aQ w] /\ gR h s v /\ Oi h sl st /\ cR h q w /\ kG q = true /\ jY m /\ ((fT s [] q).2 = 0 -> sS s st = 0 -> Uw st q) /\ ∀ s' h', PH.le h h' -> Rows h' s' (DO s st q).1 -> K (.tup [cS s', cI (DO s st q).2]) m h'
def ZW : Vc.Spec := λ cvs m h K => ∃ v s sl st w q, cvs = [aS v, aSt sl, aQ w] /\ gR h s v /\ Oi h sl st /\ cR h q w /\ kG q = true /\ jY m /\ ((fT s [] q).2 = 0 -> sS s st = 0 -> Uw st q) /\ ∀ s' h', PH.le h h' -> Rows h' s' (DO s st q).1 -> K (cS s') m h'
def ZL : Vc.Spec := λ cvs m h K => ∃ o v w, cvs = [cI o, aQ v, aQ w] /\ ∀ s h', PH.le h h' -> cN h' s 21 [v.enc, w.enc] -> K (aQ ⟨o, 0, fS, bX, bX, bX, bX, 0, s⟩) m h'
def Uj : Vc.Spec := λ cvs m h K => ∃ n, cvs = [cI n] /\ K (aV ⟨4, n, ⟨#[]⟩⟩) m h
noncomputable def Y0 (w : QV) (sl : Sl) : Ctx := dM [(55, Ic), (56, Ia), (57, XD), (58, Ud)]
 [(10, { A := Nat × List Sl × Sl × MH × PH, st := λ ⟨i, us, s, m, h⟩ => cH 54 57 [(4, .at (.ptr 4 0)), (5, .at (.ptr 5 0)), (12, .at (.lst 34)), (35, sv s), (36, iv s.len), (37, iv i)] [(4, .cells 25 [.val (.slice sl.a sl.len sl.cap)]), (5, .cells 38 (w.enc.map .val)), (34, .lst 53 1 (us.map eS))] m h })] [] [] false
abbrev vE (a : List At) : Prop := eQ (oQ 25 a)
attribute [push_cast] vE
def Qi (v : bL) (sl : Sl) (w : QV) (m : MH) (h : PH) (K : CV -> MH -> PH -> Prop) : Prop :=
  ∃ (s : bL) (p : Sl) (v1 : QV), DY (λ s1 p1 => ∃ (q : Query), aA (cF v :: aX jZ (aR w) = cF s :: aX (cK p) (aR v1)) (gR h s1 s) (aA (Ints h p p1) (cR h q v1) (dX (kG q) /\ AS h (fT s1 p1 q) (λ _ h1 => eE (fT s1 p1 q).2 0 (K (CV.tup (aX jZ (CV.val (dQ (fT s1 p1 q).2)))) m h1) (lH (λ v2 s2 => GD (λ s3 s4 => aA (cF v :: aX (dH 3) (kE (aM sl)) = cF v2 :: aX (dH 3) (kE (aM s3))) (gR h1 s2 v2) (aA (Leaves h1 s3 s4) (oC s4.length) (eE (sS s2 s4) 0 (K (CV.tup (bB jZ (sS s2 s4))) m h1) (oF (λ v3 q1 => aA (qA w = qA v3) (cR h1 q1 v3) (u6 q1 <= 900000 /\ qT (λ s5 h2 => dG h1 h2 (Ints h2 s5 (iZ q1)) (aA (cA (aG s5)) (aG s5 <= aG s5) (aA (qJ (aG s5 * 24)) (qJ (aG s5)) (IJ (λ I x => aA (I x) (eP 4) (aA (eP
 5) (eL 34) (aA (bD s5 (dR x)) (cM s5 (dR x)) (aA (bC x.1) (vE (qF sl)) (lX (fC w) (Option.some (Own.lst 53 1 (List.replicate (aG s5).toNat hU)) = Option.some (Own.lst 53 1 (jA x))) (bJ m (mD x).2) (cE h2 (mD x).2)))))) (λ I m1 x => I x -> bA (↑x.1 : Int) (aG (dR x)) (aT (λ b o => aA (aU (dR x).a b o) (0 <= (↑x.1 : Int)) ((↑x.1 : Int) < aG (dR x) /\ ∃ (y : Int), aL (mV x) (oB x) b (bN o x.1 1) (bZ y) /\ aT (λ b1 o1 => aA (aU sl.a b1 o1) (0 <= y) (y < aG sl /\ ∃ (y1 : Sl), aA (aL (mV x) (oB x) b1 (fM o1 y 1) (aM y1)) (0 <= (↑x.1 : Int)) ((↑x.1 : Int) < j3 (jA x) /\ ∃ (e : List Value), JV (uO (jA x) (rF x.1) e) (0 < e.length) (λ x1 => aA (I x1) (m1 x1 < m1 x) (aA (eP 4) gJ (aA (eL 34) (bD (dR x)
 (dR x1)) (aA (cM (dR x) (dR x1)) (fK (bE x.1 1) = bV x1.1) (aA (vE (qF sl)) (fC w) (aA (Option.some (Own.lst 53 1 (List.set (jA x) (rF x.1) (eA y1 :: List.drop 1 e))) = Option.some (Own.lst 53 1 (jA x1))) (bJ (mV x) (mD x1).2) (lF (oB x) (mD x1).2))))))))))))) (bH (oB x) 1 (jA x) (λ s6 h3 => ∃ (l : Sl) (v4 : QV) (l1 : List (List (List VV))) (q2 : Query), aA (aX (cK s6) (aR w) = aX (cK l) (aR v4)) (Leaves h3 l l1) (aA (cR h3 q2 v4) (UK l1 q2 0) (aA (jY (mV x)) ((iY l1 q2 0).1.length <= 1000000) (Da (iY l1 q2 0).1 (λ r => oC r.length) /\ qT (λ s7 h4 => dG h3 h4 (Rows h4 s7 (iY l1 q2 0).1) (K (CV.tup (bB (cK s7) 0)) (mV x) h4))))))))))))))))))))))))
abbrev Db (a : List CV) (b : PH) (c : nX -> (List (List (List VV))) -> Query -> Prop) : Prop := lH (λ x x1 => GD (λ x2 x3 => oF (λ x4 x5 => aA (a = cF x :: aX (kE (aM x2)) (aR x4)) (gR b x1 x) (aA (Oi b x2 x3) (cR b x5 x4) (c x1 x3 x5)))))
abbrev Dk (a : Query) (b : Nat -> Option Obj) (c : nX) (d : List (List (List VV))) (e : Prop) : Prop := aA (dX (kG a)) (jY b) (bK ((fT c [] a).2 = 0) (sS c d = 0) (Uw d a) /\ e)
attribute [push_cast] Db Dk
def WE (v : bL) (sl : Sl) (w : QV) (m : MH) (h : PH) (K : CV -> MH -> PH -> Prop) : Prop :=
  Db (cF v :: aX (kE (aM sl)) (aR w)) h (λ s s1 q => Dk q m s s1 (lM h (DO s s1 q).1 K m))
def WG (o : Int) (v w : QV) (m : MH) (h : PH) (K : CV -> MH -> PH -> Prop) : Prop :=
  bH h 21 (v.enc :: cT w.enc) (λ s h1 => K (kE (jC o (kJ (aM s)))) m h1)
noncomputable abbrev tU (a : Int) : List Value := aJ (dQ 4) (dQ a) xP
attribute [push_cast] tU
def WB (n : Int) (m : MH) (h : PH) (K : CV -> MH -> PH -> Prop) : Prop :=
  K (kE (tU n)) m h
mutual
theorem Lr : ∀ q : Query, (iZ q).length <= u6 q
 | .mk op ta _ _ _ _ _ _ args => by
  have := Jv args
  rw [iZ, u6, BG]
  split <;> simp <;> omega
theorem Jv : ∀ qs : List Query, (gU qs).length <= qU qs
 | [] => by simp [gU, qU]
 | q :: qs => by
  have := Lr q
  have := Jv qs
  rw [gU, qU, BG]
  omega
end
theorem Ma : Sound Tryz.prog 21 XF := by
 refine gX Tryz.func21 ?_
 rintro cvs m h K ⟨v, s, sl, st, w, q, rfl, hs, hst, hq, hsm, hT, hb, hK⟩
 refine ⟨Y0 w sl, rfl, aD f55q_sound (aD f56_sound (aD f57_sound (aD f58_sound aF))), Qi v sl w m h K, by kernel_rfl, ?_⟩
 dsimp only [Qi, push_cast]
 unfold DO at hK
 refine ⟨v, bX, w, s, [], q, rfl, hs, iL h, hq, hsm, λ sl1 h1 le1 _ => aB (λ e => ?_) (λ e => ?_)⟩
 . rw [if_pos (by simpa using e)] at hK
   exact hK ⟨none, 0, 0⟩ h1 le1 (bW.nil _ _ _ _)
 have e : (fT s [] q).2 = 0 := by simpa using e
 rw [if_neg (by simp [e])] at hK
 refine ⟨v, s, sl, st, rfl, hs.mono le1, (hst.mono le1).lea, hst.len, aB (λ e2 => ?_) (λ e2 => ?_)⟩
 . rw [if_pos (by simpa using e2)] at hK
   exact hK ⟨none, 0, 0⟩ h1 le1 (bW.nil _ _ _ _)
 have e2 : sS s st = 0 := by simpa using e2
 rw [if_neg (by simp [e2])] at hK
 dsimp only at hK
 obtain ⟨c, c1, c2, c3⟩ := hb e e2
 obtain ⟨_, _, _, hkz⟩ := HJ e
 have hkq : bP s [] q = ((bP s [] q).1, 0) := Prod.ext rfl hkz
 obtain ⟨ok, ev, rel, len⟩ := Wf e2 hst.val c2 c1 hkq c3
 have hcnt := Lp hsm
 have hsl := Lr q
 have hin := Jw hkq
 have htl := (OT e2).2.1
 refine ⟨w, q, rfl, hq.mono le1, aC, λ s' h2 le2 hi => ?_⟩
 have hil := hi.slen
 have hst2 := hst.mono (le1.trans le2)
 have hstl := bW.slen hst2.lea
 generalize hts : iZ q = ts at hi hil hsl hin
 refine ⟨aC, aC, aC, aC, λ z => z.1 <= ts.length /\ z.2.2.1 = s' /\ z.2.2.2.1 = m /\ z.2.2.2.2 = h2 /\ ∃ us, z.2.1 = us ++ List.replicate (ts.length - z.1) ⟨none, 0, 0⟩ /\ us.length = z.1 /\ ∀ (j : Nat) u t, us[j]? = some u -> ts[j]? = some t -> Rows h2 u (st.getD t.toNat []), λ z => ts.length - z.1, ⟨(0, List.replicate ts.length ⟨none, 0, 0⟩, s', m, h2), ⟨by simp, rfl, rfl, rfl, [], by simp, rfl, λ j u t h => by simp at h⟩, ?_⟩, ?_⟩
 . rw [show ((s'.len : Int)).toNat = ts.length by omega]
   dsimp only
   rw [List.map_replicate]
   exact MT
 rintro ⟨i, l, s2, m2, h3⟩ ⟨hi1, e3, e4, e5, us, hl, hul, hrow⟩
 dsimp only at hi1 e3 e4 e5 hl hul hrow ⊢
 subst e3 e4 e5
 refine aE (λ hlt => ?_) (λ hge => ?_)
 . obtain ⟨t, hx⟩ := fE hil hlt
   obtain ⟨b, o, ea, rd⟩ := hi.at' hx
   have ht := hin t (lP hx)
   have htn : t.toNat < st.length := by omega
   have e6 : st[t.toNat]? = some (st.getD t.toNat []) := by rw [Hy, kP htn]; rfl
   obtain ⟨b2, o2, u, ea2, rd2, hr⟩ := bW.at hst2.lea e6
   have hll : l.length = ts.length := by rw [hl, BG, XZ]; omega
   have hev : l[i]? = some ⟨none, 0, 0⟩ := by
    rw [hl, Ji aC, List.getElem?_replicate, if_pos aC]
   refine ⟨b, o, ea, aC, aC, t, .imm rd, b2, o2, ea2, ht.1, aC, u, .imm rd2, aC, by rw [mI]; omega, [sR], by rw [AD, show ((i : Int)).toNat = i from rfl, hev]; rfl, by simp, (i + 1, l.set i u, s2, m2, h3), ⟨by show i + 1 <= ts.length; omega, rfl, rfl, rfl, us ++ [u], ?_, by simp [hul], λ j u' t' h7 h8 => ?_⟩, by show ts.length - (i + 1) < ts.length - i; omega, ?_⟩
   . dsimp only
     rw [hl, List.set_append, if_neg aC, Q3]
     congr 1
     rw [show ts.length - i = (ts.length - (i + 1)) + 1 by omega, List.replicate_succ, show i - us.length = 0 by omega]
     rfl
   . by_cases hj : j < us.length
     . rw [Na hj] at h7
       exact hrow j u' t' h7 h8
     . rw [Ji aC] at h7
       have : j - us.length = 0 := by have := (mG.1 h7).1; simp at this; omega
       rw [this] at h7
       simp at h7
       subst h7
       have : j = i := by omega
       subst this
       rw [hx] at h8; cases h8
       exact hr
   . dsimp only
     have e9 : ((l.map eS).set ((i : Int)).toNat (eA u :: List.drop 1 [sR])) = (l.set i u).map eS := by
      rw [List.map_set]; rfl
     rw [e9, kC aC]
     exact MT
 . have : i = ts.length := by omega
   subst this
   rw [Nat.sub_self, List.replicate_zero, OE] at hl
   subst hl
   intro s3 h4 le4 hri
   refine ⟨s3, w, sK st q, q, rfl, ⟨⟨l, hri, by rw [sK, mI, hts, hul], λ i x hx => ?_⟩, by rw [sK, mI, hts]; omega⟩, hq.mono ((le1.trans le2).trans le4), ok, hT, by rw [ev]; exact len, λ r hr => ?_, λ s5 h5 le5 hr => hK s5 h5 (((le1.trans le2).trans le4).trans le5) (by rw [<- ev]; exact hr)⟩
   . rw [sK, hts, AD] at hx
     cases e7 : ts[i]? with
     | none => rw [e7] at hx; cases hx
     | some t =>
      rw [e7] at hx
      simp only [Option.map_some, sW] at hx
      subst hx
      have hil2 := (mG.1 e7).1
      exact ⟨l[i], kP aC, bW.mono (hrow i _ t (kP aC) e7) le4 λ r t hv => cJ.mono hv le4⟩
   . rw [ev] at hr
     have := (rel.row r hr).len
     omega
theorem Vk : Sound Tryz.prog 29 ZW := by
 refine gX Tryz.func29 ?_
 rintro cvs m h K ⟨v, s, sl, st, w, q, rfl, hs, hst, hq, hsm, hT, hb, hK⟩
 refine ⟨dM [(21, XF)] [] [] [] false, rfl, aD Ma aF, WE v sl w m h K, by kernel_rfl, ?_⟩
 exact ⟨v, s, sl, st, w, q, rfl, hs, hst, hq, hsm, hT, hb, hK⟩
theorem Vl : Sound Tryz.prog 27 ZL := by
 refine gX Tryz.func27 ?_
 rintro cvs m h K ⟨o, v, w, rfl, hK⟩
 refine ⟨dM [] [] [] [] false, rfl, aF, WG o v w m h K, by kernel_rfl, ?_⟩
 exact hK
theorem Ve : Sound Tryz.prog 61 Uj := by
 refine gX Tryz.func61 ?_
 rintro cvs m h K ⟨n, rfl, hK⟩
 refine ⟨dM [] [] [] [] false, rfl, aF, WB n m h K, by kernel_rfl, ?_⟩
 exact hK
def Tg : Vc.Spec := λ cvs m h K => ∃ s r, cvs = [cS s] /\ cJ h s r /\ r.length <= 1000 /\ ∀ s' h', PH.le h h' -> cJ h' s' r -> K (cS s') m h'
def XP : Vc.Spec := λ cvs m h K => ∃ v s t sl r, cvs = [aS v, cI t, cS sl] /\ gR h s v /\ cJ h sl r /\ r.length <= 1000 /\ ∀ s' h', PH.le h h' -> cJ h' s' (FL s t r) -> K (cS s') m h'
def Ou (key : Int) (ks : List Int) (r : List VV) : Prop := r.length = ks.length /\ (∀ v ∈ r, Im v) /\ ∀ (i : Nat) v k, r[i]? = some v -> ks[i]? = some k -> wY key k i v = true
def afJ : Vc.Spec := λ cvs m h K => ∃ cb s key ks, cvs = [cP cb, cS s, cI key, cI 3] /\ aK m h cb /\ Ints h s ks /\ ks.length <= 1000 /\ (∀ k ∈ ks, k = 3 \/ k = 4 \/ k = 5) /\ ∀ s' r m' h', PH.le h h' -> cJ h' s' r -> Ou key ks r -> aY m m' cb -> aK m' h' cb -> K (cS s') m' h'
def VU (m : MH) (tb : Nat) (us : List Sl) : Prop := ∃ cur : Array Value, m tb = some (.cells cur 53 (0, 0)) /\ us.length <= cur.size /\ cur.toList.take us.length = us.map Sl.val
def agX : Vc.Spec := λ cvs m h K => ∃ v s tb n cap us u, ∃ t : Nat, ∃ tab rs sk kr sr row, cvs = [aS v, aSt ⟨some ⟨tb, 0, none⟩, n, cap⟩, cI t, cS sk, cS sr] /\ gR h s v /\ s.tables[t]? = some tab /\ VU m tb us /\ n = us.length /\ us[t]? = some u /\ Rows h u rs /\ rs.length <= 1000 /\ (∀ r ∈ rs, r.length <= 1000) /\ cJ h sk kr /\ cJ h sr row /\ 0 < row.length /\ row.length <= 1000 /\
 ∀ u' m' h', PH.le h h' -> Rows h' u' (xK tab kr row false rs) -> VU m' tb (us.set t u') -> aY m m' tb -> K (aSt ⟨some ⟨tb, 0, none⟩, n, cap⟩) m' h'
noncomputable def YT (cb : Nat) (key : Int) (s : Sl) : Ctx := dM [(16, K3), (77, Og)]
 [(3, { A := Nat × List VV × MH × PH, st := λ ⟨i, l, m, h⟩ => cH 59 63 [(0, pv cb), (2, iv key), (3, iv 3), (9, .at (.lst 24)), (12, sv s), (13, iv s.len), (14, iv i)] [(24, .lst 27 3 (l.map VV.enc))] m h })] [] [] false
noncomputable def YQ (v : bL) (sl : Sl) (t : Nat) (sk sr : Sl) (m : MH) : Ctx := dM [(46, XP), (62, Ie), (53, Tg)]
 [(4, { A := Nat × List Sl × Bool × Sl × PH, st := λ ⟨i, us, d, u, h⟩ => cH 66 71 [(2, iv t), (3, sv sk), (4, sv sr), (5, .at (.ptr 5 0)), (6, .at (.ptr 6 0)), (10, .at (.ptr 10 0)), (11, .at (.lst 45)), (12, bv d), (23, sv u), (24, iv u.len), (25, iv i)] [(5, .cells 43 (v.enc.map .val)), (6, .cells 25 [.val sl.val]), (10, .cells 25 [.val bX.val]), (45, .lst 74 1 (us.map eS))] m h })]
 [(9, { A := Nat × List Sl × Bool × Sl × Sl × Int × PH, st := λ ⟨i, us, d, u, r, c, h⟩ => cH 66 71 [(2, iv t), (3, sv sk), (4, sv sr), (5, .at (.ptr 5 0)), (6, .at (.ptr 6 0)), (10, .at (.ptr 10 0)), (11, .at (.lst 45)), (12, bv d), (14, sv r), (15, iv c), (23, sv u), (24, iv u.len), (25, iv i)] [(5, .cells 43 (v.enc.map .val)), (6, .cells 25 [.val sl.val]), (10, .cells 25 [.val bX.val]), (45, .lst 74 1 (us.map eS))] m h }),
  (14, { A := List Sl × PH, st := λ ⟨us, h⟩ => cH 66 71 [(2, iv t), (6, .at (.ptr 6 0)), (10, .at (.ptr 10 0)), (11, .at (.lst 45))] [(6, .cells 25 [.val sl.val]), (10, .cells 25 [.val bX.val]), (45, .lst 74 1 (us.map eS))] m h })] [] false
def f53_nice (s : Sl) (m : MH) (h : PH) (K : CV -> MH -> PH -> Prop) : Prop :=
  ∃ (y : List (List Value)), aA (dY 3 y) (cN h (dA s) 3 y) (aA (gH (y.length * 32)) (gH y.length) (bH h 3 y (λ s1 h1 => K (cK s1) m h1)))
def P5 (v : bL) (t : Int) (s : Sl) (m : MH) (h : PH) (K : CV -> MH -> PH -> Prop) : Prop :=
  bA t 0 (K jZ m h) (fQ t (gL v) (K jZ m h) (aT (λ b o => aA (aU (pK v) b o) (0 <= t) (t < aG v.tables /\ ∃ (y : Int), aA (aL m h b (fM o t 5 + 2) (bZ y)) (0 <= ite (pE s y > 0) (pE s y) 0) (ite (pE s y > 0) (pE s y) 0 <= (↑s.cap : Int) /\ Fi (mR (CV.val (Value.slice s.a (ite (pE s y > 0) (pE s y) 0).toNat s.cap))) h (λ s1 h1 => K (cK s1) m h1))))))
noncomputable abbrev yW (a : Nat × List VV × MH × PH) : Nat -> Option Obj := a.2.2.1
noncomputable abbrev rL (a : Nat × List VV × MH × PH) : Nat -> Nat -> Option Value := a.2.2.2
abbrev yM (a : Nat × List VV × MH × PH) (b : (Nat × List VV × MH × PH) -> Prop) : Prop := aA (gH (((rR a.2.1).length + 1) * 32)) (iA (rR a.2.1)) (∃ (x : Nat × List VV × MH × PH), b x)
abbrev yU (a : Prop) (b c d : Nat) (e : Int) (g : Sl) (i j : Nat × List VV × MH × PH) (k : Prop) (l : MH) : Prop := aA a (b < c) (aA (dE d) (eQ (fK e)) (aA iX (eL 24) (aA (aI g) (bI g) (lX (fK (bE i.1 1) = bV j.1) k (bJ l j.2.2) (cE (rL i) j.2.2)))))
abbrev yL (a : Nat) (b : Nat × List VV × MH × PH) (c : List Value) (d : Nat × List VV × MH × PH) : Prop := Option.some (Own.lst 27 a (rR b.2.1 ++ cT c)) = Option.some (Own.lst 27 a (rR d.2.1))
attribute [push_cast] yW rL yM yU yL
def P8 (cb : Nat) (s : Sl) (key : Int) (m : MH) (h : PH) (K : CV -> MH -> PH -> Prop) : Prop :=
  ∃ (I : Nat × List VV × MH × PH -> Prop) (m1 : Nat × List VV × MH × PH -> Nat), (∃ (x : Nat × List VV × MH × PH), aA (I x) (dE cb) (aA (eQ (fK key)) iX (aA (eL 24) (aI s) (aA (bI s) (bC x.1) (bM (Option.some (Own.lst 27 3 []) = Option.some (Own.lst 27 3 (rR x.2.1))) (bJ m x.2.2) (cE h x.2.2)))))) /\ ∀ (x : Nat × List VV × MH × PH), I x -> bA (↑x.1 : Int) (aG s) (aT (λ b o => aA (aU s.a b o) (0 <= (↑x.1 : Int)) ((↑x.1 : Int) < aG s /\ ∃ (y : Int), aL (yW x) (rL x) b (bN o x.1 1) (bZ y) /\ cW (decide ((↑x.1 : Int) >= key)) (j7 cb 5 (yW x) (rL x) (λ c r => ∀ (m2 : MH), bK (aY (yW x) m2 c) (aK m2 (rL x) c) (cW r (yM x (λ x1 => yU (I x1) (m1 x1) (m1 x) cb key s x x1 (yL 3 x (aJ (dQ 2) bO xP) x1) m2)) (decide ((↑x.1 : Int) >= key)) (j7 cb 5 m2
 (rL x) (λ c1 r1 => ∀ (m3 : MH), bK (aY m2 m3 c1) (aK m3 (rL x) c1) (branch r1 (yM x (λ x1 => yU (I x1) (m1 x1) (m1 x) cb key s x x1 (yL 3 x (aJ (dQ 1) bO xP) x1) m3)) (Bd cb y m3 (rL x) (λ v m4 => yM x (λ x1 => yU (I x1) (m1 x1) (m1 x) cb key s x x1 (yL 3 x v.enc x1) m4)))))) (Bd cb y m2 (rL x) (λ v m3 => yM x (λ x1 => yU (I x1) (m1 x1) (m1 x) cb key s x x1 (yL 3 x v.enc x1) m3)))))) (decide ((↑x.1 : Int) >= key)) (j7 cb 5 (yW x) (rL x) (λ c r => ∀ (m2 : MH), bK (aY (yW x) m2 c) (aK m2 (rL x) c) (branch r (yM x (λ x1 => yU (I x1) (m1 x1) (m1 x) cb key s x x1 (yL 3 x (aJ (dQ 1) bO xP) x1) m2)) (Bd cb y m2 (rL x) (λ v m3 => yM x (λ x1 => yU (I x1) (m1 x1) (m1 x) cb key s x x1 (yL 3 x v.enc x1)
 m3)))))) (Bd cb y (yW x) (rL x) (λ v m2 => yM x (λ x1 => yU (I x1) (m1 x1) (m1 x) cb key s x x1 (yL 3 x v.enc x1) m2)))))) (bH (rL x) 3 (rR x.2.1) (λ s1 h1 => K (cK s1) (yW x) h1))
noncomputable abbrev yV (a : Nat × List Sl × Bool × Sl × PH) : Bool := a.2.2.1
noncomputable abbrev pF (a : Nat × List Sl × Bool × Sl × PH) : Sl := a.2.2.2.1
noncomputable abbrev uK (a b c : Nat) : List At := yJ (At.val (Value.slice (uM a) b c))
abbrev oS  : Prop := vE (yJ KJ)
noncomputable abbrev sG (a : Nat × List Sl × Bool × Sl × PH) : List (List Value) := qK a.2.1
noncomputable abbrev uN (a : Nat × List Sl × Bool × Sl × PH) : Nat -> Nat -> Option Value := a.2.2.2.2
noncomputable abbrev FB (a : Nat × List Sl × Bool × Sl × Sl × Int × PH) : Sl := a.2.2.2.2.1
noncomputable abbrev FA (a : Nat × List Sl × Bool × Sl × Sl × Int × PH) : Int := a.2.2.2.2.2.1
noncomputable abbrev sC (a : Nat × List Sl × Bool × Sl × Sl × Int × PH) : Sl := a.2.2.2.1
noncomputable abbrev Br (a : Nat × List Sl × Bool × Sl × Sl × Int × PH) : List (List Value) := qK a.2.1
noncomputable abbrev Di (a : Nat × List Sl × Bool × Sl × Sl × Int × PH) : Nat -> Nat -> Option Value := a.2.2.2.2.2.2
attribute [push_cast] yV pF uK oS sG uN FB FA sC Br Di
def P6 (v : bL) (tb n cap t : Nat) (sk sr : Sl) (m : MH) (h : PH) (K : CV -> MH -> PH -> Prop) : Prop :=
  aT (λ b o => aA (aU (uM tb) b o) (0 <= (↑t : Int)) ((↑t : Int) < (↑n : Int) /\ ∃ (y : Sl), aL m h b (bN o t 1) (aM y) /\ ∃ (I : Nat × List Sl × Bool × Sl × PH -> Prop) (m1 : Nat × List Sl × Bool × Sl × PH -> Nat), (∃ (x : Nat × List Sl × Bool × Sl × PH), aA (I x) (eQ (bV t)) (aA (aI sk) (aI sr) (aA gJ (eP 6) (aA jE (eL 45) (aA (gM (aG sr == 0) (yV x)) (bD y (pF x)) (aA (cM y (pF x)) (bC x.1) (aA (bT v) (vE (uK tb n cap)) (aA oS (Option.some (Own.lst 74 1 []) = Option.some (Own.lst 74 1 (sG x))) (dT m m h (uN x)))))))))) /\ ∀ (x : Nat × List Sl × Bool × Sl × PH), I x -> bA (↑x.1 : Int) (aG (pF x)) (aT (λ b1 o1 => aA (aU (pF x).a b1 o1) (0 <= (↑x.1 : Int)) ((↑x.1 : Int) < aG (pF x) /\ ∃ (y1 : Sl), aL m (uN x) b1 (bN o1 x.1 1) (aM
 y1) /\ lH (λ v1 s => ∃ (t1 : Int), nN (λ s1 r => aA (cF v :: aX (dH (↑t : Int)) (cK y1) = cF v1 :: aX (dH t1) (cK s1)) (gR (uN x) s v1) (aA (cJ (uN x) s1 r) (oC r.length) (qT (λ s2 h1 => dG (uN x) h1 (cJ h1 s2 (FL s t1 r)) (C9 s2 sk h1 (λ a b2 => ∃ (I1 : Nat × List Sl × Bool × Sl × Sl × Int × PH -> Prop), fQ (dV a b2) 0 (gK (yV x) (Fi (fU sr) h1 (λ s3 h2 => nT (sG x) 24 (∃ (x1 : Nat × List Sl × Bool × Sl × Sl × Int × PH), aA (I1 x1) (eQ (bV t)) (aA (aI sk) (aI sr) (aA gJ (eP 6) (aA jE (eL 45) (aA (vH x1.2.2.1) (bD y1 (FB x1)) (aA (cL (dV a b2) (FA x1)) (bD (pF x) (sC x1)) (aA (cM (pF x) (sC x1)) (cC x.1 x1.1) (aA (bT v) (vE (uK tb n cap)) (lX oS (pX (jB (sG x)
 s3) (Br x1)) (m = m) (h2 = Di x1)))))))))))) (∃ (x1 : Nat × List Sl × Bool × Sl × Sl × Int × PH), aA (I1 x1) (eQ (bV t)) (aA (aI sk) (aI sr) (aA gJ (eP 6) (aA jE (eL 45) (aA (gM (yV x) x1.2.2.1) (bD y1 (FB x1)) (aA (cL (dV a b2) (FA x1)) (bD (pF x) (sC x1)) (aA (cM (pF x) (sC x1)) (cC x.1 x1.1) (aA (bT v) (vE (uK tb n cap)) (lX oS (pX (sG x) (Br x1)) (m = m) (h1 = Di x1))))))))))) (∃ (x1 : Nat × List Sl × Bool × Sl × Sl × Int × PH), aA (I1 x1) (eQ (bV t)) (aA (aI sk) (aI sr) (aA gJ (eP 6) (aA jE (eL 45) (aA (gM (yV x) x1.2.2.1) (bD y1 (FB x1)) (aA (cL (dV a b2) (FA x1)) (bD (pF x) (sC x1)) (aA (cM (pF x) (sC x1)) (cC x.1 x1.1) (aA (bT v) (vE (uK
 tb n cap)) (lX oS (pX (sG x) (Br x1)) (m = m) (h1 = Di x1)))))))))) /\ ∀ (x1 : Nat × List Sl × Bool × Sl × Sl × Int × PH), fP (I1 x1) (FA x1 != 0) (nT (Br x1) 24 (∃ (x2 : Nat × List Sl × Bool × Sl × PH), aA (I x2) (m1 x2 < m1 x) (aA (eQ (bV t)) (aI sk) (aA (aI sr) gJ (aA (eP 6) jE (aA (eL 45) (gM x1.2.2.1 (yV x2)) (aA (bD (sC x1) (pF x2)) (cM (sC x1) (pF x2)) (aA (fK (bE x1.1 1) = bV x2.1) (bT v) (aA (vE (uK tb n cap)) oS (bM (pX (jB (Br x1) (FB x1)) (sG x2)) (m = m) (Di x1 = uN x2))))))))))) (∃ (x2 : Nat × List Sl × Bool × Sl × PH), aA (I x2) (m1 x2 < m1 x) (aA (eQ (bV t)) (aI sk) (aA (aI sr) gJ (aA (eP 6) jE (aA (eL 45) (gM x1.2.2.1 (yV x2)) (aA (bD (sC x1) (pF
 x2)) (cM (sC x1) (pF x2)) (aA (fK (bE x1.1 1) = bV x2.1) (bT v) (aA (vE (uK tb n cap)) oS (bM (pX (Br x1) (sG x2)) (m = m) (Di x1 = uN x2)))))))))))))))))))) (∃ (I1 : List Sl × PH -> Prop), gK (yV x) (Fi (fU sr) (uN x) (λ s h1 => nT (sG x) 24 (∃ (x1 : List Sl × PH), aA (I1 x1) (eQ (bV t)) (aA (eP 6) (eP 10) (aA (eL 45) (vE (uK tb n cap)) (aA oS (pX (jB (sG x) s) (qK x1.1)) (dT m m h1 x1.2))))))) (∃ (x1 : List Sl × PH), aA (I1 x1) (eQ (bV t)) (aA (eP 6) (eP 10) (aA (eL 45) (vE (uK tb n cap)) (aA oS (pX (sG x) (qK x1.1)) (dT m m (uN x) x1.2))))) /\ ∀ (x1 : List Sl × PH), I1 x1 -> aT (λ b1 o1 => aA (aU (uM tb) b1 o1) (0 <= (↑t : Int)) ((↑t : Int) < (↑n : Int) /\ bH x1.2 1
 (qK x1.1) (λ s h1 => oO m b1 (bN o1 t 1) (aM s) (λ m2 => K (kE (iK (Value.slice (uM tb) n cap))) m2 h1)))))))
theorem f53_sound : Sound Tryz.prog 53 Tg := by
 refine gX Tryz.func53 ?_
 rintro cvs m h K ⟨s, r, rfl, hs, hl, hK⟩
 refine ⟨dM [] [] [] [] false, rfl, aF, f53_nice s m h K, by kernel_rfl, ?_⟩
 dsimp only [f53_nice, push_cast]
 obtain ⟨⟨vs, h1, h2, h3⟩, h4⟩ := hs
 exact ⟨vs.map VV.enc, Jx vs, h1, by rw [mI]; omega, by rw [mI]; omega, λ s' h' le hri => hK s' h' le ⟨⟨vs, hri, h2, h3⟩, h4⟩⟩
theorem LU : Sound Tryz.prog 46 XP := by
 refine gX Tryz.func46 ?_
 rintro cvs m h K ⟨v, s, t, sl, r, rfl, hs, hv, hl, hK⟩
 refine ⟨dM [(53, Tg)] [] [] [] false, rfl, aD f53_sound aF, P5 v t sl m h K, by kernel_rfl, ?_⟩
 dsimp only [P5, push_cast]
 have htl := hs.tables.slen
 have hrl := bW.slen hv
 have none_ : tK s t = false -> K jZ m h := λ e => hK ⟨none, 0, 0⟩ h (.refl _) (by simp only [FL, e]; exact bW.nil _ _ _ _)
 refine aE (λ h1 => none_ (by simp [tK]; omega)) (λ h1 => aE (λ h2 => none_ (by simp [tK]; omega)) (λ h2 => ?_))
 have e : tK s t = true := by simp [tK]; omega
 obtain ⟨tb, htb⟩ : ∃ tb, s.tables[t.toNat]? = some tb := ⟨_, kP aC⟩
 obtain ⟨b, o, y, ea, rd, hy⟩ := bW.at hs.tables htb
 have hk := hy.key
 obtain ⟨a, len, cap⟩ := sl
 have hcap : len <= cap := by obtain ⟨vs, h5, _⟩ := hv.ex; exact h5.cap
 have hrl : len = r.length := hrl
 have hmm : (if (if (len : Int) < y.key then (len : Int) else y.key) > 0 then (if (len : Int) < y.key then (len : Int) else y.key) else 0) = max 0 (min tb.key r.length) := by
  rw [<- hk]; split <;> split <;> omega
 refine ⟨b, o, ea, aC, aC, y.key, .imm (aZ.part rd 2 1), ?_⟩
 dsimp only
 rw [hmm]
 have e2 : FL s t r = r.take (max 0 (min tb.key r.length)).toNat := by simp only [FL, e, if_true, htb]; rfl
 rw [e2] at hK
 exact ⟨aC, aC, ⟨a, (max 0 (min tb.key r.length)).toNat, cap⟩, _, rfl, hv.cut aC, by rw [Hz]; omega, hK⟩
theorem Ou.snoc {key : Int} {ks : List Int} {l : List VV} {k : Int} {v : VV} (x : Ou key (ks.take i) l) (hk : ks[i]? = some k) (hv : Im v) (hf : wY key k i v = true) : Ou key (ks.take (i + 1)) (l ++ [v]) := by
 obtain ⟨h1, h2, h3⟩ := x
 have hi := (mG.1 hk).1
 have hl : l.length = i := by rw [h1, Hz]; omega
 refine ⟨by rw [BG, Hz]; simp; omega, λ u hu => ?_, λ j u k' hu hk' => ?_⟩
 . rcases BZ.1 hu with hu | hu
   . exact h2 u hu
   . simp at hu; subst hu; exact hv
 . rw [DT] at hk'
   split at hk'
   . by_cases hj : j < l.length
     . rw [Na hj] at hu
       exact h3 j u k' hu (by rw [DT, if_pos aC]; exact hk')
     . have : j = i := by omega
       subst this
       rw [Ji aC, hl, Nat.sub_self] at hu
       simp at hu
       subst hu
       rw [hk] at hk'; cases hk'
       exact hf
   . cases hk'
theorem Py {key k c : Int} (hc : c = 1 \/ c = 2) (hi : (i : Int) >= key) : wY key k i ⟨c, 0, ⟨#[]⟩⟩ = true := by
 rcases hc with rfl | rfl <;> simp [wY, jK, Ed] <;> omega
theorem GQ {key k : Int} {v : VV} (hk : Zt k) (hv : Un k v) : wY key k i v = true := by
 obtain ⟨h1, h2⟩ := hv hk
 simp [wY, h1, h2]
theorem OK (c : Int) : Im ⟨c, 0, ⟨#[]⟩⟩ := ⟨⟨by simp, by simp⟩, by show (ByteArray.mk #[]).size <= 64; decide⟩
theorem Vg : Sound Tryz.prog 43 afJ := by
 refine gX Tryz.func43 ?_
 rintro cvs m h K ⟨cb, s, key, ks, rfl, hc, hs, hl, hk, hK⟩
 refine ⟨YT cb key s, rfl, aD xC (aD GR aF), P8 cb s key m h K, by kernel_rfl, ?_⟩
 dsimp only [P8, push_cast]
 have hsl := hs.slen
 refine ⟨λ z => z.2.2.2 = h /\ z.1 <= ks.length /\ Ou key (ks.take z.1) z.2.1 /\ aY m z.2.2.1 cb /\ aK z.2.2.1 h cb, λ z => ks.length - z.1, ⟨(0, [], m, h), ⟨rfl, by simp, ⟨by simp, by simp, λ j u k h => by simp at h⟩, .refl _ _, hc⟩, MT⟩, ?_⟩
 rintro ⟨i, l, m1, h'⟩ ⟨e1, hi, hfit, o1, c1⟩
 dsimp only at e1 hi hfit o1 c1 ⊢
 subst e1
 have hll : l.length = i := by rw [hfit.1, Hz]; omega
 refine aE (λ hlt => ?_) (λ hge s' h2 le2 hri => ?_)
 . obtain ⟨k, hx⟩ := fE hsl hlt
   obtain ⟨b, o, ea, rd⟩ := hs.at' hx
   have hkk := hk k (lP hx)
   have hI : ∀ (u : VV) (m' : MH), Im u -> wY key k i u = true -> aY m1 m' cb -> aK m' h' cb -> h' = h' /\ i + 1 <= ks.length /\ Ou key (ks.take (i + 1)) (l ++ [u]) /\ aY m m' cb /\ aK m' h' cb := λ u m' hu hf o c => ⟨rfl, aC, hfit.snoc hx hu hf, o1.trans o, c⟩
   have hmu : ks.length - (i + 1) < ks.length - i := by omega
   have hw : IntKind.i64.wrap ((i : Int) + 1) = ((i + 1 : Nat) : Int) := kC aC
   refine ⟨b, o, ea, aC, aC, k, .imm rd, aE (λ hik => ⟨cb, 5, rfl, aC, aC, c1, λ r m2 o2 c2 => aB (λ _ => ?_) (λ _ => aE (λ _ => ⟨cb, 5, rfl, aC, aC, c2, λ r m3 o3 c3 => aB (λ _ => ?_) (λ _ => ⟨cb, k, rfl, c3, λ u m4 hu hku o4 c4 => ?_⟩)⟩) (λ _ => ⟨cb, k, rfl, c2, λ u m4 hu hku o4 c4 => ?_⟩))⟩) (λ hik => aE (λ hik2 => absurd hik2 hik) (λ _ => ⟨cb, k, rfl, c1, λ u m4 hu hku o4 c4 => ?_⟩))⟩
   . refine ⟨by rw [mI]; omega, by rw [mI]; omega, (i + 1, l ++ [⟨2, 0, ⟨#[]⟩⟩], m2, h'), hI _ m2 (OK 2) (Py (.inr rfl) hik) o2 c2, hmu, ?_⟩
     rw [hw, xH]; exact MT
   . refine ⟨by rw [mI]; omega, by rw [mI]; omega, (i + 1, l ++ [⟨1, 0, ⟨#[]⟩⟩], m3, h'), hI _ m3 (OK 1) (Py (.inl rfl) hik) (o2.trans o3) c3, hmu, ?_⟩
     rw [hw, xH]; exact MT
   . refine ⟨by rw [mI]; omega, by rw [mI]; omega, (i + 1, l ++ [u], m4, h'), hI _ m4 hu (GQ hkk hku) ((o2.trans o3).trans o4) c4, hmu, ?_⟩
     rw [hw, xH]; exact MT
   . refine ⟨by rw [mI]; omega, by rw [mI]; omega, (i + 1, l ++ [u], m4, h'), hI _ m4 hu (GQ hkk hku) (o2.trans o4) c4, hmu, ?_⟩
     rw [hw, xH]; exact MT
   . refine ⟨by rw [mI]; omega, by rw [mI]; omega, (i + 1, l ++ [u], m4, h'), hI _ m4 hu (GQ hkk hku) o4 c4, hmu, ?_⟩
     rw [hw, xH]; exact MT
 . rw [EC aC] at hfit
   exact hK s' l m1 h2 le2 ⟨⟨l, hri, rfl, λ i x hx => ⟨x, hx, rfl⟩⟩, aC⟩ hfit o1 (c1.mono le2)
theorem Vf : Sound Tryz.prog 45 agX := by
 refine gX Tryz.func45 ?_
 rintro cvs m h K ⟨v, s, tb, n, cap, us, u, t, tab, rs, sk, kr, sr, row, rfl, hs, htab, hT, hn, hu, hrs, hrl, hrw, hkr, hrow, h0, h1, hK⟩
 refine ⟨YQ v ⟨some ⟨tb, 0, none⟩, n, cap⟩ t sk sr m, rfl, aD LU (aD LS (aD f53_sound aF)), P6 v tb n cap t sk sr m h K, by kernel_rfl, ?_⟩
 dsimp only [P6, push_cast]
 obtain ⟨cur, hcur, hcs, hcl⟩ := hT
 have htl : t < us.length := (mG.1 hu).1
 have hul := bW.slen hrs
 have hsrl := bW.slen hrow
 have hd0 : ((sr.len : Int) == 0) = false := by simp; omega
 have hrd : (cur.toList.drop (0 + t * 1)).take [eA u].length = [eA u] := by
  have hcurt : cur.toList[t]? = some (Sl.val u) := by
   have e : (cur.toList.take us.length)[t]? = some (Sl.val u) := by rw [hcl, AD, hu]; rfl
   rwa [DT, if_pos htl] at e
  have hlt := (mG.1 hcurt).1
  rw [Ih, V7, X2 hlt, (mG.1 hcurt).2]
  rfl
 refine ⟨tb, 0, rfl, aC, aC, u, .lent cur 53 (0, 0) hcur hrd, λ z => z.2.2.2.1 = u /\ z.1 <= rs.length /\ PH.le h z.2.2.2.2 /\ ∃ out, eF z.2.2.2.2 z.2.1 out /\ out.length <= 2 * z.1 /\ out ++ xK tab kr row z.2.2.1 (rs.drop z.1) = xK tab kr row false rs, λ z => rs.length - z.1, ⟨(0, [], false, u, h), ⟨rfl, by simp, .refl _, [], eF.nil _, by simp, by simp⟩, by rw [hd0]; exact MT⟩, ?_⟩
 rintro ⟨i, vs, d, u', hx⟩ ⟨e1, hi, le1, out, hru, hol, kY⟩
 dsimp only at e1 hi le1 hru hol kY ⊢
 subst e1
 have hvl := hru.len
 refine aE (λ hlt => ?_) (λ hge => ?_)
 . obtain ⟨r, hxr⟩ := fE hul hlt
   have hil := (mG.1 hxr).1
   obtain ⟨b, o, w, ea, rd, hv⟩ := bW.at hrs hxr
   have hdrop : rs.drop i = r :: rs.drop (i + 1) := by rw [X2 hil, (mG.1 hxr).2]
   rw [hdrop, xK] at kY
   refine ⟨b, o, ea, aC, aC, w, .imm (rd.mono le1), v, s, t, w, r, rfl, hs.mono le1, cJ.mono hv le1, hrw r (lP hxr), λ s' h2 le2 hkv => ⟨s', sk, _, kr, rfl, hkv, cJ.mono hkr (le1.trans le2), ?_⟩⟩
   rw [Dr htab]
   generalize hc : dV (jJ tab r) kr = c at kY ⊢
   refine ⟨λ z => z.1 = i /\ z.2.2.2.1 = u' /\ z.2.2.2.2.1 = w /\ z.2.2.2.2.2.1 = c /\ PH.le hx z.2.2.2.2.2.2 /\ ∃ out, eF z.2.2.2.2.2.2 z.2.1 out /\ out.length <= 2 * i + 1 /\ out ++ ((if c ≠ 0 then [r] else []) ++ xK tab kr row z.2.2.1 (rs.drop (i + 1))) = xK tab kr row false rs, aE (λ hc0 => aB (λ hd => ?_) (λ hd => ?_)) (λ hc0 => ?_), ?_⟩
   . have hd : d = false := by simpa using hd
     subst hd
     rw [if_pos ⟨hc0, rfl⟩, show (false || decide (0 <= c)) = true by simp; omega] at kY
     refine ⟨sr, row, rfl, cJ.mono hrow (le1.trans le2), h1, λ s2 h3 le3 hv3 => ⟨by rw [mI]; omega, by rw [mI]; omega, (i, vs ++ [s2], true, u', w, c, h3), ⟨rfl, rfl, rfl, rfl, le2.trans le3, out ++ [row], (hru.mono (le2.trans le3)).snoc hv3, by rw [BG]; simp; omega, ?_⟩, ?_⟩⟩
     . rw [Q3]; exact kY
     . rw [xH]; exact MT
   . have hd : d = true := by simpa using hd
     subst hd
     rw [if_neg (by simp), Bool.true_or, List.nil_append] at kY
     exact ⟨(i, vs, true, u', w, c, h2), ⟨rfl, rfl, rfl, rfl, le2, out, hru.mono le2, aC, kY⟩, MT⟩
   . rw [if_neg (λ h => hc0 h.1), show (d || decide (0 <= c)) = d by rw [decide_eq_false hc0, VX], List.nil_append] at kY
     exact ⟨(i, vs, d, u', w, c, h2), ⟨rfl, rfl, rfl, rfl, le2, out, hru.mono le2, aC, kY⟩, MT⟩
   clear kY hru hol hvl out vs
   rintro ⟨i', vs, d, u2, w2, c2, h3⟩ ⟨e2, e3, e4, e5, le3, out, hru, hol, kY⟩
   dsimp only at e2 e3 e4 e5 le3 hru hol kY ⊢
   subst e2 e3 e4 e5
   have hvl := hru.len
   have hw : IntKind.i64.wrap ((i' : Int) + 1) = ((i' + 1 : Nat) : Int) := kC aC
   refine aB (λ hcn => ?_) (λ hcn => ?_)
   . rw [if_pos (by simpa using hcn)] at kY
     refine ⟨by rw [mI]; omega, by rw [mI]; omega, (i' + 1, vs ++ [w2], d, u2, h3), ⟨rfl, by show i' + 1 <= rs.length; omega, le1.trans le3, out ++ [r], hru.snoc (cJ.mono hv (le1.trans le3)), by rw [BG]; simp; omega, by rw [Q3]; exact kY⟩, by show rs.length - (i' + 1) < rs.length - i'; omega, ?_⟩
     rw [hw, xH]; exact MT
   . rw [if_neg (by simpa using hcn), List.nil_append] at kY
     refine ⟨(i' + 1, vs, d, u2, h3), ⟨rfl, by show i' + 1 <= rs.length; omega, le1.trans le3, out, hru, by show out.length <= 2 * (i' + 1); omega, kY⟩, by show rs.length - (i' + 1) < rs.length - i'; omega, ?_⟩
     rw [hw]; exact MT
 . have hi2 : i = rs.length := by omega
   rw [hi2, List.drop_length, xK] at kY
   refine ⟨λ z => PH.le h z.2 /\ eF z.2 z.1 (xK tab kr row false rs), aB (λ hd => ?_) (λ hd => ?_), ?_⟩
   . have hd : d = false := by simpa using hd
     rw [hd, if_neg (by simp)] at kY
     refine ⟨sr, row, rfl, cJ.mono hrow le1, h1, λ s2 h3 le3 hv3 => ⟨by rw [mI]; omega, by rw [mI]; omega, (vs ++ [s2], h3), ⟨le1.trans le3, by rw [<- kY]; exact (hru.mono le3).snoc hv3⟩, ?_⟩⟩
     rw [xH]; exact MT
   . have hd : d = true := by simpa using hd
     rw [hd, if_pos rfl, OE] at kY
     exact ⟨(vs, hx), ⟨le1, by rw [<- kY]; exact hru⟩, MT⟩
   rintro ⟨vs2, h3⟩ ⟨le3, hru3⟩
   dsimp only at le3 hru3 ⊢
   have hpl := Iu (t := tab) (key := kr) (row := row) (l := rs) (d := false)
   refine ⟨tb, 0, rfl, aC, aC, λ s2 h4 le4 hri => ⟨cur, 53, ⟨hcur⟩, ?_, λ m' hup => hK s2 m' h4 (le3.trans le4) ((hru3.mono le4).rows hri (by simp at hpl; omega)) ⟨_, hup.at_, ?_, ?_⟩ ⟨λ b hb => (hup.other b hb).symm ▸ rfl⟩⟩⟩
   . omega
   . have hsp : splice cur.toList (0 + ((t : Int)).toNat * 1) [eA s2] = cur.toList.set t (Sl.val s2) := by
      rw [List.set_eq_take_append_cons_drop, if_pos (by rw [VZ]; omega)]
      simp only [splice, Int.toNat_natCast, Ih, V7, List.length_singleton, Q3]
      rfl
     rw [hsp]
     simp only [List.length_set, List.size_toArray, VZ]
     exact hcs
   . have hsp : splice cur.toList (0 + ((t : Int)).toNat * 1) [eA s2] = cur.toList.set t (Sl.val s2) := by
      rw [List.set_eq_take_append_cons_drop, if_pos (by rw [VZ]; omega)]
      simp only [splice, Int.toNat_natCast, Ih, V7, List.length_singleton, Q3]
      rfl
     rw [hsp, List.length_set, List.map_set, <- hcl, List.take_set]
def KZ {α : Type} (T : List α -> α -> Prop) : List α -> List α -> Prop
 | _, [] => True
 | pre, x :: r => T pre x /\ KZ T (pre ++ [x]) r
theorem Px {α : Type} {T : List α -> α -> Prop} : ∀ {l pre : List α}, KZ T pre l -> ∀ (j : Nat) x, l[j]? = some x -> T (pre ++ l.take j) x
 | [], _, _, j, x, e => by simp at e
 | y :: r, pre, h, 0, x, e => by simp at e; subst e; simpa using h.1
 | y :: r, pre, h, j + 1, x, e => by
  have := Px h.2 j x (by simpa using e)
  simpa using this
theorem wW {α : Type} {T : List α -> α -> Prop} {l : List α} (h : KZ T [] l) : Good T l := λ j x e => by simpa using Px h j x e
theorem UU {α : Type} {T : List α -> α -> Prop} {l : List α} (h : Good T l) (n : Nat) : Good T (l.take n) := λ j x e => by
 rw [DT] at e
 split at e
 . rename_i hj
   rw [List.take_take, Nat.min_eq_left aC]
   exact h j x e
 . cases e
theorem Wh (h8 : s.tables.length <= 8) (hl : ∀ t ∈ s.tables, t.columns.length <= 8 /\ t.refs = [] /\ t.checks = []) (v0 : 0 <= s.version) (v1 : s.version <= 1000) (hg : Good Aw s.tables) : eH s = 0 := by
 have lim : BE s := ⟨h8, λ j t e => by
  obtain ⟨h1, h2, h3⟩ := hl t (lP e)
  exact ⟨h1, by simp [h2], by simp [h3]⟩⟩
 have ok : Ib s := ⟨v0, v1, hg, λ j t e => by
  obtain ⟨h1, h2, h3⟩ := hl t (lP e)
  unfold BS
  rw [h2]
  intro i x e2
  simp at e2⟩
 rw [Gr lim ok]
 refine z8 _ λ e he => ?_
 obtain ⟨i, _, he⟩ := List.mem_flatMap.1 he
 unfold qY at he
 split at he
 . rename_i t ht
   obtain ⟨h1, h2, h3⟩ := hl t (lP ht)
   rw [h3] at he
   simp at he
 . simp at he
theorem Rg {id : Int} (h : id = 4 \/ id = 5) : Good Aw (kQ id) := by
 have hk : dO id = true := by rcases h with rfl | rfl <;> rfl
 refine wW ⟨⟨?_, ?_, ?_, ?_, wW ⟨⟨?_, ?_, ?_⟩, ⟨?_, ?_, ?_⟩, trivial⟩⟩, ⟨?_, ?_, ?_, ?_, wW ⟨⟨?_, ?_, ?_⟩, ⟨?_, ?_, ?_⟩, ⟨?_, ?_, ?_⟩, ⟨?_, ?_, ?_⟩, trivial⟩⟩, ⟨?_, ?_, ?_, ?_, wW ⟨⟨?_, ?_, ?_⟩, ⟨?_, ?_, ?_⟩, trivial⟩⟩, ⟨?_, ?_, ?_, ?_, wW ⟨⟨?_, ?_, ?_⟩, trivial⟩⟩, trivial⟩
 all_goals first | exact hk | rfl | (simp; done) | decide
theorem EW (h : oK s) : eH s = 0 /\ s.tables ≠ [] := by
 obtain ⟨ver, n, id, v0, v1, n2, n4, hid, rfl⟩ := h.ex
 refine ⟨Wh (by simp [kQ]; omega) (λ t ht => ?_) v0 (by show ver <= 1000; omega) (UU (Rg hid) n), λ e => ?_⟩
 . have ht := X0 ht
   simp only [kQ, xA, List.not_mem_nil, or_false] at ht
   rcases ht with rfl | rfl | rfl | rfl <;> exact ⟨by simp, rfl, rfl⟩
 . have := congrArg List.length e
   simp [kQ] at this
   omega
theorem Gv (h : oK s) {t : u7} (ht : t ∈ s.tables) : 1 <= t.key /\ 1 <= t.columns.length /\ t.columns.length <= 4 /\ ∀ c ∈ t.columns, Zt c.kind := by
 obtain ⟨ver, n, id, v0, v1, n2, n4, hid, rfl⟩ := h.ex
 have hk : Zt id := by rcases hid with rfl | rfl; exact .inr (.inl rfl); exact .inr (.inr rfl)
 have ht := X0 ht
 simp only [kQ, xA, List.not_mem_nil, or_false] at ht
 rcases ht with rfl | rfl | rfl | rfl
 all_goals
  refine ⟨by simp, by simp, by simp, λ c hc => ?_⟩
  simp only [xA, List.not_mem_nil, or_false] at hc
 . rcases hc with rfl | rfl <;> exact .inr (.inl rfl)
 . rcases hc with rfl | rfl | rfl | rfl
   . exact hk
   . exact .inr (.inl rfl)
   . exact .inr (.inr rfl)
   . exact .inl rfl
 . rcases hc with rfl | rfl <;> exact .inr (.inl rfl)
 . subst hc; exact hk
theorem JD (h : oK s) : XC s := λ t k hk => by
 unfold gP at hk
 split at hk
 . simp at hk
 . split at hk
   . simp at hk
   . rename_i tb htb
     obtain ⟨c, hc, rfl⟩ := mH.1 hk
     exact (Gv h (lP htb)).2.2.2 c hc
end Go.Ps
