/-
  Part 4 of a proof that a law of the given program returns true: a condition generator that is proved sound, and contracts of functions. No condition of its own. Own work, joined by a program (pack2.py).
-/
import Derived.Test.YtogokeienebdfaaGreatDoorMc
namespace Go.Ps
open Go Go.Vc Go.Proofs
variable {K : CV -> MH -> PH -> Prop} {m : MH} {h : PH} {s : oC} {ps : List Int} {cb : Nat} {sc : bH} {v : QV} {q : Query} {p : Pred} {l : List Int} {i : Nat} {N : Nat} {m' : MH} {h' : PH} {co : List Int} {gr : List Int} {od : List (Int × Bool)} {w : Pred} {ta : Int} {li : Int} {xs : List (List Value)} {sz : Nat} {k : Nat} {ks : List (List Int)} {rs : List Int} {r : Sl} {a : List Int} {b : Nat}
def fV : PV := ⟨0, 0, cR, cR, ⟨none, 0, 0⟩⟩
def SU (N : Nat) : Vc.Spec := λ cvs m h K => ∃ v p, cvs = [aP v] /\ cX h p v /\ SizeOf.sizeOf p < N /\ ∀ v' h', PH.le h h' -> cX h' p v' -> K (aP v') m h'
def Oh : Vc.Spec := λ cvs m h K => ∃ v p, cvs = [aP v] /\ cX h p v /\ ∀ v' h', PH.le h h' -> cX h' p v' -> K (aP v') m h'
def Gz : Vc.Spec := λ cvs m h K => ∃ s l, cvs = [cS s] /\ aU h s l /\ ∀ s' h', PH.le h h' -> aU h' s' l -> K (cS s') m h'
def KF : Vc.Spec := λ cvs m h K => ∃ s l, cvs = [cS s] /\ gM h s l /\ ∀ s' h', PH.le h h' -> gM h' s' l -> K (cS s') m h'
def KE : Vc.Spec := λ cvs m h K => ∃ s l, cvs = [cS s] /\ fU h s l /\ ∀ s' h', PH.le h h' -> fU h' s' l -> K (cS s') m h'
noncomputable def O5 (N : Nat) (v : PV) (m : MH) : Ctx :=
 cO [(66, SU N)] [(4, { A := Nat × List PV × PH, st := λ ⟨i, us, h⟩ => cD 24 25 [(1, .at (.ptr 1 0)), (2, .at (.ptr 2 0)), (9, sv v.args), (10, iv v.args.len), (11, iv i)] [(1, .cells 38 ((v.enc.take 12).map .val ++ [.lst 20])), (2, .cells 38 (fV.enc.map .val)), (20, .lst 38 13 (us.map PV.enc))] m h })] [] [] false
noncomputable abbrev lS (a : OV) : At := Jv a.value.text
noncomputable abbrev mG (a : Int) (b c : OV) (d : List At) : List At := bB (bL a) (bL (qC b)) (bB (lS b) (bL c.kind) d)
noncomputable abbrev kP (a : PV) : Int := iA a.left
abbrev jC  : Prop := eQ (oQ 38 zP)
noncomputable abbrev oY (a : List PV) : List (List Value) := List.map PV.enc a
abbrev Dt (a : PV -> PH -> Prop) : Prop := ∀ (x : PV) (x1 : PH), a x x1
noncomputable abbrev tC (a : PV) : Value := hX a.left
noncomputable abbrev tD (a : PV) : Value := hZ a.left
noncomputable abbrev tE (a : PV) : Value := iE a.left
attribute [push_cast] lS mG kP jC oY Dt tC tD tE
def LW (N : Nat) (v : PV) (m : MH) (h : PH) (K : CV -> MH -> PH -> Prop) : Prop :=
  ∃ (I : Nat × List PV × PH -> Prop) (m1 : Nat × List PV × PH -> Nat), (∃ (x : Nat × List PV × PH), aA (I x) gF (aA (eP 2) (aK v.args) (aA (oT v) (bO x.1) (aA (eQ (oQ 38 (bB (bL v.op) (bL v.cmp) (bB (bL v.left.kind) (bL v.left.index) (mG (kP v) v.left v.right (bB (bL v.right.index) (bL (iA v.right)) (bB (bL (qC v.right)) (lS v.right) (iQ (At.lst 20))))))))) jC (aG (rY 38 13 (oY x.2.1)) (m = m) (h = x.2.2) True))))) /\ ∀ (x : Nat × List PV × PH), I x -> bE (↑x.1 : Int) (aF v.args) (aY (λ b o => aG (bC v.args.a b o) (0 <= (↑x.1 : Int)) ((↑x.1 : Int) < aF v.args) (∃ (y : PV), bI m x.2.2 b (bZ o x.1 13) y.enc /\ kC (λ v1 p => aG (cK (eF y) (eF v1)) (cX x.2.2 p v1) (nV p N) (Dt (λ v2 h1 => eU x.2.2 h1 (cX h1 p v2) (oO (oY x.2.1) 136 (∃ (x1 : Nat × List
 PV × PH), aA (I x1) (m1 x1 < m1 x) (aA (eP 1) (eP 2) (aA (aK v.args) (oT v) (aA (aZ x.1 1 x1.1) (eQ (oQ 38 (bB (bL v.op) (bL v.cmp) (bB (bL v.left.kind) (bL v.left.index) (mG (kP v) v.left v.right (bB (bL v.right.index) (bL (iA v.right)) (bB (bL (qC v.right)) (lS v.right) (iQ (At.lst 20))))))))) (kN jC (cM 38 13 (iK (oY x.2.1) v2.enc) = cM 38 13 (oY x1.2.1)) (m = m) h1 x1.2.2)))))))))))) (bQ x.2.2 13 (oY x.2.1) (λ s h1 => K (kK (aL (cZ v.op) (cZ v.cmp) (aL (tC v) (tD v) (aL (iD v.left) (tE v) (aL (gL v.left) (hX v.right) (aL (hZ v.right) (iD v.right) (aL (iE v.right) (gL v.right) (cT s)))))))) m h1))
theorem Vx (N : Nat) (v : PV) (m : MH) (h : PH) (K : CV -> MH -> PH -> Prop) : LW N v m h K = (cG (O5 N v m) Tryz.f66 (aE Tryz.f66) (entry Tryz.f66.ntmps [aP v] m h) K) := by kernel_rfl
def Ra (n c : Nat) (m : MH) (h : PH) (K : CV -> MH -> PH -> Prop) : Prop :=
  K Fj m h
theorem To (n c : Nat) (m : MH) (h : PH) (K : CV -> MH -> PH -> Prop) : Ra n c m h K = (cG (cO [] [] [] [] false) Tryz.f67 (aE Tryz.f67) (entry Tryz.f67.ntmps [.val (.slice none n c)] m h) K) := by kernel_rfl
def Q9 (a : Addr) (n c : Nat) (m : MH) (h : PH) (K : CV -> MH -> PH -> Prop) : Prop :=
  ∃ (y : List (List Value)), aA (dK 1 y) (cW h (Sl.mk (Option.some a) n c) 1 y) (aA (fR ((0 + y.length) * 8)) (fR (0 + y.length)) (bQ h 1 ([] ++ y) (λ s h1 => K (dO s) m h1)))
theorem Tn (a : Addr) (n c : Nat) (m : MH) (h : PH) (K : CV -> MH -> PH -> Prop) : Q9 a n c m h K = (cG (cO [] [] [] [] false) Tryz.f67 (aE Tryz.f67) (entry Tryz.f67.ntmps [.val (.slice (some a) n c)] m h) K) := by kernel_rfl
def Q8 (n c : Nat) (m : MH) (h : PH) (K : CV -> MH -> PH -> Prop) : Prop :=
  K Fj m h
theorem Tm (n c : Nat) (m : MH) (h : PH) (K : CV -> MH -> PH -> Prop) : Q8 n c m h K = (cG (cO [] [] [] [] false) Tryz.f68 (aE Tryz.f68) (entry Tryz.f68.ntmps [.val (.slice none n c)] m h) K) := by kernel_rfl
def Q7 (a : Addr) (n c : Nat) (m : MH) (h : PH) (K : CV -> MH -> PH -> Prop) : Prop :=
  ∃ (y : List (List Value)), aA (dK 2 y) (cW h (Sl.mk (Option.some a) n c) 2 y) (aA (fR ((0 + y.length) * 16)) (fR (0 + y.length)) (bQ h 2 ([] ++ y) (λ s h1 => K (dO s) m h1)))
theorem Tl (a : Addr) (n c : Nat) (m : MH) (h : PH) (K : CV -> MH -> PH -> Prop) : Q7 a n c m h K = (cG (cO [] [] [] [] false) Tryz.f68 (aE Tryz.f68) (entry Tryz.f68.ntmps [.val (.slice (some a) n c)] m h) K) := by kernel_rfl
def Q6 (n c : Nat) (m : MH) (h : PH) (K : CV -> MH -> PH -> Prop) : Prop :=
  K Fj m h
theorem Tk (n c : Nat) (m : MH) (h : PH) (K : CV -> MH -> PH -> Prop) : Q6 n c m h K = (cG (cO [] [] [] [] false) Tryz.f69 (aE Tryz.f69) (entry Tryz.f69.ntmps [.val (.slice none n c)] m h) K) := by kernel_rfl
def Q5 (a : Addr) (n c : Nat) (m : MH) (h : PH) (K : CV -> MH -> PH -> Prop) : Prop :=
  ∃ (y : List (List Value)), aA (dK 2 y) (cW h (Sl.mk (Option.some a) n c) 2 y) (aA (fR ((0 + y.length) * 16)) (fR (0 + y.length)) (bQ h 2 ([] ++ y) (λ s h1 => K (dO s) m h1)))
theorem Tj (a : Addr) (n c : Nat) (m : MH) (h : PH) (K : CV -> MH -> PH -> Prop) : Q5 a n c m h K = (cG (cO [] [] [] [] false) Tryz.f69 (aE Tryz.f69) (entry Tryz.f69.ntmps [.val (.slice (some a) n c)] m h) K) := by kernel_rfl
theorem O6 : ∀ N, Sound Tryz.prog 66 (SU N)
 | 0 => by
  refine aI (fn := Tryz.f66) (c := aE Tryz.f66) Tryz.func66 rfl (by decide) ?_
  rintro cvs m h K ⟨v, p, rfl, _, hN, _⟩
  omega
 | N + 1 => by
  refine aI (fn := Tryz.f66) (c := aE Tryz.f66) Tryz.func66 rfl (by decide) ?_
  rintro cvs m h K ⟨v, p, rfl, hp, hN, hK⟩
  refine ⟨O5 N v m, rfl, aD (O6 N) aH, ?_⟩
  rw [<- Vx N v m h K]
  dsimp only [LW, push_cast]
  have hargs := @uL p
  obtain ⟨op, cmp, l, r, ps⟩ := p
  obtain ⟨rfl, rfl, rfl, rfl, ha⟩ := hp.parts
  have hl := ha.slen
  have hlen := ha.len
  simp only [Pred.args] at hargs
  refine ⟨λ ⟨i, us, hx⟩ => i <= ps.length /\ PH.le h hx /\ us.length = i /\ ∀ (j : Nat) x, (ps.take i)[j]? = some x -> ∃ u, us[j]? = some u /\ cX hx x u, λ ⟨i, _, _⟩ => ps.length - i, ⟨(0, [], h), ⟨by omega, .refl _, rfl, λ j x hx => by simp at hx⟩, MT⟩, ?_⟩
  rintro ⟨i, us, hx⟩ ⟨hi, hle, hul, hus⟩
  dsimp only
  refine aC (λ hlt => ?_) (λ hge sl h' hle' hrow => hK ⟨v.op, v.cmp, v.left, v.right, sl⟩ h' (hle.trans hle') (cX.mk (v := ⟨v.op, v.cmp, v.left, v.right, sl⟩) ⟨⟨us, hrow, by omega, λ j x hx => ?_⟩, hlen⟩))
  . obtain ⟨q, hq⟩ := fP hl hlt
    obtain ⟨b1, o1, u, e1, r1, hru⟩ := (ha.mono hle).at hq
    refine ⟨b1, o1, e1, by omega, hlt, u, .imm r1, u, q, rfl, hru, ?_, λ v' h' hle' hr' => ⟨by simp; omega, by simp; omega, (i + 1, us ++ [v'], h'), ⟨by omega, hle.trans hle', by simp [hul], λ j x hx => ?_⟩, by show ps.length - (i + 1) < ps.length - i; omega, ?_⟩⟩
    . have := hargs (List.mem_of_getElem? hq); omega
    . rw [List.take_add_one, hq] at hx
      by_cases hj : j < i
      . rw [List.getElem?_append_left (by simp; omega)] at hx
        obtain ⟨u', h1, h2⟩ := hus j x hx
        exact ⟨u', by rw [List.getElem?_append_left (by omega)]; exact h1, h2.mono hle'⟩
      . rw [List.getElem?_append_right (by simp; omega)] at hx
        have hjl := (List.getElem?_eq_some_iff.1 hx).1
        simp at hjl
        have : j = i := by omega
        subst this
        simp only [List.length_take, Nat.min_eq_left hi, Nat.sub_self] at hx
        simp at hx
        subst hx
        exact ⟨v', by rw [List.getElem?_append_right (by omega), hul]; simp, hr'⟩
    . rw [List.map_append]; exact MT
  . rw [List.take_of_length_le (by omega)] at hus
    obtain ⟨u, h1, h2⟩ := hus j x hx
    exact ⟨u, h1, h2.mono hle'⟩
theorem IP : Sound Tryz.prog 66 Oh := gN O6 λ _ _ _ _ ⟨v, p, e, h1, h2⟩ => ⟨SizeOf.sizeOf p + 1, v, p, e, h1, by omega, h2⟩
theorem A7 (l : List (Int × Int)) : dK 2 (l.map pM) := by
 constructor
 . intro e he; obtain ⟨x, _, rfl⟩ := List.mem_map.1 he; rfl
 . intro e he u hu; obtain ⟨x, _, rfl⟩ := List.mem_map.1 he; simp [pM] at hu; rcases hu with rfl | rfl <;> rfl
theorem A6 (l : List (Int × Bool)) : dK 2 (l.map xS) := by
 constructor
 . intro e he; obtain ⟨x, _, rfl⟩ := List.mem_map.1 he; rfl
 . intro e he u hu; obtain ⟨x, _, rfl⟩ := List.mem_map.1 he; simp [xS] at hu; rcases hu with rfl | rfl <;> rfl
theorem GP {n c : Nat} {α : Type} {enc : α -> List Value} {l : List α} (r : cW h ⟨none, n, c⟩ sz (l.map enc)) : l = [] := by
 rcases r.row with e | ⟨b, o, e, _⟩
 . simpa using e
 . cases e
theorem EX : Sound Tryz.prog 67 Gz := by
 refine aI (fn := Tryz.f67) (c := aE Tryz.f67) Tryz.func67 rfl (by decide) ?_
 rintro cvs m h K ⟨⟨a, n, c⟩, l, rfl, hl, hK⟩
 refine ⟨cO [] [] [] [] false, rfl, aH, ?_⟩
 have hlen := hl.len
 cases a with
 | none =>
  have e := GP hl.row
  subst e
  show cG _ _ _ (entry Tryz.f67.ntmps [.val (.slice none n c)] m h) K
  rw [<- To n c m h K]
  exact hK ⟨none, 0, 0⟩ h (.refl _) ⟨.nil _ _, by simp⟩
 | some a =>
  show cG _ _ _ (entry Tryz.f67.ntmps [.val (.slice (some a) n c)] m h) K
  rw [<- Tn a n c m h K]
  exact ⟨_, kG l, hl.row, by simp; omega, by simp; omega, λ s' h' hle hrow => hK s' h' hle ⟨hrow, hlen⟩⟩
theorem IN : Sound Tryz.prog 68 KF := by
 refine aI (fn := Tryz.f68) (c := aE Tryz.f68) Tryz.func68 rfl (by decide) ?_
 rintro cvs m h K ⟨⟨a, n, c⟩, l, rfl, hl, hK⟩
 refine ⟨cO [] [] [] [] false, rfl, aH, ?_⟩
 have hlen := hl.len
 cases a with
 | none =>
  have e := GP hl.row
  subst e
  show cG _ _ _ (entry Tryz.f68.ntmps [.val (.slice none n c)] m h) K
  rw [<- Tm n c m h K]
  exact hK ⟨none, 0, 0⟩ h (.refl _) ⟨.nil _ _, by simp⟩
 | some a =>
  show cG _ _ _ (entry Tryz.f68.ntmps [.val (.slice (some a) n c)] m h) K
  rw [<- Tl a n c m h K]
  exact ⟨_, A7 l, hl.row, by simp; omega, by simp; omega, λ s' h' hle hrow => hK s' h' hle ⟨hrow, hlen⟩⟩
theorem IM : Sound Tryz.prog 69 KE := by
 refine aI (fn := Tryz.f69) (c := aE Tryz.f69) Tryz.func69 rfl (by decide) ?_
 rintro cvs m h K ⟨⟨a, n, c⟩, l, rfl, hl, hK⟩
 refine ⟨cO [] [] [] [] false, rfl, aH, ?_⟩
 have hlen := hl.len
 cases a with
 | none =>
  have e := GP hl.row
  subst e
  show cG _ _ _ (entry Tryz.f69.ntmps [.val (.slice none n c)] m h) K
  rw [<- Tk n c m h K]
  exact hK ⟨none, 0, 0⟩ h (.refl _) ⟨.nil _ _, by simp⟩
 | some a =>
  show cG _ _ _ (entry Tryz.f69.ntmps [.val (.slice (some a) n c)] m h) K
  rw [<- Tj a n c m h K]
  exact ⟨_, A6 l, hl.row, by simp; omega, by simp; omega, λ s' h' hle hrow => hK s' h' hle ⟨hrow, hlen⟩⟩
def Es (h : PH) (s : Sl) (l : List VV) : Prop := iT h 3 VV.enc Eq s l
theorem Es.mono {s : Sl} {l : List VV} (x : Es h s l) (le : PH.le h h') : Es h' s l := iT.mono x le λ _ _ e => e
def fT (ps : List VV) (o : OV) : OV := if o.kind = 2 /\ 0 <= o.index /\ o.index < ps.length then ⟨3, 0, ps.getD o.index.toNat zeroV⟩ else o
mutual
def BN (ps : List VV) : Pred -> Pred
 | .mk op cmp l r args => .mk op cmp (fT ps l) (fT ps r) (Cp ps args)
def Cp (ps : List VV) : List Pred -> List Pred
 | [] => []
 | p :: r => BN ps p :: Cp ps r
end
theorem HN (ps : List VV) : ∀ l, Cp ps l = l.map (BN ps)
 | [] => by simp [Cp]
 | p :: r => by simp [Cp, HN ps r]
theorem RH (o : OV) : fT [] o = o := by unfold fT; rw [if_neg]; simp
mutual
theorem Fm : ∀ p, BN [] p = p
 | .mk op cmp l r args => by simp only [BN, RH, HM args]
theorem HM : ∀ l, Cp [] l = l
 | [] => by simp [Cp]
 | p :: r => by simp only [Cp, Fm p, HM r]
end
structure Step where
 op : Int
 table : Int
 wher : Pred
 columns : List Int
 on : List (Int × Int)
 group : List Int
 order : List (Int × Bool)
 limit : Int
 left : Int
 right : Int
variable {ts : List Step} {t : Step}
def Step.query (t : Step) : Query := .mk t.op t.table t.wher t.columns t.on t.group t.order t.limit []
structure hU (h : PH) (t : Step) (v : eO) : Prop where
 op_ : v.op = t.op
 table_ : v.table = t.table
 where_ : cX h t.wher v.where_
 columns_ : aU h v.columns t.columns
 on_ : gM h v.on t.on
 group_ : aU h v.group t.group
 order_ : fU h v.order t.order
 limit_ : v.limit = t.limit
 left_ : v.left = t.left
 right_ : v.right = t.right
theorem hU.mono {v : eO} (x : hU h t v) (le : PH.le h h') : hU h' t v := ⟨x.op_, x.table_, x.where_.mono le, x.columns_.mono le, x.on_.mono le, x.group_.mono le, x.order_.mono le, x.limit_, x.left_, x.right_⟩
def aT (v : eO) : CV := .val (.agg ⟨v.enc⟩)
def iP : QV := ⟨0, 0, fV, ⟨none, 0, 0⟩, ⟨none, 0, 0⟩, ⟨none, 0, 0⟩, ⟨none, 0, 0⟩, 0, ⟨none, 0, 0⟩⟩
def SW : Vc.Spec := λ cvs m h K => ∃ o s ps, cvs = [aO o, cS s] /\ Es h s ps /\ K (aO (fT ps o)) m h
def UJ (N : Nat) : Vc.Spec := λ cvs m h K => ∃ v s p ps, cvs = [aP v, cS s] /\ cX h p v /\ Es h s ps /\ SizeOf.sizeOf p < N /\ ∀ v' h', PH.le h h' -> cX h' (BN ps p) v' -> K (aP v') m h'
def SX : Vc.Spec := λ cvs m h K => ∃ v s p ps, cvs = [aP v, cS s] /\ cX h p v /\ Es h s ps /\ ∀ v' h', PH.le h h' -> cX h' (BN ps p) v' -> K (aP v') m h'
def SS (N : Nat) : Vc.Spec := λ cvs m h K => ∃ v q, cvs = [aQ v] /\ cC h q v /\ SizeOf.sizeOf q < N /\ ∀ v' h', PH.le h h' -> cC h' q v' -> K (aQ v') m h'
def Fw : Vc.Spec := λ cvs m h K => ∃ v q, cvs = [aQ v] /\ cC h q v /\ ∀ v' h', PH.le h h' -> cC h' q v' -> K (aQ v') m h'
def KA : Vc.Spec := λ cvs m h K => ∃ v t, cvs = [aT v] /\ hU h t v /\ ∀ v' h', PH.le h h' -> cC h' t.query v' -> K (aQ v') m h'
def SD : Vc.Spec := λ cvs m h K => ∃ v w t u, cvs = [aT v, aT w] /\ hU h t v /\ hU h u w /\ ∀ r : Bool, (r = true ↔ t = u) -> K (cB r) m h
noncomputable def f58_ctx (N : Nat) (v : PV) (s : Sl) (m : MH) (h : PH) : Ctx :=
 cO [(58, UJ N), (84, SW)] [(3, { A := Nat × OV × OV × List PV × PH, st := λ ⟨i, l, r, us, h⟩ => cD 40 42 [(1, sv s), (2, .at (.ptr 2 0)), (4, .at (.ptr 4 0)), (5, .at (.ptr 5 0)), (22, iv v.args.len), (23, iv i)] [(2, .cells 38 (v.enc.map .val)), (4, .cells 38 (fV.enc.map .val)), (5, .cells 38 (([Value.int .i64 v.op, Value.int .i64 v.cmp] ++ l.enc ++ r.enc).map .val ++ [.lst 36])), (36, .lst 38 13 (us.map PV.enc))] m h })]
  [(2, { A := OV × OV, st := λ ⟨l, r⟩ => cD 40 42 [(1, sv s), (2, .at (.ptr 2 0)), (4, .at (.ptr 4 0)), (5, .at (.ptr 5 0))] [(2, .cells 38 (v.enc.map .val)), (4, .cells 38 (fV.enc.map .val)), (5, .cells 38 (([Value.int .i64 v.op, Value.int .i64 v.cmp] ++ l.enc ++ r.enc ++ [Value.slice none 0 0]).map .val))] m h })] [] false
noncomputable def Py (N : Nat) (v : QV) (co : List Int) (on : List (Int × Int)) (gr : List Int) (od : List (Int × Bool)) (m : MH) : Ctx :=
 cO [(58, SX), (28, SS N)] [(9, { A := Nat × PV × List QV × PH, st := λ ⟨i, w, us, h⟩ => cD 46 47 [(1, .at (.ptr 1 0)), (2, .at (.ptr 2 0)), (3, .at (.ptr 3 0)), (29, iv v.args.len), (30, iv i)] [(1, .cells 43 (v.enc.map .val)), (2, .cells 43 (iP.enc.map .val)), (3, .cells 43 (([Value.int .i64 v.op, Value.int .i64 v.table] ++ w.enc).map .val ++ [.lst 12, .lst 16, .lst 20, .lst 24, .val (.int .i64 v.limit), .lst 42])), (12, .lst 3 1 (co.map eI)), (16, .lst 78 2 (on.map pM)), (20, .lst 3 1 (gr.map eI)), (24, .lst 80 2 (od.map xS)), (42, .lst 43 21 (us.map QV.enc))] m h })] [] [] false
def LJ (o : OV) (s : Sl) (m : MH) (h : PH) (K : CV -> MH -> PH -> Prop) : Prop :=
  dW o.kind 2 (fI o.index 0 (bE o.index (aF s) (aY (λ b o1 => aG (bC s.a b o1) (0 <= o.index) (o.index < aF s) (∃ (y : VV), bI m h b (iW o1 o.index 3) y.enc /\ K (kK (aL (cZ 3) aX (aL (cZ y.kind) (cZ y.int) (oB (Value.string y.text))))) m h))) (K (kK o.enc) m h)) (K (kK o.enc) m h)) (K (kK o.enc) m h)
theorem Vf (o : OV) (s : Sl) (m : MH) (h : PH) (K : CV -> MH -> PH -> Prop) : LJ o s m h K = (cG (cO [] [] [] [] false) Tryz.f84 (aE Tryz.f84) (entry Tryz.f84.ntmps [aO o, cS s] m h) K) := by kernel_rfl
abbrev EP (a : Sl -> (List VV) -> Prop) : Prop := ∃ (x : Sl) (x1 : List VV), a x x1
noncomputable abbrev nR (a : Nat × OV × OV × List PV × PH) : OV := a.2.1
noncomputable abbrev lM (a : Nat × OV × OV × List PV × PH) : OV := a.2.2.1
noncomputable abbrev sV (a : Nat × OV × OV × List PV × PH) : List PV × PH := a.2.2.2
attribute [push_cast] EP nR lM sV
def f58_nice (N : Nat) (v : PV) (s : Sl) (m : MH) (h : PH) (K : CV -> MH -> PH -> Prop) : Prop :=
  ∃ (I : OV × OV -> Prop), ((∃ (o : OV), EP (λ s1 p => aG (dL (kK (u9 v)) s = dL (kK o.enc) s1) (Es h s1 p) (∃ (o1 : OV), EP (λ s2 p1 => aA (dL (kK (tH v)) s = dL (kK o1.enc) s2) (Es h s2 p1) (∃ (x : OV × OV), aA (I x) (aK s) (aA (eP 2) (eP 4) (aA eT (jA v) (aA jC (oQ 38 (bB (bL v.op) (bL v.cmp) (bB (At.val (hX (fT p o))) (At.val (hZ (fT p o))) (bB (At.val (iD (fT p o))) (At.val (iE (fT p o))) (bB (At.val (gL (fT p o))) (At.val (hX (fT p1 o1))) (bB (At.val (hZ (fT p1 o1))) (At.val (iD (fT p1 o1))) (bB (At.val (iE (fT p1 o1))) (At.val (gL (fT p1 o1))) (iQ uQ))))))) = oQ 38 (bB (bL v.op) (bL v.cmp) (bB (bL x.1.kind) (bL x.1.index) (mG (iA x.1) x.1 x.2 (bB (bL x.2.index) (bL (iA x.2)) (bB (bL (qC x.2)) (lS x.2)
 (iQ uQ))))))) (cQ (m = m) h h))))))) (∃ (o1 : OV), EP (λ s2 p1 => aA (dL (kK (tH v)) s = dL (kK o1.enc) s2) (Es h s2 p1) (∃ (x : OV × OV), aA (I x) (aK s) (aA (eP 2) (eP 4) (aA eT (jA v) (aA jC (oQ 38 (bB (bL v.op) (bL v.cmp) (bB (At.val (hX (fT p o))) (At.val (hZ (fT p o))) (bB (At.val (iD (fT p o))) (At.val (iE (fT p o))) (bB (At.val (gL (fT p o))) (At.val (hX (fT p1 o1))) (bB (At.val (hZ (fT p1 o1))) (At.val (iD (fT p1 o1))) (bB (At.val (iE (fT p1 o1))) (At.val (gL (fT p1 o1))) (iQ uQ))))))) = oQ 38 (bB (bL v.op) (bL v.cmp) (bB (bL x.1.kind) (bL x.1.index) (mG (iA x.1) x.1 x.2 (bB (bL x.2.index) (bL (iA x.2)) (bB (bL (qC x.2)) (lS x.2) (iQ uQ))))))) (cQ (m = m) h h))))))))) /\ ∃ (o : OV), EP (λ s1 p => aA
 (dL (kK (u9 v)) s = dL (kK o.enc) s1) (Es h s1 p) (∃ (o1 : OV), EP (λ s2 p1 => aA (dL (kK (tH v)) s = dL (kK o1.enc) s2) (Es h s2 p1) (∃ (x : OV × OV), aA (I x) (aK s) (aA (eP 2) (eP 4) (aA eT (jA v) (aA jC (oQ 38 (bB (bL v.op) (bL v.cmp) (bB (At.val (hX (fT p o))) (At.val (hZ (fT p o))) (bB (At.val (iD (fT p o))) (At.val (iE (fT p o))) (bB (At.val (gL (fT p o))) (At.val (hX (fT p1 o1))) (bB (At.val (hZ (fT p1 o1))) (At.val (iD (fT p1 o1))) (bB (At.val (iE (fT p1 o1))) (At.val (gL (fT p1 o1))) (iQ uQ))))))) = oQ 38 (bB (bL v.op) (bL v.cmp) (bB (bL x.1.kind) (bL x.1.index) (mG (iA x.1) x.1 x.2 (bB (bL x.2.index) (bL (iA x.2)) (bB (bL (qC x.2)) (lS x.2) (iQ uQ))))))) (cQ (m = m) h h))))))))) /\ ∀ (x : OV ×
 OV), I x -> ∃ (I1 : Nat × OV × OV × List PV × PH -> Prop) (m1 : Nat × OV × OV × List PV × PH -> Nat), (∃ (x1 : Nat × OV × OV × List PV × PH), aA (I1 x1) (aK s) (aA (eP 2) (eP 4) (aA eT (oT v) (aA (bO x1.1) (jA v) (aA jC (oQ 38 (bB (bL v.op) (bL v.cmp) (bB (bL x.1.kind) (bL x.1.index) (mG (iA x.1) x.1 x.2 (bB (bL x.2.index) (bL (iA x.2)) (bB (bL (qC x.2)) (lS x.2) (iQ (At.lst 36))))))) = oQ 38 (bB (bL v.op) (bL v.cmp) (bB (bL (nR x1).kind) (bL (nR x1).index) (mG (iA (nR x1)) (nR x1) (lM x1) (bB (bL (lM x1).index) (bL (iA (lM x1))) (bB (bL (qC (lM x1))) (lS (lM x1)) (iQ (At.lst 36)))))))) (aA (rY 38 13 (oY (sV x1).1)) (m = m) (bG h (sV x1).2))))))) /\ ∀ (x1 : Nat × OV × OV × List PV × PH), I1 x1 -> bE (↑x1.1 : Int) (aF v.args)
 (aY (λ b o => aG (bC v.args.a b o) (0 <= (↑x1.1 : Int)) ((↑x1.1 : Int) < aF v.args) (∃ (y : PV), bI m (sV x1).2 b (bZ o x1.1 13) y.enc /\ ∃ (v1 : PV) (s1 : Sl) (p : Pred) (p1 : List VV), aA (dL (eF y) s = dL (eF v1) s1) (cX (sV x1).2 p v1) (aA (Es (sV x1).2 s1 p1) (nV p N) (Dt (λ v2 h1 => eU (sV x1).2 h1 (cX h1 (BN p1 p) v2) (aA (bI m h1 b (bZ o x1.1 13) y.enc) (cL h1 b (bZ o x1.1 13) y.enc) (aA (fR (iV (oY (sV x1).1) 1 * 136)) (kR (oY (sV x1).1)) (∃ (x2 : Nat × OV × OV × List PV × PH), aA (I1 x2) (m1 x2 < m1 x1) (aA (aK s) fL (aA (eP 4) eT (aA (oT v) (aZ x1.1 1 x2.1) (aA (jA v) jC (aA (oQ 38 (bB (bL v.op) (bL v.cmp) (bB (bL (nR x1).kind) (bL (nR x1).index) (mG (iA (nR x1)) (nR x1) (lM x1) (bB
 (bL (lM x1).index) (bL (iA (lM x1))) (bB (bL (qC (lM x1))) (lS (lM x1)) (iQ (At.lst 36))))))) = oQ 38 (bB (bL v.op) (bL v.cmp) (bB (bL (nR x2).kind) (bL (nR x2).index) (mG (iA (nR x2)) (nR x2) (lM x2) (bB (bL (lM x2).index) (bL (iA (lM x2))) (bB (bL (qC (lM x2))) (lS (lM x2)) (iQ (At.lst 36)))))))) (cM 38 13 (iK (oY (sV x1).1) v2.enc) = cM 38 13 (oY (sV x2).1)) (cQ (m = m) h1 (sV x2).2))))))))))))))) (bQ (sV x1).2 13 (oY (sV x1).1) (λ s1 h1 => K (kK (aL (cZ v.op) (cZ v.cmp) (aL (hX (nR x1)) (hZ (nR x1)) (aL (iD (nR x1)) (iE (nR x1)) (aL (gL (nR x1)) (hX (lM x1)) (aL (hZ (lM x1)) (iD (lM x1)) (aL (iE (lM x1)) (gL (lM x1)) (cT s1)))))))) m h1))
theorem f58_vc (N : Nat) (v : PV) (s : Sl) (m : MH) (h : PH) (K : CV -> MH -> PH -> Prop) : f58_nice N v s m h K = (cG (f58_ctx N v s m h) Tryz.f58 (aE Tryz.f58) (entry Tryz.f58.ntmps [aP v, cS s] m h) K) := by kernel_rfl
abbrev AG (a b c d : Prop) (e : (List (List Value)) -> Prop) : Prop := aA a b (aA c d (∃ (x : List (List Value)), e x))
noncomputable abbrev D3 (a : QV) : Sl := fK a.columns
abbrev dA  : Prop := eQ (oQ 43 zQ)
abbrev oJ (a b : List At) : Prop := oQ 43 a = oQ 43 b
noncomputable abbrev yG (a : QV) (b : PV) (c d e : Nat) (g : At) : List At := bB (bL a.op) (tO a) (pQ b (bB (At.lst 12) (At.lst c) (bB (At.lst d) (At.lst e) (kJ (bL a.limit) g))))
noncomputable abbrev yS (a : Nat × PV × List QV × PH) : PV := a.2.1
noncomputable abbrev Bm (a : List (Int × Int)) : List (List Value) := List.map pM a
noncomputable abbrev B5 (a : List (Int × Bool)) : List (List Value) := List.map xS a
noncomputable abbrev nA (a : List QV) : List (List Value) := List.map QV.enc a
noncomputable abbrev rU (a : List QV × PH) : List (List Value) := nA a.1
noncomputable abbrev An (a : PV) (b c d e g : Value) (i : Sl) : List Value := aL (gL a.left) (hX a.right) (aL (hZ a.right) (iD a.right) (aL (iE a.right) (gL a.right) (aL (nG a.args) b (aL c d (aL e g (cT i))))))
attribute [push_cast] AG D3 dA oJ yG yS Bm B5 nA rU An
def Hy (N : Nat) (v : QV) (co : List Int) (on : List (Int × Int)) (gr : List Int) (od : List (Int × Bool)) (m : MH) (h : PH) (K : CV -> MH -> PH -> Prop) : Prop :=
  ∃ (v1 : PV) (s : Sl) (p : Pred) (p1 : List VV), aG (lY (eF v.where_) Fj = dL (eF v1) s) (cX h p v1) (Es h s p1) (Dt (λ v2 h1 => eU h h1 (cX h1 (BN p1 p) v2) (∃ (y : List (List Value)), AG (dK 1 y) (cW h1 (D3 v) 1 y) (tK y 8) (tL y) (λ y1 => AG (dK 2 y1) (cW h1 (fK v.on) 2 y1) (tK y1 16) (tL y1) (λ y2 => AG (dK 1 y2) (cW h1 (fK v.group) 1 y2) (tK y2 8) (tL y2) (λ y3 => aA (dK 2 y3) (cW h1 (fK v.order) 2 y3) (aA (tK y3 16) (tL y3) (∃ (I : Nat × PV × List QV × PH -> Prop) (m1 : Nat × PV × List QV × PH -> Nat), (∃ (x : Nat × PV × List QV × PH), aA (I x) gF (aA (eP 2) (eP 3) (aA (oU v) (bO x.1) (aA (dD v) dA (aA (oJ (yG v v2 16 20 24 (At.lst 42)) (yG v (yS x) 16 20 24 (At.lst 42))) (mT y co) (aA (cM 78 2
 y1 = cM 78 2 (Bm on)) (mT y2 gr) (aA (cM 80 2 y3 = cM 80 2 (B5 od)) (rY 43 21 (rU x.2.2)) (aA (m = m) (h1 = x.2.2.2) True)))))))) /\ ∀ (x : Nat × PV × List QV × PH), I x -> bE (↑x.1 : Int) (aF v.args) (aY (λ b o => aG (bC v.args.a b o) (0 <= (↑x.1 : Int)) ((↑x.1 : Int) < aF v.args) (∃ (y4 : QV), bI m x.2.2.2 b (bZ o x.1 21) y4.enc /\ kS (λ v3 q => aG (cK (eN y4) (eN v3)) (cC x.2.2.2 q v3) (qM q N) (∀ (v4 : QV) (h2 : PH), eU x.2.2.2 h2 (cC h2 q v4) (aA (bI m h2 b (bZ o x.1 21) y4.enc) (cL h2 b (bZ o x.1 21) y4.enc) (aA (fR (iV (rU x.2.2) 1 * 280)) (kR (rU x.2.2)) (∃ (x1 : Nat × PV × List QV × PH), aA (I x1) (m1 x1 < m1 x) (aA (eP 1) (eP 2) (aA hJ (oU v) (aA (aZ x.1 1 x1.1) (dD v) (aA dA (oJ (yG v (yS x) 16 20 24 (At.lst
 42)) (yG v (yS x1) 16 20 24 (At.lst 42))) (aA (eQ (Bn co)) (eQ (cM 78 2 (Bm on))) (aA (eQ (Bn gr)) (eQ (cM 80 2 (B5 od))) (aA (cM 43 21 (iK (rU x.2.2) v4.enc) = cM 43 21 (rU x1.2.2)) (m = m) (bG h2 x1.2.2.2)))))))))))))))) (bQ x.2.2.2 1 (bY co) (λ s1 h2 => bQ h2 2 (Bm on) (λ s2 h3 => bQ h3 1 (bY gr) (λ s3 h4 => bQ h4 2 (B5 od) (λ s4 h5 => bQ h5 21 (rU x.2.2) (λ s5 h6 => K (kK (aL (cZ v.op) (tP v) (aL (cZ (yS x).op) (cZ (yS x).cmp) (aL (tC (yS x)) (tD (yS x)) (aL (cZ (kP (yS x))) (tE (yS x)) (An (yS x) (nG s1) (nG s2) (nG s3) (nG s4) (vB v) s5)))))) m h6))))))))))))))
theorem V2 (N : Nat) (v : QV) (co : List Int) (on : List (Int × Int)) (gr : List Int) (od : List (Int × Bool)) (m : MH) (h : PH) (K : CV -> MH -> PH -> Prop) : Hy N v co on gr od m h K = (cG (Py N v co on gr od m) Tryz.f28 (aE Tryz.f28) (entry Tryz.f28.ntmps [aQ v] m h) K) := by kernel_rfl
noncomputable abbrev yU (a : eO) : OV := a.where_.right
attribute [push_cast] yU
def L4 (v : eO) (m : MH) (h : PH) (K : CV -> MH -> PH -> Prop) : Prop :=
  kS (λ v1 q => aA (cK (kK (aL (cZ v.op) (cZ v.table) (aL (cZ v.where_.op) (cZ v.where_.cmp) (aL (tC v.where_) (tD v.where_) (aL (cZ (kP v.where_)) (tE v.where_) (aL (gL v.where_.left) (hX (yU v)) (aL (hZ (yU v)) (iD (yU v)) (aL (iE (yU v)) (gL (yU v)) (aL (nG v.where_.args) (nG v.columns) (aL (nG v.on) (nG v.group) (aL (nG v.order) (cZ v.limit) eZ))))))))))) (eN v1)) (cC h q v1) (∀ (v2 : QV) (h1 : PH), eU h h1 (cC h1 q v2) (K (eN v2) m h1)))
theorem VM (v : eO) (m : MH) (h : PH) (K : CV -> MH -> PH -> Prop) : L4 v m h K = (cG (cO [(28, Fw)] [] [] [] false) Tryz.f43 (aE Tryz.f43) (entry Tryz.f43.ntmps [aT v] m h) K) := by kernel_rfl
abbrev Bk (a : eO -> Step -> Prop) : Prop := ∃ (x : eO) (x1 : Step), a x x1
noncomputable abbrev oN (a : eO) : CV := kK a.enc
noncomputable abbrev CB (a : Int) (b : Step) (c : Pred) (d : List (Int × Int)) : Query := Query.mk a b.table c b.columns d b.group b.order b.limit []
attribute [push_cast] Bk oN CB
def HB (v w : eO) (m : MH) (h : PH) (K : CV -> MH -> PH -> Prop) : Prop :=
  dW v.left w.left (dW v.right w.right (Bk (λ v1 t => aA (cK (oN v) (oN v1)) (hU h t v1) (∀ (v2 : QV) (h1 : PH), eU h h1 (cC h1 (CB t.op t t.wher t.on) v2) (Bk (λ v3 t1 => aA (cK (oN w) (oN v3)) (hU h1 t1 v3) (∀ (v4 : QV) (h2 : PH), eU h1 h2 (cC h2 (CB t1.op t1 t1.wher t1.on) v4) (∃ (v5 : QV), kS (λ w1 p => ∃ (q : Query), aG (wD v2 v4 = wD v5 w1) (cC h2 p v5) (cC h2 q w1) (∀ (r : Bool), dQ r (p = q) -> K (uS r) m h2))))))))) (K aR m h)) (K aR m h)
theorem Wc (v w : eO) (m : MH) (h : PH) (K : CV -> MH -> PH -> Prop) : HB v w m h K = (cG (cO [(43, KA), (24, Oe)] [] [] [] false) Tryz.f20 (aE Tryz.f20) (entry Tryz.f20.ntmps [aT v, aT w] m h) K) := by kernel_rfl
theorem QU : Sound Tryz.prog 84 SW := by
 refine aI (fn := Tryz.f84) (c := aE Tryz.f84) Tryz.func84 rfl (by decide) ?_
 rintro cvs m h K ⟨o, s, ps, rfl, hs, hK⟩
 refine ⟨cO [] [] [] [] false, rfl, aH, ?_⟩
 rw [<- Vf o s m h K]
 dsimp only [LJ, push_cast]
 have hl := iT.slen hs
 unfold fT at hK
 refine aB (λ h1 => aC (λ h2 => aC (λ h3 => ?_) (λ h3 => ?_)) (λ h2 => ?_)) (λ h1 => ?_)
 . have h1 : o.kind = 2 := by simpa using h1
   rw [if_pos ⟨h1, h2, by omega⟩] at hK
   have hx : ps[o.index.toNat]? = some (ps.getD o.index.toNat zeroV) := by
    rw [List.getD_eq_getElem?_getD, List.getElem?_eq_getElem (by omega)]; simp
   obtain ⟨b, off, v, e, r, rfl⟩ := iT.at hs hx
   exact ⟨b, off, e, by omega, h3, _, .imm r, hK⟩
 . rw [if_neg (λ e => by omega)] at hK; exact hK
 . rw [if_neg (λ e => by omega)] at hK; exact hK
 . have h1 : o.kind ≠ 2 := by simpa using h1
   rw [if_neg (λ e => h1 e.1)] at hK; exact hK
theorem It {α β : Type} {ps : List α} {us : List β} {i : Nat} {R R' : α -> β -> Prop} {q : α} {v : β} (hi : i <= ps.length) (hul : us.length = i) (hq : ps[i]? = some q) (hus : ∀ (j : Nat) x, (ps.take i)[j]? = some x -> ∃ u, us[j]? = some u /\ R x u) (hR : ∀ x u, R x u -> R' x u) (hv : R' q v) :
 ∀ (j : Nat) x, (ps.take (i + 1))[j]? = some x -> ∃ u, (us ++ [v])[j]? = some u /\ R' x u := by
 intro j x hx
 rw [List.take_add_one, hq] at hx
 by_cases hj : j < i
 . rw [List.getElem?_append_left (by simp; omega)] at hx
   obtain ⟨u', h1, h2⟩ := hus j x hx
   exact ⟨u', by rw [List.getElem?_append_left (by omega)]; exact h1, hR _ _ h2⟩
 . rw [List.getElem?_append_right (by simp; omega)] at hx
   have hjl := (List.getElem?_eq_some_iff.1 hx).1
   simp at hjl
   have : j = i := by omega
   subst this
   simp only [List.length_take, Nat.min_eq_left hi, Nat.sub_self] at hx
   simp at hx
   subst hx
   exact ⟨v, by rw [List.getElem?_append_right (by omega), hul]; simp, hv⟩
theorem f58_all : ∀ N, Sound Tryz.prog 58 (UJ N)
 | 0 => by
  refine aI (fn := Tryz.f58) (c := aE Tryz.f58) Tryz.func58 rfl (by decide) ?_
  rintro cvs m h K ⟨v, s, p, ps, rfl, _, _, hN, _⟩
  omega
 | N + 1 => by
  refine aI (fn := Tryz.f58) (c := aE Tryz.f58) Tryz.func58 rfl (by decide) ?_
  rintro cvs m h K ⟨v, s, p, ps, rfl, hp, hs, hN, hK⟩
  refine ⟨f58_ctx N v s m h, rfl, aD (f58_all N) (aD QU aH), ?_⟩
  rw [<- f58_vc N v s m h K]
  dsimp only [f58_nice, push_cast]
  have hargs := @uL p
  obtain ⟨op, cmp, l, r, qs⟩ := p
  obtain ⟨rfl, rfl, rfl, rfl, ha⟩ := hp.parts
  have hl := ha.slen
  have hlen := ha.len
  simp only [Pred.args] at hargs
  simp only [BN, HN] at hK
  refine ⟨λ x => x = (fT ps v.left, fT ps v.right), ?_, ?_⟩
  . repeat' (first | exact ⟨(fT ps v.left, fT ps v.right), rfl, MT⟩ | refine ⟨v.left, s, ps, rfl, hs, ?_⟩ | refine ⟨v.right, s, ps, rfl, hs, ?_⟩ | apply And.intro)
  rintro _ rfl
  dsimp only
  refine ⟨λ ⟨i, l, r, us, hx⟩ => l = fT ps v.left /\ r = fT ps v.right /\ i <= qs.length /\ PH.le h hx /\ us.length = i /\ ∀ (j : Nat) x, (qs.take i)[j]? = some x -> ∃ u, us[j]? = some u /\ cX hx (BN ps x) u, λ ⟨i, _, _, _, _⟩ => qs.length - i, ⟨(0, fT ps v.left, fT ps v.right, [], h), ⟨rfl, rfl, by omega, .refl _, rfl, λ j x hx => by simp at hx⟩, MT⟩, ?_⟩
  rintro ⟨i, _, _, us, hx⟩ ⟨rfl, rfl, hi, hle, hul, hus⟩
  dsimp only
  refine aC (λ hlt => ?_) (λ hge sl h' hle' hrow => hK ⟨v.op, v.cmp, fT ps v.left, fT ps v.right, sl⟩ h' (hle.trans hle') (cX.mk (v := ⟨v.op, v.cmp, fT ps v.left, fT ps v.right, sl⟩) ⟨⟨us, hrow, by simp; omega, λ j x hx => ?_⟩, by simp; omega⟩))
  . obtain ⟨q, hq⟩ := fP hl hlt
    obtain ⟨b1, o1, u, e1, r1, hru⟩ := (ha.mono hle).at hq
    refine ⟨b1, o1, e1, by omega, hlt, u, .imm r1, u, s, q, ps, rfl, hru, hs.mono hle, ?_, λ v' h' hle' hr' => ⟨.imm (r1.mono hle'), r1.mono hle', by simp; omega, by simp; omega, (i + 1, fT ps v.left, fT ps v.right, us ++ [v'], h'), ⟨rfl, rfl, by show i + 1 <= qs.length; omega, hle.trans hle', by simp [hul], It (R' := λ x u => cX h' (BN ps x) u) hi hul hq hus (λ _ _ h2 => h2.mono hle') hr'⟩, by show qs.length - (i + 1) < qs.length - i; omega, ?_⟩⟩
    . have := hargs (List.mem_of_getElem? hq); omega
    . rw [List.map_append]; exact MT
  . rw [List.take_of_length_le (by omega)] at hus
    rw [List.getElem?_map, Option.map_eq_some_iff] at hx
    obtain ⟨y, hy, rfl⟩ := hx
    obtain ⟨u, h1, h2⟩ := hus j y hy
    exact ⟨u, h1, h2.mono hle'⟩
theorem f58_sound : Sound Tryz.prog 58 SX := gN f58_all λ _ _ _ _ ⟨v, s, p, ps, e, h1, h2, h3⟩ => ⟨SizeOf.sizeOf p + 1, v, s, p, ps, e, h1, h2, by omega, h3⟩
theorem RV (l : List QV) : dK 21 (l.map QV.enc) := by
 constructor
 . intro e he; obtain ⟨x, _, rfl⟩ := List.mem_map.1 he; rfl
 . intro e he u hu; obtain ⟨x, _, rfl⟩ := List.mem_map.1 he; simp [QV.enc] at hu; rcases hu with rfl | rfl | rfl | rfl | rfl | rfl | rfl | rfl | rfl | rfl | rfl | rfl | rfl | rfl | rfl | rfl | rfl | rfl | rfl | rfl | rfl <;> rfl
theorem V3 {op : Int} {on : List (Int × Int)} {args : List Query} (x : iU h op ta w co on gr od li args v) (hN : ∀ q ∈ args, SizeOf.sizeOf q < N) (hK : ∀ v' h', PH.le h h' -> cC h' (.mk op ta w co on gr od li args) v' -> K (aQ v') m h') : Hy N v co on gr od m h K := by
 dsimp only [Hy, push_cast]
 have hl := x.args_.slen
 have hlen := x.args_.len
 have l1 := x.columns_.len
 have l2 := x.on_.len
 have l3 := x.group_.len
 have l4 := x.order_.len
 refine ⟨v.where_, ⟨none, 0, 0⟩, w, [], rfl, x.where_, .nil _ _ _ _, λ wv h1 hle1 hw => ⟨_, kG co, (x.columns_.mono hle1).row, by simp; omega, by simp; omega, _, A7 on, (x.on_.mono hle1).row, by simp; omega, by simp; omega, _, kG gr, (x.group_.mono hle1).row, by simp; omega, by simp; omega, _, A6 od, (x.order_.mono hle1).row, by simp; omega, by simp; omega, ?_⟩⟩
 rw [Fm] at hw
 refine ⟨λ ⟨i, w', us, hx⟩ => w' = wv /\ i <= args.length /\ PH.le h1 hx /\ us.length = i /\ ∀ (j : Nat) q, (args.take i)[j]? = some q -> ∃ u, us[j]? = some u /\ cC hx q u, λ ⟨i, _, _, _⟩ => args.length - i, ⟨(0, wv, [], h1), ⟨rfl, by omega, .refl _, rfl, λ j x hx => by simp at hx⟩, MT⟩, ?_⟩
 rintro ⟨i, wv, us, hx⟩ ⟨rfl, hi, hle, hul, hus⟩
 dsimp only
 refine aC (λ hlt => ?_) (λ hge => ?_)
 . obtain ⟨q, hq⟩ := fP hl hlt
   obtain ⟨b1, o1, u, e1, r1, hru⟩ := (x.args_.mono (hle1.trans hle)).at hq
   refine ⟨b1, o1, e1, by omega, hlt, u, .imm r1, u, q, rfl, hru, hN q (List.mem_of_getElem? hq), λ v' h' hle' hr' => ⟨.imm (r1.mono hle'), r1.mono hle', by simp; omega, by simp; omega, (i + 1, wv, us ++ [v'], h'), ⟨rfl, by show i + 1 <= args.length; omega, hle.trans hle', by simp [hul], It (R' := cC h') hi hul hq hus (λ _ _ h2 => h2.mono hle') hr'⟩, by show args.length - (i + 1) < args.length - i; omega, ?_⟩⟩
   rw [List.map_append]; exact MT
 . rw [List.take_of_length_le (by omega)] at hus
   intro s1 h2 hle2 r1 s2 h3 hle3 r2 s3 h4 hle4 r3 s4 h5 hle5 r4 s5 h6 hle6 r5
   have a5 := hle6
   have a4 := hle5.trans a5
   have a3 := hle4.trans a4
   have a2 := hle3.trans a3
   have a1 := hle2.trans a2
   have a0 := hle.trans a1
   exact hK ⟨v.op, v.table, wv, s1, s2, s3, s4, v.limit, s5⟩ h6 (hle1.trans a0) (iU.rep ⟨x.op_, x.table_, hw.mono a0, ⟨r1.mono a2, l1⟩, ⟨r2.mono a3, l2⟩, ⟨r3.mono a4, l3⟩, ⟨r4.mono a5, l4⟩, x.limit_, ⟨⟨us, r5, by omega, λ j q hq => by
    obtain ⟨u, e1, e2⟩ := hus j q hq
    exact ⟨u, e1, e2.mono a1⟩⟩, hlen⟩⟩)
theorem Pz : ∀ N, Sound Tryz.prog 28 (SS N)
 | 0 => by
  refine aI (fn := Tryz.f28) (c := aE Tryz.f28) Tryz.func28 rfl (by decide) ?_
  rintro cvs m h K ⟨v, q, rfl, _, hN, _⟩
  omega
 | N + 1 => by
  refine aI (fn := Tryz.f28) (c := aE Tryz.f28) Tryz.func28 rfl (by decide) ?_
  rintro cvs m h K ⟨v, q, rfl, hq, hN, hK⟩
  have hargs := @qS q
  obtain ⟨op, ta, w, co, on, gr, od, li, args⟩ := q
  refine ⟨Py N v co on gr od m, rfl, aD f58_sound (aD (Pz N) aH), ?_⟩
  rw [<- V2 N v co on gr od m h K]
  exact V3 hq.parts (λ q hq => by have := hargs (q := q) hq; omega) hK
theorem E5 : Sound Tryz.prog 28 Fw := gN Pz λ _ _ _ _ ⟨v, q, e, h1, h2⟩ => ⟨SizeOf.sizeOf q + 1, v, q, e, h1, by omega, h2⟩
theorem VN {v : eO} (x : hU h t v) (hK : ∀ v' h', PH.le h h' -> cC h' t.query v' -> K (aQ v') m h') : L4 v m h K :=
 ⟨⟨v.op, v.table, v.where_, v.columns, v.on, v.group, v.order, v.limit, ⟨none, 0, 0⟩⟩, t.query, rfl, iU.rep ⟨x.op_, x.table_, x.where_, x.columns_, x.on_, x.group_, x.order_, x.limit_, .nil _ _ _ _⟩, hK⟩
theorem IT : Sound Tryz.prog 43 KA := by
 refine aI (fn := Tryz.f43) (c := aE Tryz.f43) Tryz.func43 rfl (by decide) ?_
 rintro cvs m h K ⟨v, t, rfl, x, hK⟩
 refine ⟨cO [(28, Fw)] [] [] [] false, rfl, aD E5 aH, ?_⟩
 rw [<- VM v m h K]
 exact VN x hK
theorem Rv : Sound Tryz.prog 20 SD := by
 refine gC (fn := Tryz.f20) (c := aE Tryz.f20) Tryz.func20 rfl (by decide) ?_
 rintro cvs m h K ⟨v, w, t, u, rfl, x, y, hK⟩
 refine ⟨cO [(43, KA), (24, Oe)] [] [] [] false, rfl, aD IT (aD I0 aH), ?_⟩
 rw [<- Wc v w m h _]
 show HB v w m h (lZ h K)
 dsimp only [HB, push_cast]
 refine aB (λ h1 => aB (λ h2 => ⟨v, t, rfl, x, λ v1 h3 hle1 q1 => ⟨w, u, rfl, y.mono hle1, λ v2 h4 hle2 q2 => ⟨v1, v2, _, _, rfl, cC.mono hle2 q1, q2, λ r hr => .out (Sub.refl m) (hle1.trans hle2) (hK r (hr.trans ?_))⟩⟩⟩) (λ h2 => .here (hK false ⟨λ e => (by cases e), λ e => ?_⟩))) (λ h1 => .here (hK false ⟨λ e => (by cases e), λ e => ?_⟩))
 . have h1 : t.left = u.left := by rw [x.left_, y.left_] at h1; simpa using h1
   have h2 : t.right = u.right := by rw [x.right_, y.right_] at h2; simpa using h2
   obtain ⟨a1, a2, a3, a4, a5, a6, a7, a8, a9, a10⟩ := t
   obtain ⟨b1, b2, b3, b4, b5, b6, b7, b8, b9, b10⟩ := u
   dsimp only at h1 h2 ⊢
   subst h1 h2
   constructor
   . intro e; injection e with e1 e2 e3 e4 e5 e6 e7 e8; rw [e1, e2, e3, e4, e5, e6, e7, e8]
   . intro e; injection e with e1 e2 e3 e4 e5 e6 e7 e8; rw [e1, e2, e3, e4, e5, e6, e7, e8]
 . subst e; rw [x.right_, y.right_] at h2; simp at h2
 . subst e; rw [x.left_, y.left_] at h1; simp at h1
noncomputable abbrev Iy (a : Int) : Value := Value.int IntKind.u8 a
abbrev tI (a : Prop) : Prop := a -> False
attribute [push_cast] Iy tI
def Mu (cb : Nat) (n : Int) (m : MH) (h : PH) (K : CV -> MH -> PH -> Prop) : Prop :=
  ∃ (y : Int), bI m h cb 1 (bT y) /\ ∃ (y1 : Sl), bI m h cb 0 (cT y1) /\ fI y (aF y1) (K (fS 0) m h) (bE n 1 (K (fS 0) m h) (∃ (y2 : Int), bI m h cb 1 (bT y2) /\ pP m cb 1 (bT (eR y2 1)) (λ m1 => ∃ (y3 : Sl), bI m1 h cb 0 (cT y3) /\ ∃ (y4 : Int), bI m1 h cb 1 (bT y4) /\ aY (λ b o => aG (bC y3.a b o) (0 <= jY y4) (jY y4 < aF y3) (∃ (y5 : UInt8), aA (bI m1 h b (iW o (jY y4) 1) (oB (Iy (yR y5)))) (tI (n = 0)) (K (fS (Int.tmod (y9 (yR y5)) n)) m1 h))))))
theorem Wi (cb : Nat) (n : Int) (m : MH) (h : PH) (K : CV -> MH -> PH -> Prop) : Mu cb n m h K = (cG (ctx [] [] [] [] false) Tryz.f12 (aE Tryz.f12) (entry 40 [.val (.pointer (some ⟨cb, 0, none⟩)), .val (.int .i64 n)] m h) K) := by kernel_rfl
def Ur : Vc.Spec := λ cvs m h K => ∃ (cb : Nat) (n : Int) (r : List UInt8), cvs = [.val (.pointer (some ⟨cb, 0, none⟩)), .val (.int .i64 n)] /\ Oi m h cb r /\
 ∀ m', bP m m' cb -> Oi m' h cb (MM n r).2 -> K (.val (.int .i64 (MM n r).1)) m' h
theorem IF : Sound Tryz.prog 12 Ur := by
 refine aI (fn := Tryz.f12) (c := aE Tryz.f12) Tryz.func12 rfl (by decide) ?_
 rintro cvs m h K ⟨cb, n, r, rfl, ⟨s, cs, k, hm, hrow, hk, hlen, rfl⟩, hK⟩
 refine ⟨ctx [] [] [] [] false, rfl, aH, ?_⟩
 show cG (ctx [] [] [] [] false) Tryz.f12 (aE Tryz.f12) (entry 40 [.val (.pointer (some ⟨cb, 0, none⟩)), .val (.int .i64 n)] m h) K
 rw [<- Wi]
 dsimp only [Mu, push_cast]
 have hsl : s.len = cs.length := by have := hrow.len; simpa [bA] using this
 refine ⟨k, .of_m hm rfl, s, .of_m hm rfl, aC (λ hge => ?_) (λ hlt => aC (λ hn => ?_) (λ hn => ?_))⟩
 . have hd : cs.drop k = [] := by simp; omega
   rw [hd] at hK
   exact hK m ⟨λ _ _ => rfl⟩ ⟨s, cs, k, hm, hrow, hk, hlen, by rw [hd]; rfl⟩
 . have hk' : k < cs.length := by omega
   have hd : cs.drop k = cs[k] :: cs.drop (k + 1) := List.drop_eq_getElem_cons hk'
   rw [hd] at hK
   simp only [MM, if_pos hn] at hK
   refine hK m ⟨λ _ _ => rfl⟩ ⟨s, cs, k, hm, hrow, hk, hlen, hd.symm⟩
 . have hk' : k < cs.length := by omega
   have hd : cs.drop k = cs[k] :: cs.drop (k + 1) := List.drop_eq_getElem_cons hk'
   rw [hd] at hK
   simp only [MM, if_neg hn] at hK
   have hw : IntKind.i64.wrap ((k : Int) + 1) = ((k + 1 : Nat) : Int) := by rw [dP] <;> omega
   have hw2 : IntKind.i64.wrap (((k + 1 : Nat) : Int) - 1) = (k : Int) := by rw [dP] <;> omega
   refine ⟨k, .of_m hm rfl, _, _, ⟨hm⟩, by simp, λ m' hu => ?_⟩
   have hm' := hu.at_
   rw [hw] at hm'
   simp only [splice] at hm'
   obtain hnil | ⟨b, o, ha, hrd⟩ := hrow.row
   . exfalso
     have := congrArg List.length hnil
     simp [bA] at this
     subst this
     simp at hk'
   refine ⟨s, .of_m hm' rfl, ((k + 1 : Nat) : Int), .of_m hm' rfl, b, o, ha, ?_⟩
   rw [hw2]
   refine ⟨by omega, by omega, cs[k], .imm ?_, by omega, ?_⟩
   . have := hrd k [.int .u8 cs[k].toNat] (by simp [bA, hk'])
     simpa using this
   . have hlt : cs[k].toNat < 256 := cs[k].toNat_lt
     rw [dP (by omega) (by omega), Int.tmod_eq_emod_of_nonneg (by omega)]
     refine hK m' ⟨hu.other⟩ ⟨s, cs, k + 1, hm', hrow, by omega, hlen, rfl⟩
def aM (m : MH) (h : PH) (cb : Nat) : Prop := ∃ r, Oi m h cb r
theorem aM.mono (x : aM m h cb) (le : PH.le h h') : aM m h' cb := by
 obtain ⟨r, s, cs, k, h1, h2, h3⟩ := x
 exact ⟨r, s, cs, k, h1, h2.mono le, h3⟩
theorem bP.refl (m : MH) (cb : Nat) : bP m m cb := ⟨λ _ _ => rfl⟩
theorem bP.trans {m'' : MH} (a : bP m m' cb) (b : bP m' m'' cb) : bP m m'' cb := ⟨λ c hc => (b.other c hc).trans (a.other c hc)⟩
def wN (n : Int) : Prop := -9223372036854775808 <= n /\ n <= 9223372036854775807
structure xG (v : VV) : Prop where
 int_ : wN v.int
 text_ : v.text.size <= 64
def zL : Vc.Spec := λ cvs m h K => ∃ cb n, cvs = [cP cb, cI n] /\ aM m h cb /\ ∀ k m', 0 <= k -> (k < n \/ k = 0) -> bP m m' cb -> aM m' h cb -> K (cI k) m' h
def Ez : Vc.Spec := λ cvs m h K => ∃ cb n, cvs = [cP cb, cI n] /\ 0 <= n /\ n <= 1000 /\ aM m h cb /\ ∀ r m', bP m m' cb -> aM m' h cb -> K (cB r) m' h
def Ev : Vc.Spec := λ cvs m h K => ∃ cb, cvs = [cP cb] /\ aM m h cb /\ ∀ k m', wN k -> bP m m' cb -> aM m' h cb -> K (cI k) m' h
def Sx : Vc.Spec := λ cvs m h K => ∃ cb, cvs = [cP cb] /\ aM m h cb /\ ∀ t m', t.size <= 64 -> bP m m' cb -> aM m' h cb -> K (MK t) m' h
def HR : Vc.Spec := λ cvs m h K => ∃ cb kind, cvs = [cP cb, cI kind] /\ aM m h cb /\ ∀ v m', xG v -> bP m m' cb -> aM m' h cb -> K (aV v) m' h
theorem Cg : Sound Tryz.prog 12 zL := by
 refine ⟨IF.1, λ cvs vs m h w K hS hp => IF.2 cvs vs m h w K ?_ hp⟩
 obtain ⟨cb, n, rfl, ⟨r, hr⟩, hK⟩ := hS
 refine ⟨cb, n, r, rfl, hr, λ m' ho hc => hK _ m' ?_ ?_ ho ⟨_, hc⟩⟩
 . cases r with
   | nil => simp [MM]
   | cons b r =>
    simp only [MM]
    split
    . simp
    . exact Int.emod_nonneg _ (by omega)
 . cases r with
   | nil => simp [MM]
   | cons b r =>
    simp only [MM]
    split
    . simp
    . exact .inl (Int.emod_lt_of_pos _ (by omega))
noncomputable def Mz (h : PH) : Ctx :=
 cO [(12, zL)] [(18, { A := Nat × ByteArray × MH, st := λ ⟨i, t, m⟩ => cD 37 38 [(3, vv (.string t)), (4, iv i)] [] m h }), (23, { A := Nat × ByteArray × MH, st := λ ⟨i, t, m⟩ => cD 37 38 [(3, vv (.string t)), (5, iv i)] [] m h })] [] [] false
abbrev Ha (a : Nat -> Int -> Prop) : Prop := ∃ (x : Nat) (x1 : Int), a x x1
abbrev B8 (a : Prop) (b : Nat -> Option Obj) (c : Nat -> Nat -> Option Value) (d : Nat) (e : Int -> MH -> Prop) : Prop := aA a (aM b c d) (∀ (x : Int) (x1 : MH), e x x1)
abbrev eV (a : Nat) (b : Int) (c : Nat -> Option Obj) (d : Nat -> Nat -> Option Value) (e : Nat -> Int -> Int -> MH -> Prop) : Prop := Ha (λ x x1 => B8 (cV (zN a 0) b = cV (zN x 0) x1) c d x (λ x2 x3 => e x x1 x2 x3))
abbrev eC (a b : MH) (c : Nat) (d : PH) (e : Prop) : Prop := bP a b c -> aM b d c -> e
attribute [push_cast] Ha B8 eV eC
def My (cb : Nat) (n : Int) (m : MH) (h : PH) (K : CV -> MH -> PH -> Prop) : Prop :=
  eV cb n m h (λ c n1 k m1 => aW k -> k < n1 \/ k = 0 -> eC m m1 c h (K (uS (k == jY n)) m1 h))
theorem Wj (cb : Nat) (n : Int) (m : MH) (h : PH) (K : CV -> MH -> PH -> Prop) : My cb n m h K = (cG (cO [(12, zL)] [] [] [] false) Tryz.f10 (aE Tryz.f10) (entry Tryz.f10.ntmps [cP cb, cI n] m h) K) := by kernel_rfl
def Jj (cb : Nat) (m : MH) (h : PH) (K : CV -> MH -> PH -> Prop) : Prop :=
  eV cb 12 m h (λ c n k m1 => aW k -> k < n \/ k = 0 -> eC m m1 c h (dT (k == 9) (K (fS (Int.negSucc 0)) m1 h) (k == 10) (K (fS 9223372036854775807) m1 h) (dW k 11 (K (fS (Int.negSucc 9223372036854775807)) m1 h) (tI ((4 : Int) = 0) /\ K (fS (Int.tmod k 4)) m1 h))))
theorem Ug (cb : Nat) (m : MH) (h : PH) (K : CV -> MH -> PH -> Prop) : Jj cb m h K = (cG (cO [(12, zL)] [] [] [] false) Tryz.f107 (aE Tryz.f107) (entry Tryz.f107.ntmps [cP cb] m h) K) := by kernel_rfl
noncomputable abbrev B4 (a : Nat) : List UInt8 := [OfNat.ofNat a]
noncomputable abbrev wC (a : Nat) : ByteArray := ByteArray.mk (Array.mk (B4 a))
noncomputable abbrev AE (a b : Nat) : List UInt8 := [OfNat.ofNat a, OfNat.ofNat b]
attribute [push_cast] B4 wC AE
def Ji (cb : Nat) (m : MH) (h : PH) (K : CV -> MH -> PH -> Prop) : Prop :=
  eV cb 10 m h (λ c n k m1 => aW k -> k < n \/ k = 0 -> eC m m1 c h (dT (k == 0) (K (nX (wC 97)) m1 h) (k == 1) (K (nX (wC 97)) m1 h) (dT (k == 2) (K (nX (wC 97)) m1 h) (k == 3) (K (nX (wC 98)) m1 h) (dT (k == 4) (K (nX (wC 98)) m1 h) (k == 5) (K (CV.val DL) m1 h) (dT (k == 6) (K (nX (ByteArray.mk (Array.mk (AE 97 0)))) m1 h) (k == 7) (K (nX (wC 255)) m1 h) (dW k 8 (∃ (I : Nat × ByteArray × MH -> Prop) (m2 : Nat × ByteArray × MH -> Nat), (∃ (x : Nat × ByteArray × MH), aA (I x) (SV.at yL = SV.at (Jv x.2.1)) (aA (bO x.1) (m1 = x.2.2) (bG h h))) /\ ∀ (x : Nat × ByteArray × MH), I x -> bE (↑x.1 : Int) 64 (x.2.1.size < 9223372036854775807 /\ ∃ (x1 : Nat × ByteArray × MH), aA (I x1) (m2 x1 < m2 x) (aA (SV.at (Jv (x.2.1 ++ wC 255)) = SV.at (Jv x1.2.1)) (aZ x.1 1 x1.1) (cQ
 (x.2.2 = x1.2.2) h h))) (K (nX x.2.1) x.2.2 h)) (∃ (I : Nat × ByteArray × MH -> Prop) (m2 : Nat × ByteArray × MH -> Nat), (∃ (x : Nat × ByteArray × MH), aA (I x) (SV.at yL = SV.at (Jv x.2.1)) (aA (bO x.1) (m1 = x.2.2) (bG h h))) /\ ∀ (x : Nat × ByteArray × MH), I x -> bE (↑x.1 : Int) 64 (x.2.1.size < 9223372036854775807 /\ ∃ (x1 : Nat × ByteArray × MH), aA (I x1) (m2 x1 < m2 x) (aA (SV.at (Jv (x.2.1 ++ wC 98)) = SV.at (Jv x1.2.1)) (aZ x.1 1 x1.1) (cQ (x.2.2 = x1.2.2) h h))) (K (nX x.2.1) x.2.2 h))))))))
theorem Uf (cb : Nat) (m : MH) (h : PH) (K : CV -> MH -> PH -> Prop) : Ji cb m h K = (cG (Mz h) Tryz.f108 (aE Tryz.f108) (entry Tryz.f108.ntmps [cP cb] m h) K) := by kernel_rfl
abbrev lU (a : MH) (b : PH) (c : Nat) (d : Prop) : Prop := aM a b c -> d
attribute [push_cast] lU
def LN (cb : Nat) (kind : Int) (m : MH) (h : PH) (K : CV -> MH -> PH -> Prop) : Prop :=
  dT (kind == 3) (eV cb 2 m h (λ c n k m1 => aW k -> k < n \/ k = 0 -> eC m m1 c h (K (kK (aL (cZ kind) (cZ k) sX)) m1 h))) (kind == 4) (∃ (c : Nat), B8 (cK (eH cb) (eH c)) m h c (λ k m1 => wN k -> bP m m1 c -> lU m1 h c (K (kK (aL (cZ kind) (cZ k) sX)) m1 h))) (∃ (c : Nat), aA (cK (eH cb) (eH c)) (aM m h c) (∀ (t : ByteArray) (m1 : MH), t.size <= 64 -> bP m m1 c -> lU m1 h c (K (kK (aL (cZ 5) aX (oB (Value.string t)))) m1 h)))
theorem Vj (cb : Nat) (kind : Int) (m : MH) (h : PH) (K : CV -> MH -> PH -> Prop) : LN cb kind m h K = (cG (cO [(12, zL), (107, Ev), (108, Sx)] [] [] [] false) Tryz.f80 (aE Tryz.f80) (entry Tryz.f80.ntmps [cP cb, cI kind] m h) K) := by kernel_rfl
theorem Wk {n : Int} (hc : aM m h cb) (hK : ∀ r m', bP m m' cb -> aM m' h cb -> K (cB r) m' h) : My cb n m h K :=
 ⟨cb, n, rfl, hc, λ _ m' _ _ ho hc' => hK _ m' ho hc'⟩
theorem sJ : Sound Tryz.prog 10 Ez := by
 refine aI (fn := Tryz.f10) (c := aE Tryz.f10) Tryz.func10 rfl (by decide) ?_
 rintro cvs m h K ⟨cb, n, rfl, _, _, hc, hK⟩
 refine ⟨cO [(12, zL)] [] [] [] false, rfl, aD Cg aH, ?_⟩
 rw [<- Wj cb n m h K]
 exact Wk hc hK
theorem NW : Sound Tryz.prog 107 Ev := by
 refine aI (fn := Tryz.f107) (c := aE Tryz.f107) Tryz.func107 rfl (by decide) ?_
 rintro cvs m h K ⟨cb, rfl, hc, hK⟩
 refine ⟨cO [(12, zL)] [] [] [] false, rfl, aD Cg aH, ?_⟩
 rw [<- Ug cb m h K]
 dsimp only [Jj, push_cast]
 refine ⟨cb, 12, rfl, hc, λ k m' h0 h1 ho hc' => aB (λ _ => hK _ m' ⟨by omega, by omega⟩ ho hc') (λ _ => aB (λ _ => hK _ m' ⟨by omega, by omega⟩ ho hc') (λ _ => aB (λ _ => hK _ m' ⟨by omega, by omega⟩ ho hc') (λ _ => ⟨by omega, hK _ m' ?_ ho hc'⟩)))⟩
 rw [Int.tmod_eq_emod_of_nonneg h0]
 exact ⟨by omega, by omega⟩
theorem NU : Sound Tryz.prog 108 Sx := by
 refine aI (fn := Tryz.f108) (c := aE Tryz.f108) Tryz.func108 rfl (by decide) ?_
 rintro cvs m h K ⟨cb, rfl, hc, hK⟩
 refine ⟨Mz h, rfl, aD Cg aH, ?_⟩
 rw [<- Uf cb m h K]
 dsimp only [Ji, push_cast]
 refine ⟨cb, 10, rfl, hc, λ k m' h0 h1 ho hc' => ?_⟩
 refine aB (λ _ => hK _ m' (by decide) ho hc') (λ _ => aB (λ _ => hK _ m' (by decide) ho hc') (λ _ => aB (λ _ => hK _ m' (by decide) ho hc') (λ _ => aB (λ _ => hK _ m' (by decide) ho hc') (λ _ => aB (λ _ => hK _ m' (by decide) ho hc') (λ _ => aB (λ _ => hK _ m' (by decide) ho hc') (λ _ => aB (λ _ => hK _ m' (by decide) ho hc') (λ _ => aB (λ _ => hK _ m' (by decide) ho hc') (λ _ => aB (λ _ => ?_) (λ _ => ?_)))))))))
 all_goals
  refine ⟨λ ⟨i, t, mx⟩ => mx = m' /\ i <= 64 /\ t.size = i, λ ⟨i, _, _⟩ => 64 - i, ⟨(0, ⟨#[]⟩, m'), ⟨rfl, by omega, rfl⟩, MT⟩, ?_⟩
  rintro ⟨i, t, m'⟩ ⟨rfl, hi, ht⟩
  dsimp only
  refine aC (λ hlt => ⟨?_, (i + 1, _, m'), ⟨rfl, by omega, ?_⟩, by show 64 - (i + 1) < 64 - i; omega, MT⟩) (λ hge => hK t m' (by omega) ho hc')
  . rw [ht]; show i + 1 <= _; omega
  . rw [ByteArray.size_append, ht]; rfl
theorem EW : Sound Tryz.prog 80 HR := by
 refine aI (fn := Tryz.f80) (c := aE Tryz.f80) Tryz.func80 rfl (by decide) ?_
 rintro cvs m h K ⟨cb, kind, rfl, hc, hK⟩
 refine ⟨cO [(12, zL), (107, Ev), (108, Sx)] [] [] [] false, rfl, aD Cg (aD NW (aD NU aH)), ?_⟩
 rw [<- Vj cb kind m h K]
 dsimp only [LN, push_cast]
 refine aB (λ _ => ⟨cb, 2, rfl, hc, λ k m' h0 h1 ho hc' => hK ⟨kind, k, ⟨#[]⟩⟩ m' ⟨⟨by show -9223372036854775808 <= k; omega, by show k <= 9223372036854775807; omega⟩, by show (ByteArray.mk #[]).size <= 64; decide⟩ ho hc'⟩) (λ _ => aB (λ _ => ⟨cb, rfl, hc, λ k m' hk ho hc' => hK ⟨kind, k, ⟨#[]⟩⟩ m' ⟨hk, by show (ByteArray.mk #[]).size <= 64; decide⟩ ho hc'⟩) (λ _ => ⟨cb, rfl, hc, λ t m' ht ho hc' => hK ⟨5, 0, t⟩ m' ⟨⟨by simp, by simp⟩, ht⟩ ho hc'⟩))
mutual
def pI : Pred -> Prop
 | .mk _ _ l r args => xG l.value /\ xG r.value /\ BF args
def BF : List Pred -> Prop
 | [] => True
 | p :: ps => pI p /\ BF ps
end
theorem pH : ∀ {l : List Pred}, BF l ↔ ∀ p ∈ l, pI p
 | [] => by simp [BF]
 | p :: ps => by simp [BF, pH (l := ps)]
theorem gZ : xG zeroV := ⟨⟨by decide, by decide⟩, by decide⟩
def MY : Vc.Spec := λ cvs m h K => ∃ cb s t kind cols params, cvs = [cP cb, cS s, cS t, cI kind] /\ aM m h cb /\ aU h s cols /\ aU h t params /\ cols.length <= 1000 /\ params.length <= 1000 /\ ∀ o m', xG o.value -> bP m m' cb -> aM m' h cb -> K (aO o) m' h
def KP (K : CV -> MH -> PH -> Prop) (m : MH) (h : PH) (cb : Nat) : Prop := ∀ v p m' h', PH.le h h' -> cX h' p v -> pI p -> bP m m' cb -> aM m' h' cb -> K (aP v) m' h'
def PZ (N : Nat) : Vc.Spec := λ cvs m h K => ∃ cb s t cols params, ∃ deep : Nat, cvs = [cP cb, cS s, cS t, cI deep] /\ aM m h cb /\ aU h s cols /\ aU h t params /\ cols.length <= 1000 /\ params.length <= 1000 /\ deep < N /\ deep <= 1000 /\ KP K m h cb
def zJ : Vc.Spec := λ cvs m h K => ∃ cb s t cols params, ∃ deep : Nat, cvs = [cP cb, cS s, cS t, cI deep] /\ aM m h cb /\ aU h s cols /\ aU h t params /\ cols.length <= 1000 /\ params.length <= 1000 /\ deep <= 1000 /\ KP K m h cb
def pv (b : Nat) : SV := vv (.pointer (some ⟨b, 0, none⟩))
noncomputable def OZ (cb : Nat) (s t : Sl) (kind : Int) (m : MH) (h : PH) : Ctx :=
 cO [(12, zL), (80, HR)]
  [(3, { A := Nat × List OV, st := λ ⟨i, os⟩ => cD 64 68 [(0, pv cb), (2, sv t), (3, iv kind), (8, .at (.ptr 8 0)), (9, .at (.lst 29)), (15, sv s), (16, iv s.len), (17, iv i)] [(8, .cells 35 (cR.enc.map .val)), (29, .lst 35 5 (os.map OV.enc))] m h }),
   (9, { A := Nat × List OV, st := λ ⟨i, os⟩ => cD 64 68 [(0, pv cb), (3, iv kind), (8, .at (.ptr 8 0)), (9, .at (.lst 29)), (31, sv t), (32, iv t.len), (33, iv i)] [(8, .cells 35 (cR.enc.map .val)), (29, .lst 35 5 (os.map OV.enc))] m h })] [] [] false
noncomputable def f56_ctx (N : Nat) (cb : Nat) (s t : Sl) (deep : Nat) (h0 : PH) : Ctx :=
 cO [(12, zL), (10, Ez), (79, MY), (80, HR), (56, PZ N)]
  [(18, { A := Int × Int × List PV × MH × PH, st := λ ⟨op, n, us, m, h⟩ => cD 107 111 [(0, pv cb), (1, sv s), (2, sv t), (3, iv deep), (8, .at (.ptr 8 0)), (12, .at (.ptr 12 0)), (13, iv n)] [(8, .cells 38 (fV.enc.map .val)), (12, .cells 38 (((⟨op, 0, cR, cR, ⟨none, 0, 0⟩⟩ : PV).enc.take 12).map .val ++ [.lst 104])), (104, .lst 38 13 (us.map PV.enc))] m h })]
  [(3, { A := Int × Bool × MH, st := λ ⟨k, b, m⟩ => cD 107 111 [(0, pv cb), (1, sv s), (2, sv t), (3, iv deep), (8, .at (.ptr 8 0)), (9, iv k), (16, bv b)] [(8, .cells 38 (fV.enc.map .val))] m h0 }),
   (5, { A := Int × Bool × MH, st := λ ⟨k, b, m⟩ => cD 107 111 [(0, pv cb), (1, sv s), (2, sv t), (3, iv deep), (8, .at (.ptr 8 0)), (9, iv k), (27, bv b)] [(8, .cells 38 (fV.enc.map .val))] m h0 }),
   (8, { A := Int × MH, st := λ ⟨k, m⟩ => cD 107 111 [(0, pv cb), (1, sv s), (2, sv t), (8, .at (.ptr 8 0)), (10, iv k)] [(8, .cells 38 (fV.enc.map .val))] m h0 }),
   (9, { A := PV × Int × MH, st := λ ⟨p, k, m⟩ => cD 107 111 [(0, pv cb), (1, sv s), (2, sv t), (8, .at (.ptr 8 0)), (10, iv k), (11, .at (.ptr 11 0))] [(8, .cells 38 (fV.enc.map .val)), (11, .cells 38 (p.enc.map .val))] m h0 }),
   (11, { A := PV × MH, st := λ ⟨p, m⟩ => cD 107 111 [(0, pv cb), (8, .at (.ptr 8 0)), (11, .at (.ptr 11 0))] [(8, .cells 38 (fV.enc.map .val)), (11, .cells 38 (p.enc.map .val))] m h0 }),
   (13, { A := PV × MH, st := λ ⟨p, m⟩ => cD 107 111 [(8, .at (.ptr 8 0)), (11, .at (.ptr 11 0))] [(8, .cells 38 (fV.enc.map .val)), (11, .cells 38 (p.enc.map .val))] m h0 })] [] false
noncomputable abbrev nQ (a : Nat × List OV) : List (List Value) := List.map OV.enc a.2
abbrev lC (a : Int) (b : List (List Value)) (c : (List Value) -> Prop) : Prop := aA (aW a) (a < kE b) (∃ (x : List Value), c x)
abbrev fO (a : List (List Value)) (b : Int) (c : List Value) : Prop := AH a b.toNat c
attribute [push_cast] nQ lC fO
def LO (cb : Nat) (s t : Sl) (kind : Int) (m : MH) (h : PH) (K : CV -> MH -> PH -> Prop) : Prop :=
  ∃ (I : Nat × List OV -> Prop) (m1 : Nat × List OV -> Nat), (∃ (x : Nat × List OV), aA (I x) (cH cb) (aA (aK t) (eA kind) (aA (eP 8) (eL 29) (aA (aK s) (cF s) (aA (bO x.1) (eQ (oQ 35 (bB (bL 0) (bL 0) (bB (bL 0) (bL 0) (iQ yL))))) (aA (rY 35 5 (nQ x)) (m = m) (bG h h))))))) /\ ∀ (x : Nat × List OV), I x -> bE (↑x.1 : Int) (aF s) (aY (λ b o => aG (bC s.a b o) (0 <= (↑x.1 : Int)) ((↑x.1 : Int) < aF s) (∃ (y : Int), bI m h b (bZ o x.1 1) (bT y) /\ dW y kind (oO (nQ x) 48 (∃ (x1 : Nat × List OV), aA (I x1) (m1 x1 < m1 x) (aA (cH cb) (aK t) (aA (eA kind) (eP 8) (aA (eL 29) (aK s) (aA (cF s) (aZ x.1 1 x1.1) (aA (eQ (oQ 35 (bB (bL 0) (bL 0) (bB (bL 0) (bL 0) (iQ yL))))) (cM 35 5 (iK (nQ x) (aL (cZ 1) (cZ (↑x.1 : Int)) (aL aX aX
 sX))) = cM 35 5 (nQ x1)) (cQ (m = m) h h)))))))) (∃ (x1 : Nat × List OV), aA (I x1) (m1 x1 < m1 x) (aA (cH cb) (aK t) (aA (eA kind) (eP 8) (aA (eL 29) (aK s) (aA (cF s) (aZ x.1 1 x1.1) (aA (eQ (oQ 35 (bB (bL 0) (bL 0) (bB (bL 0) (bL 0) (iQ yL))))) (cM 35 5 (nQ x) = cM 35 5 (nQ x1)) (cQ (m = m) h h)))))))))) (∃ (I1 : Nat × List OV -> Prop) (m2 : Nat × List OV -> Nat), (∃ (x1 : Nat × List OV), aA (I1 x1) (cH cb) (aA (eA kind) (eP 8) (aA (eL 29) (aK t) (aA (cF t) (bO x1.1) (kN (eQ (oQ 35 (bB (bL 0) (bL 0) (bB (bL 0) (bL 0) (iQ yL))))) (cM 35 5 (nQ x) = cM 35 5 (nQ x1)) (m = m) h h))))) /\ ∀ (x1 : Nat × List OV), I1 x1 -> bE (↑x1.1 : Int) (aF t) (aY (λ b o => aG (bC t.a b o) (0 <= (↑x1.1 : Int)) ((↑x1.1 : Int) < aF t) (∃ (y : Int), bI m h b
 (bZ o x1.1 1) (bT y) /\ dW y kind (oO (nQ x1) 48 (∃ (x2 : Nat × List OV), aA (I1 x2) (m2 x2 < m2 x1) (aA (cH cb) (eA kind) (aA (eP 8) (eL 29) (aA (aK t) (cF t) (aA (aZ x1.1 1 x2.1) (eQ (oQ 35 (bB (bL 0) (bL 0) (bB (bL 0) (bL 0) (iQ yL))))) (aA (cM 35 5 (iK (nQ x1) (aL (cZ 2) (cZ (↑x1.1 : Int)) (aL aX aX sX))) = cM 35 5 (nQ x2)) (m = m) (bG h h)))))))) (∃ (x2 : Nat × List OV), aA (I1 x2) (m2 x2 < m2 x1) (aA (cH cb) (eA kind) (aA (eP 8) (eL 29) (aA (aK t) (cF t) (aA (aZ x1.1 1 x2.1) (eQ (oQ 35 (bB (bL 0) (bL 0) (bB (bL 0) (bL 0) (iQ yL))))) (aA (cM 35 5 (nQ x1) = cM 35 5 (nQ x2)) (m = m) (bG h h)))))))))) (eV cb (eR (↑(nQ x1).length : Int) 1) m h (λ c n k m3 => aW k -> k < n \/ k = 0 -> eC m m3 c h (bE k (kE
 (nQ x1)) (lC k (nQ x1) (λ e => fO (nQ x1) k e /\ ∃ (y : OV), iO 5 0 e y.enc /\ K (kK y.enc) m3 h)) (Ha (λ c1 k1 => aA (cV (zN cb 0) kind = cV (zN c1 0) k1) (aM m3 h c1) (∀ (v : VV) (m4 : MH), xG v -> bP m3 m4 c1 -> lU m4 h c1 (K (kK (aL (cZ 3) aX (aL (cZ v.kind) (cZ v.int) (oB (Value.string v.text))))) m4 h))))))))
theorem Vk (cb : Nat) (s t : Sl) (kind : Int) (m : MH) (h : PH) (K : CV -> MH -> PH -> Prop) : LO cb s t kind m h K = (cG (OZ cb s t kind m h) Tryz.f79 (aE Tryz.f79) (entry Tryz.f79.ntmps [cP cb, cS s, cS t, cI kind] m h) K) := by kernel_rfl
abbrev mS (a : Nat) (b : Int) (c : Nat -> Option Obj) (d : Nat -> Nat -> Option Value) (e : Nat -> Bool -> MH -> Prop) : Prop := Ha (λ x x1 => aA (cV (zN a 0) b = cV (zN x 0) x1) (aW x1) (aA (x1 <= 1000) (aM c d x) (∀ (x2 : Bool) (x3 : MH), e x x2 x3)))
noncomputable abbrev qE (a : Int × Bool × MH) : Nat -> Option Obj := a.2.2
abbrev dX (a : List Int) : Prop := xC a 1000
noncomputable abbrev tG (a : PV) : Option Own := Db 38 a.enc
abbrev pR (a : List At) (b : PV) : Prop := oQ 38 a = tG b
abbrev tA (a : Nat -> Sl -> Sl -> (List Int) -> (List Int) -> Nat -> Prop) : Prop := ∃ (x : Nat) (x1 : Sl), xK (λ x2 x3 x4 => ∃ (x5 : Nat), a x x1 x2 x3 x4 x5)
noncomputable abbrev mZ (a : Nat) (b c : Sl) (d : Nat) : List CV := fG (zN a 0) (dO b) (gG c (↑d : Int))
abbrev nS (a : Nat) : Prop := a <= 1000
abbrev kD (a : MH -> PH -> Prop) : Prop := ∀ (x : MH) (x1 : PH), a x x1
abbrev nD (a : PH) (b : Nat -> Option Obj) (c : Nat) (d : PV -> MH -> PH -> Prop) : Prop := ∀ (x : PV) (x1 : Pred), kD (λ x2 x3 => eU a x3 (cX x3 x1 x) (pI x1 -> bP b x2 c -> lU x2 x3 c (d x x2 x3)))
abbrev bV (a : Nat -> Option Obj) (b : MH × PH) : Prop := a = b.1
noncomputable abbrev Ad (a : Int × Int × List PV × MH × PH) : Nat -> Nat -> Option Value := a.2.2.2.2
attribute [push_cast] mS qE dX tG pR tA mZ nS kD nD bV Ad
def f56_nice (N : Nat) (cb : Nat) (s t : Sl) (deep : Nat) (m : MH) (h : PH) (K : CV -> MH -> PH -> Prop) : Prop :=
  eV cb 9 m h (λ c n k m1 => aW k -> k < n \/ k = 0 -> eC m m1 c h (∃ (I : Int × Bool × MH -> Prop), dW k 0 (mS cb 2 m1 h (λ c1 r m2 => eC m1 m2 c1 h (∃ (x : Int × Bool × MH), aA (I x) (cH cb) (aA (aK s) (aK t) (aA (eQ (wR deep)) (eP 8) (aA (bJ k x.1) (gQ r x.2.1) (aG jC (m2 = qE x) (h = h) True))))))) (∃ (x : Int × Bool × MH), aA (I x) (cH cb) (aA (aK s) (aK t) (aA (eQ (wR deep)) (eP 8) (aA (bJ k x.1) (Bg x.2.1) (aG jC (m1 = qE x) (h = h) True))))) /\ ∀ (x : Int × Bool × MH), eJ (I x) x.2.1 (eV cb 2 (qE x) h (λ c1 n1 k1 m2 => aW k1 -> k1 < n1 \/ k1 = 0 -> eC (qE x) m2 c1 h (K (kK (tN (cZ (eR 1 k1)) aX DL aX aX aX aX DL eZ)) m2 h))) (∃ (I1 : Int × Bool × MH -> Prop), bE x.1 6 (∃ (x1 : Int × Bool × MH), aA (I1 x1) (cH cb) (aA
 (aK s) (aK t) (aA (eQ (wR deep)) (eP 8) (aA (bJ x.1 x1.1) (vD x1.2.1) (aG jC (qE x = qE x1) (h = h) True))))) (∃ (x1 : Int × Bool × MH), aA (I1 x1) (cH cb) (aA (aK s) (aK t) (aA (eQ (wR deep)) (eP 8) (aA (bJ x.1 x1.1) (gQ (decide ((↑deep : Int) < 1)) x1.2.1) (aG jC (qE x = qE x1) (h = h) True))))) /\ ∀ (x1 : Int × Bool × MH), I1 x1 -> dT x1.2.1 (∃ (I2 : Int × MH -> Prop), fB (aF s) 0 (eV cb (aF s) (qE x1) h (λ c1 n1 k1 m2 => aW k1 -> k1 < n1 \/ k1 = 0 -> eC (qE x1) m2 c1 h (aY (λ b o => aG (bC s.a b o) (0 <= k1) (k1 < aF s) (∃ (y : Int), bI m2 h b (iW o k1 1) (bT y) /\ ∃ (x2 : Int × MH), aA (I2 x2) (cH cb) (aA (aK s) (aK t) (aA (eP 8) (bJ y x2.1) (aA jC (m2 = x2.2) (bG h h))))))))) (∃ (x2 : Int × MH), aA (I2 x2) (cH cb)
 (aA (aK s) (aK t) (aA (eP 8) (bJ 4 x2.1) (aA jC (qE x1 = x2.2) (bG h h))))) /\ ∀ (x2 : Int × MH), I2 x2 -> ∃ (I3 : PV × Int × MH -> Prop), eV cb 6 x2.2 h (λ c1 n1 k1 m2 => aW k1 -> k1 < n1 \/ k1 = 0 -> eC x2.2 m2 c1 h (∃ (c2 : Nat), gW (λ s1 t1 => ∃ (k2 : Int), vE (λ c3 p => aA (fG (zN cb 0) (dO s) (gG t x2.1) = fG (zN c2 0) (dO s1) (gG t1 k2)) (aM m2 h c2) (aA (aU h s1 c3) (aU h t1 p) (aA (dX c3) (dX p) (∀ (o : OV) (m3 : MH), xG o.value -> bP m2 m3 c2 -> lU m3 h c2 (Ha (λ c4 k3 => aA (cV (zN cb 0) x2.1 = cV (zN c4 0) k3) (aM m3 h c4) (∀ (v : VV) (m4 : MH), xG v -> bP m3 m4 c4 -> lU m4 h c4 (∃ (x3 : PV × Int × MH), aA (I3 x3) (cH cb) (aA (aK s) (aK t) (aA (eP 8) (bJ x2.1 x3.2.1) (aA (eP 11) jC (aG (pR (bB (bL 3) (bL
 (eR 1 k1)) (bB (bL o.kind) (bL o.index) (bB (bL (iA o)) (bL (qC o)) (bB (lS o) (bL 3) (bB (bL 0) (bL v.kind) (bB (bL v.int) (Jv v.text) (iQ uQ))))))) x3.1) (m4 = x3.2.2) (h = h) True))))))))))))))) /\ ∀ (x3 : PV × Int × MH), I3 x3 -> ∃ (I4 : PV × MH -> Prop), mS cb 3 x3.2.2 h (λ c1 r m2 => eC x3.2.2 m2 c1 h (branch r (∃ (c2 : Nat), gW (λ s1 t1 => ∃ (k1 : Int), vE (λ c3 p => aA (fG (zN cb 0) (dO s) (gG t x3.2.1) = fG (zN c2 0) (dO s1) (gG t1 k1)) (aM m2 h c2) (aA (aU h s1 c3) (aU h t1 p) (aA (dX c3) (dX p) (∀ (o : OV) (m3 : MH), xG o.value -> bP m2 m3 c2 -> lU m3 h c2 (∃ (x4 : PV × MH), aA (I4 x4) (cH cb) (aA (eP 8) (eP 11) (aA jC (pR (bB (bL x3.1.op) (bL x3.1.cmp) (bB (bL x3.1.left.kind) (bL x3.1.left.index) (mG (kP x3.1) x3.1.left o (bB (bL
 o.index) (bL (iA o)) (bB (bL (qC o)) (lS o) (iQ (gI x3.1.args))))))) x4.1) (aA (m3 = x4.2) (h = h) True)))))))))) (∃ (x4 : PV × MH), aA (I4 x4) (cH cb) (aA (eP 8) (eP 11) (aA jC (tG x3.1 = tG x4.1) (aA (m2 = x4.2) (h = h) True)))))) /\ ∀ (x4 : PV × MH), I4 x4 -> ∃ (I5 : PV × MH -> Prop), mS cb 6 x4.2 h (λ c1 r m2 => eC x4.2 m2 c1 h (branch r (∃ (x5 : PV × MH), aA (I5 x5) (eP 8) (aA (eP 11) jC (aG (pR (bB (bL x4.1.op) (bL x4.1.cmp) (bB (bL x4.1.right.kind) (bL x4.1.right.index) (mG (iA x4.1.right) x4.1.right x4.1.left (bB (bL x4.1.left.index) (bL (kP x4.1)) (bB (bL (qC x4.1.left)) (lS x4.1.left) (iQ (gI x4.1.args))))))) x5.1) (m2 = x5.2) (h = h) True))) (∃ (x5 : PV × MH), aA (I5 x5) (eP 8) (aA (eP 11) jC (aG (tG x4.1 = tG x5.1) (m2 = x5.2) (h = h) True))))) /\ ∀ (x5
 : PV × MH), I5 x5 -> K (eF x5.1) x5.2 h) (x1.1 == 6) (tA (λ c1 s1 t1 c2 p d => aA (fG (zN cb 0) (dO s) (gG t (jY (↑deep : Int))) = mZ c1 s1 t1 d) (aM (qE x1) h c1) (aA (aU h s1 c2) (aU h t1 p) (aA (dX c2) (dX p) (aA (d < N) (nS d) (nD h (qE x1) c1 (λ v m2 h1 => bQ h1 13 (jG v.enc) (λ s2 h2 => K (kK (tN (cZ 6) aX DL aX aX aX aX DL (cT s2))) m2 h2)))))))) (eV cb 3 (qE x1) h (λ c1 n1 k1 m2 => aW k1 -> k1 < n1 \/ k1 = 0 -> eC (qE x1) m2 c1 h (∃ (I2 : Int × Int × List PV × MH × PH -> Prop) (m3 : Int × Int × List PV × MH × PH -> Nat), (∃ (x2 : Int × Int × List PV × MH × PH), aA (I2 x2) (cH cb) (aA (aK s) (aK t) (aA (eQ (wR deep)) (eP 8) (aA (eP 12) (bJ k1 x2.2.1) (aA jC (oQ 38 (bB (bL (y9 (eR 4 x1.1 - 7))) (bL 0) (bB (bL 0) (bL
 0) (bB (bL 0) (bL 0) (bB yL (bL 0) (bB (bL 0) (bL 0) (bB (bL 0) yL (iQ (At.lst 104)))))))) = oQ 38 (bB (bL x2.1) (bL 0) (bB (bL 0) (bL 0) (bB (bL 0) (bL 0) (bB yL (bL 0) (bB (bL 0) (bL 0) (bB (bL 0) yL (iQ (At.lst 104))))))))) (aA (rY 38 13 (oY x2.2.2.1)) (bV m2 x2.2.2.2) (bG h (Ad x2)))))))) /\ ∀ (x2 : Int × Int × List PV × MH × PH), I2 x2 -> fI x2.2.1 0 (tA (λ c2 s1 t1 c3 p d => aA (fG (zN cb 0) (dO s) (gG t (jY (↑deep : Int))) = mZ c2 s1 t1 d) (aM x2.2.2.2.1 (Ad x2) c2) (aA (aU (Ad x2) s1 c3) (aU (Ad x2) t1 p) (aA (dX c3) (dX p) (aA (d < N) (nS d) (nD (Ad x2) x2.2.2.2.1 c2 (λ v m4 h1 => oO (oY x2.2.2.1) 136 (∃ (x3 : Int × Int × List PV × MH × PH), aA (I2 x3) (m3 x3 < m3 x2) (aA (cH cb) (aK s) (aA (aK t) (eQ
 (wR deep)) (aA (eP 8) (eP 12) (aA (bJ (jY x2.2.1) x3.2.1) jC (aA (oQ 38 (bB (bL x2.1) (bL 0) (bB (bL 0) (bL 0) (bB (bL 0) (bL 0) (bB yL (bL 0) (bB (bL 0) (bL 0) (bB (bL 0) yL (iQ (At.lst 104)))))))) = oQ 38 (bB (bL x3.1) (bL 0) (bB (bL 0) (bL 0) (bB (bL 0) (bL 0) (bB yL (bL 0) (bB (bL 0) (bL 0) (bB (bL 0) yL (iQ (At.lst 104))))))))) (cM 38 13 (iK (oY x2.2.2.1) v.enc) = cM 38 13 (oY x3.2.2.1)) (cQ (bV m4 x3.2.2.2) h1 (Ad x3))))))))))))))) (bQ (Ad x2) 13 (oY x2.2.2.1) (λ s1 h1 => K (kK (tN (cZ x2.1) aX DL aX aX aX aX DL (cT s1))) x2.2.2.2.1 h1))))))))
theorem f56_vc (N : Nat) (cb : Nat) (s t : Sl) (deep : Nat) (m : MH) (h : PH) (K : CV -> MH -> PH -> Prop) : f56_nice N cb s t deep m h K = (cG (f56_ctx N cb s t deep h) Tryz.f56 (aE Tryz.f56) (entry Tryz.f56.ntmps [cP cb, cS s, cS t, cI deep] m h) K) := by kernel_rfl
def Mg (N : Nat) (cb : Nat) (s t : Sl) (deep : Nat) (m : MH) (h : PH) (K : CV -> MH -> PH -> Prop) : Prop :=
  tA (λ c s1 t1 c1 p d => aA (mZ cb s t deep = mZ c s1 t1 d) (aM m h c) (aA (aU h s1 c1) (aU h t1 p) (aA (dX c1) (dX p) (aA (d < N) (nS d) (nD h m c (λ v m1 h1 => gW (λ s2 t2 => ∃ (v1 : PV), vE (λ c2 p1 => ∃ (p2 : Pred), aA (dO s :: bX (dO t) v.enc = dO s2 :: bX (dO t2) v1.enc) (aU h1 s2 c2) (aA (aU h1 t2 p1) (cX h1 p2 v1) (dW (fE c2 p1 p2) 2 (tA (λ c3 s3 t3 c4 p3 d1 => aA (fG (zN cb 0) (dO s) (gG t 1) = mZ c3 s3 t3 d1) (aM m1 h1 c3) (aA (aU h1 s3 c4) (aU h1 t3 p3) (aA (dX c4) (dX p3) (aA (d1 < N) (nS d1) (nD h1 m1 c3 (λ v2 m2 h2 => K (eF v2) m2 h2))))))) (K (eF v) m1 h1)))))))))))
theorem V4 (N : Nat) (cb : Nat) (s t : Sl) (deep : Nat) (m : MH) (h : PH) (K : CV -> MH -> PH -> Prop) : Mg N cb s t deep m h K = (cG (cO [(56, PZ N), (57, lW)] [] [] [] false) Tryz.f27 (aE Tryz.f27) (entry Tryz.f27.ntmps [cP cb, cS s, cS t, cI deep] m h) K) := by kernel_rfl
theorem QX : Sound Tryz.prog 79 MY := by
 refine aI (fn := Tryz.f79) (c := aE Tryz.f79) Tryz.func79 rfl (by decide) ?_
 rintro cvs m h K ⟨cb, s, t, kind, cols, params, rfl, hc, hs, ht, l1, l2, hK⟩
 refine ⟨OZ cb s t kind m h, rfl, aD Cg (aD EW aH), ?_⟩
 rw [<- Vk cb s t kind m h K]
 dsimp only [LO, push_cast]
 have hsl := hs.slen
 have htl := ht.slen
 refine ⟨λ ⟨i, os⟩ => i <= cols.length /\ os.length <= i /\ ∀ o ∈ os, xG o.value, λ ⟨i, _⟩ => cols.length - i, ⟨(0, []), ⟨by omega, by simp, by simp⟩, MT⟩, ?_⟩
 rintro ⟨i, os⟩ ⟨hi, hol, hos⟩
 dsimp only
 refine aC (λ hlt => ?_) (λ hge => ?_)
 . obtain ⟨x, hx⟩ := fP hsl hlt
   obtain ⟨b1, o1, e1, r1⟩ := hs.at' hx
   refine ⟨b1, o1, e1, by omega, hlt, x, .imm r1, aB (λ _ => ⟨by simp; omega, by simp; omega, (i + 1, os ++ [⟨1, i, zeroV⟩]), ⟨by omega, by simp; omega, ?_⟩, by show cols.length - (i + 1) < cols.length - i; omega, ?_⟩) (λ _ => ⟨(i + 1, os), ⟨by omega, by show os.length <= i + 1; omega, hos⟩, by show cols.length - (i + 1) < cols.length - i; omega, MT⟩)⟩
   . intro o ho
     rcases List.mem_append.1 ho with h1 | h1
     . exact hos o h1
     . simp at h1; subst h1; exact gZ
   . rw [List.map_append]; exact MT
 refine ⟨λ ⟨i, os⟩ => i <= params.length /\ os.length <= 1000 + i /\ ∀ o ∈ os, xG o.value, λ ⟨i, _⟩ => params.length - i, ⟨(0, os), ⟨by omega, by omega, hos⟩, MT⟩, ?_⟩
 clear hi hol hos hge
 rintro ⟨i, os⟩ ⟨hi, hol, hos⟩
 dsimp only
 refine aC (λ hlt => ?_) (λ hge => ?_)
 . obtain ⟨x, hx⟩ := fP htl hlt
   obtain ⟨b1, o1, e1, r1⟩ := ht.at' hx
   refine ⟨b1, o1, e1, by omega, hlt, x, .imm r1, aB (λ _ => ⟨by simp; omega, by simp; omega, (i + 1, os ++ [⟨2, i, zeroV⟩]), ⟨by omega, by simp; omega, ?_⟩, by show params.length - (i + 1) < params.length - i; omega, ?_⟩) (λ _ => ⟨(i + 1, os), ⟨by omega, by show os.length <= 1000 + (i + 1); omega, hos⟩, by show params.length - (i + 1) < params.length - i; omega, MT⟩)⟩
   . intro o ho
     rcases List.mem_append.1 ho with h1 | h1
     . exact hos o h1
     . simp at h1; subst h1; exact gZ
   . rw [List.map_append]; exact MT
 . refine ⟨cb, _, rfl, hc, λ k m' h0 h1 ho hc' => aC (λ hk => ?_) (λ hk => ⟨cb, kind, rfl, hc', λ v m'' hv ho' hc'' => hK ⟨3, 0, v⟩ m'' hv (ho.trans ho') hc''⟩)⟩
   have hk' : k.toNat < os.length := by simp at hk; omega
   exact ⟨h0, hk, _, by rw [List.getElem?_map, List.getElem?_eq_getElem hk']; rfl, os[k.toNat], rfl, hK _ m' (hos _ (List.getElem_mem hk')) ho hc'⟩
theorem AP {h : PH} {v : PV} (ha : v.args = ⟨none, 0, 0⟩) : cX h (.mk v.op v.cmp v.left v.right []) v := cX.mk (by rw [ha]; exact .nil _ _ _ _)
theorem f56_all : ∀ N, Sound Tryz.prog 56 (PZ N)
 | 0 => by
  refine aI (fn := Tryz.f56) (c := aE Tryz.f56) Tryz.func56 rfl (by decide) ?_
  rintro cvs m h K ⟨cb, s, t, cols, params, deep, rfl, _, _, _, _, _, hN, _⟩
  omega
 | N + 1 => by
  refine aI (fn := Tryz.f56) (c := aE Tryz.f56) Tryz.func56 rfl (by decide) ?_
  rintro cvs m h K ⟨cb, s, t, cols, params, deep, rfl, hc, hs, ht, l1, l2, hN, hd, hK⟩
  refine ⟨f56_ctx N cb s t deep h, rfl, aD Cg (aD sJ (aD QX (aD EW (aD (f56_all N) aH)))), ?_⟩
  rw [<- f56_vc N cb s t deep m h K]
  dsimp only [f56_nice, push_cast]
  have hsl := hs.slen
  refine ⟨cb, 9, rfl, hc, λ k m1 k0 k1 o1 c1 => ?_⟩
  refine ⟨λ ⟨k, _, mx⟩ => 0 <= k /\ k <= 8 /\ bP m mx cb /\ aM mx h cb, aB (λ _ => ⟨cb, 2, rfl, by omega, by omega, c1, λ r m2 o2 c2 => ⟨(k, r, m2), ⟨k0, by omega, o1.trans o2, c2⟩, MT⟩⟩) (λ _ => ⟨(k, false, m1), ⟨k0, by omega, o1, c1⟩, MT⟩), ?_⟩
  clear k0 k1 o1 c1 k m1
  rintro ⟨k, b, m1⟩ ⟨k0, k1, o1, c1⟩
  dsimp only
  refine aB (λ _ => ⟨cb, 2, rfl, c1, λ j m2 j0 j1 o2 c2 => ?_⟩) (λ _ => ?_)
  . exact hK ⟨IntKind.i64.wrap (1 + j), 0, cR, cR, ⟨none, 0, 0⟩⟩ _ m2 h (.refl _) (AP rfl) ⟨gZ, gZ, trivial⟩ (o1.trans o2) c2
  refine ⟨λ ⟨k, b, mx⟩ => 0 <= k /\ k <= 8 /\ (b = false -> 6 <= k /\ 1 <= deep) /\ bP m mx cb /\ aM mx h cb, aC (λ _ => ⟨(k, true, m1), ⟨k0, k1, λ e => (by cases e), o1, c1⟩, MT⟩) (λ hk => ⟨(k, _, m1), ⟨k0, k1, λ e => ?_, o1, c1⟩, MT⟩), ?_⟩
  . simp at e; exact ⟨by omega, by omega⟩
  clear k0 k1 o1 c1 k m1
  rintro ⟨k, b, m1⟩ ⟨k0, k1, kb, o1, c1⟩
  dsimp only
  refine aB (λ _ => ?_) (λ hb => ?_)
  . refine ⟨λ ⟨_, mx⟩ => bP m mx cb /\ aM mx h cb, aC (λ hpos => ⟨cb, s.len, rfl, c1, λ j m2 j0 j1 o2 c2 => ?_⟩) (λ _ => ⟨(4, m1), ⟨o1, c1⟩, MT⟩), ?_⟩
    . obtain ⟨b1, off, e1, r1⟩ := hs.inb (n := j) j0 (by omega)
      exact ⟨b1, off, e1, j0, by omega, _, .imm r1, (_, m2), ⟨o1.trans o2, c2⟩, MT⟩
    clear o1 c1 m1
    rintro ⟨kd, m1⟩ ⟨o1, c1⟩
    dsimp only
    refine ⟨λ ⟨p, _, mx⟩ => p.args = ⟨none, 0, 0⟩ /\ xG p.left.value /\ xG p.right.value /\ bP m mx cb /\ aM mx h cb, ⟨cb, 6, rfl, c1, λ j m2 j0 j1 o2 c2 => ⟨cb, s, t, kd, cols, params, rfl, c2, hs, ht, l1, l2, λ o m3 ho o3 c3 => ⟨cb, kd, rfl, c3, λ v m4 hv o4 c4 => ⟨(⟨3, IntKind.i64.wrap (1 + j), o, ⟨3, 0, v⟩, ⟨none, 0, 0⟩⟩, kd, m4), ⟨rfl, ho, hv, ((o1.trans o2).trans o3).trans o4, c4⟩, MT⟩⟩⟩⟩, ?_⟩
    clear o1 c1 m1 kd
    rintro ⟨p, kd, m1⟩ ⟨pa, pl, pr, o1, c1⟩
    dsimp only
    refine ⟨λ ⟨p, mx⟩ => p.args = ⟨none, 0, 0⟩ /\ xG p.left.value /\ xG p.right.value /\ bP m mx cb /\ aM mx h cb, ⟨cb, 3, rfl, by omega, by omega, c1, λ r m2 o2 c2 => aB (λ _ => ⟨cb, s, t, kd, cols, params, rfl, c2, hs, ht, l1, l2, λ o m3 ho o3 c3 => ⟨(⟨p.op, p.cmp, p.left, o, p.args⟩, m3), ⟨pa, pl, ho, (o1.trans o2).trans o3, c3⟩, MT⟩⟩) (λ _ => ⟨(p, m2), ⟨pa, pl, pr, o1.trans o2, c2⟩, MT⟩)⟩, ?_⟩
    clear pa pl pr o1 c1 m1 p
    rintro ⟨p, m1⟩ ⟨pa, pl, pr, o1, c1⟩
    dsimp only
    refine ⟨λ ⟨p, mx⟩ => p.args = ⟨none, 0, 0⟩ /\ xG p.left.value /\ xG p.right.value /\ bP m mx cb /\ aM mx h cb, ⟨cb, 6, rfl, by omega, by omega, c1, λ r m2 o2 c2 => aB (λ _ => ⟨(⟨p.op, p.cmp, p.right, p.left, p.args⟩, m2), ⟨pa, pr, pl, o1.trans o2, c2⟩, MT⟩) (λ _ => ⟨(p, m2), ⟨pa, pl, pr, o1.trans o2, c2⟩, MT⟩)⟩, ?_⟩
    clear pa pl pr o1 c1 m1 p
    rintro ⟨p, m1⟩ ⟨pa, pl, pr, o1, c1⟩
    exact hK p _ m1 h (.refl _) (AP pa) ⟨pl, pr, trivial⟩ o1 c1
  have hdeep := kb hb
  have hw : IntKind.i64.wrap ((deep : Int) - 1) = ((deep - 1 : Nat) : Int) := by rw [dP (by omega) (by omega)]; omega
  rw [hw]
  refine aB (λ _ => ⟨cb, s, t, cols, params, deep - 1, rfl, c1, hs, ht, l1, l2, by omega, by omega, λ v p m2 h2 hle hr hp o2 c2 sl h3 hle2 hrow => ?_⟩) (λ _ => ⟨cb, 3, rfl, c1, λ j m2 j0 j1 o2 c2 => ?_⟩)
  . refine hK ⟨6, 0, cR, cR, sl⟩ (.mk 6 0 cR cR [p]) m2 h3 (hle.trans hle2) (cX.mk (v := ⟨6, 0, cR, cR, sl⟩) ⟨⟨[v], hrow, rfl, λ i x hx => ?_⟩, by simp⟩) ⟨gZ, gZ, hp, trivial⟩ (o1.trans o2) (c2.mono hle2)
    match i, hx with
    | 0, hx => simp at hx; subst hx; exact ⟨v, rfl, hr.mono hle2⟩
    | _ + 1, hx => simp at hx
  refine ⟨λ ⟨_, n, us, mx, hx⟩ => -1 <= n /\ n <= 2 /\ (us.length : Int) <= 2 - n /\ PH.le h hx /\ bP m mx cb /\ aM mx hx cb /\ ∃ ps : List Pred, ps.length = us.length /\ BF ps /\ ∀ (i : Nat) q, ps[i]? = some q -> ∃ u, us[i]? = some u /\ cX hx q u, λ ⟨_, n, _, _, _⟩ => (n + 1).toNat, ⟨(_, j, [], m2, h), ⟨by omega, by omega, by simp; omega, .refl _, o1.trans o2, c2, [], rfl, trivial, λ i q hq => by simp at hq⟩, MT⟩, ?_⟩
  rintro ⟨op, n, us, mx, hx⟩ ⟨n0, n1, ul, hle, ox, cx, ps, pl, pw, hps⟩
  dsimp only
  refine aC (λ hn => ⟨cb, s, t, cols, params, deep - 1, rfl, cx, hs.mono hle, ht.mono hle, l1, l2, by omega, by omega, λ v p m3 h3 hle3 hr hp o3 c3 => ⟨by simp; omega, by simp; omega, (op, n - 1, us ++ [v], m3, h3), ⟨by show -1 <= n - 1; omega, by show n - 1 <= 2; omega, by simp; omega, hle.trans hle3, ox.trans o3, c3, ps ++ [p], by simp [pl], ?_, ?_⟩, ?_, ?_⟩⟩) (λ hn sl h3 hle3 hrow => ?_)
  . rw [pH] at pw ⊢
    intro q hq
    rcases List.mem_append.1 hq with h1 | h1
    . exact pw q h1
    . simp at h1; subst h1; exact hp
  . intro i q hq
    by_cases hi : i < ps.length
    . rw [List.getElem?_append_left hi] at hq
      obtain ⟨u, h1, h2⟩ := hps i q hq
      exact ⟨u, by rw [List.getElem?_append_left (by omega)]; exact h1, h2.mono hle3⟩
    . rw [List.getElem?_append_right (by omega)] at hq
      have hl := (List.getElem?_eq_some_iff.1 hq).1
      simp at hl
      have : i = ps.length := by omega
      subst this
      simp at hq
      subst hq
      exact ⟨v, by rw [List.getElem?_append_right (by omega), pl]; simp, hr⟩
  . show (n - 1 + 1).toNat < (n + 1).toNat; omega
  . rw [List.map_append, dP (by omega) (by omega)]; exact MT
  . exact hK ⟨op, 0, cR, cR, sl⟩ (.mk op 0 cR cR ps) mx h3 (hle.trans hle3) (cX.mk (v := ⟨op, 0, cR, cR, sl⟩) ⟨⟨us, hrow, pl, λ i q hq => (hps i q hq).imp λ u hu => ⟨hu.1, hu.2.mono hle3⟩⟩, by omega⟩) ⟨gZ, gZ, pw⟩ ox (cx.mono hle3)
theorem CM : Sound Tryz.prog 27 zJ := by
 refine aI (fn := Tryz.f27) (c := aE Tryz.f27) Tryz.func27 rfl (by decide) ?_
 rintro cvs m h K ⟨cb, s, t, cols, params, deep, rfl, hc, hs, ht, l1, l2, hd, hK⟩
 refine ⟨cO [(56, PZ 1001), (57, lW)] [] [] [] false, rfl, aD (f56_all 1001) (aD f57_sound aH), ?_⟩
 rw [<- V4 1001 cb s t deep m h K]
 dsimp only [Mg, push_cast]
 refine ⟨cb, s, t, cols, params, deep, rfl, hc, hs, ht, l1, l2, by omega, hd, λ v p m2 h2 hle hr hp o2 c2 => ⟨s, t, v, cols, params, p, rfl, hs.mono hle, ht.mono hle, hr, aB (λ _ => ⟨cb, s, t, cols, params, 1, rfl, c2, hs.mono hle, ht.mono hle, l1, l2, by omega, by omega, λ v3 p3 m3 h3 hle3 hr3 hp3 o3 c3 => hK v3 p3 m3 h3 (hle.trans hle3) hr3 hp3 (o2.trans o3) c3⟩) (λ _ => hK v p m2 h2 hle hr hp o2 c2)⟩⟩
def cA : Sl := ⟨none, 0, 0⟩
def Qg : Vc.Spec := λ cvs m h K => ∃ n k, cvs = [MK n, cI k] /\ K (.val (.agg ⟨(oG.mk n k).enc⟩)) m h
def SC : Vc.Spec := λ cvs m h K => ∃ t, cvs = [cI t] /\ K (aQ ⟨1, t, fV, cA, cA, cA, cA, 0, cA⟩) m h
def RW (v : QV) (g o : Sl) (k : Int) : QV := ⟨v.op, v.table, v.where_, v.columns, v.on, g, o, k, v.args⟩
def UB : Vc.Spec := λ cvs m h K => ∃ cb v s kinds, cvs = [cP cb, aQ (RW v cA cA v.limit), cS s] /\ aM m h cb /\ aU h s kinds /\ kinds.length <= 1000 /\
 ∀ g o k gr od m' h', PH.le h h' -> aU h' g gr -> fU h' o od -> gr.length <= kinds.length -> od.length <= kinds.length -> 0 <= k -> k <= 3 -> bP m m' cb -> aM m' h' cb -> K (aQ (RW v g o k)) m' h'
noncomputable def Pn (cb : Nat) (v : QV) (s : Sl) (h : PH) : Ctx :=
 cO [(12, zL), (10, Ez)] [(2, { A := Nat × List Int × List (Int × Bool) × MH, st := λ ⟨i, gr, od, m⟩ => cD 37 40 [(0, pv cb), (4, .at (.ptr 4 0)), (6, .at (.ptr 6 0)), (9, iv s.len), (10, iv i)] [(4, .cells 43 ((v.enc.take 17).map .val ++ [.lst 19, .lst 30, .val (.int .i64 v.limit), .val (.slice v.args.a v.args.len v.args.cap)])), (6, .cells 43 (iP.enc.map .val)), (19, .lst 3 1 (gr.map eI)), (30, .lst 80 2 (od.map xS))] m h })] [] [] false
def f51_nice (n : ByteArray) (k : Int) (m : MH) (h : PH) (K : CV -> MH -> PH -> Prop) : Prop :=
  K (kK (kY (Value.string n) (cZ k))) m h
theorem f51_vc (n : ByteArray) (k : Int) (m : MH) (h : PH) (K : CV -> MH -> PH -> Prop) : f51_nice n k m h K = (cG (cO [] [] [] [] false) Tryz.f51 (aE Tryz.f51) (entry Tryz.f51.ntmps [MK n, cI k] m h) K) := by kernel_rfl
def Sj (t : Int) (m : MH) (h : PH) (K : CV -> MH -> PH -> Prop) : Prop :=
  K (kK (qJ (cZ 1) (cZ t) j7 eZ)) m h
theorem VT (t : Int) (m : MH) (h : PH) (K : CV -> MH -> PH -> Prop) : Sj t m h K = (cG (cO [] [] [] [] false) Tryz.f37 (aE Tryz.f37) (entry Tryz.f37.ntmps [cI t] m h) K) := by kernel_rfl
noncomputable abbrev AD (a : QV) : At := bL a.limit
noncomputable abbrev u7 (a : Nat × List Int × List (Int × Bool) × MH) : List (List Value) := B5 a.2.2.1
noncomputable abbrev vZ (a : Nat × List Int × List (Int × Bool) × MH) : Nat -> Option Obj := a.2.2.2
abbrev dZ  : Prop := eP 6
abbrev jK (a b : List Int) : Prop := Bn a = Bn b
attribute [push_cast] AD u7 vZ dZ jK
def L7 (cb : Nat) (v : QV) (s : Sl) (m : MH) (h : PH) (K : CV -> MH -> PH -> Prop) : Prop :=
  ∃ (I : Nat × List Int × List (Int × Bool) × MH -> Prop) (m1 : Nat × List Int × List (Int × Bool) × MH -> Nat), (∃ (x : Nat × List Int × List (Int × Bool) × MH), aA (I x) (cH cb) (aA (eP 4) (eP 6) (aA (cF s) (bO x.1) (aA (eQ (oQ 43 (bB (bL v.op) (tO v) (wX v v.on (At.lst 19) (At.lst 30) (kJ (AD v) (gI v.args)))))) dA (kN (yW 3 1 x.2.1) (rY 80 2 (u7 x)) (m = vZ x) h h))))) /\ ∀ (x : Nat × List Int × List (Int × Bool) × MH), I x -> bE (↑x.1 : Int) (aF s) (mS cb 3 (vZ x) h (λ c r m2 => eC (vZ x) m2 c h (branch r (oO (bY x.2.1) 8 (mS cb 3 m2 h (λ c1 r1 m3 => eC m2 m3 c1 h (branch r1 (mS cb 2 m3 h (λ c2 r2 m4 => eC m3 m4 c2 h (oO (u7 x) 16 (∃ (x1 : Nat × List Int × List (Int × Bool) × MH), aA (I x1) (m1 x1 < m1 x) (aA (cH cb) (eP 4) (aA dZ (cF s) (aA
 (aZ x.1 1 x1.1) (eQ (oQ 43 (bB (bL v.op) (tO v) (wX v v.on (At.lst 19) (At.lst 30) (kJ (AD v) (gI v.args)))))) (aA dA (uB x.2.1 (↑x.1 : Int) x1.2.1) (aA (cM 80 2 (iK (u7 x) (kY (cZ (↑x.1 : Int)) (Value.bool r2))) = cM 80 2 (u7 x1)) (m4 = vZ x1) (bG h h)))))))))) (∃ (x1 : Nat × List Int × List (Int × Bool) × MH), aA (I x1) (m1 x1 < m1 x) (aA (cH cb) (eP 4) (aA dZ (cF s) (aA (aZ x.1 1 x1.1) (eQ (oQ 43 (bB (bL v.op) (tO v) (wX v v.on (At.lst 19) (At.lst 30) (kJ (AD v) (gI v.args)))))) (aA dA (uB x.2.1 (↑x.1 : Int) x1.2.1) (aA (cM 80 2 (u7 x) = cM 80 2 (u7 x1)) (m3 = vZ x1) (bG h h))))))))))) (mS cb 3 m2 h (λ c1 r1 m3 => eC m2 m3 c1 h (branch r1 (mS cb 2 m3 h (λ c2 r2 m4 => eC m3 m4 c2 h (oO (u7 x) 16 (∃ (x1 : Nat × List Int
 × List (Int × Bool) × MH), aA (I x1) (m1 x1 < m1 x) (aA (cH cb) (eP 4) (aA dZ (cF s) (aA (aZ x.1 1 x1.1) (eQ (oQ 43 (bB (bL v.op) (tO v) (wX v v.on (At.lst 19) (At.lst 30) (kJ (AD v) (gI v.args)))))) (aA dA (jK x.2.1 x1.2.1) (aA (cM 80 2 (iK (u7 x) (kY (cZ (↑x.1 : Int)) (Value.bool r2))) = cM 80 2 (u7 x1)) (m4 = vZ x1) (bG h h)))))))))) (∃ (x1 : Nat × List Int × List (Int × Bool) × MH), aA (I x1) (m1 x1 < m1 x) (aA (cH cb) (eP 4) (aA dZ (cF s) (aA (aZ x.1 1 x1.1) (eQ (oQ 43 (bB (bL v.op) (tO v) (wX v v.on (At.lst 19) (At.lst 30) (kJ (AD v) (gI v.args)))))) (aA dA (jK x.2.1 x1.2.1) (aA (cM 80 2 (u7 x) = cM 80 2 (u7 x1)) (m3 = vZ x1) (bG h h))))))))))))) (eV cb 4 (vZ x) h (λ c n k m2 => aW k -> k < n \/ k = 0 -> eC
 (vZ x) m2 c h (bQ h 1 (bY x.2.1) (λ s1 h1 => bQ h1 2 (u7 x) (λ s2 h2 => K (kK (aL (cZ v.op) (tP v) (aL (vF v) (cZ (vG v)) (aL (hX (eM v)) (hZ (eM v)) (aL (cZ (iA (eM v))) (iE (eM v)) (aL (gL (eM v)) (hX (dU v)) (aL (hZ (dU v)) (iD (dU v)) (aL (iE (dU v)) (gL (dU v)) (aL (w9 v) (xD v) (aL (nG v.on) (nG s1) (aL (nG s2) (cZ k) (cT v.args)))))))))))) m2 h2)))))
theorem VQ (cb : Nat) (v : QV) (s : Sl) (m : MH) (h : PH) (K : CV -> MH -> PH -> Prop) : L7 cb v s m h K = (cG (Pn cb v s h) Tryz.f40 (aE Tryz.f40) (entry Tryz.f40.ntmps [cP cb, aQ (RW v cA cA v.limit), cS s] m h) K) := by kernel_rfl
theorem f51_sound : Sound Tryz.prog 51 Qg := by
 refine aI (fn := Tryz.f51) (c := aE Tryz.f51) Tryz.func51 rfl (by decide) ?_
 rintro cvs m h K ⟨n, k, rfl, hK⟩
 refine ⟨cO [] [] [] [] false, rfl, aH, ?_⟩
 rw [<- f51_vc n k m h K]
 exact hK
theorem IU : Sound Tryz.prog 37 SC := by
 refine aI (fn := Tryz.f37) (c := aE Tryz.f37) Tryz.func37 rfl (by decide) ?_
 rintro cvs m h K ⟨t, rfl, hK⟩
 refine ⟨cO [] [] [] [] false, rfl, aH, ?_⟩
 rw [<- VT t m h K]
 exact hK
theorem Rj : Sound Tryz.prog 40 UB := by
 refine aI (fn := Tryz.f40) (c := aE Tryz.f40) Tryz.func40 rfl (by decide) ?_
 rintro cvs m h K ⟨cb, v, s, kinds, rfl, hc, hs, hl, hK⟩
 refine ⟨Pn cb v s h, rfl, aD Cg (aD sJ aH), ?_⟩
 rw [<- VQ cb v s m h K]
 dsimp only [L7, push_cast]
 have hsl := hs.slen
 refine ⟨λ ⟨i, gr, od, mx⟩ => i <= kinds.length /\ gr.length <= i /\ od.length <= i /\ bP m mx cb /\ aM mx h cb, λ ⟨i, _, _, _⟩ => kinds.length - i, ⟨(0, [], [], m), ⟨by omega, by simp, by simp, .refl _ _, hc⟩, MT⟩, ?_⟩
 rintro ⟨i, gr, od, m1⟩ ⟨hi, hg, ho, o1, c1⟩
 dsimp only
 refine aC (λ hlt => ?_) (λ hge => ?_)
 . have fin : ∀ (gr' : List Int) (od' : List (Int × Bool)) m', gr'.length <= i + 1 -> od'.length <= i + 1 -> bP m m' cb -> aM m' h cb -> (i + 1 <= kinds.length /\ gr'.length <= i + 1 /\ od'.length <= i + 1 /\ bP m m' cb /\ aM m' h cb) := λ gr' od' m' h1 h2 h3 h4 => ⟨by omega, h1, h2, h3, h4⟩
   refine ⟨cb, 3, rfl, by omega, by omega, c1, λ r m2 o2 c2 => aB (λ _ => ⟨by simp; omega, by simp; omega, cb, 3, rfl, by omega, by omega, c2, λ r2 m3 o3 c3 => aB (λ _ => ⟨cb, 2, rfl, by omega, by omega, c3, λ r3 m4 o4 c4 => ⟨by simp; omega, by simp; omega, (i + 1, gr ++ [(i : Int)], od ++ [((i : Int), r3)], m4), fin (gr ++ [(i : Int)]) (od ++ [((i : Int), r3)]) m4 (by simp; omega) (by simp; omega) (((o1.trans o2).trans o3).trans o4) c4, by show kinds.length - (i + 1) < kinds.length - i; omega, ?_⟩⟩) (λ _ => ⟨(i + 1, gr ++ [(i : Int)], od, m3), fin (gr ++ [(i : Int)]) od m3 (by simp; omega) (by omega) ((o1.trans o2).trans o3) c3, by show kinds.length - (i + 1) < kinds.length - i; omega, ?_⟩)⟩)
    (λ _ => ⟨cb, 3, rfl, by omega, by omega, c2, λ r2 m3 o3 c3 => aB (λ _ => ⟨cb, 2, rfl, by omega, by omega, c3, λ r3 m4 o4 c4 => ⟨by simp; omega, by simp; omega, (i + 1, gr, od ++ [((i : Int), r3)], m4), fin gr (od ++ [((i : Int), r3)]) m4 (by omega) (by simp; omega) (((o1.trans o2).trans o3).trans o4) c4, by show kinds.length - (i + 1) < kinds.length - i; omega, ?_⟩⟩) (λ _ => ⟨(i + 1, gr, od, m3), fin gr od m3 (by omega) (by omega) ((o1.trans o2).trans o3) c3, by show kinds.length - (i + 1) < kinds.length - i; omega, MT⟩)⟩)⟩
   . simp only [List.map_append]; exact MT
   . simp only [List.map_append]; exact MT
   . simp only [List.map_append]; exact MT
 . refine ⟨cb, 4, rfl, c1, λ k m2 k0 k1 o2 c2 s1 h1 hle1 r1 s2 h2 hle2 r2 => ?_⟩
   exact hK s1 s2 k gr od m2 h2 (hle1.trans hle2) ⟨r1.mono hle2, by omega⟩ ⟨r2, by omega⟩ (by omega) (by omega) k0 (by omega) (o1.trans o2) (c2.mono (hle1.trans hle2))
def SJ : Vc.Spec := λ cvs m h K => ∃ cb s t a b, cvs = [cP cb, cS s, cS t] /\ aM m h cb /\ aU h s a /\ aU h t b /\ a.length <= 1000 /\ b.length <= 1000 /\
 ∀ o on m' h', PH.le h h' -> gM h' o on -> on.length <= 10 -> bP m m' cb -> aM m' h' cb -> K (cS o) m' h'
noncomputable def Pp (cb : Nat) (s t : Sl) (h : PH) : Ctx :=
 cO [(12, zL)] [(3, { A := Int × List (Int × Int) × MH, st := λ ⟨n, on, m⟩ => cD 77 80 [(0, pv cb), (1, sv s), (2, sv t), (7, .at (.lst 75)), (8, iv n)] [(75, .lst 78 2 (on.map pM))] m h }),
  (8, { A := Int × Nat × List (Int × Int) × (Int × Int) × Bool × MH, st := λ ⟨n, i, on, p, f, m⟩ => cD 77 80 [(0, pv cb), (1, sv s), (2, sv t), (7, .at (.lst 75)), (8, iv n), (9, .at (.ptr 9 0)), (10, bv f), (49, .at (.lst 75)), (50, iv on.length), (51, iv i)] [(9, .cells 78 [.val (.int .i64 p.1), .val (.int .i64 p.2)]), (75, .lst 78 2 (on.map pM))] m h })] [] [] false
abbrev oI  : Prop := eL 75
noncomputable abbrev xW (a : Int × List (Int × Int) × MH) : List (List Value) := Bm a.2.1
noncomputable abbrev qF (a : Int × Nat × List (Int × Int) × (Int × Int) × Bool × MH) : Bool × MH := a.2.2.2.2
noncomputable abbrev xV (a : Int × Nat × List (Int × Int) × (Int × Int) × Bool × MH) : Nat := a.2.2.1.length
noncomputable abbrev yV (a : Int × Nat × List (Int × Int) × (Int × Int) × Bool × MH) : Int × Int := a.2.2.2.1
noncomputable abbrev u6 (a : Int × Nat × List (Int × Int) × (Int × Int) × Bool × MH) : List (List Value) := Bm a.2.2.1
attribute [push_cast] oI xW qF xV yV u6
def L9 (cb : Nat) (s t : Sl) (m : MH) (h : PH) (K : CV -> MH -> PH -> Prop) : Prop :=
  eV cb 3 m h (λ c n k m1 => aW k -> k < n \/ k = 0 -> eC m m1 c h (∃ (I : Int × List (Int × Int) × MH -> Prop) (m2 : Int × List (Int × Int) × MH -> Nat), (∃ (x : Int × List (Int × Int) × MH), aA (I x) (cH cb) (aA (aK s) (aK t) (aA oI (bJ k x.1) (aA (rY 78 2 (xW x)) (m1 = x.2.2) (bG h h))))) /\ ∀ (x : Int × List (Int × Int) × MH), I x -> fB x.1 0 (fB (aF s) 0 (fB (aF t) 0 (eV cb (aF s) x.2.2 h (λ c1 n1 k1 m3 => aW k1 -> k1 < n1 \/ k1 = 0 -> eC x.2.2 m3 c1 h (eV cb (aF t) m3 h (λ c2 n2 k2 m4 => aW k2 -> k2 < n2 \/ k2 = 0 -> eC m3 m4 c2 h (aA (aW 0) ((0 : Int) < 2) (aY (λ b o => aG (bC s.a b o) (0 <= k1) (k1 < aF s) (∃ (y : Int), aG (bI m4 h b (iW o k1 1) (bT y)) ((0 : Int) <= 1) ((1 : Int) < 2) (aY (λ b1 o1 => aG (bC t.a b1 o1) (0 <= k2) (k2 < aF t) (∃
 (y1 : Int), bI m4 h b1 (iW o1 k2 1) (bT y1) /\ ∃ (I1 : Int × Nat × List (Int × Int) × (Int × Int) × Bool × MH -> Prop) (m5 : Int × Nat × List (Int × Int) × (Int × Int) × Bool × MH -> Nat), (∃ (x1 : Int × Nat × List (Int × Int) × (Int × Int) × Bool × MH), aA (I1 x1) (cH cb) (aA (aK s) (aK t) (aA oI (bJ x.1 x1.1) (aA (eP 9) (gQ (y == y1) (qF x1).1) (aA oI (dG (xW x).length (xV x1)) (aA (bO x1.2.1) (oQ 78 (kJ (bL k1) (bL k2)) = oQ 78 (rE (yV x1))) (aG (cM 78 2 (xW x) = cM 78 2 (u6 x1)) (m4 = (qF x1).2) (h = h) True))))))) /\ ∀ (x1 : Int × Nat × List (Int × Int) × (Int × Int) × Bool × MH), I1 x1 -> bE (↑x1.2.1 : Int) (↑(xV x1) : Int) (lC (↑x1.2.1 : Int) (u6 x1) (λ e => fO (u6 x1) (↑x1.2.1 : Int) e /\ ∃ (y2 : Int × Int), gH (iO 2 0 e (rK y2)) (qF x1).1
 (aA (aW 0) ((0 : Int) < 2) (aA (aW 0) ((0 : Int) < 2) (dE y2.1 (yV x1).1 (aA (aW 1) ((1 : Int) < 2) (aA (aW 1) ((1 : Int) < 2) (∃ (x2 : Int × Nat × List (Int × Int) × (Int × Int) × Bool × MH), aA (I1 x2) (m5 x2 < m5 x1) (aA (cH cb) (aK s) (aA (aK t) oI (aA (bJ x1.1 x2.1) (eP 9) (aA (gQ (y2.2 != (yV x1).2) (qF x2).1) oI (aA (dG (xV x1) (xV x2)) (aZ x1.2.1 1 x2.2.1) (aA (oQ 78 (rE (yV x1)) = oQ 78 (rE (yV x2))) (cM 78 2 (u6 x1) = cM 78 2 (u6 x2)) (aA ((qF x1).2 = (qF x2).2) (h = h) True)))))))))) (∃ (x2 : Int × Nat × List (Int × Int) × (Int × Int) × Bool × MH), aA (I1 x2) (m5 x2 < m5 x1) (aA (cH cb) (aK s) (aA (aK t) oI (aA (bJ x1.1 x2.1) (eP 9) (aA (Bg (qF x2).1) oI (aA (dG (xV x1) (xV x2))
 (aZ x1.2.1 1 x2.2.1) (aA (oQ 78 (rE (yV x1)) = oQ 78 (rE (yV x2))) (cM 78 2 (u6 x1) = cM 78 2 (u6 x2)) (aA ((qF x1).2 = (qF x2).2) (h = h) True))))))))))) (∃ (x2 : Int × Nat × List (Int × Int) × (Int × Int) × Bool × MH), aA (I1 x2) (m5 x2 < m5 x1) (aA (cH cb) (aK s) (aA (aK t) oI (aA (bJ x1.1 x2.1) (eP 9) (aA (Bg (qF x2).1) oI (aA (dG (xV x1) (xV x2)) (aZ x1.2.1 1 x2.2.1) (aA (oQ 78 (rE (yV x1)) = oQ 78 (rE (yV x2))) (cM 78 2 (u6 x1) = cM 78 2 (u6 x2)) (aA ((qF x1).2 = (qF x2).2) (h = h) True)))))))))) (branch (qF x1).1 (oO (u6 x1) 16 (∃ (x2 : Int × List (Int × Int) × MH), aA (I x2) (m2 x2 < m2 x) (aA (cH cb) (aK s) (aA (aK t) oI (aA (bJ (jY x1.1) x2.1) (cM 78 2 (iK (u6 x1) (rK
 (yV x1))) = cM 78 2 (xW x2)) (cQ ((qF x1).2 = x2.2.2) h h)))))) (∃ (x2 : Int × List (Int × Int) × MH), aA (I x2) (m2 x2 < m2 x) (aA (cH cb) (aK s) (aA (aK t) oI (aA (bJ (jY x1.1) x2.1) (cM 78 2 (u6 x1) = cM 78 2 (xW x2)) (cQ ((qF x1).2 = x2.2.2) h h))))))))))))))))) (bQ h 2 (xW x) (λ s1 h1 => K (dO s1) x.2.2 h1))) (bQ h 2 (xW x) (λ s1 h1 => K (dO s1) x.2.2 h1))) (bQ h 2 (xW x) (λ s1 h1 => K (dO s1) x.2.2 h1))))
theorem VS (cb : Nat) (s t : Sl) (m : MH) (h : PH) (K : CV -> MH -> PH -> Prop) : L9 cb s t m h K = (cG (Pp cb s t h) Tryz.f38 (aE Tryz.f38) (entry Tryz.f38.ntmps [cP cb, cS s, cS t] m h) K) := by kernel_rfl
theorem Rl : Sound Tryz.prog 38 SJ := by
 refine aI (fn := Tryz.f38) (c := aE Tryz.f38) Tryz.func38 rfl (by decide) ?_
 rintro cvs m h K ⟨cb, s, t, a, b, rfl, hc, hs, ht, l1, l2, hK⟩
 refine ⟨Pp cb s t h, rfl, aD Cg aH, ?_⟩
 rw [<- VS cb s t m h K]
 dsimp only [L9, push_cast]
 have hsl := hs.slen
 have htl := ht.slen
 refine ⟨cb, 3, rfl, hc, λ k m1 k0 k1 o1 c1 => ⟨λ ⟨n, on, mx⟩ => 0 <= n /\ n <= 2 /\ (on.length : Int) <= 2 - n /\ bP m mx cb /\ aM mx h cb, λ ⟨n, _, _⟩ => n.toNat, ⟨(k, [], m1), ⟨k0, by show k <= 2; omega, by simp; omega, o1, c1⟩, MT⟩, ?_⟩⟩
 clear k0 k1 o1 c1 m1
 rintro ⟨n, on, m1⟩ ⟨n0, n1, hon, o1, c1⟩
 dsimp only
 have out : ∀ (sl : Sl) (h' : PH), PH.le h h' -> cW h' sl 2 (on.map pM) -> K (.val (.slice sl.a sl.len sl.cap)) m1 h' := λ sl h' hle hrow => hK sl on m1 h' hle ⟨hrow, by omega⟩ (by omega) o1 (c1.mono hle)
 refine aC (λ hn => aC (λ hp => aC (λ hq => ?_) (λ _ => out)) (λ _ => out)) (λ _ => out)
 refine ⟨cb, s.len, rfl, c1, λ x m2 x0 x1 o2 c2 => ⟨cb, t.len, rfl, c2, λ y m3 y0 y1 o3 c3 => ?_⟩⟩
 obtain ⟨b1, f1, e1, r1⟩ := hs.inb (n := x) x0 (by omega)
 obtain ⟨b2, f2, e2, r2⟩ := ht.inb (n := y) y0 (by omega)
 refine ⟨by omega, by omega, b1, f1, e1, x0, by omega, _, .imm r1, by omega, by omega, b2, f2, e2, y0, by omega, _, .imm r2, ?_⟩
 refine ⟨λ ⟨n', i, on', p, f, mx⟩ => n' = n /\ on' = on /\ mx = m3 /\ i <= on.length, λ ⟨_, i, _, _, _, _⟩ => on.length - i, ⟨(n, 0, on, (x, y), a.getD x.toNat 0 == b.getD y.toNat 0, m3), ⟨rfl, rfl, rfl, by omega⟩, ?_⟩, ?_⟩
 . rw [List.length_map]; exact MT
 rintro ⟨n, i, on, p, f, m3⟩ ⟨rfl, rfl, rfl, hi⟩
 dsimp only
 refine aC (λ hlt => ?_) (λ hge => ?_)
 . have hl : i < on.length := by omega
   have hget : (on.map pM)[i]? = some (pM on[i]) := by rw [List.getElem?_map, List.getElem?_eq_getElem hl]; rfl
   refine ⟨by omega, by rw [List.length_map]; omega, _, hget, on[i], rfl, aB (λ _ => ⟨by omega, by omega, by omega, by omega, aB (λ _ => ⟨by omega, by omega, by omega, by omega, (n, i + 1, on, p, _, m3), ⟨rfl, rfl, rfl, by show i + 1 <= on.length; omega⟩, by show on.length - (i + 1) < on.length - i; omega, MT⟩) (λ _ => ⟨(n, i + 1, on, p, _, m3), ⟨rfl, rfl, rfl, by show i + 1 <= on.length; omega⟩, by show on.length - (i + 1) < on.length - i; omega, MT⟩)⟩) (λ _ => ⟨(n, i + 1, on, p, _, m3), ⟨rfl, rfl, rfl, by show i + 1 <= on.length; omega⟩, by show on.length - (i + 1) < on.length - i; omega, MT⟩)⟩
 . have hw : IntKind.i64.wrap (n - 1) = n - 1 := dP (by omega) (by omega)
   rw [hw]
   refine aB (λ _ => ⟨by rw [List.length_map]; omega, by rw [List.length_map]; omega, (n - 1, on ++ [p], m3), ⟨by show 0 <= n - 1; omega, by show n - 1 <= 2; omega, by simp; omega, (o1.trans o2).trans o3, c3⟩, by show (n - 1).toNat < n.toNat; omega, ?_⟩) (λ _ => ⟨(n - 1, on, m3), ⟨by show 0 <= n - 1; omega, by show n - 1 <= 2; omega, by show (on.length : Int) <= 2 - (n - 1); omega, (o1.trans o2).trans o3, c3⟩, by show (n - 1).toNat < n.toNat; omega, MT⟩)
   rw [List.map_append]; exact MT
def WJ : Vc.Spec := λ cvs m h K => ∃ s cs, ∃ most : Nat, cvs = [cS s, cI most] /\ cW h s 1 (bA cs) /\ s.len <= s.cap /\ most <= 1000 /\ ∀ cb m' h', PH.le h h' -> m cb = none -> bP m m' cb -> aM m' h' cb -> K (cP cb) m' h'
abbrev B6 (a b : Prop) (c : (List (List Value)) -> Prop) : Prop := aA a b (∃ (x : List (List Value)), c x)
attribute [push_cast] B6
def OY (s : Sl) (most : Nat) (m : MH) (h : PH) (K : CV -> MH -> PH -> Prop) : Prop :=
  B6 (aW (ite ((↑most : Int) < aF s) (↑most : Int) (aF s))) (ite ((↑most : Int) < aF s) (↑most : Int) (aF s) <= (↑s.cap : Int)) (λ y => aA (dK 1 y) (A0 m h (Sl.mk s.a (ite ((↑most : Int) < aF s) (↑most : Int) (aF s)).toNat s.cap) 1 y) (aA (tK y 1) (tL y) (bQ h 1 y (λ s1 h1 => ∀ (b : Nat) (m1 : MH), gX m h1 b -> hO m m1 b (kY (nG s1) aX) 68 -> K (eH b) m1 h1))))
theorem WD (s : Sl) (most : Nat) (m : MH) (h : PH) (K : CV -> MH -> PH -> Prop) : OY s most m h K = (cG (zD [] [] [] [] [68] [] false) Tryz.f7 (aE Tryz.f7) (entry Tryz.f7.ntmps [cS s, cI most] m h) K) := by kernel_rfl
theorem DV (l : List UInt8) : dK 1 (bA l) := by
 constructor
 . intro e he; obtain ⟨x, _, rfl⟩ := List.mem_map.1 he; rfl
 . intro e he u hu; obtain ⟨x, _, rfl⟩ := List.mem_map.1 he; simp at hu; subst hu; rfl
theorem cW.cut {s : Sl} (r : cW h s sz xs) (n : Nat) (hn : n <= xs.length) : cW h ⟨s.a, n, s.cap⟩ sz (xs.take n) := by
 refine ⟨by simp; omega, ?_, by have h1 := r.len; have h2 := r.cap; show n <= s.cap; omega⟩
 rcases r.row with e | ⟨b, o, ha, k⟩
 . left; rw [e]; simp
 . right
   refine ⟨b, o, ha, λ i e hi => ?_⟩
   rw [List.getElem?_take] at hi
   split at hi
   . exact k i e hi
   . cases hi
theorem Sh : Sound Tryz.prog 7 WJ := by
 refine aI (fn := Tryz.f7) (c := aE Tryz.f7) Tryz.func7 rfl (by decide) ?_
 rintro cvs m h K ⟨s, cs, most, rfl, hr, hc, hm, hK⟩
 refine ⟨zD [] [] [] [] [68] [] false, rfl, aH, ?_⟩
 rw [<- WD s most m h K]
 have hl : s.len = cs.length := by have := hr.len; simpa [bA] using this
 dsimp only [OY, push_cast]
 have hmin : (if (most : Int) < (s.len : Int) then (most : Int) else (s.len : Int)) = ((min most s.len : Nat) : Int) := by split <;> omega
 rw [hmin]
 have hcut := cW.cut hr (min most s.len) (by simp [bA]; omega)
 refine ⟨by omega, by omega, bA (cs.take (min most s.len)), DV _, .imm ?_, by simp [bA]; omega, by simp [bA]; omega, λ s' h' hle hrow b m' hb hu => ?_⟩
 . rw [show bA (cs.take (min most s.len)) = (bA cs).take (min most s.len) by simp [bA, List.map_take]]
   exact hcut
 . exact hK b m' h' hle hb.m_ ⟨hu.other⟩ ⟨_, ⟨⟨s', _, 0, hu.at_, hrow, by omega, by simp; omega, rfl⟩⟩⟩
def UE : Vc.Spec := λ cvs m h K => ∃ n : Nat, cvs = [.val (.slice none 0 0), cI n] /\ n <= 1000 /\ K (.lst 3 1 []) m h
noncomputable def ME (ss : Sl) (m : MH) (h : PH) : Ctx :=
 cO [(123, UE)] [(3, { A := Nat × Nat, st := λ ⟨i, n⟩ => cD 36 37 [(0, sv ss), (3, iv n), (9, sv ss), (10, iv ss.len), (11, iv i)] [] m h }),
  (11, { A := Nat × List Int, st := λ ⟨i, l⟩ => cD 36 37 [(6, .at (.lst 24)), (25, sv ss), (26, iv ss.len), (27, iv i)] [(24, .lst 3 1 (l.map eI))] m h })] [] [] false
noncomputable abbrev yE  : List Value := oB aX
attribute [push_cast] yE
def Jf (n : Nat) (m : MH) (h : PH) (K : CV -> MH -> PH -> Prop) : Prop :=
  fB (y9 ((↑n : Int) - y9 ((0 : Int) - 0))) 0 (aA (aW 0) (aW 0) (aA (0 < y9 ((↑n : Int) - 0)) (y9 ((↑n : Int) - 0) * 8 <= 140737488355328) (aG (y9 ((↑n : Int) - 0) <= 140737488355328) ((0 : Int) <= 0) (aW (kE (List.replicate (y9 ((↑n : Int) - 0)).toNat yE))) (K (CV.lst 3 1 []) m h)))) (K (CV.lst 3 1 []) m h)
theorem TS (n : Nat) (m : MH) (h : PH) (K : CV -> MH -> PH -> Prop) : Jf n m h K = (cG (cO [] [] [] [] true) Tryz.f123 (aE Tryz.f123) (entry Tryz.f123.ntmps [.val (.slice none 0 0), cI n] m h) K) := by kernel_rfl
def Jp (ss : Sl) (m : MH) (h : PH) (K : CV -> MH -> PH -> Prop) : Prop :=
  ∃ (I : Nat × Nat -> Prop) (m1 : Nat × Nat -> Nat), (∃ (x : Nat × Nat), aA (I x) (aK ss) (aA (bO x.2) (aK ss) (aA (cF ss) (bO x.1) (aA (m = m) (h = h) True)))) /\ ∀ (x : Nat × Nat), I x -> bE (↑x.1 : Int) (aF ss) (aY (λ b o => aG (bC ss.a b o) (0 <= (↑x.1 : Int)) ((↑x.1 : Int) < aF ss) (∃ (y : Sl), bI m h b (bZ o x.1 1) (cT y) /\ bE (eR (↑x.2 : Int) (aF y)) 0 False (∃ (x1 : Nat × Nat), aA (I x1) (m1 x1 < m1 x) (aA (aK ss) (aZ x.2 (aF y) x1.2) (aA (aK ss) (cF ss) (aA (aZ x.1 1 x1.1) (m = m) (bG h h)))))))) (∃ (n : Nat), aA (mW Fj x.2 = mW Fj n) (nS n) (J3 (λ I1 m2 => JZ (λ x1 => aA (I1 x1) (eL 24) (aA (aK ss) (cF ss) (aA (bO x1.1) (yW 3 1 x1.2) (aA (m = m) (h = h) True)))) (λ x1 => I1 x1 -> bE (↑x1.1 : Int) (aF ss) (aY (λ b o => aG
 (bC ss.a b o) (0 <= (↑x1.1 : Int)) ((↑x1.1 : Int) < aF ss) (∃ (y : Sl), bI m h b (bZ o x1.1 1) (cT y) /\ ∃ (y1 : List (List Value)), aA (dK 1 y1) (cW h (fK y) 1 y1) (aA (vC (bY x1.2) y1 8) (pW (bY x1.2) y1) (∃ (x2 : Nat × List Int), aA (I1 x2) (m2 x2 < m2 x1) (aA (eL 24) (aK ss) (aA (cF ss) (aZ x1.1 1 x2.1) (aA (mT (bY x1.2 ++ y1) x2.2) (m = m) (bG h h))))))))) (bQ h 1 (bY x1.2) (λ s h1 => K (dO s) m h1))))))
theorem Um (ss : Sl) (m : MH) (h : PH) (K : CV -> MH -> PH -> Prop) : Jp ss m h K = (cG (ME ss m h) Tryz.f101 (aE Tryz.f101) (entry Tryz.f101.ntmps [cS ss] m h) K) := by kernel_rfl
theorem NG : Sound Tryz.prog 123 UE := by
 refine aI (fn := Tryz.f123) (c := aE Tryz.f123) Tryz.func123 rfl (by decide) ?_
 rintro cvs m h K ⟨n, rfl, hn, hK⟩
 refine ⟨cO [] [] [] [] true, rfl, aH, ?_⟩
 rw [<- TS n m h K]
 dsimp only [Jf, push_cast]
 have h0 : IntKind.i64.wrap ((n : Int) - 0) = n := by rw [dP (by omega) (by omega)]; omega
 have h1 : IntKind.i64.wrap ((n : Int) - IntKind.i64.wrap (0 - 0)) = n := by rw [show IntKind.i64.wrap (0 - 0) = 0 from by rw [dP (by omega) (by omega)]; rfl, h0]
 exact aC (λ hp => ⟨by omega, by omega, by omega, by omega, by omega, by omega, by omega, hK⟩) (λ _ => hK)
def uT (ks : List (List Int)) : Nat := (ks.map List.length).sum
theorem FD {k : List Int} (hk : ks[i]? = some k) : uT (ks.take (i + 1)) = uT (ks.take i) + k.length := by
 unfold uT; rw [List.take_add_one, hk]; simp
theorem EB {ks : List (List Int)} (h : ∀ k ∈ ks, k.length <= 12) : ∀ i, uT (ks.take i) <= 12 * i
 | 0 => by simp [uT]
 | i + 1 => by
  have ih := EB h i
  cases e : ks[i]? with
  | none => rw [List.take_add_one, e]; simp [uT] at ih ⊢; omega
  | some k => rw [FD e]; have := h k (List.mem_of_getElem? e); omega
theorem HI : Sound Tryz.prog 101 C2 := by
 refine aI (fn := Tryz.f101) (c := aE Tryz.f101) Tryz.func101 rfl (by decide) ?_
 rintro cvs m h K ⟨ss, ks, rfl, hs, hl, h12, hK⟩
 refine ⟨ME ss m h, rfl, aD NG aH, ?_⟩
 rw [<- Um ss m h K]
 dsimp only [Jp, push_cast]
 have hsl := iT.slen hs
 refine ⟨λ ⟨i, n⟩ => i <= ks.length /\ n = uT (ks.take i), λ ⟨i, _⟩ => ks.length - i, ⟨(0, 0), ⟨by omega, by simp [uT]⟩, MT⟩, ?_⟩
 rintro ⟨i, n⟩ ⟨hi, rfl⟩
 dsimp only
 have hb := EB h12 i
 refine aC (λ hlt => ?_) (λ hge => ?_)
 . obtain ⟨k, hk⟩ := fP hsl hlt
   obtain ⟨b, o, sl, ea, r, hki⟩ := iT.at hs hk
   have hkl := hki.slen
   have hk12 := h12 k (List.mem_of_getElem? hk)
   have hw : IntKind.i64.wrap ((uT (ks.take i) : Int) + (sl.len : Int)) = ((uT (ks.take (i + 1)) : Nat) : Int) := by
    rw [FD hk, dP (by omega) (by omega)]; omega
   refine ⟨b, o, ea, by omega, hlt, sl, .imm r, ?_⟩
   rw [hw]
   exact aC (λ hneg => by omega) (λ _ => ⟨(i + 1, uT (ks.take (i + 1))), ⟨by omega, rfl⟩, by show ks.length - (i + 1) < ks.length - i; omega, MT⟩)
 . refine ⟨uT (ks.take i), rfl, by omega, ?_⟩
   refine ⟨λ ⟨i, l⟩ => i <= ks.length /\ l = (ks.take i).flatten, λ ⟨i, _⟩ => ks.length - i, ⟨(0, []), ⟨by omega, by simp⟩, MT⟩, ?_⟩
   clear hb hge hi
   rintro ⟨i, l⟩ ⟨hi, rfl⟩
   dsimp only
   have hfl : (ks.take i).flatten.length <= 12 * i := by have := EB h12 i; simpa [uT, List.length_flatten] using this
   refine aC (λ hlt => ?_) (λ hge sl h' hle hrow => hK sl h' hle ⟨?_, ?_⟩)
   . obtain ⟨k, hk⟩ := fP hsl hlt
     obtain ⟨b, o, sl, ea, r, hki⟩ := iT.at hs hk
     have hk12 := h12 k (List.mem_of_getElem? hk)
     refine ⟨b, o, ea, by omega, hlt, sl, .imm r, k.map eI, kG k, hki.row, ?_, ?_, (i + 1, (ks.take (i + 1)).flatten), ⟨by omega, rfl⟩, by show ks.length - (i + 1) < ks.length - i; omega, ?_⟩
     . rw [List.length_map, List.length_map]; omega
     . rw [List.length_map, List.length_map]; omega
     . rw [List.take_add_one, hk, Option.toList_some, List.flatten_append, List.map_append, List.flatten_cons, List.flatten_nil, List.append_nil]
       exact MT
   . rw [List.take_of_length_le (by omega)] at hrow; exact hrow
   . rw [List.take_of_length_le (by omega)] at hfl; omega
theorem Rb : ∀ N, Sound Tryz.prog 65 (wM N) := O8 HI
mutual
def rH : Query -> Nat -> Int -> Bool × Int
 | .mk _ _ _ _ _ _ _ _ args, k, n => if 24 < n + 1 \/ k = 0 then (false, 0) else BI args (k - 1) (n + 1)
def BI : List Query -> Nat -> Int -> Bool × Int
 | [], _, n => (true, n)
 | q :: qs, k, n => match rH q k n with | (false, _) => (false, 0) | (true, n') => BI qs k n'
end
mutual
def BQ : Query -> Int
 | .mk _ _ _ _ _ _ _ _ args => 1 + kX args
def kX : List Query -> Int
 | [] => 0
 | p :: ps => BQ p + kX ps
end
mutual
theorem vM : ∀ p : Query, 1 <= BQ p
 | .mk _ _ _ _ _ _ _ _ args => by have := nH args; simp only [BQ]; omega
theorem nH : ∀ ps : List Query, 0 <= kX ps
 | [] => by simp [kX]
 | p :: ps => by have := vM p; have := nH ps; simp only [kX]; omega
end
mutual
theorem Iw : ∀ (p : Query) (n : Int), n <= 24 -> (n + BQ p <= 24 -> rI p n = n + BQ p) /\ (24 < n + BQ p -> rI p n = 25)
 | .mk _ _ _ _ _ _ _ _ args, n, h => by
  obtain ⟨h1, h2⟩ := G1 args (n + 1) (by omega)
  simp only [rI, BQ]
  exact ⟨λ e => by rw [h1 (by omega)]; omega, λ e => h2 (by omega)⟩
theorem G1 : ∀ (ps : List Query) (n : Int), n <= 25 -> (n + kX ps <= 24 -> l8 ps n = n + kX ps) /\ (24 < n + kX ps -> l8 ps n = 25)
 | [], n, h => by
  simp only [l8, kX]
  omega
 | p :: ps, n, h => by
  have h1 := vM p
  have h2 := nH ps
  simp only [l8, kX]
  by_cases h3 : n <= 24
  . rw [if_pos h3]
    have h4 := Iw p n h3
    have h5 := (Bc p n h3).2
    have h6 := G1 ps _ h5
    by_cases h7 : n + BQ p <= 24
    . have h8 := h4.1 h7
      rw [h8] at h6 ⊢
      exact ⟨λ e => by rw [h6.1 (by omega)]; omega, λ e => h6.2 (by omega)⟩
    . have h8 := h4.2 (by omega)
      rw [h8] at h6 ⊢
      exact ⟨λ e => by omega, λ e => h6.2 (by omega)⟩
  . rw [if_neg h3]; omega
end
mutual
theorem DO : ∀ (p : Query) (k : Nat) (n : Int), n <= 24 -> ((rH p k n).1 = true ↔ n + BQ p <= 24 /\ kV p k = false) /\ ((rH p k n).1 = true -> (rH p k n).2 = n + BQ p)
 | .mk _ _ _ _ _ _ _ _ args, k, n, h => by
  have hp := nH args
  simp only [rH, BQ]
  by_cases h0 : 24 < n + 1 \/ k = 0
  . rw [if_pos h0]
    refine ⟨⟨λ e => (by cases e), λ e => ?_⟩, λ e => (by cases e)⟩
    rcases h0 with h0 | h0
    . omega
    . subst h0; simp [kV] at e
  . rw [if_neg h0]
    obtain ⟨k', rfl⟩ : ∃ k', k = k' + 1 := ⟨k - 1, by omega⟩
    obtain ⟨h1, h2⟩ := KL args k' (n + 1) (by omega)
    simp only [kV, Nat.add_sub_cancel]
    refine ⟨⟨λ e => ?_, λ e => h1.2 ⟨by omega, e.2⟩⟩, λ e => by have := h2 e; omega⟩
    have := h1.1 e
    exact ⟨by omega, this.2⟩
theorem KL : ∀ (ps : List Query) (k : Nat) (n : Int), n <= 24 -> ((BI ps k n).1 = true ↔ n + kX ps <= 24 /\ pC ps k = false) /\ ((BI ps k n).1 = true -> (BI ps k n).2 = n + kX ps)
 | [], k, n, h => by simp [BI, kX, pC, h]
 | p :: ps, k, n, h => by
  obtain ⟨h1, h2⟩ := DO p k n h
  have hp := nH ps
  simp only [BI, kX, pC]
  cases e : rH p k n with
  | mk r n' =>
   rw [e] at h1 h2
   cases r with
   | false =>
    refine ⟨⟨λ e => (by cases e), λ e => ?_⟩, λ e => (by cases e)⟩
    have := h1.2 ⟨by omega, (Bool.or_eq_false_iff.1 e.2).1⟩
    cases this
   | true =>
    have h3 := h2 rfl
    have h1 := h1.1 rfl
    simp only at h3
    obtain ⟨h4, h5⟩ := KL ps k n' (by omega)
    refine ⟨⟨λ e => ?_, λ e => ?_⟩, λ e => by have := h5 e; simp only; omega⟩
    . have := h4.1 e
      exact ⟨by omega, by rw [h1.2, this.2]; rfl⟩
    . exact h4.2 ⟨by omega, (Bool.or_eq_false_iff.1 e.2).2⟩
end
theorem Cw (q : Query) : (rH q 8 0).1 = lK q := by
 have h1 := (DO q 8 0 (by omega)).1
 have h2 := Iw q 0 (by omega)
 rw [Bool.eq_iff_iff, h1]
 simp only [lK, Bool.and_eq_true, decide_eq_true_eq, Bool.not_eq_true']
 refine and_congr_left λ _ => ⟨λ e => ?_, λ e => ?_⟩
 . rw [h2.1 (by omega)]; omega
 . by_cases h3 : 0 + BQ q <= 24
   . exact h3
   . rw [h2.2 (by omega)] at e; omega
def DY : Code -> Option (Code × Code)
 | .rangeFunc _ _ a b => some (a, b)
 | .seq x y => match DY x with | some p => some p | none => DY y
 | .block _ c => DY c
 | _ => none
noncomputable def UU : Code := match DY (aE Tryz.f32) with | some p => p.1 | none => .skip
noncomputable def UT : Code := match DY (aE Tryz.f32) with | some p => p.2 | none => .skip
structure LR where
 fn : FuncId
 tmps : Array Value
 bn : Nat
 b6 : Nat
 b7 : Nat
 D : Nat
noncomputable def mO (R : LR) (st : LoopState) (pe : Option Code) : Loop := { state := st, pending := pe, fn := R.fn, tmps := R.tmps, params := #[37, 38], assign := UU, body := UT, defers := R.D }
def Dh : Obj := .cells #[.slice none 0 0] 39 (0, 0)
def Co (n : Int) : Obj := .cells #[.int .i64 n] 50 (0, 0)
structure vJ (m : MH) (l : Nat) (R : LR) (n : Int) : Prop where
 loop : m l = some (.loop (mO R .ready none))
 n_ : m R.bn = some (pD n)
 k_ : m R.b6 = some Dh
 e_ : m R.b7 = some (Co 0)
 size : R.tmps.size = 53
 t11 : R.tmps[11]? = some (.pointer (some ⟨R.bn, 0, none⟩))
 t6 : R.tmps[6]? = some (.pointer (some ⟨R.b6, 0, none⟩))
 t7 : R.tmps[7]? = some (.pointer (some ⟨R.b7, 0, none⟩))
structure wL (m m' : MH) (l : Nat) (R : LR) : Prop where
 loop : m' l = some (.loop (mO R .done (some .ret)))
 k_ : m' R.b6 = some Dh
 e_ : m' R.b7 = some (Co 2)
 n_ : ∃ x, m' R.bn = some x
 other : ∀ b, b ≠ l -> b ≠ R.bn -> b ≠ R.b6 -> b ≠ R.b7 -> m' b = m b
theorem vJ.ne {l : Nat} {R : LR} {n : Int} (x : vJ m l R n) : l ≠ R.bn /\ l ≠ R.b6 /\ l ≠ R.b7 /\ R.b6 ≠ R.bn /\ R.b7 ≠ R.bn /\ R.b6 ≠ R.b7 := by
 have h1 := x.loop
 have h2 := x.n_
 have h3 := x.k_
 have h4 := x.e_
 refine ⟨λ e => ?_, λ e => ?_, λ e => ?_, λ e => ?_, λ e => ?_, λ e => ?_⟩
 . rw [e, h2] at h1; cases h1
 . rw [e, h3] at h1; cases h1
 . rw [e, h4] at h1; cases h1
 . rw [e, h2] at h3; cases h3
 . rw [e, h2] at h4; cases h4
 . rw [e, h4] at h3; cases h3
theorem vJ.next {l : Nat} {R : LR} {n n' : Int} (x : vJ m l R n) (hu : gS m m' R.bn (pD n')) : vJ m' l R n' := by
 obtain ⟨h1, h2, h3, h4, h5, h6⟩ := x.ne
 exact ⟨by rw [hu.other l h1]; exact x.loop, hu.at_, by rw [hu.other _ h4]; exact x.k_, by rw [hu.other _ h5]; exact x.e_, x.size, x.t11, x.t6, x.t7⟩
theorem wL.from {m1 : MH} {l : Nat} {R : LR} {n' : Int} (hu : gS m m1 R.bn (pD n')) (h : wL m1 m' l R) : wL m m' l R :=
 ⟨h.loop, h.k_, h.e_, h.n_, λ b h1 h2 h3 h4 => (h.other b h1 h2 h3 h4).trans (hu.other b h2)⟩
def yv (l : Nat) : CV := .val (.func (.yield l) #[] #[])
def YS : Vc.Spec := λ cvs m h K => ∃ l level v R n, cvs = [yv l, cI level, aQ v] /\ vJ m l R n /\ 0 <= n /\ n <= 24 /\
 (∀ m', (24 < n + 1 \/ 8 < level) -> wL m m' l R -> K (cB false) m' h) /\ (∀ m', ¬ (24 < n + 1 \/ 8 < level) -> gS m m' R.bn (pD (n + 1)) -> K (cB true) m' h)
def Kt (N : Nat) : Vc.Spec := λ cvs m h K => ∃ v q, ∃ k l : Nat, ∃ R n, cvs = [aQ v, cI (9 - k), yv l] /\ cC h q v /\ SizeOf.sizeOf q < N /\ k <= 9 /\ vJ m l R n /\ 0 <= n /\ n <= 24 /\
 (∀ m', (rH q k n).1 = false -> wL m m' l R -> K (cB false) m' h) /\ (∀ m', (rH q k n).1 = true -> gS m m' R.bn (pD (rH q k n).2) -> K (cB true) m' h)
def ML (b : Nat) : CV := .val (.pointer (some ⟨b, 0, none⟩))
def WH : Vc.Spec := λ cvs m h K => ∃ v q l bq R, cvs = [yv l, ML bq] /\ m bq = some (.cells ⟨v.enc⟩ 43 (0, 0)) /\ cC h q v /\ vJ m l R 0 /\
 (∀ m', (rH q 8 0).1 = false -> wL m m' l R -> K (.tup []) m' h) /\ (∀ m', (rH q 8 0).1 = true -> gS m m' R.bn (pD (rH q 8 0).2) -> K (.tup []) m' h)
def JD : Vc.Spec := λ cvs m h K => ∃ v, cvs = [aQ v] /\ ∀ b m', gX m h b -> gS m m' b (.cells ⟨v.enc⟩ 43 (0, 0)) -> K (.val (.func (.func 90) #[] #[.pointer (some ⟨b, 0, none⟩)])) m' h
noncomputable def OJ (N : Nat) (v : QV) (k l : Nat) (h : PH) : Ctx :=
 { cO [(91, Kt N)] [(4, { A := Nat × MH, st := λ ⟨i, m⟩ => cD 28 31 [(1, iv (9 - k)), (2, vv (.func (.yield l) #[] #[])), (15, sv v.args), (16, iv v.args.len), (17, iv i)] [] m h })] [] [] false with yield := some YS }
noncomputable abbrev Br (a : Nat) : CV := CV.val (Value.func (Fn.yield a) qT qT)
attribute [push_cast] Br
def LD (N : Nat) (v : QV) (k l : Nat) (m : MH) (h : PH) (K : CV -> MH -> PH -> Prop) : Prop :=
  HQ Proofs.Tryz.prog YS /\ Ha (λ l1 l2 => ∃ (v1 : QV) (R : LR) (n : Int), aA (Br l :: bX (fS (pO k)) v.enc = Br l1 :: bX (fS l2) v1.enc) (vJ m l1 R n) (aA (aW n) (n <= 24) ((∀ (m1 : MH), 24 < n + 1 \/ 8 < l2 -> wL m m1 l1 R -> K aR m1 h) /\ ∀ (m1 : MH), tI (24 < n + 1 \/ 8 < l2) -> hO m m1 R.bn (bT (n + 1)) 3 -> ∃ (I : Nat × MH -> Prop) (m2 : Nat × MH -> Nat), (∃ (x : Nat × MH), aA (I x) (eA (pO k)) (aA (eQ (xX (Fn.yield l) qT)) (aK v.args) (aA (oU v) (bO x.1) (aA (m1 = x.2) (h = h) True)))) /\ ∀ (x : Nat × MH), I x -> bE (↑x.1 : Int) (aF v.args) (aY (λ b o => aG (bC v.args.a b o) (0 <= (↑x.1 : Int)) ((↑x.1 : Int) < aF v.args) (∃ (y : QV), bI x.2 h b (bZ o x.1 21) y.enc /\ kS (λ v2 q => aY (λ k1 l3 => ∃ (R1 : LR) (n1 : Int), aA (eN y :: lY (fS (eR
 (pO k) 1)) (Br l) = eN v2 :: lY (fS (pO k1)) (Br l3)) (cC h q v2) (aA (qM q N) (k1 <= 9) (aA (vJ x.2 l3 R1 n1) (aW n1) (aA (n1 <= 24) (∀ (m3 : MH), EM (rH q k1 n1).1 -> wL x.2 m3 l3 R1 -> K aR m3 h) (∀ (m3 : MH), qU (rH q k1 n1).1 -> hO x.2 m3 R1.bn (bT (rH q k1 n1).2) 3 -> ∃ (x1 : Nat × MH), aA (I x1) (m2 x1 < m2 x) (aA (eA (pO k)) (eQ (xX (Fn.yield l) qT)) (aA (aK v.args) (oU v) (aA (aZ x.1 1 x1.1) (m3 = x1.2) (bG h h))))))))))))) (K gV x.2 h))))
theorem U7 (N : Nat) (v : QV) (k l : Nat) (m : MH) (h : PH) (K : CV -> MH -> PH -> Prop) : LD N v k l m h K = (cG (OJ N v k l h) Tryz.f91 (aE Tryz.f91) (entry Tryz.f91.ntmps [aQ v, cI (9 - k), yv l] m h) K) := by kernel_rfl
def Se (N : Nat) (l bq : Nat) (m : MH) (h : PH) (K : CV -> MH -> PH -> Prop) : Prop :=
  ∃ (y : QV), bI m h bq 0 y.enc /\ kS (λ v q => aY (λ k l1 => ∃ (R : LR) (n : Int), aA (eN y :: lY (fS 1) (Br l) = eN v :: lY (fS (pO k)) (Br l1)) (cC h q v) (aA (qM q N) (k <= 9) (aA (vJ m l1 R n) (aW n) (aA (n <= 24) (∀ (m1 : MH), EM (rH q k n).1 -> wL m m1 l1 R -> K (CV.tup []) m1 h) (∀ (m1 : MH), qU (rH q k n).1 -> hO m m1 R.bn (bT (rH q k n).2) 3 -> K (CV.tup []) m1 h))))))
theorem U8 (N : Nat) (l bq : Nat) (m : MH) (h : PH) (K : CV -> MH -> PH -> Prop) : Se N l bq m h K = (cG (cO [(91, Kt N)] [] [] [] false) Tryz.f90 (aE Tryz.f90) (entry Tryz.f90.ntmps [yv l, ML bq] m h) K) := by kernel_rfl
def Si (v : QV) (m : MH) (h : PH) (K : CV -> MH -> PH -> Prop) : Prop :=
  ∀ (b : Nat) (m1 : MH), gX m h b -> hO m m1 b v.enc 43 -> K (CV.val (Value.func (Fn.func 90) qT (Array.mk (oB (WT b 0))))) m1 h
theorem Vz (v : QV) (m : MH) (h : PH) (K : CV -> MH -> PH -> Prop) : Si v m h K = (cG (cO [] [] [] [] false) Tryz.f64 (aE Tryz.f64) (entry Tryz.f64.ntmps [aQ v] m h) K) := by kernel_rfl
theorem OK (hY : HQ Tryz.prog YS) : ∀ N, Sound Tryz.prog 91 (Kt N)
 | 0 => by
  refine aI (fn := Tryz.f91) (c := aE Tryz.f91) Tryz.func91 rfl (by decide) ?_
  rintro cvs m h K ⟨v, q, k, l, R, n, rfl, _, hN, _⟩
  omega
 | N + 1 => by
  refine aI (fn := Tryz.f91) (c := aE Tryz.f91) Tryz.func91 rfl (by decide) ?_
  rintro cvs m h K ⟨v, q, k, l, R, n, rfl, hq, hN, hk, hL, h0, h1, hf, ht⟩
  refine ⟨OJ N v k l h, rfl, aD (OK hY N) aH, ?_⟩
  rw [<- U7 N v k l m h K]
  dsimp only [LD, push_cast]
  have hargs := hq.args
  have hlen := hargs.slen
  have hl := hargs.len
  refine ⟨hY, l, 9 - k, v, R, n, rfl, hL, h0, h1, λ m' hc hs => hf m' ?_ hs, λ m' hc hu => ?_⟩
  . cases q; simp only [rH]; rw [if_pos (by omega)]
  have hc : ¬ (24 < n + 1 \/ 8 < 9 - (k : Int)) := hc
  have hu' : gS m m' R.bn (pD (n + 1)) := hu
  have hv : rH q k n = BI q.args (k - 1) (n + 1) := by cases q; simp only [rH, Query.args]; rw [if_neg (by omega)]
  rw [hv] at hf ht
  refine ⟨λ ⟨i, mx⟩ => ∃ n', i <= q.args.length /\ 0 <= n' /\ n' <= 24 /\ gS m mx R.bn (pD n') /\ BI (q.args.drop i) (k - 1) n' = BI q.args (k - 1) (n + 1), λ ⟨i, _⟩ => q.args.length - i, ⟨(0, m'), ⟨n + 1, by omega, by omega, by omega, hu', by simp⟩, MT⟩, ?_⟩
  rintro ⟨i, mx⟩ ⟨n', hi, hn0, hn1, hmx, he⟩
  dsimp only
  refine aC (λ hlt => ?_) (λ hge => ?_)
  . obtain ⟨p, hp⟩ := fP hlen hlt
    obtain ⟨b, o, u, ea, hrd, hru⟩ := hargs.at hp
    have hd := drop_cons hp
    rw [hd, BI] at he
    refine ⟨b, o, ea, by omega, hlt, u, .imm hrd, u, p, k - 1, l, R, n', ?_, hru, ?_, by omega, hL.next hmx, hn0, hn1, λ m2 hx hs => ?_, λ m2 hx hu2 => ?_⟩
    . rw [dP (by omega) (by omega), show (9 - ((k - 1 : Nat) : Int)) = 9 - (k : Int) + 1 by omega]
    . have := qS (List.mem_of_getElem? hp); omega
    . refine hf m2 ?_ (hs.from hmx)
      rw [<- he]
      cases e : rH p (k - 1) n' with
      | mk r x => rw [e] at hx; simp only at hx; subst hx; rfl
    . have hu2' : gS mx m2 R.bn (pD (rH p (k - 1) n').2) := hu2
      have hs := DO p (k - 1) n' hn1
      have hs1 := hs.1.1 hx
      have hs2 := hs.2 hx
      have hp1 := vM p
      cases e : rH p (k - 1) n' with
      | mk r x =>
       rw [e] at hx he hs2 hu2'
       simp only at hx hs2 hu2'
       subst hx
       exact ⟨(i + 1, m2), ⟨x, by omega, by omega, by omega, hmx.trans hu2', he⟩, by show q.args.length - (i + 1) < q.args.length - i; omega, MT⟩
  . rw [List.drop_of_length_le (by omega), BI] at he
    rw [<- he] at ht
    exact ht mx rfl hmx
theorem QQ (hY : HQ Tryz.prog YS) : Sound Tryz.prog 90 WH := by
 refine aI (fn := Tryz.f90) (c := aE Tryz.f90) Tryz.func90 rfl (by decide) ?_
 rintro cvs m h K ⟨v, q, l, bq, R, rfl, hb, hq, hL, hf, ht⟩
 refine ⟨cO [(91, Kt (SizeOf.sizeOf q + 1))] [] [] [] false, rfl, aD (OK hY _) aH, ?_⟩
 rw [<- U8 (SizeOf.sizeOf q + 1) l bq m h K]
 exact ⟨v, .of_m hb rfl, v, q, 8, l, R, 0, rfl, hq, by omega, by omega, hL, by omega, by omega, hf, ht⟩
theorem Rc : Sound Tryz.prog 64 JD := by
 refine aI (fn := Tryz.f64) (c := aE Tryz.f64) Tryz.func64 rfl (by decide) ?_
 rintro cvs m h K ⟨v, rfl, hK⟩
 refine ⟨cO [] [] [] [] false, rfl, aH, ?_⟩
 rw [<- Vz v m h K]
 exact hK
end Go.Ps
