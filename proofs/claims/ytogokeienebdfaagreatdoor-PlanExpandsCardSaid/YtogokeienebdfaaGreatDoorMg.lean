/-
  Part 7 of a proof that a law of the given program returns true: a condition generator that is proved sound, and contracts of functions. No condition of its own. Own work, joined by a program (pack2.py).
-/
import Derived.Test.YtogokeienebdfaaGreatDoorMf
namespace Go.Ps
open Go Go.Vc Go.Proofs
variable {K : CV -> MH -> PH -> Prop} {m : MH} {h : PH} {s : oC} {ps : List Int} {ts : List Step} {cb : Nat} {sc : bH} {v : QV} {q : Query} {t : Step} {p : Pred} {l : List Int} {i : Nat} {N : Nat} {m' : MH} {h' : PH} {co : List Int} {gr : List Int} {od : List (Int × Bool)} {w : Pred} {ta : Int} {li : Int} {xs : List (List Value)} {sz : Nat} {k : Nat} {ks : List (List Int)} {rs : List Int} {r : Sl} {a : List Int} {b : Nat}
def WN : Vc.Spec := λ cvs m h K => ∃ cb, cvs = [cP cb] /\ aM m h cb /\ ∀ v m', xG v -> bP m m' cb -> aM m' h cb -> K (aV v) m' h
def P1 (N : Nat) : Vc.Spec := λ cvs m h K => ∃ cb v p, cvs = [cP cb, aP v] /\ aM m h cb /\ cX h p v /\ wV p /\ SizeOf.sizeOf p < N /\ ∀ v' p' m' h', PH.le h h' -> cX h' p' v' -> pI p' -> bP m m' cb -> aM m' h' cb -> K (aP v') m' h'
def P4 : Vc.Spec := λ cvs m h K => ∃ cb v p, cvs = [cP cb, aP v] /\ aM m h cb /\ cX h p v /\ wV p /\ ∀ v' p' m' h', PH.le h h' -> cX h' p' v' -> pI p' -> bP m m' cb -> aM m' h' cb -> K (aP v') m' h'
noncomputable def Pw (N cb : Nat) (v : PV) (h : PH) : Ctx :=
 zD [(10, Ez), (12, zL), (29, Ev), (59, WN), (30, P1 N)]
  [(28, { A := Nat × PV × MH × PH, st := λ ⟨i, w, m, h⟩ => cD 111 113 [(3, .at (.ptr 3 0)), (4, .at (.ptr 4 0)), (7, iv i)] [(3, .cells 38 (w.enc.map .val)), (4, .cells 38 (fV.enc.map .val))] m h }),
   (9, { A := Nat × PV × MH × PH, st := λ ⟨i, w, m, h⟩ => cD 111 113 [(3, .at (.ptr 3 0)), (4, .at (.ptr 4 0)), (8, iv i)] [(3, .cells 38 (w.enc.map .val)), (4, .cells 38 (fV.enc.map .val))] m h })]
  [(7, { A := Unit × MH, st := λ ⟨_, m⟩ => cD 111 113 [(0, pv cb), (3, .at (.ptr 3 0)), (4, .at (.ptr 4 0))] [(3, .cells 38 (v.enc.map .val)), (4, .cells 38 (fV.enc.map .val))] m h }),
   (31, { A := PV × MH × PH, st := λ ⟨w, m, h⟩ => cD 111 113 [(3, .at (.ptr 3 0)), (4, .at (.ptr 4 0))] [(3, .cells 38 (w.enc.map .val)), (4, .cells 38 (fV.enc.map .val))] m h })] [] [3036, 100056, 100099, 100108] [] false
def Me (cb : Nat) (m : MH) (h : PH) (K : CV -> MH -> PH -> Prop) : Prop :=
  eV cb 6 m h (λ c n k m1 => aW k -> k < n \/ k = 0 -> eC m m1 c h (dT (k == 0) (K (fS (Int.negSucc 0)) m1 h) (k == 1) (K (fS 9223372036854775807) m1 h) (dT (k == 2) (K (fS (Int.negSucc 9223372036854775807)) m1 h) (k == 3) (eV cb 3 m1 h (λ c1 n1 k1 m2 => aW k1 -> k1 < n1 \/ k1 = 0 -> eC m1 m2 c1 h (K (fS (eR 100 k1)) m2 h))) (eV cb 6 m1 h (λ c1 n1 k1 m2 => aW k1 -> k1 < n1 \/ k1 = 0 -> eC m1 m2 c1 h (K (fS k1) m2 h))))))
theorem V1 (cb : Nat) (m : MH) (h : PH) (K : CV -> MH -> PH -> Prop) : Me cb m h K = (cG (cO [(12, zL)] [] [] [] false) Tryz.f29 (aE Tryz.f29) (entry Tryz.f29.ntmps [cP cb] m h) K) := by kernel_rfl
def f59_nice (cb : Nat) (m : MH) (h : PH) (K : CV -> MH -> PH -> Prop) : Prop :=
  eV cb 5 m h (λ c n k m1 => aW k -> k < n \/ k = 0 -> eC m m1 c h (bE (eR 1 k) 3 (K (kK (aL (cZ (eR 1 k)) aX sX)) m1 h) (Ha (λ c1 k1 => aA (cV (zN cb 0) (eR 1 k) = cV (zN c1 0) k1) (aM m1 h c1) (∀ (v : VV) (m2 : MH), xG v -> bP m1 m2 c1 -> lU m2 h c1 (K (kK v.enc) m2 h))))))
theorem f59_vc (cb : Nat) (m : MH) (h : PH) (K : CV -> MH -> PH -> Prop) : f59_nice cb m h K = (cG (cO [(12, zL), (80, HR)] [] [] [] false) Tryz.f59 (aE Tryz.f59) (entry Tryz.f59.ntmps [cP cb] m h) K) := by kernel_rfl
abbrev vP (a : PV × MH × PH -> Prop) (b : PV × MH × PH) (c : Prop) (d : Nat -> Option Obj) (e : Nat -> Nat -> Option Value) : Prop := aA (a b) hJ (aA (eP 4) c (aG jC (bV d b.2) (e = b.2.2) True))
noncomputable abbrev iJ (a : Nat × PV × MH × PH) : PV := a.2.1
noncomputable abbrev wA (a : Nat × PV × MH × PH) : Nat -> Nat -> Option Value := a.2.2.2
attribute [push_cast] vP iJ wA
def Md (N cb : Nat) (v : PV) (m : MH) (h : PH) (K : CV -> MH -> PH -> Prop) : Prop :=
  ∃ (I : Unit × MH -> Prop), fB (lE v) 0 (mS cb 2 m h (λ c r m1 => eC m m1 c h (branch r (Bl ((0 : Nat) = 0) (λ x => B6 (dK 13 x) (cW h (Sl.mk Option.none 0 0) 13 x) (λ y => aA (dK 13 y) (A0 m1 h (fK v.args) 13 y) (aA ((none : Option Addr) = Option.none \/ 0 < y.length) (vC x y 136) (pW x y /\ eV cb (kE (x ++ y)) m1 h (λ c1 n k m2 => aW k -> k < n \/ k = 0 -> eC m1 m2 c1 h (lC k (x ++ y) (λ e => fO (x ++ y) k e /\ ∃ (y1 : PV), iO 13 0 e y1.enc /\ ∃ (c2 : Nat), kC (λ v1 p => aA (bX (eH cb) y1.enc = bX (eH c2) v1.enc) (aM m2 h c2) (aA (cX h p v1) (wV p) (nV p N /\ nD h m2 c2 (λ v2 m3 h1 => lC k (x ++ y) (λ e1 => aA (fO (x ++ y) k e1) (13 <= e1.length) (bQ h1 13 (oW (x ++ y) k (aL (cZ v2.op) (cZ v2.cmp) (aL (tC v2) (tD v2) (aL
 (iD v2.left) (tE v2) (aL (gL v2.left) (hX v2.right) (aL (hZ v2.right) (iD v2.right) (aL (iE v2.right) (gL v2.right) (mL (nG v2.args) 13 e1)))))))) (λ s h2 => K (kK (aL (cZ v.op) (cZ v.cmp) (aL (tC v) (tD v) (aL (iD v.left) (tE v) (aL (gL v.left) (hX v.right) (aL (hZ v.right) (iD v.right) (aL (iE v.right) (gL v.right) (cT s)))))))) m3 h2))))))))))))))) (∃ (x : Unit × MH), aA (I x) (cH cb) (aA (eP 3) (eP 4) (aA (jA v) jC (aA (m1 = x.2) (h = h) True))))))) (∃ (x : Unit × MH), aA (I x) (cH cb) (aA (eP 3) (eP 4) (aA (jA v) jC (aA (m = x.2) (h = h) True)))) /\ ∀ (x : Unit × MH), I x -> ∃ (I1 : PV × MH × PH -> Prop), eV cb 9 x.2 h (λ c n k m1 => aW k -> k < n \/ k = 0 -> eC x.2 m1 c h (dT (k == 0) (∃ (c1 : Nat), B8 (cK (eH cb) (eH
 c1)) m1 h c1 (λ k1 m2 => wN k1 -> bP m1 m2 c1 -> lU m2 h c1 (∃ (x1 : PV × MH × PH), vP I1 x1 (pR (bB (bL k1) (bL v.cmp) (bB (bL v.left.kind) (bL v.left.index) (mG (kP v) v.left v.right (bB (bL v.right.index) (bL (iA v.right)) (bB (bL (qC v.right)) (lS v.right) (iQ (gI v.args))))))) x1.1) m2 h))) (k == 1) (∃ (c1 : Nat), B8 (cK (eH cb) (eH c1)) m1 h c1 (λ k1 m2 => wN k1 -> bP m1 m2 c1 -> lU m2 h c1 (∃ (x1 : PV × MH × PH), vP I1 x1 (pR (bB (bL v.op) (bL k1) (bB (bL v.left.kind) (bL v.left.index) (mG (kP v) v.left v.right (bB (bL v.right.index) (bL (iA v.right)) (bB (bL (qC v.right)) (lS v.right) (iQ (gI v.args))))))) x1.1) m2 h))) (dT (k == 2) (∃ (c1 : Nat), B8 (cK (eH cb) (eH c1)) m1 h c1 (λ k1 m2 => wN k1 -> bP m1 m2 c1 -> lU m2
 h c1 (∃ (x1 : PV × MH × PH), vP I1 x1 (pR (bB (bL v.op) (bL v.cmp) (bB (bL k1) (bL v.left.index) (mG (kP v) v.left v.right (bB (bL v.right.index) (bL (iA v.right)) (bB (bL (qC v.right)) (lS v.right) (iQ (gI v.args))))))) x1.1) m2 h))) (k == 3) (∃ (c1 : Nat), B8 (cK (eH cb) (eH c1)) m1 h c1 (λ k1 m2 => wN k1 -> bP m1 m2 c1 -> lU m2 h c1 (∃ (x1 : PV × MH × PH), vP I1 x1 (pR (bB (bL v.op) (bL v.cmp) (bB (bL v.left.kind) (bL k1) (mG (kP v) v.left v.right (bB (bL v.right.index) (bL (iA v.right)) (bB (bL (qC v.right)) (lS v.right) (iQ (gI v.args))))))) x1.1) m2 h))) (dT (k == 4) (∃ (c1 : Nat), aA (cK (eH cb) (eH c1)) (aM m1 h c1) (∀ (v1 : VV) (m2 : MH), xG v1 -> bP m1 m2 c1 -> lU m2 h c1 (∃ (x1 : PV × MH × PH), vP I1 x1 (pR (bB (bL
 v.op) (bL v.cmp) (bB (bL v.left.kind) (bL v.left.index) (mG (kP v) v.left v.right (bB (bL v.right.index) (bL v1.kind) (bB (bL v1.int) (Jv v1.text) (iQ (gI v.args))))))) x1.1) m2 h))) (k == 5) (∃ (c1 : Nat), B8 (cK (eH cb) (eH c1)) m1 h c1 (λ k1 m2 => wN k1 -> bP m1 m2 c1 -> lU m2 h c1 (∃ (x1 : PV × MH × PH), vP I1 x1 (pR (bB (bL v.op) (bL v.cmp) (bB (bL v.left.kind) (bL v.left.index) (mG (kP v) v.left v.right (bB (bL k1) (bL (iA v.right)) (bB (bL (qC v.right)) (lS v.right) (iQ (gI v.args))))))) x1.1) m2 h))) (dT (k == 6) (Bl ((0 : Nat) = 0) (λ x1 => B6 (dK 13 x1) (cW h (Sl.mk Option.none 0 0) 13 x1) (λ y => aA (dK 13 y) (A0 m1 h (fK v.args) 13 y) (aA ((none : Option Addr) = Option.none \/ 0 < y.length) (vC x1 y 136) (aG (pW x1 y) (fR (iV
 (x1 ++ y) 1 * 136)) (kR (x1 ++ y)) (bQ h 13 (iK (x1 ++ y) (tN (cZ 1) aX DL aX aX aX aX DL eZ)) (λ s h1 => ∃ (x2 : PV × MH × PH), vP I1 x2 (pR (bB (bL v.op) (bL v.cmp) (bB (bL v.left.kind) (bL v.left.index) (mG (kP v) v.left v.right (bB (bL v.right.index) (bL (iA v.right)) (bB (bL (qC v.right)) (lS v.right) (iQ (gI s))))))) x2.1) m1 h1))))))) (k == 7) (∃ (I2 : Nat × PV × MH × PH -> Prop) (m2 : Nat × PV × MH × PH -> Nat), (∃ (x1 : Nat × PV × MH × PH), aA (I2 x1) hJ (aA (eP 4) (bO x1.1) (aA (tG v = tG (iJ x1)) jC (aA (bV m1 x1.2.2) (h = wA x1) True)))) /\ ∀ (x1 : Nat × PV × MH × PH), I2 x1 -> bE (↑x1.1 : Int) 8 (bQ (wA x1) 13 (jG (iJ x1).enc) (λ s h1 => ∃ (x2 : Nat × PV × MH × PH), aA (I2 x2) (m2 x2 < m2 x1) (aA (eP 3) (eP 4) (aA (aZ
 x1.1 1 x2.1) (pR (bB (bL 6) (bL 0) (bB (bL 0) (bL 0) (bB (bL 0) (bL 0) (bB yL (bL 0) (bB (bL 0) (bL 0) (bB (bL 0) yL (iQ (gI s)))))))) (iJ x2)) (aA jC (bV x1.2.2.1 x2.2.2) (bG h1 (wA x2))))))) (∃ (x2 : PV × MH × PH), vP I1 x2 (tG (iJ x1) = tG x2.1) x1.2.2.1 (wA x1))) (∃ (I2 : Nat × PV × MH × PH -> Prop) (m2 : Nat × PV × MH × PH -> Nat), (∃ (x1 : Nat × PV × MH × PH), aA (I2 x1) hJ (aA (eP 4) (bO x1.1) (aA (tG v = tG (iJ x1)) jC (aA (bV m1 x1.2.2) (h = wA x1) True)))) /\ ∀ (x1 : Nat × PV × MH × PH), I2 x1 -> bE (↑x1.1 : Int) 24 (AG (aW (lE (iJ x1))) (lE (iJ x1) <= lE (iJ x1)) (lE (iJ x1) <= (↑(iJ x1).args.cap : Int)) ((lE (iJ x1)).toNat = (lE (iJ x1)).toNat) (λ x2 => aA (dK 13 x2) (cW (wA x1)
 (Sl.mk (iJ x1).args.a (lE (iJ x1)).toNat (lE (iJ x1)).toNat) 13 x2) (aA ((iJ x1).args.a = Option.none \/ (0 : Nat) < 1) (fR (iV x2 1 * 136)) (kR x2 /\ bQ (wA x1) 13 (iK x2 (tN (cZ 2) aX DL aX aX aX aX DL eZ)) (λ s h1 => ∃ (x3 : Nat × PV × MH × PH), aA (I2 x3) (m2 x3 < m2 x1) (aA (eP 3) (eP 4) (aA (aZ x1.1 1 x3.1) (pR (bB (bL (iJ x1).op) (bL (iJ x1).cmp) (bB (bL (iJ x1).left.kind) (bL (iJ x1).left.index) (mG (kP (iJ x1)) (iJ x1).left (iJ x1).right (bB (bL (iJ x1).right.index) (bL (iA (iJ x1).right)) (bB (bL (qC (iJ x1).right)) (lS (iJ x1).right) (iQ (gI s))))))) (iJ x3)) (aA jC (bV x1.2.2.1 x3.2.2) (bG h1 (wA x3)))))))))) (∃ (x2 : PV × MH × PH), vP I1 x2 (tG (iJ x1) = tG x2.1)
 x1.2.2.1 (wA x1)))))))) /\ ∀ (x1 : PV × MH × PH), I1 x1 -> K (eF x1.1) x1.2.1 x1.2.2
theorem V0 (N cb : Nat) (v : PV) (m : MH) (h : PH) (K : CV -> MH -> PH -> Prop) : Md N cb v m h K = (cG (Pw N cb v h) Tryz.f30 (aE Tryz.f30) (entry Tryz.f30.ntmps [cP cb, aP v] m h) K) := by kernel_rfl
theorem GO (l : List PV) : dK 13 (l.map PV.enc) := by
 constructor
 . intro e he; obtain ⟨x, _, rfl⟩ := List.mem_map.1 he; rfl
 . intro e he u hu; obtain ⟨x, _, rfl⟩ := List.mem_map.1 he; simp [PV.enc, OV.enc, VV.enc] at hu; rcases hu with rfl | rfl | rfl | rfl | rfl | rfl | rfl | rfl | rfl | rfl | rfl | rfl | rfl <;> rfl
theorem kZ.set {h : PH} : ∀ {ps : List Pred} {vs : List PV} (i : Nat) {p : Pred} {v : PV}, kZ h ps vs -> cX h p v -> kZ h (ps.set i p) (vs.set i v)
 | [], _, _, _, _, e, _ => by cases e; rfl
 | _ :: _, _, 0, _, _, ⟨_, vs', rfl, _, h2⟩, hp => ⟨_, vs', rfl, hp, h2⟩
 | _ :: _, _, i + 1, _, _, ⟨v, _, rfl, h1, h2⟩, hp => ⟨v, _, rfl, h1, kZ.set i h2 hp⟩
theorem kZ.snoc {h : PH} : ∀ {ps : List Pred} {vs : List PV} {p : Pred} {v : PV}, kZ h ps vs -> cX h p v -> kZ h (ps ++ [p]) (vs ++ [v])
 | [], _, _, _, e, hp => by cases e; exact ⟨_, [], rfl, hp, rfl⟩
 | _ :: _, _, _, _, ⟨v, _, rfl, h1, h2⟩, hp => ⟨v, _, rfl, h1, kZ.snoc h2 hp⟩
mutual
theorem Ot : ∀ {p : Pred}, wV p -> pI p
 | .mk .., ⟨_, _, hl, hr, _, h⟩ => ⟨⟨hl.int_, hl.text_⟩, ⟨hr.int_, hr.text_⟩, Lc h⟩
theorem Lc : ∀ {l : List Pred}, DF l -> BF l
 | [], _ => trivial
 | _ :: _, ⟨h1, h2⟩ => ⟨Ot h1, Lc h2⟩
end
theorem GS : ∀ {l : List Pred} {p : Pred}, DF l -> p ∈ l -> wV p
 | q :: l, p, ⟨h1, h2⟩, h => by
  rcases List.mem_cons.1 h with rfl | h
  . exact h1
  . exact GS h2 h
theorem Rq : Sound Tryz.prog 29 Ev := by
 refine aI (fn := Tryz.f29) (c := aE Tryz.f29) Tryz.func29 rfl (by decide) ?_
 rintro cvs m h K ⟨cb, rfl, hc, hK⟩
 refine ⟨cO [(12, zL)] [] [] [] false, rfl, aD Cg aH, ?_⟩
 rw [<- V1 cb m h K]
 dsimp only [Me, push_cast]
 refine ⟨cb, 6, rfl, hc, λ k m1 k0 k1 o1 c1 => aB (λ _ => hK _ m1 ⟨by decide, by decide⟩ o1 c1) λ _ => aB (λ _ => hK _ m1 ⟨by decide, by decide⟩ o1 c1) λ _ => aB (λ _ => hK _ m1 ⟨by decide, by decide⟩ o1 c1) λ _ => aB (λ _ => ⟨cb, 3, rfl, c1, λ j m2 j0 j1 o2 c2 => ?_⟩) λ _ => ⟨cb, 6, rfl, c1, λ j m2 j0 j1 o2 c2 => hK _ m2 ⟨by omega, by omega⟩ (o1.trans o2) c2⟩⟩
 rw [dP (by omega) (by omega)]
 exact hK _ m2 ⟨by omega, by omega⟩ (o1.trans o2) c2
theorem f59_sound : Sound Tryz.prog 59 WN := by
 refine aI (fn := Tryz.f59) (c := aE Tryz.f59) Tryz.func59 rfl (by decide) ?_
 rintro cvs m h K ⟨cb, rfl, hc, hK⟩
 refine ⟨cO [(12, zL), (80, HR)] [] [] [] false, rfl, aD Cg (aD EW aH), ?_⟩
 rw [<- f59_vc cb m h K]
 dsimp only [f59_nice, push_cast]
 refine ⟨cb, 5, rfl, hc, λ k m1 k0 k1 o1 c1 => aB (λ _ => hK ⟨_, 0, zeroV.text⟩ m1 ⟨gZ.int_, gZ.text_⟩ o1 c1) λ _ => ⟨cb, _, rfl, c1, λ v m2 hv o2 c2 => hK v m2 hv (o1.trans o2) c2⟩⟩
def WW (m : MH) (h : PH) (cb : Nat) (x : PV × MH × PH) : Prop := PH.le h x.2.2 /\ bP m x.2.1 cb /\ aM x.2.1 x.2.2 cb /\ ∃ q, cX x.2.2 q x.1 /\ pI q
theorem Px : ∀ N, Sound Tryz.prog 30 (P1 N)
 | 0 => by
  refine aI (fn := Tryz.f30) (c := aE Tryz.f30) Tryz.func30 rfl (by decide) ?_
  rintro cvs m h K ⟨cb, v, p, rfl, _, _, _, hN, _⟩
  omega
 | N + 1 => by
  refine aI (fn := Tryz.f30) (c := aE Tryz.f30) Tryz.func30 rfl (by decide) ?_
  rintro cvs m h K ⟨cb, v, p, rfl, hc, hp, hw, hN, hK⟩
  refine ⟨Pw N cb v h, rfl, aD sJ (aD Cg (aD Rq (aD f59_sound (aD (Px N) aH)))), ?_⟩
  rw [<- V0 N cb v m h K]
  obtain ⟨op, cmp, l, r, args⟩ := p
  obtain ⟨e1, e2, e3, e4, hl, vs, hr, hs⟩ := hp
  subst e1 e2 e3 e4
  have hpi := hw.2.2.2.2.2
  have hz2 := hw.2.2.2.2.1
  obtain ⟨w1, w2, w3⟩ := Ot hw
  have vl := hs.length
  have al : v.args.len = args.length := by have := hr.len; simp at this; omega
  dsimp only [Md, push_cast]
  refine ⟨λ x => bP m x.2 cb /\ aM x.2 h cb, aC (λ h1 => ⟨cb, 2, rfl, by decide, by decide, hc, λ t m1 o1 c1 => aB (λ _ => ?_) (λ _ => ⟨((), m1), ⟨o1, c1⟩, MT⟩)⟩) (λ _ => ⟨((), m), ⟨.refl _ _, hc⟩, MT⟩), ?_⟩
  . refine ⟨rfl, [], yQ _, cW.nil _ _, vs.map PV.enc, GO vs, .imm hr, .inl rfl, by simp; omega, by simp; omega, cb, _, rfl, c1, λ k m2 k0 k1 o2 c2 => ?_⟩
    have k1 : k < (vs.length : Int) := by simp at k1; omega
    obtain ⟨i, rfl⟩ : ∃ i : Nat, k = i := ⟨k.toNat, by omega⟩
    have hi : i < args.length := by omega
    obtain ⟨u, hu, hru⟩ := hs.get (List.getElem?_eq_getElem hi)
    have hm := List.getElem_mem hi
    refine ⟨k0, by simpa using k1, PV.enc u, by simp [hu], u, rfl, cb, u, _, rfl, c2, hru, GS hpi hm, by have := uL (p := .mk v.op v.cmp v.left v.right args) hm; omega, λ v' p' m3 h3 le3 r3 pw3 o3 c3 => ⟨k0, by simpa using k1, PV.enc u, by simp [hu], Nat.le_refl 13, λ s h4 le4 hr4 => ?_⟩⟩
    refine hK ⟨v.op, v.cmp, v.left, v.right, s⟩ (.mk v.op v.cmp v.left v.right (args.set i p')) m3 h4 (le3.trans le4) ⟨rfl, rfl, rfl, rfl, by simpa using hl, vs.set i v', by rw [List.map_set]; exact hr4, (kZ.mono (le3.trans le4) hs).set i (r3.mono le4)⟩ ⟨w1, w2, pH.2 λ q hq => ?_⟩ ((o1.trans o2).trans o3) (c3.mono le4)
    rcases List.mem_or_eq_of_mem_set hq with hq | rfl
    . exact pH.1 w3 _ hq
    . exact pw3
  rintro ⟨_, m1⟩ ⟨o1, c1⟩
  refine ⟨WW m h cb, ⟨cb, 9, rfl, c1, λ k m2 k0 k1 o2 c2 => ?_⟩, λ ⟨w, m', h'⟩ ⟨le, o, c, q, hq, hqw⟩ => hK w q m' h' le hq hqw o c⟩
  have o2 := o1.trans o2
  have mk : ∀ {op cmp : Int} {l r : OV} {m' : MH}, bP m m' cb -> aM m' h cb -> xG l.value -> xG r.value -> WW m h cb (⟨op, cmp, l, r, v.args⟩, m', h) := λ o c a b => ⟨.refl _, o, c, .mk _ _ _ _ args, ⟨rfl, rfl, rfl, rfl, hl, vs, hr, hs⟩, a, b, w3⟩
  refine aB (λ _ => ⟨cb, rfl, c2, λ j m3 _ o3 c3 => ⟨(⟨j, v.cmp, v.left, v.right, v.args⟩, m3, h), mk (o2.trans o3) c3 w1 w2, MT⟩⟩) λ _ => ?_
  refine aB (λ _ => ⟨cb, rfl, c2, λ j m3 _ o3 c3 => ⟨(⟨v.op, j, v.left, v.right, v.args⟩, m3, h), mk (o2.trans o3) c3 w1 w2, MT⟩⟩) λ _ => ?_
  refine aB (λ _ => ⟨cb, rfl, c2, λ j m3 _ o3 c3 => ⟨(⟨v.op, v.cmp, ⟨j, v.left.index, v.left.value⟩, v.right, v.args⟩, m3, h), mk (o2.trans o3) c3 w1 w2, MT⟩⟩) λ _ => ?_
  refine aB (λ _ => ⟨cb, rfl, c2, λ j m3 _ o3 c3 => ⟨(⟨v.op, v.cmp, ⟨v.left.kind, j, v.left.value⟩, v.right, v.args⟩, m3, h), mk (o2.trans o3) c3 w1 w2, MT⟩⟩) λ _ => ?_
  refine aB (λ _ => ⟨cb, rfl, c2, λ j m3 hj o3 c3 => ⟨(⟨v.op, v.cmp, v.left, ⟨v.right.kind, v.right.index, j⟩, v.args⟩, m3, h), mk (o2.trans o3) c3 w1 hj, MT⟩⟩) λ _ => ?_
  refine aB (λ _ => ⟨cb, rfl, c2, λ j m3 _ o3 c3 => ⟨(⟨v.op, v.cmp, v.left, ⟨v.right.kind, j, v.right.value⟩, v.args⟩, m3, h), mk (o2.trans o3) c3 w1 w2, MT⟩⟩) λ _ => ?_
  refine aB (λ _ => ?_) λ _ => aB (λ _ => ?_) λ _ => ?_
  . refine ⟨rfl, [], yQ _, cW.nil _ _, vs.map PV.enc, GO vs, .imm hr, .inl rfl, by simp; omega, by simp; omega, by simp; omega, by simp; omega, λ s h' le' hr' => ⟨(⟨v.op, v.cmp, v.left, v.right, s⟩, m2, h'), ⟨le', o2, c2.mono le', .mk v.op v.cmp v.left v.right (args ++ [.mk 1 0 cR cR []]), ⟨rfl, rfl, rfl, rfl, by simp; omega, vs ++ [⟨1, 0, cR, cR, cA⟩], by rw [List.map_append]; exact hr', (kZ.mono le' hs).snoc (AP (v := ⟨1, 0, cR, cR, cA⟩) rfl)⟩, w1, w2, pH.2 λ q hq => ?_⟩, MT⟩⟩
    rcases List.mem_append.1 hq with hq | hq
    . exact pH.1 w3 _ hq
    . simp at hq; subst hq; exact ⟨gZ, gZ, trivial⟩
  . refine ⟨λ x => WW m h cb x.2, λ x => 8 - x.1, ⟨(0, v, m2, h), mk o2 c2 w1 w2, MT⟩, ?_⟩
    rintro ⟨i, w, mx, hx⟩ ⟨le, o, c, q, hq, hqw⟩
    refine aC (λ h1 => λ s h' le' hr' => ⟨(i + 1, ⟨6, 0, cR, cR, s⟩, mx, h'), ⟨le.trans le', o, c.mono le', .mk 6 0 cR cR [q], ⟨rfl, rfl, rfl, rfl, by simp, [w], hr', w, [], rfl, cX.mono le' hq, rfl⟩, gZ, gZ, hqw, trivial⟩, by have h1 : i < 8 := (by omega); show 8 - (i + 1) < 8 - i; omega, ?_⟩) (λ h1 => ⟨(w, mx, hx), ⟨le, o, c, q, hq, hqw⟩, MT⟩)
    have : i < 8 := by dsimp only at h1; omega
    dsimp only
    rw [dP (by omega) (by omega)]
    exact MT
  . refine ⟨λ ⟨i, w, mx, hx⟩ => PH.le h hx /\ bP m mx cb /\ aM mx hx cb /\ ∃ a us, cW hx w.args 13 (us.map PV.enc) /\ kZ hx a us /\ a.length <= 1000000 + i /\ xG w.left.value /\ xG w.right.value /\ BF a /\ i <= 24, λ x => 24 - x.1, ⟨(0, v, m2, h), ⟨.refl _, o2, c2, args, vs, hr, hs, by omega, w1, w2, w3, by decide⟩, MT⟩, ?_⟩
    rintro ⟨i, w, mx, hx⟩ ⟨le, o, c, a, us, r1, r2, r3, w4, w5, w6, hi⟩
    have ul := r2.length
    have cp := r1.cap
    have sl : w.args.len = us.length := by have := r1.len; simpa using this
    refine aC (λ h1 => ⟨by dsimp only; omega, by dsimp only; omega, by dsimp only; omega, rfl, us.map PV.enc, GO us, ⟨by dsimp only; simp [sl], r1.row, Nat.le_refl _⟩, .inr (by decide), by simp; omega, by simp; omega, λ s h' le' hr' => ⟨(i + 1, ⟨w.op, w.cmp, w.left, w.right, s⟩, mx, h'), ⟨le.trans le', o, c.mono le', a ++ [.mk 2 0 cR cR []], us ++ [⟨2, 0, cR, cR, cA⟩], by rw [List.map_append]; exact hr', (kZ.mono le' r2).snoc (AP (v := ⟨2, 0, cR, cR, cA⟩) rfl), by simp; omega, w4, w5, pH.2 λ q hq => ?_, by dsimp only at h1; omega⟩, by have h1 : i < 24 := (by dsimp only at h1; omega); show 24 - (i + 1) < 24 - i; omega, ?_⟩⟩) (λ h1 => ⟨(w, mx, hx), ⟨le, o, c, .mk w.op w.cmp w.left w.right a, ⟨rfl, rfl, rfl, rfl, by omega, us, r1, r2⟩, w4, w5, w6⟩, MT⟩)
    . rcases List.mem_append.1 hq with hq | hq
      . exact pH.1 w6 _ hq
      . simp at hq; subst hq; exact ⟨gZ, gZ, trivial⟩
    . dsimp only
      rw [dP (by omega) (by omega)]
      exact MT
theorem Rp : Sound Tryz.prog 30 P4 := gN Px λ _ _ _ _ ⟨cb, v, p, e, h1, h2, h3, h5⟩ => ⟨SizeOf.sizeOf p + 1, cb, v, p, e, h1, h2, h3, by omega, h5⟩
def lV (a : Int) (n : Bool) (e : Int) : Bool := if n = true then decide (0 <= a) && decide (a < e) else a == 0
def UF : Vc.Spec := λ cvs m h K => ∃ a n e, cvs = [cI a, cB n, cI e] /\ K (cB (lV a n e)) m h
def Sw : Vc.Spec := λ cvs m h K => ∃ v p, cvs = [aP v] /\ cX h p v /\ ∀ r : Bool, (r = true ↔ p = gD) -> K (cB r) m h
def MV : Vc.Spec := λ cvs m h K => ∃ v t, cvs = [aT v] /\ hU h t v /\ ∀ r : Bool, (r = true ↔ dM t.query) -> K (cB r) m h
noncomputable def OF (v : eO) (m : MH) (h : PH) : Ctx :=
 cO [(122, Sw)] [] ([3, 5, 7, 9].map λ k => (k, { A := Unit, st := λ _ => cD 66 67 [(1, .at (.ptr 1 0))] [(1, .cells 60 (v.enc.map .val))] m h })) [] false
def LU (op : Int) (m : MH) (h : PH) (K : CV -> MH -> PH -> Prop) : Prop :=
  dT (op == 1) (K (fS 0) m h) (op == 2) (K (fS 1) m h) (dT (op == 3) (K (fS 1) m h) (op == 9) (K (fS 1) m h) (dT (op == 4) (K (fS 2) m h) (op == 5) (K (fS 2) m h) (dT (op == 6) (K (fS 2) m h) (op == 7) (K (fS 2) m h) (dT (op == 8) (K (fS 2) m h) (op == 10) (K (fS 2) m h) (K (fS (Int.negSucc 0)) m h)))))
theorem Vs (op : Int) (m : MH) (h : PH) (K : CV -> MH -> PH -> Prop) : LU op m h K = (cG (cO [] [] [] [] false) Tryz.f73 (aE Tryz.f73) (entry Tryz.f73.ntmps [cI op] m h) K) := by kernel_rfl
def LB (a : Int) (n : Bool) (e : Int) (m : MH) (h : PH) (K : CV -> MH -> PH -> Prop) : Prop :=
  branch n (fI a 0 (K (uS (decide (a < e))) m h) (K aR m h)) (K (uS (a == 0)) m h)
theorem U3 (a : Int) (n : Bool) (e : Int) (m : MH) (h : PH) (K : CV -> MH -> PH -> Prop) : LB a n e m h K = (cG (cO [] [] [] [] false) Tryz.f95 (aE Tryz.f95) (entry Tryz.f95.ntmps [cI a, cB n, cI e] m h) K) := by kernel_rfl
def Jg (v : PV) (m : MH) (h : PH) (K : CV -> MH -> PH -> Prop) : Prop :=
  dW v.op 0 (dW v.cmp 0 (∃ (r : Bool), gH (oL 35 (u9 v) (aL aX aX (aL aX aX sX)) r) r (∃ (r1 : Bool), gH (oL 35 (tH v) (aL aX aX (aL aX aX sX)) r1) r1 (K (uS (lE v == 0)) m h) (K aR m h)) (K aR m h)) (K aR m h)) (K aR m h)
theorem TT (v : PV) (m : MH) (h : PH) (K : CV -> MH -> PH -> Prop) : Jg v m h K = (cG (cO [] [] [] [] false) Tryz.f122 (aE Tryz.f122) (entry Tryz.f122.ntmps [aP v] m h) K) := by kernel_rfl
abbrev vQ (a : Unit -> Prop) (b : Unit) (c : eO) (d : MH) (e : PH) : Prop := aA (a b) gF (aA (jQ c) (d = d) (bG e e))
attribute [push_cast] vQ
def LA (v : eO) (m : MH) (h : PH) (K : CV -> MH -> PH -> Prop) : Prop :=
  ∃ (I : Unit -> Prop), dE v.op 1 (dE v.table 0 (K aR m h) (∃ (x : Unit), vQ I x v m h)) (∃ (x : Unit), vQ I x v m h) /\ ∀ (x : Unit), I x -> ∃ (I1 : Unit -> Prop), dE v.op 2 (kC (λ v1 p => aA (cK (eF v.where_) (eF v1)) (cX h p v1) (∀ (r : Bool), eJ (dQ r (p = Pred.mk 0 0 (OV.mk 0 0 (VV.mk 0 0 (ByteArray.mk (Array.mk [])))) (OV.mk 0 0 (VV.mk 0 0 (ByteArray.mk (Array.mk [])))) [])) (!r) (K aR m h) (∃ (x1 : Unit), vQ I1 x1 v m h)))) (∃ (x1 : Unit), vQ I1 x1 v m h) /\ ∀ (x1 : Unit), I1 x1 -> ∃ (I2 : Unit -> Prop), dE v.op 3 (fB (aF v.columns) 0 (K aR m h) (∃ (x2 : Unit), vQ I2 x2 v m h)) (∃ (x2 : Unit), vQ I2 x2 v m h) /\ ∀ (x2 : Unit), I2 x2 -> ∃ (I3 : Unit -> Prop), dE v.op 4 (dE v.op 5 (fB (aF v.on) 0 (K aR m h) (∃ (x3 : Unit), vQ I3 x3 v m h)) (∃ (x3 : Unit), vQ I3 x3 v m h))
 (∃ (x3 : Unit), vQ I3 x3 v m h) /\ ∀ (x3 : Unit), eJ (I3 x3) (v.op != 9) (dE v.op 10 (dW (aF v.group) 0 (dW (aF v.order) 0 (K (uS (v.limit == 0)) m h) (K aR m h)) (K aR m h)) (K gV m h)) (K gV m h)
theorem U2 (v : eO) (m : MH) (h : PH) (K : CV -> MH -> PH -> Prop) : LA v m h K = (cG (OF v m h) Tryz.f96 (aE Tryz.f96) (entry Tryz.f96.ntmps [aT v] m h) K) := by kernel_rfl
theorem IL : Sound Tryz.prog 73 AK := by
 refine aI (fn := Tryz.f73) (c := aE Tryz.f73) Tryz.func73 rfl (by decide) ?_
 rintro cvs m h K ⟨op, rfl, hK⟩
 refine ⟨cO [] [] [] [] false, rfl, aH, ?_⟩
 rw [<- Vs op m h K]
 dsimp only [LU, push_cast]
 repeat' (first | (refine aB (λ _ => ?_) (λ _ => ?_)) | (refine wP hK ?_; simp only [arity]; simp only [*, Bool.or_false, Bool.false_or, Bool.or_true, Bool.true_or, Bool.and_true, Bool.true_and, Bool.and_false, Bool.false_and, Bool.not_true, Bool.not_false, Bool.false_eq_true, if_true, if_false, ↓reduceIte]; done) | (refine wP hK ?_; simp only [arity]; simp only [*, Bool.or_false, Bool.false_or, Bool.or_true, Bool.true_or, Bool.and_true, Bool.true_and, Bool.and_false, Bool.false_and, Bool.not_true, Bool.not_false, Bool.false_eq_true, if_true, if_false, ↓reduceIte]; rfl))
theorem QN : Sound Tryz.prog 95 UF := by
 refine aI (fn := Tryz.f95) (c := aE Tryz.f95) Tryz.func95 rfl (by decide) ?_
 rintro cvs m h K ⟨a, n, e, rfl, hK⟩
 refine ⟨cO [] [] [] [] false, rfl, aH, ?_⟩
 rw [<- U3 a n e m h K]
 dsimp only [LB, push_cast]
 unfold lV at hK
 refine aB (λ h1 => ?_) (λ h1 => ?_)
 . rw [if_pos h1] at hK
   refine aC (λ h2 => gY hK ?_) (λ h2 => gY hK ?_)
   . rw [decide_eq_true h2]; rfl
   . rw [decide_eq_false h2]; rfl
 . rw [if_neg (by simp [h1])] at hK
   exact gY hK rfl
theorem NH : Sound Tryz.prog 122 Sw := by
 refine aI (fn := Tryz.f122) (c := aE Tryz.f122) Tryz.func122 rfl (by decide) ?_
 rintro cvs m h K ⟨v, p, rfl, hp, hK⟩
 refine ⟨cO [] [] [] [] false, rfl, aH, ?_⟩
 rw [<- TT v m h K]
 dsimp only [Jg, push_cast]
 obtain ⟨op, cmp, l, r, args⟩ := p
 obtain ⟨rfl, rfl, rfl, rfl, ha⟩ := hp.parts
 have l0 := zA ha.slen
 have bad : ¬ (Pred.mk v.op v.cmp v.left v.right args = gD) -> K (.val (.bool false)) m h := λ hn => hK false ⟨λ e => (by cases e), λ e => (hn e).elim⟩
 simp only [gD, Pred.mk.injEq] at hK bad
 refine aB (λ h1 => aB (λ h2 => ⟨_, wJ v.left cR, aB (λ h3 => ⟨_, wJ v.right cR, aB (λ h4 => hK _ ?_) (λ h4 => bad ?_)⟩) (λ h3 => bad ?_)⟩) (λ h2 => bad ?_)) (λ h1 => bad ?_)
 . rw [l0]
   exact ⟨λ e => ⟨by simpa using h1, by simpa using h2, mA.1 h3, mA.1 h4, e⟩, λ e => e.2.2.2.2⟩
 . intro e; rw [mA.2 e.2.2.2.1] at h4; cases h4
 . intro e; rw [mA.2 e.2.2.1] at h3; cases h3
 . intro e; rw [e.2.1] at h2; cases h2
 . intro e; rw [e.1] at h1; cases h1
theorem QL : Sound Tryz.prog 96 MV := by
 refine aI (fn := Tryz.f96) (c := aE Tryz.f96) Tryz.func96 rfl (by decide) ?_
 rintro cvs m h K ⟨v, t, rfl, x, hK⟩
 refine ⟨OF v m h, rfl, aD NH aH, ?_⟩
 rw [<- U2 v m h K]
 dsimp only [LA, push_cast]
 obtain ⟨op, ta, w, co, on, gr, od, li, le, ri⟩ := t
 obtain ⟨e0, e1, xw, xc, xo, xg, xs, e2, _, _⟩ := x
 simp only at e0 e1 xw xc xo xg xs e2
 have l1 := zA xc.slen
 have l2 := zA xo.slen
 have l3 := zA xg.slen
 have l4 := zA xs.slen
 simp only [Step.query, dM] at hK
 subst e0 e1 e2
 have bad : ∀ {P : Prop}, ¬ P -> ((v.op = 1 \/ v.table = 0) /\ (v.op = 2 \/ w = gD) /\ (v.op = 3 \/ co = []) /\ (v.op = 4 \/ v.op = 5 \/ on = []) /\ (v.op = 9 \/ v.op = 10 \/ (gr = [] /\ od = [] /\ v.limit = 0)) -> P) -> K (.val (.bool false)) m h := λ hn hp => hK false ⟨λ e => (by cases e), λ e => (hn (hp e)).elim⟩
 have pos : ∀ {n : Nat} {α : Type} {l : List α}, n = l.length -> ((n : Int) > 0 ↔ l ≠ []) := fun {n α l} e => by rw [e, ne_eq, <- List.length_eq_zero_iff]; omega
 refine ⟨λ _ => v.op = 1 \/ v.table = 0, aB (λ h1 => aB (λ h2 => bad (P := v.op = 1 \/ v.table = 0) ?_ λ e => e.1) (λ h2 => ⟨(), .inr (by simpa using h2), MT⟩)) (λ h1 => ⟨(), .inl (by simpa using h1), MT⟩), λ _ c1 => ?_⟩
 . rw [not_or]; exact ⟨by simpa using h1, by simpa using h2⟩
 refine ⟨λ _ => v.op = 2 \/ w = gD, aB (λ h1 => ⟨v.where_, w, rfl, xw, λ r hr => aB (λ h2 => bad (P := v.op = 2 \/ w = gD) ?_ λ e => e.2.1) (λ h2 => ⟨(), .inr (hr.1 (by simpa using h2)), MT⟩)⟩) (λ h1 => ⟨(), .inl (by simpa using h1), MT⟩), λ _ c2 => ?_⟩
 . rw [not_or]; refine ⟨by simpa using h1, λ e => ?_⟩
   rw [hr.2 e] at h2; cases h2
 refine ⟨λ _ => v.op = 3 \/ co = [], aB (λ h1 => aC (λ h2 => bad (P := v.op = 3 \/ co = []) ?_ λ e => e.2.2.1) (λ h2 => ⟨(), .inr ?_, MT⟩)) (λ h1 => ⟨(), .inl (by simpa using h1), MT⟩), λ _ c3 => ?_⟩
 . rw [not_or]; exact ⟨by simpa using h1, (pos xc.slen).1 h2⟩
 . exact Classical.byContradiction λ e => h2 ((pos xc.slen).2 e)
 refine ⟨λ _ => v.op = 4 \/ v.op = 5 \/ on = [], aB (λ h1 => aB (λ h1' => aC (λ h2 => bad (P := v.op = 4 \/ v.op = 5 \/ on = []) ?_ λ e => e.2.2.2.1) (λ h2 => ⟨(), .inr (.inr ?_), MT⟩)) (λ h1' => ⟨(), .inr (.inl (by simpa using h1')), MT⟩)) (λ h1 => ⟨(), .inl (by simpa using h1), MT⟩), λ _ c4 => ?_⟩
 . rw [not_or, not_or]; exact ⟨by simpa using h1, by simpa using h1', (pos xo.slen).1 h2⟩
 . exact Classical.byContradiction λ e => h2 ((pos xo.slen).2 e)
 refine aB (λ h1 => aB (λ h2 => ?_) (λ h2 => hK true ⟨λ _ => ⟨c1, c2, c3, c4, .inr (.inl (by simpa using h2))⟩, λ _ => rfl⟩)) (λ h1 => hK true ⟨λ _ => ⟨c1, c2, c3, c4, .inl (by simpa using h1)⟩, λ _ => rfl⟩)
 have h1 : v.op ≠ 9 := by simpa using h1
 have h2 : v.op ≠ 10 := by simpa using h2
 have bad2 : ¬ (gr = [] /\ od = [] /\ v.limit = 0) -> K (.val (.bool false)) m h := λ hn => bad hn λ e => (e.2.2.2.2.resolve_left h1).resolve_left h2
 refine aB (λ h3 => aB (λ h4 => hK _ ?_) (λ h4 => bad2 λ e => ?_)) (λ h3 => bad2 λ e => ?_)
 . rw [beq_iff_eq]
   exact ⟨λ e => ⟨c1, c2, c3, c4, .inr (.inr ⟨l3.1 h3, l4.1 h4, e⟩)⟩, λ e => ((e.2.2.2.2.resolve_left h1).resolve_left h2).2.2⟩
 . rw [l4.2 e.2.1] at h4; cases h4
 . rw [l3.2 e.1] at h3; cases h3
open Classical in
noncomputable def Lb (a co : List Int) : List Int × Int := if co ≠ [] /\ Good (λ _ c => Df a c = true) co then lH (co.map λ c => a.getD c.toNat 0) else eX 120
def UC : Vc.Spec := λ cvs m h K => ∃ s t a co, cvs = [cS s, cS t] /\ aU h s a /\ aU h t co /\ KR K m h (Lb a co)
def JA : Vc.Spec := λ cvs m h K => ∃ s t u a b on, cvs = [cS s, cS t, cS u] /\ aU h s a /\ aU h t b /\ gM h u on /\ a.length <= 1000 /\ b.length <= 1000 /\ ∀ r : Bool, (r = true ↔ Good (sO a b) on) -> K (cB r) m h
def HV : Vc.Spec := λ cvs m h K => ∃ s v a t, cvs = [cS s, aT v] /\ aU h s a /\ hU h t v /\ a.length <= 1000 /\ ∀ r : Bool, (r = true ↔ nF a t.group t.order t.limit) -> K (cB r) m h
def eB (b : Bool) : List Value := [.bool b]
noncomputable def OE (s t : Sl) (m : MH) (h : PH) : Ctx :=
 cO [] [(4, { A := Nat, st := λ i => cD 51 53 [(0, sv s), (1, sv t), (14, sv t), (15, iv t.len), (16, iv i)] [] m h }),
  (13, { A := Nat × List Int, st := λ ⟨i, l⟩ => cD 51 53 [(0, sv s), (8, .at (.lst 34)), (35, sv t), (36, iv t.len), (37, iv i)] [(34, .lst 3 1 (l.map eI))] m h })] [] [] false
noncomputable def OD (s t u : Sl) (m : MH) (h : PH) : Ctx :=
 cO [] [(4, { A := Nat × List Bool × List Bool, st := λ ⟨i, x, y⟩ => cD 75 78 [(0, sv s), (1, sv t), (7, .at (.lst 15)), (8, .at (.lst 18)), (19, sv u), (20, iv u.len), (21, iv i)] [(15, .lst 4 1 (x.map eB)), (18, .lst 4 1 (y.map eB))] m h })]
  [(9, { A := Nat × List Bool × List Bool × Int × Int, st := λ ⟨i, x, y, a, b⟩ => cD 75 78 [(0, sv s), (1, sv t), (7, .at (.lst 15)), (8, .at (.lst 18)), (11, iv a), (12, iv b), (19, sv u), (20, iv u.len), (21, iv i)] [(15, .lst 4 1 (x.map eB)), (18, .lst 4 1 (y.map eB))] m h })] [] false
noncomputable def MF (s : Sl) (v : eO) (m : MH) (h : PH) : Ctx :=
 cO [] [(3, { A := Nat × List Bool, st := λ ⟨i, x⟩ => cD 68 70 [(0, sv s), (3, .at (.ptr 3 0)), (5, .at (.lst 12)), (14, sv v.group), (15, iv v.group.len), (16, iv i)] [(3, .cells 60 (v.enc.map .val)), (12, .lst 4 1 (x.map eB))] m h }),
  (12, { A := Nat, st := λ i => cD 68 70 [(0, sv s), (3, .at (.ptr 3 0)), (43, sv v.order), (44, iv v.order.len), (45, iv i)] [(3, .cells 60 (v.enc.map .val))] m h })] [] [] false
def Lz (s t : Sl) (m : MH) (h : PH) (K : CV -> MH -> PH -> Prop) : Prop :=
  dW (aF t) 0 (bM K 120 m h) (pY (λ I x => aA (I x) (aK s) (aA (aK t) (aK t) (aA (cF t) (bO x) (aA (m = m) (h = h) True)))) (λ I m1 x => I x -> bE (↑x : Int) (aF t) (aY (λ b o => aG (bC t.a b o) (0 <= (↑x : Int)) ((↑x : Int) < aF t) (∃ (y : Int), bI m h b (bZ o x 1) (bT y) /\ bE y 0 (bM K 120 m h) (fI y (aF s) (bM K 120 m h) (∃ (x1 : Nat), aA (I x1) (m1 x1 < m1 x) (aA (aK s) (aK t) (aA (aK t) (cF t) (aA (aZ x 1 x1) (m = m) (bG h h))))))))) (fB (aF t) 12 (bM K 2 m h) (aA (aW (aF t)) (aF t <= aF t) (aA (kT (aF t * 8)) (kT (aF t)) (J3 (λ I1 m2 => JZ (λ x1 => aA (I1 x1) (aK s) (aA (eL 34) (aK t) (aA (cF t) (bO x1.1) (aA (mT (List.replicate (aF t).toNat yE) x1.2) (m = m) (bG h h))))) (fun
 x1 => I1 x1 -> bE (↑x1.1 : Int) (aF t) (aY (λ b o => aG (bC t.a b o) (0 <= (↑x1.1 : Int)) ((↑x1.1 : Int) < aF t) (∃ (y : Int), bI m h b (bZ o x1.1 1) (bT y) /\ aY (λ b1 o1 => aG (bC s.a b1 o1) (0 <= y) (y < aF s) (∃ (y1 : Int), uA (bI m h b1 (iW o1 y 1) (bT y1)) 0 (↑x1.1 : Int) (bY x1.2) (λ e => aA (fO (bY x1.2) (↑x1.1 : Int) e) (rW 0 e) (∃ (x2 : Nat × List Int), aA (I1 x2) (m2 x2 < m2 x1) (aA (aK s) (eL 34) (aA (aK t) (cF t) (aA (aZ x1.1 1 x2.1) (mT (oW (bY x1.2) (↑x1.1 : Int) (mL (cZ y1) 1 e)) x2.2) (cQ (m = m) h h))))))))))) (bQ h 1 (bY x1.2) (λ s1 h1 => gE K s1 m h1))))))))))
theorem U1 (s t : Sl) (m : MH) (h : PH) (K : CV -> MH -> PH -> Prop) : Lz s t m h K = (cG (OE s t m h) Tryz.f97 (aE Tryz.f97) (entry Tryz.f97.ntmps [cS s, cS t] m h) K) := by kernel_rfl
noncomputable abbrev jO (a : List Bool) : List (List Value) := List.map eB a
noncomputable abbrev wE (a : Nat × List Bool × List Bool × Int × Int) : Int := a.2.2.2.1
noncomputable abbrev uE (a : Nat × List Bool × List Bool × Int × Int) : Int := a.2.2.2.2
attribute [push_cast] jO wE uE
def Ly (s t u : Sl) (m : MH) (h : PH) (K : CV -> MH -> PH -> Prop) : Prop :=
  aA (aW (aF s)) (aF s <= aF s) (aA (kT (aF s * 1)) (kT (aF s)) (aA (aW (aF t)) (aF t <= aF t) (aA (kT (aF t * 1)) (kT (aF t)) (∃ (I : Nat × List Bool × List Bool -> Prop) (m1 : Nat × List Bool × List Bool -> Nat), (∃ (x : Nat × List Bool × List Bool), aA (I x) (aK s) (aA (aK t) (eL 15) (aA (eL 18) (aK u) (aA (cF u) (bO x.1) (kN (cM 4 1 (List.replicate (aF s).toNat (oB fH)) = cM 4 1 (jO x.2.1)) (cM 4 1 (List.replicate (aF t).toNat (oB fH)) = cM 4 1 (jO x.2.2)) (m = m) h h))))) /\ ∀ (x : Nat × List Bool × List Bool), I x -> bE (↑x.1 : Int) (aF u) (aY (λ b o => aG (bC u.a b o) (0 <= (↑x.1 : Int)) ((↑x.1 : Int) < aF u) (∃ (y : Int × Int), aA (bI m h b (bZ o x.1 2) (rK y)) (aW 0) (aA ((0 : Int) < 2) (aW 1) ((1 : Int) < 2 /\ ∃
 (I1 : Nat × List Bool × List Bool × Int × Int -> Prop), bE y.1 0 (K aR m h) (fI y.1 (aF s) (K aR m h) (bE y.2 0 (K aR m h) (fI y.2 (aF t) (K aR m h) (∃ (x1 : Nat × List Bool × List Bool × Int × Int), aA (I1 x1) (aK s) (aA (aK t) (eL 15) (aA (eL 18) (bJ y.1 (wE x1)) (aA (bJ y.2 (uE x1)) (aK u) (aA (cF u) (dG x.1 x1.1) (aA (mY 4 (jO x.2.1) (jO x1.2.1)) (mY 4 (jO x.2.2) (jO x1.2.2.1)) (cQ (m = m) h h)))))))))) /\ ∀ (x1 : Nat × List Bool × List Bool × Int × Int), I1 x1 -> aY (λ b1 o1 => aG (bC s.a b1 o1) (0 <= wE x1) (wE x1 < aF s) (∃ (y1 : Int), bI m h b1 (iW o1 (wE x1) 1) (bT y1) /\ aY (λ b2 o2 => aG (bC t.a b2 o2) (0 <= uE x1) (uE x1 < aF t) (∃ (y2 : Int), bI m h b2 (iW o2 (uE x1) 1) (bT y2) /\ dE y1 y2 (K
 aR m h) (lC (wE x1) (jO x1.2.1) (λ e => fO (jO x1.2.1) (wE x1) e /\ ∃ (y3 : Bool), gH (iO 1 0 e (oB (Value.bool y3))) y3 (K aR m h) (lC (uE x1) (jO x1.2.2.1) (λ e1 => fO (jO x1.2.2.1) (uE x1) e1 /\ ∃ (y4 : Bool), gH (iO 1 0 e1 (oB (Value.bool y4))) y4 (K aR m h) (lC (wE x1) (jO x1.2.1) (λ e2 => aA (fO (jO x1.2.1) (wE x1) e2) (rW 0 e2) (aA (aW (uE x1)) (uE x1 < kE (jO x1.2.2.1)) (∃ (e3 : List Value), aA (fO (jO x1.2.2.1) (uE x1) e3) (rW 0 e3) (∃ (x2 : Nat × List Bool × List Bool), aA (I x2) (m1 x2 < m1 x) (aA (aK s) (aK t) (aA (eL 15) (eL 18) (aA (aK u) (cF u) (aA (aZ x1.1 1 x2.1) (mY 4 (oW (jO x1.2.1) (wE x1) (mL Ds 1 e2)) (jO x2.2.1)) (aA (mY 4 (oW (jO
 x1.2.2.1) (uE x1) (mL Ds 1 e3)) (jO x2.2.2)) (m = m) (bG h h)))))))))))))))))))))))) (K gV m h)))))
theorem U0 (s t u : Sl) (m : MH) (h : PH) (K : CV -> MH -> PH -> Prop) : Ly s t u m h K = (cG (OD s t u m h) Tryz.f98 (aE Tryz.f98) (entry Tryz.f98.ntmps [cS s, cS t, cS u] m h) K) := by kernel_rfl
def Jq (s : Sl) (v : eO) (m : MH) (h : PH) (K : CV -> MH -> PH -> Prop) : Prop :=
  aA (aW (aF s)) (aF s <= aF s) (aA (kT (aF s * 1)) (kT (aF s)) (∃ (I : Nat × List Bool -> Prop) (m1 : Nat × List Bool -> Nat), (∃ (x : Nat × List Bool), aA (I x) (aK s) (aA (eP 3) (eL 12) (aA (aK v.group) (cF v.group) (aA (bO x.1) (jQ v) (aG (cM 4 1 (List.replicate (aF s).toNat (oB fH)) = cM 4 1 (jO x.2)) (m = m) (h = h) True))))) /\ ∀ (x : Nat × List Bool), I x -> bE (↑x.1 : Int) (aF v.group) (aY (λ b o => aG (bC v.group.a b o) (0 <= (↑x.1 : Int)) ((↑x.1 : Int) < aF v.group) (∃ (y : Int), bI m h b (bZ o x.1 1) (bT y) /\ bE y 0 (K aR m h) (fI y (aF s) (K aR m h) (lC y (jO x.2) (λ e => fO (jO x.2) y e /\ ∃ (y1 : Bool), gH (iO 1 0 e (oB (Value.bool y1))) y1 (K aR m h) (lC y (jO x.2) (λ e1 => aA (fO (jO x.2) y e1) (rW
 0 e1) (∃ (x1 : Nat × List Bool), aA (I x1) (m1 x1 < m1 x) (aA (aK s) hJ (aA (eL 12) (aK v.group) (aA (cF v.group) (aZ x.1 1 x1.1) (kN (jQ v) (mY 4 (oW (jO x.2) y (mL Ds 1 e1)) (jO x1.2)) (m = m) h h))))))))))))) (fB (aF v.order) 12 (K aR m h) (pY (λ I1 x1 => aA (I1 x1) (aK s) (aA (eP 3) (aK v.order) (aA (cF v.order) (bO x1) (aA (jQ v) (m = m) (bG h h))))) (λ I1 m2 x1 => I1 x1 -> bE (↑x1 : Int) (aF v.order) (aY (λ b o => aG (bC v.order.a b o) (0 <= (↑x1 : Int)) ((↑x1 : Int) < aF v.order) (∃ (y : Int × Bool), bI m h b (bZ o x1 2) (pX y) /\ bE y.1 0 (K aR m h) (fI y.1 (aF s) (K aR m h) (∃ (x2 : Nat), aA (I1 x2) (m2 x2 < m2 x1) (aA (aK s) hJ (aA (aK v.order) (cF v.order) (aA (aZ x1 1 x2) (jQ v) (cQ (m = m) h
 h))))))))) (fI v.limit 0 (K (uS (decide (v.limit <= 100))) m h) (K aR m h)))))))
theorem Un (s : Sl) (v : eO) (m : MH) (h : PH) (K : CV -> MH -> PH -> Prop) : Jq s v m h K = (cG (MF s v m h) Tryz.f100 (aE Tryz.f100) (entry Tryz.f100.ntmps [cS s, aT v] m h) K) := by kernel_rfl
theorem KR.bad {r : List Int × Int} {e : Int} (hK : KR K m h r) (he : r = eX e) : K (.tup [.val (.slice none 0 0), .val (.int .i64 e)]) m h := hK.err (.refl _) he
theorem QK : Sound Tryz.prog 97 UC := by
 refine aI (fn := Tryz.f97) (c := aE Tryz.f97) Tryz.func97 rfl (by decide) ?_
 rintro cvs m h K ⟨s, t, a, co, rfl, hs, ht, hK⟩
 refine ⟨OE s t m h, rfl, aH, ?_⟩
 rw [<- U1 s t m h K]
 dsimp only [Lz, push_cast]
 have sl := hs.slen
 have tl := ht.slen
 have tlen := ht.len
 unfold Lb at hK
 refine aB (λ h1 => hK.bad (if_neg λ e => e.1 ((zA ht.slen).1 h1))) (λ h1 => ?_)
 have hne : co ≠ [] := λ e => by rw [(zA ht.slen).2 e] at h1; cases h1
 refine ⟨λ i => i <= co.length /\ eG (λ _ c => Df a c = true) co i, λ i => co.length - i, ⟨0, ⟨by omega, .zero⟩, MT⟩, λ i ⟨hi, hg⟩ => aC (λ hlt => ?_) (λ hge => ?_)⟩
 . obtain ⟨c, hc⟩ := fP tl hlt
   obtain ⟨b, o, e, r⟩ := ht.at' hc
   refine ⟨b, o, e, by omega, hlt, c, .imm r, aC (λ h2 => hK.bad (if_neg λ g => ?_)) (λ h2 => aC (λ h3 => hK.bad (if_neg λ g => ?_)) (λ h3 => ⟨i + 1, ⟨by omega, hg.succ hc (eE.2 ⟨by omega, by omega⟩)⟩, by show co.length - (i + 1) < co.length - i; omega, MT⟩))⟩
   . have := eE.1 (g.2 i c hc); omega
   . have := eE.1 (g.2 i c hc); omega
 have hgood := hg.all (by omega)
 rw [if_pos ⟨hne, hgood⟩] at hK
 refine aC (λ h2 => hK.big (.refl _) rfl (by simp; omega)) (λ h2 => ⟨by omega, by omega, by omega, by omega, ?_⟩)
 refine ⟨λ ⟨i, l⟩ => i <= co.length /\ l = ((co.take i).map λ c => a.getD c.toNat 0) ++ List.replicate (co.length - i) 0, λ ⟨i, _⟩ => co.length - i, ⟨(0, List.replicate co.length 0), ⟨by omega, by simp⟩, ?_⟩, ?_⟩
 . have : List.map eI (List.replicate co.length (0 : Int)) = List.replicate (Int.toNat (t.len : Int)) [cZ 0] := by rw [List.map_replicate, Int.toNat_natCast, tl]; rfl
   rw [this]; exact MT
 rintro ⟨i, l⟩ ⟨hi', rfl⟩
 dsimp only
 refine aC (λ hlt => ?_) (λ hge sl' h' hle hr => hK.ok hle rfl (by simp; omega) ?_)
 . obtain ⟨c, hc⟩ := fP tl hlt
   obtain ⟨b, o, e, r⟩ := ht.at' hc
   have hin := eE.1 (hgood i c hc)
   obtain ⟨b2, o2, e2, r2⟩ := hs.inb hin.1 hin.2
   refine ⟨b, o, e, by omega, hlt, c, .imm r, b2, o2, e2, hin.1, by omega, a.getD c.toNat 0, .imm r2, by omega, by simp; omega, eI 0, ?_, by simp [eI], (i + 1, ((co.take (i + 1)).map λ c => a.getD c.toNat 0) ++ List.replicate (co.length - (i + 1)) 0), ⟨by show i + 1 <= co.length; omega, rfl⟩, by show co.length - (i + 1) < co.length - i; omega, ?_⟩
   . rw [List.getElem?_map, Int.toNat_natCast, List.getElem?_append_right (by simp; omega), List.getElem?_replicate, if_pos (by simp; omega)]
     rfl
   . have e3 : co.length - i = (co.length - (i + 1)) + 1 := by omega
     have e4 : (List.map eI (((co.take i).map λ c => a.getD c.toNat 0) ++ List.replicate (co.length - i) 0)).set (Int.toNat (i : Int)) (cZ (a.getD c.toNat 0) :: ([] ++ List.drop 1 (eI 0))) = List.map eI (((co.take (i + 1)).map λ c => a.getD c.toNat 0) ++ List.replicate (co.length - (i + 1)) 0) := by
      have hl : ((co.take i).map λ c => a.getD c.toNat 0).length = i := by simp; omega
      rw [e3, List.replicate_succ, List.take_add_one, hc, Int.toNat_natCast]
      simp only [List.map_append, List.map_cons]
      have hl2 : (List.map eI ((co.take i).map λ c => a.getD c.toNat 0)).length = i := by rw [List.length_map]; exact hl
      rw [List.set_append_right _ _ (by omega), hl2, Nat.sub_self]
      simp [eI]
     rw [<- e4]; exact MT
 . have : i = co.length := by omega
   subst this
   simpa using hr
structure Seen (n : Nat) (x : List Bool) (l : List Int) : Prop where
 len : x.length = n
 iff : ∀ k : Nat, k < n -> (x[k]? = some true ↔ (k : Int) ∈ l)
theorem Seen.zero (n : Nat) : Seen n (List.replicate n false) [] := ⟨by simp, λ k hk => by rw [List.getElem?_replicate]; simp [hk]⟩
theorem Seen.map0 {n : Nat} {s : Sl} (h : s.len = n) : List.map eB (List.replicate n false) = List.replicate (Int.toNat (s.len : Int)) [Value.bool false] := by rw [List.map_replicate, Int.toNat_natCast, h]; rfl
theorem Seen.look {n : Nat} {x : List Bool} (h : Seen n x l) {c : Int} (h0 : 0 <= c) (h1 : c < n) : ∃ y, (List.map eB x)[c.toNat]? = some (eB y) /\ (y = true ↔ c ∈ l) := by
 have hl := h.len
 have hk : c.toNat < x.length := by omega
 refine ⟨x[c.toNat], by rw [List.getElem?_map, List.getElem?_eq_getElem hk]; rfl, ?_⟩
 have := h.iff c.toNat (by omega)
 rw [List.getElem?_eq_getElem hk, show ((c.toNat : Nat) : Int) = c by omega] at this
 simpa using this
theorem Seen.set {n : Nat} {x : List Bool} (h : Seen n x l) {c : Int} (h0 : 0 <= c) (h1 : c < n) : Seen n (x.set c.toNat true) (l ++ [c]) := by
 refine ⟨by simpa using h.len, λ k hk => ?_⟩
 have hl := h.len
 rw [List.getElem?_set, List.mem_append, List.mem_singleton]
 by_cases e : c.toNat = k
 . subst e
   rw [if_pos rfl, if_pos (by omega)]
   exact ⟨λ _ => .inr (by omega), λ _ => rfl⟩
 . rw [if_neg e, h.iff k hk]
   exact ⟨.inl, λ h => h.elim id λ e => by omega⟩
theorem Seen.cells (x : List Bool) (k : Nat) (y : Bool) : (List.map eB x).set k (Value.bool true :: ([] ++ List.drop 1 (eB y))) = List.map eB (x.set k true) := by rw [List.map_set]; rfl
theorem QJ : Sound Tryz.prog 98 JA := by
 refine aI (fn := Tryz.f98) (c := aE Tryz.f98) Tryz.func98 rfl (by decide) ?_
 rintro cvs m h K ⟨s, t, u, a, b, on, rfl, ha, hb, hs, al, bl, hK⟩
 refine ⟨OD s t u m h, rfl, aH, ?_⟩
 rw [<- U0 s t u m h K]
 dsimp only [Ly, push_cast]
 have sa := ha.slen
 have sb := hb.slen
 have so := hs.slen
 have solen := hs.len
 refine ⟨by omega, by omega, by omega, by omega, by omega, by omega, by omega, by omega, ?_⟩
 refine ⟨λ ⟨i, x, y⟩ => i <= on.length /\ eG (sO a b) on i /\ Seen a.length x ((on.take i).map λ p => p.1) /\ Seen b.length y ((on.take i).map λ p => p.2), λ ⟨i, _, _⟩ => on.length - i, ⟨(0, List.replicate a.length false, List.replicate b.length false), ⟨by omega, .zero, .zero _, .zero _⟩, ?_⟩, ?_⟩
 . rw [Seen.map0 sa, Seen.map0 sb]; exact MT
 rintro ⟨i, x, y⟩ ⟨hi, hg, hx, hy⟩
 dsimp only at hi hg hx hy ⊢
 refine aC (λ hlt => ?_) (λ hge => hK true ⟨λ _ => hg.all (by omega), λ _ => rfl⟩)
 obtain ⟨p, hp⟩ := fP so hlt
 obtain ⟨b1, o1, e1, r1⟩ := hs.at hp
 have bad : ¬ sO a b (on.take i) p -> K (.val (.bool false)) m h := λ hn => hK false ⟨λ e => (by cases e), λ e => (Good.not hp hn e).elim⟩
 refine ⟨b1, o1, e1, by omega, hlt, p, .imm r1, by omega, by omega, by omega, by omega, λ ⟨i', x', y', c, d⟩ => i' = i /\ x' = x /\ y' = y /\ c = p.1 /\ d = p.2 /\ Df a p.1 = true /\ Df b p.2 = true, ?_, ?_⟩
 . refine aC (λ h1 => bad λ g => ?_) (λ h1 => aC (λ h2 => bad λ g => ?_) (λ h2 => aC (λ h3 => bad λ g => ?_) (λ h3 => aC (λ h4 => bad λ g => ?_) (λ h4 => ⟨(i, x, y, p.1, p.2), ⟨rfl, rfl, rfl, rfl, rfl, eE.2 ⟨by omega, by omega⟩, eE.2 ⟨by omega, by omega⟩⟩, MT⟩))))
   . have := eE.1 g.1; omega
   . have := eE.1 g.1; omega
   . have := eE.1 g.2.1; omega
   . have := eE.1 g.2.1; omega
 rintro ⟨i, x, y, c, d⟩ ⟨rfl, rfl, rfl, rfl, rfl, i1, i2⟩
 dsimp only
 have j1 := eE.1 i1
 have j2 := eE.1 i2
 obtain ⟨b2, o2, e2, r2⟩ := ha.inb j1.1 j1.2
 obtain ⟨b3, o3, e3, r3⟩ := hb.inb j2.1 j2.2
 obtain ⟨u1, k1, q1⟩ := hx.look j1.1 j1.2
 obtain ⟨u2, k2, q2⟩ := hy.look j2.1 j2.2
 have lx := hx.len
 have ly := hy.len
 refine ⟨b2, o2, e2, j1.1, by omega, _, .imm r2, b3, o3, e3, j2.1, by omega, _, .imm r3, aB (λ h1 => bad λ g => ?_) (λ h1 => ⟨j1.1, by simp; omega, _, k1, u1, rfl, aB (λ h2 => bad λ g => ?_) (λ h2 => ⟨j2.1, by simp; omega, _, k2, u2, rfl, aB (λ h3 => bad λ g => ?_) (λ h3 => ?_)⟩)⟩)⟩
 . rw [g.2.2.1] at h1; simp at h1
 . obtain ⟨q, hq, e⟩ := List.mem_map.1 (q1.1 h2)
   exact (g.2.2.2 q hq).1 e
 . obtain ⟨q, hq, e⟩ := List.mem_map.1 (q2.1 h3)
   exact (g.2.2.2 q hq).2 e
 refine ⟨j1.1, by simp; omega, _, k1, by simp [eB], j2.1, by simp; omega, _, k2, by simp [eB], (i + 1, x.set p.1.toNat true, y.set p.2.toNat true), ⟨by show i + 1 <= on.length; omega, hg.succ hp ⟨i1, i2, by simpa using h1, λ q hq => ⟨λ e => ?_, λ e => ?_⟩⟩, ?_, ?_⟩, by show on.length - (i + 1) < on.length - i; omega, ?_⟩
 . rw [q1.2 (List.mem_map.2 ⟨q, hq, e⟩)] at h2; cases h2
 . rw [q2.2 (List.mem_map.2 ⟨q, hq, e⟩)] at h3; cases h3
 . rw [List.take_add_one, hp, List.map_append]; exact hx.set j1.1 j1.2
 . rw [List.take_add_one, hp, List.map_append]; exact hy.set j2.1 j2.2
 . rw [<- Seen.cells x p.1.toNat u1, <- Seen.cells y p.2.toNat u2]; exact MT
theorem N1 : Sound Tryz.prog 100 HV := by
 refine aI (fn := Tryz.f100) (c := aE Tryz.f100) Tryz.func100 rfl (by decide) ?_
 rintro cvs m h K ⟨s, v, a, t, rfl, ha, x, al, hK⟩
 refine ⟨MF s v m h, rfl, aH, ?_⟩
 rw [<- Un s v m h K]
 dsimp only [Jq, push_cast]
 have sa := ha.slen
 have sg := x.group_.slen
 have so := x.order_.slen
 have glen := x.group_.len
 have olen := x.order_.len
 have el := x.limit_
 have bad : ¬ nF a t.group t.order t.limit -> K (.val (.bool false)) m h := λ hn => hK false ⟨λ e => (by cases e), λ e => (hn e).elim⟩
 refine ⟨by omega, by omega, by omega, by omega, ?_⟩
 refine ⟨λ ⟨i, u⟩ => i <= t.group.length /\ eG (Fv a) t.group i /\ Seen a.length u (t.group.take i), λ ⟨i, _⟩ => t.group.length - i, ⟨(0, List.replicate a.length false), ⟨by omega, .zero, .zero _⟩, ?_⟩, ?_⟩
 . rw [Seen.map0 sa]; exact MT
 rintro ⟨i, u⟩ ⟨hi, hg, hu⟩
 dsimp only at hi hg hu ⊢
 have lu := hu.len
 refine aC (λ hlt => ?_) (λ hge => ?_)
 . obtain ⟨c, hc⟩ := fP sg hlt
   obtain ⟨b1, o1, e1, r1⟩ := x.group_.at' hc
   have gbad : ¬ Fv a (t.group.take i) c -> K (.val (.bool false)) m h := λ hn => bad λ hh => Good.not hc hn hh.group_
   refine ⟨b1, o1, e1, by omega, hlt, c, .imm r1, aC (λ h1 => gbad λ g => ?_) (λ h1 => aC (λ h2 => gbad λ g => ?_) (λ h2 => ?_))⟩
   . have := eE.1 g.1; omega
   . have := eE.1 g.1; omega
   obtain ⟨y, k1, q1⟩ := hu.look (c := c) (by omega) (by omega)
   refine ⟨by omega, by simp; omega, _, k1, y, rfl, aB (λ h3 => gbad λ g => g.2 (q1.1 h3)) (λ h3 => ⟨by omega, by simp; omega, _, k1, by simp [eB], (i + 1, u.set c.toNat true), ⟨by show i + 1 <= t.group.length; omega, hg.succ hc ⟨eE.2 ⟨by omega, by omega⟩, λ e => ?_⟩, ?_⟩, by show t.group.length - (i + 1) < t.group.length - i; omega, ?_⟩)⟩
   . rw [q1.2 e] at h3; cases h3
   . rw [List.take_add_one, hc]; exact hu.set (by omega) (by omega)
   . rw [<- Seen.cells u c.toNat y]; exact MT
 have gg := hg.all (by omega)
 clear hi hg hge hu lu
 refine aC (λ h1 => bad λ hh => by have := hh.len_; omega) (λ h1 => ?_)
 refine ⟨λ i => i <= t.order.length /\ eG (DG a) t.order i, λ i => t.order.length - i, ⟨0, ⟨by omega, .zero⟩, MT⟩, λ i ⟨hi, hoi⟩ => aC (λ hlt => ?_) (λ hge => ?_)⟩
 . obtain ⟨c, hc⟩ := fP so hlt
   obtain ⟨b1, o1, e1, r1⟩ := x.order_.at hc
   have obad : ¬ DG a (t.order.take i) c -> K (.val (.bool false)) m h := λ hn => bad λ hh => Good.not hc hn hh.order_
   refine ⟨b1, o1, e1, by omega, hlt, c, .imm r1, aC (λ h2 => obad λ g => ?_) (λ h2 => aC (λ h3 => obad λ g => ?_) (λ h3 => ⟨i + 1, ⟨by omega, hoi.succ hc (eE.2 ⟨by omega, by omega⟩)⟩, by show t.order.length - (i + 1) < t.order.length - i; omega, MT⟩))⟩
   . have := eE.1 (show Df a c.1 = true from g); omega
   . have := eE.1 (show Df a c.1 = true from g); omega
 have oo := hoi.all (by omega)
 rw [el]
 refine aC (λ h2 => hK _ ⟨λ e => ⟨gg, oo, by omega, h2, by simpa using e⟩, λ e => decide_eq_true e.high⟩) (λ h2 => bad λ hh => by have := hh.low; omega)
def uR (ks : List (List Int)) (a : Int) (n : Bool) : List Int := if n = true then ks.getD a.toNat [] else []
noncomputable def sF (s : oC) (ks : List (List Int)) (t : Step) : List Int × Int :=
 if arity t.op < 0 \/ lV t.left (decide (arity t.op > 0)) ks.length = false \/ lV t.right (decide (arity t.op > 1)) ks.length = false then eX 120
 else if (fF s [] t.query (uR ks t.left (decide (arity t.op > 0))) (uR ks t.right (decide (arity t.op > 1)))).2 = 100 then eX 120
 else fF s [] t.query (uR ks t.left (decide (arity t.op > 0))) (uR ks t.right (decide (arity t.op > 1)))
def H2 : Vc.Spec := λ cvs m h K => ∃ sc kk v s ss ks t, cvs = [aS sc, cS kk, aT v] /\ eW h s sc /\ iH s /\ hU h t v /\ fD m kk 39 1 (ss.map eS) /\ Slices h ss ks /\ (∀ k ∈ ks, k.length <= 12) /\ ∀ r, fin r = sF s ks t -> KR K m h r
noncomputable def O3 (sc : bH) (kk : Sl) (v : eO) (m : MH) (h : PH) : Ctx :=
 cO [(73, AK), (95, UF), (96, MV), (62, uO), (63, lW), (97, UC), (98, JA), (99, rB), (100, HV), (101, C2), (67, Gz)] []
  [(4, { A := Int, st := λ n => cD 132 135 [(1, sv kk), (3, .at (.ptr 3 0)), (5, .at (.ptr 5 0)), (8, iv n)] [(3, .cells 28 (sc.enc.map .val)), (5, .cells 60 (v.enc.map .val))] m h }),
   (9, { A := Int × Sl, st := λ ⟨n, l⟩ => cD 132 135 [(1, sv kk), (3, .at (.ptr 3 0)), (5, .at (.ptr 5 0)), (8, iv n), (9, sv l), (10, .at (.val (.slice none 0 0)))] [(3, .cells 28 (sc.enc.map .val)), (5, .cells 60 (v.enc.map .val))] m h }),
   (11, { A := Sl × Sl, st := λ ⟨l, r⟩ => cD 132 135 [(3, .at (.ptr 3 0)), (5, .at (.ptr 5 0)), (9, sv l), (10, sv r)] [(3, .cells 28 (sc.enc.map .val)), (5, .cells 60 (v.enc.map .val))] m h }),
   (34, { A := Sl × Sl × Bool, st := λ ⟨l, r, b⟩ => cD 132 135 [(5, .at (.ptr 5 0)), (9, sv l), (10, sv r), (11, bv b)] [(5, .cells 60 (v.enc.map .val))] m h })] [] false
abbrev G4 (a : Int -> Bool -> Prop) : Prop := ∃ (x : Int) (x1 : Bool), a x x1
attribute [push_cast] G4
def Hq (sc : bH) (kk : Sl) (v : eO) (m : MH) (h : PH) (K : CV -> MH -> PH -> Prop) : Prop :=
  rD v.op (λ o => ∃ (I : Int -> Prop), bE (arity o) 0 (bM K 120 m h) (G4 (λ a n => ∃ (e : Int), gH (fS v.left :: cV (uS (decide (arity o > 0))) (aF kk) = fS a :: cV (uS n) e) (!(lV a n e)) (bM K 120 m h) (G4 (λ a1 n1 => ∃ (e1 : Int), gH (fS v.right :: cV (uS (decide (arity o > 1))) (aF kk) = fS a1 :: cV (uS n1) e1) (!(lV a1 n1 e1)) (bM K 120 m h) (∃ (x : Int), aA (I x) (aK kk) (aA (eP 3) (eP 5) (aA (bJ (arity o) x) (bR sc) (aA (jQ v) (m = m) (bG h h))))))))) /\ ∀ (x : Int), I x -> Bk (λ v1 t => aA (cK (oN v) (oN v1)) (hU h t v1) (∀ (r : Bool), eJ (dQ r (dM (CB t.op t t.wher t.on))) (!r) (bM K 120 m h) (∃ (I1 : Int × Sl -> Prop), fB x 0 (aY (λ b o1 => aG (bC kk.a b o1) (0 <= v.left) (v.left < aF kk) (∃ (y : Sl), bI m h b (iW o1
 v.left 1) (cT y) /\ ∃ (x1 : Int × Sl), aA (I1 x1) (aK kk) (aA (eP 3) (eP 5) (aA (bJ x x1.1) (bW y x1.2) (aA (eQ UR) (bR sc) (aG (jQ v) (m = m) (h = h) True))))))) (∃ (x1 : Int × Sl), aA (I1 x1) (aK kk) (aA (eP 3) (eP 5) (aA (bJ x x1.1) (UR = wO x1.2) (aA (eQ UR) (bR sc) (aG (jQ v) (m = m) (h = h) True))))) /\ ∀ (x1 : Int × Sl), I1 x1 -> ∃ (I2 : Sl × Sl -> Prop), fB x1.1 1 (aY (λ b o1 => aG (bC kk.a b o1) (0 <= v.right) (v.right < aF kk) (∃ (y : Sl), bI m h b (iW o1 v.right 1) (cT y) /\ ∃ (x2 : Sl × Sl), aA (I2 x2) hJ (aA (eP 5) (bW x1.2 x2.1) (aA (bW y x2.2) (bR sc) (aA (jQ v) (m = m) (bG h h))))))) (∃ (x2 : Sl × Sl), aA (I2 x2) hJ (aA (eP 5) (bW x1.2 x2.1) (aA (UR = wO x2.2) (bR sc) (aA (jQ v) (m = m) (bG h h))))) /\ ∀ (x2 : Sl × Sl), I2 x2
 -> ∃ (I3 : Sl × Sl × Bool -> Prop), dT (v.op == 1) (bE v.table 0 (bM K 120 m h) (fI v.table (iR sc) (bM K 120 m h) (mX (λ v2 s => ∃ (t1 : Int), aG (cV (bK sc) v.table = cV (bK v2) t1) (eW h s v2) (iH s) (fM h (j5 s t1) (λ s1 h1 => gE K s1 m h1)))))) (v.op == 2) (gW (λ s t1 => ∃ (v2 : PV), vE (λ c p => ∃ (p1 : Pred), aA (dO x2.1 :: bX Fj v.where_.enc = dO s :: bX (dO t1) v2.enc) (aU h s c) (aA (aU h t1 p) (cX h p1 v2) (dE (fE c p p1) 0 (bM K (fE c p p1) m h) (∃ (x3 : Sl × Sl × Bool), aA (I3 x3) eT (aA (bW x2.1 x3.1) (bW x2.2 x3.2.1) (aA (vD x3.2.2) (jQ v) (aA (m = m) (h = h) True))))))))) (dT (v.op == 3) (∃ (s : Sl), xK (λ t1 a c => aG (dL (dO x2.1) v.columns = dL (dO s) t1) (aU h s a) (aU h t1 c) (fM h (Lb a c).1
 (λ s1 h1 => K (CV.tup (lY (dO s1) (CV.val (cZ (Lb a c).2)))) m h1)))) (v.op == 4) (gW (λ s t1 => xK (λ u a b => ∃ (o1 : List (Int × Int)), aA (dO x2.1 :: dL (dO x2.2) v.on = dO s :: dL (dO t1) u) (aU h s a) (aA (aU h t1 b) (gM h u o1) (aA (dX a) (dX b) (∀ (r1 : Bool), dQ r1 (Good (sO a b) o1) -> ∃ (x3 : Sl × Sl × Bool), aA (I3 x3) eT (aA (bW x2.1 x3.1) (bW x2.2 x3.2.1) (aA (gQ r1 x3.2.2) (jQ v) (aA (m = m) (h = h) True))))))))) (dT (v.op == 5) (gW (λ s t1 => xK (λ u a b => ∃ (o1 : List (Int × Int)), aA (dO x2.1 :: dL (dO x2.2) v.on = dO s :: dL (dO t1) u) (aU h s a) (aA (aU h t1 b) (gM h u o1) (aA (dX a) (dX b) (∀ (r1 : Bool), dQ r1 (Good (sO a b) o1) -> ∃ (x3 : Sl × Sl × Bool), aA (I3 x3) eT (aA (bW x2.1 x3.1) (bW x2.2 x3.2.1)
 (aA (gQ r1 x3.2.2) (jQ v) (aA (m = m) (h = h) True))))))))) (v.op == 6) (rC x2.1 x2.2 h (λ a b r1 => dQ r1 (a = b) -> ∃ (x3 : Sl × Sl × Bool), aA (I3 x3) eT (aA (bW x2.1 x3.1) (bW x2.2 x3.2.1) (aA (gQ r1 x3.2.2) (jQ v) (aA (m = m) (h = h) True))))) (dT (v.op == 7) (rC x2.1 x2.2 h (λ a b r1 => dQ r1 (a = b) -> ∃ (x3 : Sl × Sl × Bool), aA (I3 x3) eT (aA (bW x2.1 x3.1) (bW x2.2 x3.2.1) (aA (gQ r1 x3.2.2) (jQ v) (aA (m = m) (h = h) True))))) (v.op == 8) (rC x2.1 x2.2 h (λ a b r1 => dQ r1 (a = b) -> ∃ (x3 : Sl × Sl × Bool), aA (I3 x3) eT (aA (bW x2.1 x3.1) (bW x2.2 x3.2.1) (aA (gQ r1 x3.2.2) (jQ v) (aA (m = m) (h = h) True))))) (dT (v.op == 9) (∃ (s : Sl) (v2 : eO) (a : List Int) (t1 : Step), aA (bX (dO x2.1) v.enc = bX (dO s) v2.enc) (aU h s a)
 (aA (hU h t1 v2) (dX a) (∀ (r1 : Bool), dQ r1 (nF a t1.group t1.order t1.limit) -> ∃ (x3 : Sl × Sl × Bool), aA (I3 x3) eT (aA (bW x2.1 x3.1) (bW x2.2 x3.2.1) (aA (gQ r1 x3.2.2) (jQ v) (aA (m = m) (h = h) True)))))) (v.op == 10) (rC x2.1 x2.2 h (λ a b r1 => eJ (dQ r1 (a = b)) r1 (∃ (s : Sl) (v2 : eO) (a1 : List Int) (t1 : Step), aA (bX (dO x2.1) v.enc = bX (dO s) v2.enc) (aU h s a1) (aA (hU h t1 v2) (dX a1) (∀ (r2 : Bool), dQ r2 (nF a1 t1.group t1.order t1.limit) -> ∃ (x3 : Sl × Sl × Bool), aA (I3 x3) eT (aA (bW x2.1 x3.1) (bW x2.2 x3.2.1) (aA (gQ r2 x3.2.2) (jQ v) (aA (m = m) (h = h) True)))))) (∃ (x3 : Sl × Sl × Bool), aA (I3 x3) eT (aA (bW x2.1 x3.1) (bW x2.2 x3.2.1) (aA (Bg x3.2.2) (jQ v) (aA (m = m) (h = h) True)))))) (∃ (x3 : Sl × Sl ×
 Bool), aA (I3 x3) eT (aA (bW x2.1 x3.1) (bW x2.2 x3.2.1) (aA (vD x3.2.2) (jQ v) (aA (m = m) (h = h) True)))))))) /\ ∀ (x3 : Sl × Sl × Bool), I3 x3 -> dT (!x3.2.2) (bM K 120 m h) (v.op == 4) (bQ h 1 (mI (cT x3.1) (cT x3.2.1)) (λ s h1 => ∃ (s1 : Sl) (k : List (List Int)), aA (D2 (dO s) = D2 (dO s1)) (Wp h1 s1 k) (aA (k.length <= 10) (∀ (k1 : List Int), List.Mem k1 k -> xC k1 12) (fM h1 k.flatten (λ s2 h2 => gE K s2 m h2))))) (nC x3.1 h (λ l => fM h l (λ s h1 => gE K s m h1)))))))
theorem Vt (sc : bH) (kk : Sl) (v : eO) (m : MH) (h : PH) (K : CV -> MH -> PH -> Prop) : Hq sc kk v m h K = (cG (O3 sc kk v m h) Tryz.f72 (aE Tryz.f72) (entry Tryz.f72.ntmps [aS sc, cS kk, aT v] m h) K) := by kernel_rfl
theorem fD.rdAt {m : MH} {h : PH} {s : Sl} {E sz : Nat} {xs : List (List Value)} (r : fD m s E sz xs) {i : Nat} {e : List Value} (hi : xs[i]? = some e) : ∃ b o, s.a = some ⟨b, o, none⟩ /\ bI m h b (o + i * sz) e := by
 rcases r.ex with ⟨_, rfl⟩ | ⟨b, cap, cur, rfl, hm, _, _, _, ht⟩
 . simp at hi
 . refine ⟨b, 0, rfl, .lent cur E (0, 0) hm ?_⟩
   apply List.ext_getElem?
   intro j
   rw [List.getElem?_take]
   by_cases hj : j < e.length
   . rw [if_pos hj, List.getElem?_drop, Nat.zero_add]
     have h1 := jS r.rows.len hi j e[j] (List.getElem?_eq_getElem hj)
     rw [<- ht, List.getElem?_take] at h1
     split at h1
     . rw [h1, List.getElem?_eq_getElem hj]
     . cases h1
   . rw [if_neg hj, List.getElem?_eq_none (by omega)]
theorem J9 {kk : Sl} {ss : List Sl} (r : fD m kk 39 1 (ss.map eS)) (hs : Slices h ss ks) {a : Int} (h0 : 0 <= a) (h1 : a < ks.length) : ∃ b o sl, kk.a = some ⟨b, o, none⟩ /\ bI m h b (o + a.toNat * 1) [.slice sl.a sl.len sl.cap] /\ aU h sl (ks.getD a.toNat []) := by
 have hk : a.toNat < ks.length := by omega
 have hk' : a.toNat < ss.length := by rw [hs.1]; exact hk
 obtain ⟨b, o, e, rd⟩ := fD.rdAt (h := h) r (i := a.toNat) (e := eS ss[a.toNat]) (by rw [List.getElem?_map, List.getElem?_eq_getElem hk']; rfl)
 refine ⟨b, o, ss[a.toNat], e, rd, ?_⟩
 rw [List.getD_eq_getElem?_getD, List.getElem?_eq_getElem hk]
 exact hs.2 a.toNat _ _ (List.getElem?_eq_getElem hk') (List.getElem?_eq_getElem hk)
theorem Ep (h : ∀ k ∈ ks, k.length <= 12) (a : Int) (n : Bool) : (uR ks a n).length <= 12 := by
 unfold uR
 split
 . rw [List.getD_eq_getElem?_getD]
   cases e : ks[a.toNat]? with
   | none => simp
   | some k => exact h k (List.mem_of_getElem? e)
 . simp
open Classical in
theorem Vu {sc : bH} {kk : Sl} {v : eO} {s : oC} {ss : List Sl} {ks : List (List Int)} {t : Step} {m : MH} {h : PH} {K : CV -> MH -> PH -> Prop} (hs : eW h s sc) (h8 : iH s) (x : hU h t v) (hr : fD m kk 39 1 (ss.map eS)) (hss : Slices h ss ks) (h12 : ∀ k ∈ ks, k.length <= 12)
 (hT0 : ∀ r, fin r = sF s ks t -> KR K m h r) : Hq sc kk v m h K := by
 dsimp only [Hq, push_cast]
 have hT : RK K m h (sF s ks t) := ⟨hT0⟩
 clear hT0
 have kl : kk.len = ks.length := by
  have := fD.slen hr
  rw [List.length_map] at this
  rw [this, hss.1]
 have ex := x
 have htl := hs.tables.slen
 obtain ⟨op, ta, w, co, on, gr, od, li, le, ri⟩ := t
 obtain ⟨e0, e1, xw, xc, xo, xg, xs, e2, e3, e4⟩ := x
 simp only at e0 e1 xw xc xo xg xs e2 e3 e4
 subst e0 e1 e2 e3 e4
 have a12 := Ep h12 v.left (decide (arity v.op > 0))
 have b12 := Ep h12 v.right (decide (arity v.op > 1))
 have hstep0 : sF s ks ⟨v.op, v.table, w, co, on, gr, od, v.limit, v.left, v.right⟩ = if arity v.op < 0 \/ lV v.left (decide (arity v.op > 0)) ks.length = false \/ lV v.right (decide (arity v.op > 1)) ks.length = false then eX 120
  else if (fF s [] (.mk v.op v.table w co on gr od v.limit []) (uR ks v.left (decide (arity v.op > 0))) (uR ks v.right (decide (arity v.op > 1)))).2 = 100 then eX 120
  else fF s [] (.mk v.op v.table w co on gr od v.limit []) (uR ks v.left (decide (arity v.op > 0))) (uR ks v.right (decide (arity v.op > 1))) := rfl
 generalize hA : uR ks v.left (decide (arity v.op > 0)) = A at hstep0 a12
 generalize hB : uR ks v.right (decide (arity v.op > 1)) = B at hstep0 b12
 generalize sF s ks ⟨v.op, v.table, w, co, on, gr, od, v.limit, v.left, v.right⟩ = R at hT hstep0
 refine ⟨v.op, rfl, λ n => n = arity v.op /\ ¬ (arity v.op < 0 \/ lV v.left (decide (arity v.op > 0)) ks.length = false \/ lV v.right (decide (arity v.op > 1)) ks.length = false), aC (λ h1 => hT.err (by rw [hstep0, if_pos (.inl h1)]) (by decide) (.refl _)) (λ h1 => ⟨v.left, _, (kk.len : Int), rfl, aB (λ h2 => ?_) (λ h2 => ⟨v.right, _, (kk.len : Int), rfl, aB (λ h3 => ?_) (λ h3 => ⟨arity v.op, ⟨rfl, ?_⟩, MT⟩)⟩)⟩), ?_⟩
 . rw [kl] at h2
   exact hT.err (by rw [hstep0, if_pos (.inr (.inl (by simpa using h2)))]) (by decide) (.refl _)
 . rw [kl] at h3
   exact hT.err (by rw [hstep0, if_pos (.inr (.inr (by simpa using h3)))]) (by decide) (.refl _)
 . rw [kl] at h2 h3
   rintro (e | e | e)
   . exact h1 e
   . rw [e] at h2; cases h2
   . rw [e] at h3; cases h3
 rintro n ⟨rfl, hok⟩
 rw [if_neg hok] at hstep0
 have hok1 : ¬ arity v.op < 0 := λ e => hok (.inl e)
 refine ⟨v, _, rfl, ex, λ r hru => aB (λ h1 => hT.err ?_ (e := 120) (by decide) (.refl _)) (λ h1 => ?_)⟩
 . have hn : ¬ dM (.mk v.op v.table w co on gr od v.limit []) := λ e => by rw [hru.2 e] at h1; cases h1
   have e : fF s [] (.mk v.op v.table w co on gr od v.limit []) A B = eX 100 := by
    unfold fF
    exact if_pos (.inr hn)
   rw [hstep0, e]
   rfl
 have hu : dM (.mk v.op v.table w co on gr od v.limit []) := hru.1 (by simpa using h1)
 clear hru h1 r
 have nd : fF s [] (.mk v.op v.table w co on gr od v.limit []) A B = if v.op = 1 then (if 0 <= v.table /\ v.table < s.tables.length then lH (j5 s v.table) else eX 100)
  else if v.op = 2 then (if fE A [] w = 0 then lH A else eX (fE A [] w))
  else if v.op = 3 then (if co ≠ [] /\ Good (λ _ c => Df A c = true) co then lH (co.map λ c => A.getD c.toNat 0) else eX 100)
  else if v.op = 4 then (if Good (sO A B) on then lH (A ++ B) else eX 100)
  else if v.op = 5 then (if Good (sO A B) on then lH A else eX 100)
  else if v.op = 9 then (if nF A gr od v.limit then lH A else eX 100)
  else if v.op = 10 then (if A = B /\ nF A gr od v.limit then lH A else eX 100)
  else (if A = B then lH A else eX 100) := by
  unfold fF
  exact if_neg (λ e => e.elim hok1 λ e => e hu)
 have l100 : ∀ l, (lH l).2 ≠ 100 := λ l => by unfold lH; split <;> simp
 have okR : ∀ {l}, fF s [] (.mk v.op v.table w co on gr od v.limit []) A B = lH l -> R = lH l := fun {l} e => by rw [hstep0, e, if_neg (l100 l)]
 have badR : fF s [] (.mk v.op v.table w co on gr od v.limit []) A B = eX 100 -> R = eX 120 := λ e => by rw [hstep0, e]; rfl
 have errR : ∀ {e}, e ≠ 100 -> fF s [] (.mk v.op v.table w co on gr od v.limit []) A B = eX e -> R = eX e := fun {e} h0 e1 => by rw [hstep0, e1, if_neg (by simpa [eX] using h0)]
 clear hstep0
 refine ⟨λ ⟨n, l⟩ => n = arity v.op /\ aU h l A, aC (λ h1 => ?_) (λ h1 => ⟨(arity v.op, ⟨none, 0, 0⟩), ⟨rfl, ?_⟩, MT⟩), ?_⟩
 . have hf : lV v.left (decide (arity v.op > 0)) ks.length = true := by
    cases e : lV v.left (decide (arity v.op > 0)) ks.length with
    | true => rfl
    | false => exact (hok (.inr (.inl e))).elim
   unfold lV at hf
   rw [if_pos (decide_eq_true h1)] at hf
   simp only [Bool.and_eq_true, decide_eq_true_eq] at hf
   obtain ⟨b, o, sl, e, rd, hi⟩ := J9 hr hss hf.1 hf.2
   refine ⟨b, o, e, hf.1, by omega, sl, rd, (arity v.op, sl), ⟨rfl, ?_⟩, MT⟩
   rw [<- hA, uR, if_pos (decide_eq_true h1)]; exact hi
 . rw [<- hA, uR, if_neg (by simpa using h1)]; exact ⟨.nil _ _, by simp⟩
 rintro ⟨n, l⟩ ⟨rfl, hl⟩
 dsimp only
 refine ⟨λ ⟨l, r⟩ => aU h l A /\ aU h r B, aC (λ h1 => ?_) (λ h1 => ⟨(l, ⟨none, 0, 0⟩), ⟨hl, ?_⟩, MT⟩), ?_⟩
 . have hf : lV v.right (decide (arity v.op > 1)) ks.length = true := by
    cases e : lV v.right (decide (arity v.op > 1)) ks.length with
    | true => rfl
    | false => exact (hok (.inr (.inr e))).elim
   unfold lV at hf
   rw [if_pos (decide_eq_true h1)] at hf
   simp only [Bool.and_eq_true, decide_eq_true_eq] at hf
   obtain ⟨b, o, sl, e, rd, hi⟩ := J9 hr hss hf.1 hf.2
   refine ⟨b, o, e, hf.1, by omega, sl, rd, (l, sl), ⟨hl, ?_⟩, MT⟩
   rw [<- hB, uR, if_pos (decide_eq_true h1)]; exact hi
 . rw [<- hB, uR, if_neg (by simpa using h1)]; exact ⟨.nil _ _, by simp⟩
 clear hl l
 rintro ⟨l, r⟩ ⟨hl, hrr⟩
 dsimp only
 have good : ∀ b : Bool, (b = true -> R = lH (if v.op = 4 then A ++ B else A)) -> (b = false -> R = eX 120) -> ∃ x : Sl × Sl × Bool, ((λ ⟨l, r, b⟩ => aU h l A /\ aU h r B /\ (b = true -> R = lH (if v.op = 4 then A ++ B else A)) /\ (b = false -> R = eX 120) : Sl × Sl × Bool -> Prop)) x /\ (l, r, b) = x := λ b g1 g2 => ⟨_, ⟨hl, hrr, g1, g2⟩, rfl⟩
 refine ⟨λ ⟨l, r, b⟩ => aU h l A /\ aU h r B /\ (b = true -> R = lH (if v.op = 4 then A ++ B else A)) /\ (b = false -> R = eX 120), ?_, ?_⟩
 . refine aB (λ c1 => ?_) (λ c1 => aB (λ c2 => ?_) (λ c2 => aB (λ c3 => ?_) (λ c3 => ?_)))
   . have c1 : v.op = 1 := by simpa using c1
     rw [if_pos c1] at nd
     refine aC (λ h1 => hT.err (badR (by rw [nd, if_neg (by omega)])) (by decide) (.refl _)) (λ h1 => aC (λ h2 => hT.err (badR (by rw [nd, if_neg (by omega)])) (by decide) (.refl _)) (λ h2 => ⟨sc, s, v.table, rfl, hs, h8, λ sl h' hle hi => hT.ok (okR (by rw [nd, if_pos (by omega)])) hle hi⟩))
   . have c1 : ¬ v.op = 1 := by simpa using c1
     have c2 : v.op = 2 := by simpa using c2
     rw [if_neg c1, if_pos c2] at nd
     have hne : fE A [] w ≠ 100 := by unfold fE; repeat' split
                                      all_goals decide
     refine ⟨l, ⟨none, 0, 0⟩, v.where_, A, [], w, rfl, hl, ⟨.nil _ _, by simp⟩, xw, aB (λ h1 => ?_) (λ h1 => ⟨(l, r, true), ⟨hl, hrr, λ _ => ?_, λ e => (by cases e)⟩, MT⟩)⟩
     . have h1 : fE A [] w ≠ 0 := by simpa using h1
       exact hT.err (errR hne (by rw [nd, if_neg h1])) h1 (.refl _)
     . rw [if_neg (by omega)]
       exact okR (by rw [nd, if_pos (by simpa using h1)])
   . have c1 : ¬ v.op = 1 := by simpa using c1
     have c2 : ¬ v.op = 2 := by simpa using c2
     have c3 : v.op = 3 := by simpa using c3
     rw [if_neg c1, if_neg c2, if_pos c3] at nd
     refine ⟨l, v.columns, A, co, rfl, hl, xc, ?_⟩
     unfold Lb
     split
     . rename_i e
       have hR : R = lH (co.map λ c => A.getD c.toNat 0) := okR (by rw [nd, if_pos e])
       refine hT.all _ ?_
       rw [hR]
       unfold lH
       split
       . rename_i h1
         show fin (_, 0) = _
         rw [OB, lH, if_pos h1]
       . exact Kg (e := 2) (by decide)
     . rename_i e
       refine hT.all _ ?_
       rw [badR (by rw [nd, if_neg e])]
       exact Kg (by decide)
   have c1 : ¬ v.op = 1 := by simpa using c1
   have c2 : ¬ v.op = 2 := by simpa using c2
   have c3 : ¬ v.op = 3 := by simpa using c3
   rw [if_neg c1, if_neg c2, if_neg c3] at nd
   refine aB (λ c4 => ?_) (λ c4 => aB (λ c5 => ?_) (λ c5 => ?_))
   . have c4 : v.op = 4 := by simpa using c4
     rw [if_pos c4] at nd
     refine ⟨l, r, v.on, A, B, on, rfl, hl, hrr, xo, by omega, by omega, λ z hz => ⟨(l, r, z), ⟨hl, hrr, λ e => ?_, λ e => ?_⟩, MT⟩⟩
     . rw [if_pos c4]; exact okR (by rw [nd, if_pos (hz.1 e)])
     . exact badR (by rw [nd, if_neg (λ g => by rw [hz.2 g] at e; cases e)])
   . have c4 : ¬ v.op = 4 := by simpa using c4
     have c5 : v.op = 5 := by simpa using c5
     rw [if_neg c4, if_pos c5] at nd
     refine ⟨l, r, v.on, A, B, on, rfl, hl, hrr, xo, by omega, by omega, λ z hz => ⟨(l, r, z), ⟨hl, hrr, λ e => ?_, λ e => ?_⟩, MT⟩⟩
     . rw [if_neg c4]; exact okR (by rw [nd, if_pos (hz.1 e)])
     . exact badR (by rw [nd, if_neg (λ g => by rw [hz.2 g] at e; cases e)])
   have c4 : ¬ v.op = 4 := by simpa using c4
   have c5 : ¬ v.op = 5 := by simpa using c5
   rw [if_neg c4, if_neg c5] at nd
   simp only [if_neg c4]
   have set_case : ¬ v.op = 9 -> ¬ v.op = 10 -> ∀ z : Bool, (z = true ↔ A = B) -> ∃ x : Sl × Sl × Bool, (aU h x.1 A /\ aU h x.2.1 B /\ (x.2.2 = true -> R = lH A) /\ (x.2.2 = false -> R = eX 120)) /\ x = (l, r, z) := λ n9 n10 z hz => by
    rw [if_neg n9, if_neg n10] at nd
    exact ⟨(l, r, z), ⟨hl, hrr, λ e => okR (by rw [nd, if_pos (hz.1 e)]), λ e => badR (by rw [nd, if_neg (λ g => by rw [hz.2 g] at e; cases e)])⟩, rfl⟩
   have doset : ¬ v.op = 9 -> ¬ v.op = 10 -> ∃ (s : Sl) (t : Sl) (a : List Int) (b : List Int), [dO l, dO r] = [dO s, dO t] /\ aU h s a /\ aU h t b /\ ∀ z : Bool, (z = true ↔ a = b) -> ∃ x : Sl × Sl × Bool, (aU h x.1 A /\ aU h x.2.1 B /\ (x.2.2 = true -> R = lH A) /\ (x.2.2 = false -> R = eX 120)) /\ x = (l, r, z) := λ n9 n10 => ⟨l, r, A, B, rfl, hl, hrr, set_case n9 n10⟩
   refine aB (λ c6 => ?_) (λ c6 => aB (λ c7 => ?_) (λ c7 => aB (λ c8 => ?_) (λ c8 => ?_)))
   . have c6 : v.op = 6 := by simpa using c6
     refine ⟨l, r, A, B, rfl, hl, hrr, λ z hz => ?_⟩
     obtain ⟨_, g, rfl⟩ := set_case (by omega) (by omega) z hz
     exact ⟨(l, r, z), g, MT⟩
   . have c7 : v.op = 7 := by simpa using c7
     refine ⟨l, r, A, B, rfl, hl, hrr, λ z hz => ?_⟩
     obtain ⟨_, g, rfl⟩ := set_case (by omega) (by omega) z hz
     exact ⟨(l, r, z), g, MT⟩
   . have c8 : v.op = 8 := by simpa using c8
     refine ⟨l, r, A, B, rfl, hl, hrr, λ z hz => ?_⟩
     obtain ⟨_, g, rfl⟩ := set_case (by omega) (by omega) z hz
     exact ⟨(l, r, z), g, MT⟩
   clear set_case doset good
   refine aB (λ c9 => ?_) (λ c9 => aB (λ c10 => ?_) (λ c10 => ?_))
   . have c9 : v.op = 9 := by simpa using c9
     rw [if_pos c9] at nd
     refine ⟨l, v, A, _, rfl, hl, ex, by omega, λ z hz => ⟨(l, r, z), ⟨hl, hrr, λ e => okR (by rw [nd, if_pos (hz.1 e)]), λ e => badR (by rw [nd, if_neg (λ g => by rw [hz.2 g] at e; cases e)])⟩, MT⟩⟩
   . have c9 : ¬ v.op = 9 := by simpa using c9
     have c10 : v.op = 10 := by simpa using c10
     rw [if_neg c9, if_pos c10] at nd
     refine ⟨l, r, A, B, rfl, hl, hrr, λ y hy => aB (λ y1 => ⟨l, v, A, _, rfl, hl, ex, by omega, λ z hz => ⟨(l, r, z), ⟨hl, hrr, λ e => okR (by rw [nd, if_pos ⟨hy.1 y1, hz.1 e⟩]), λ e => badR (by rw [nd, if_neg (λ g => by rw [hz.2 g.2] at e; cases e)])⟩, MT⟩⟩) (λ y1 => ⟨(l, r, false), ⟨hl, hrr, (λ e => (by cases e)), λ e => badR (by rw [nd, if_neg (λ g => by rw [hy.2 g.1] at y1; cases y1)])⟩, MT⟩)⟩
   . exfalso
     have c6 : ¬ v.op = 6 := by simpa using c6
     have c7 : ¬ v.op = 7 := by simpa using c7
     have c8 : ¬ v.op = 8 := by simpa using c8
     have c9 : ¬ v.op = 9 := by simpa using c9
     have c10 : ¬ v.op = 10 := by simpa using c10
     refine hok1 ?_
     unfold arity
     simp [c1, c2, c3, c4, c5, c6, c7, c8, c9, c10]
 clear good hl hrr l r
 rintro ⟨l, r, b⟩ ⟨hl, hrr, g1, g2⟩
 dsimp only at g1 g2 ⊢
 refine aB (λ h1 => hT.err (g2 (by simpa using h1)) (by decide) (.refl _)) (λ h1 => ?_)
 have g := g1 (by simpa using h1)
 refine aB (λ c4 => λ sl h' hle hrow => ?_) (λ c4 => ⟨l, A, rfl, hl, λ s' h' hle hi => ?_⟩)
 . rw [if_pos (by simpa using c4)] at g
   refine ⟨sl, [A, B], rfl, ⟨⟨[l, r], hrow, rfl, λ i k e => ?_⟩, by simp⟩, by simp, λ k hk => ?_, λ sl2 h2 le2 hi => hT.ok g (hle.trans le2) (by simpa using hi)⟩
   . match i, e with
     | 0, e => simp at e; subst e; exact ⟨l, rfl, hl.mono hle⟩
     | 1, e => simp at e; subst e; exact ⟨r, rfl, hrr.mono hle⟩
     | i + 2, e => simp at e
   . rcases List.mem_cons.1 hk with rfl | hk
     . exact a12
     . simp at hk; subst hk; exact b12
 . rw [if_neg (by simpa using c4)] at g
   exact hT.ok g hle hi
theorem Q1 : Sound Tryz.prog 72 H2 := by
 refine aI (fn := Tryz.f72) (c := aE Tryz.f72) Tryz.func72 rfl (by decide) ?_
 rintro cvs m h K ⟨sc, kk, v, s, ss, ks, t, rfl, hs, h8, x, hr, hss, h12, hT⟩
 refine ⟨O3 sc kk v m h, rfl, aD IL (aD QN (aD QL (aD EZ (aD EY (aD QK (aD QJ (aD CJ (aD N1 (aD HI (aD EX aH)))))))))), ?_⟩
 rw [<- Vt sc kk v m h K]
 exact Vu hs h8 x hr hss h12 hT
noncomputable def qD (s : oC) : List (List Int) -> List Step -> List (List Int) × Int
 | ks, [] => (ks, 0)
 | ks, t :: ts => if (sF s ks t).2 = 0 then qD s (ks ++ [(sF s ks t).1]) ts else (ks, (sF s ks t).2)
noncomputable def fJ (s : oC) (ts : List Step) (rs : List Int) : Int :=
 if cN s ≠ 0 then cN s else if 1024 < ts.length \/ 32 < rs.length then 2 else if (qD s [] ts).2 ≠ 0 then (qD s [] ts).2 else if rs.all (λ r => decide (0 <= r) && decide (r < ts.length)) = true then 0 else 120
structure gA (h : PH) (p r : Sl) (ts : List Step) (rs : List Int) : Prop where
 steps : ∃ vs, cW h p 22 (vs.map eO.enc) /\ Steps h vs ts
 roots : aU h r rs
 len : ts.length <= 1000000000
def BG : Vc.Spec := λ cvs m h K => ∃ sc p r s ts rs, cvs = [aS sc, M3 p r] /\ eW h s sc /\ gA h p r ts rs /\ ∀ kk, K (.tup [cS kk, cI (fJ s ts rs)]) m h
noncomputable def Ph (sc : bH) (p r : Sl) : Ctx :=
 zD [(31, qA), (72, H2)]
  [(8, { A := Nat × Sl × MH × PH, st := λ ⟨i, kk, m, h⟩ => cD 76 78 [(2, .at (.ptr 2 0)), (3, .at (.ptr 3 0)), (7, sv kk), (34, sv p), (35, iv p.len), (36, iv i)] [(2, .cells 28 (sc.enc.map .val)), (3, .cells 49 [.val (.slice p.a p.len p.cap), .val (.slice r.a r.len r.cap)])] m h }),
   (18, { A := Nat × Sl × MH × PH, st := λ ⟨i, kk, m, h⟩ => cD 76 78 [(3, .at (.ptr 3 0)), (7, sv kk), (59, sv r), (60, iv r.len), (61, iv i)] [(3, .cells 49 [.val (.slice p.a p.len p.cap), .val (.slice r.a r.len r.cap)])] m h })] [] [] [1108, 2108] [] false
abbrev Hd (a : (Nat × Sl × MH × PH -> Prop) -> (Nat × Sl × MH × PH -> Nat) -> Prop) : Prop := ∃ (x : Nat × Sl × MH × PH -> Prop) (x1 : Nat × Sl × MH × PH -> Nat), a x x1
abbrev Hb (a b : (Nat × Sl × MH × PH) -> Prop) : Prop := (∃ (x : Nat × Sl × MH × PH), a x) /\ ∀ (x : Nat × Sl × MH × PH), b x
noncomputable abbrev lD (a : Nat × Sl × MH × PH) : Sl := a.2.1
abbrev gU (a b : Sl) : Prop := eQ (oQ 49 (kJ (gI a) (gI b)))
noncomputable abbrev gB (a : Nat × Sl × MH × PH) : Nat -> Nat -> Option Value := a.2.2.2
noncomputable abbrev jI (a : Nat × Sl × MH × PH) : Nat -> Option Obj := a.2.2.1
abbrev J0 (a : (List Sl) -> (List (List Int)) -> Prop) : Prop := ∃ (x : List Sl) (x1 : List (List Int)), a x x1
attribute [push_cast] Hd Hb lD gU gB jI J0
def Hv (sc : bH) (p r : Sl) (m : MH) (h : PH) (K : CV -> MH -> PH -> Prop) : Prop :=
  mX (λ v s => aA (cK (bK sc) (bK v)) (eW h s v) (lT (cN s != 0) (bM K (cN s) m h) (aF p) 1024 (bM K 2 m h) (fB (aF r) 32 (bM K 2 m h) (aA (aW 0) (aW (aF p)) (aA (kT (aF p * 24)) (kT (aF p)) (mK (λ s1 m1 => nJ m m1 h s1 39 1 [] -> Hd (λ I m2 => Hb (λ x => aA (I x) fL (aA (eP 3) (bW s1 (lD x)) (aA (aK p) (cF p) (aA (bO x.1) (bR sc) (aG (gU p r) (bV m1 x.2.2) (h = gB x) True))))) (λ x => I x -> bE (↑x.1 : Int) (aF p) (aY (λ b o => aG (bC p.a b o) (0 <= (↑x.1 : Int)) ((↑x.1 : Int) < aF p) (∃ (y : eO), bI (jI x) (gB x) b (bZ o x.1 22) y.enc /\ xA (λ s2 k => ∃ (v1 : eO) (s3 : oC), J0 (λ s4 k1 => ∃ (t : Step), aA (bK sc :: bX (dO (lD x)) y.enc = bK s2 :: bX (dO k) v1.enc)
 (eW (gB x) s3 s2) (aA (iH s3) (hU (gB x) t v1) (aG (fD (jI x) k 39 1 (List.map eS s4)) (Slices (gB x) s4 k1) (∀ (k2 : List Int), List.Mem k2 k1 -> xC k2 12) (∀ (r1 : List Int × Int), fin r1 = sF s3 k1 t -> fM (gB x) r1.1 (λ s5 h1 => lT (r1.2 != 0) (bM K r1.2 (jI x) h1) (aF s5) 12 (bM K 2 (jI x) h1) (∃ (x1 : List (List Value)), aG (fD (jI x) (fK (lD x)) 39 1 x1) (fR (iV x1 1 * 24)) (kR x1) (mK (λ s6 m3 => jU (jI x) m3 (fK (lD x)) s6 39 1 (iK x1 (cT s5)) -> ∃ (x2 : Nat × Sl × MH × PH), aA (I x2) (m2 x2 < m2 x) (aA (eP 2) (eP 3) (aA (bW s6 (lD x2)) (aK p) (aA (cF p) (aZ x.1 1 x2.1) (kN (bR sc) (gU p r) (bV m3 x2.2.2) h1 (gB x2))))))))))))))))) (Hd (λ I1 m3 => Hb (λ x1 => aA (I1 x1) hJ (aA (bW
 (lD x) (lD x1)) (aK r) (aA (cF r) (bO x1.1) (aA (gU p r) (bV (jI x) x1.2.2) (bG (gB x) (gB x1)))))) (λ x1 => I1 x1 -> bE (↑x1.1 : Int) (aF r) (aY (λ b o => aG (bC r.a b o) (0 <= (↑x1.1 : Int)) ((↑x1.1 : Int) < aF r) (∃ (y : Int), bI (jI x1) (gB x1) b (bZ o x1.1 1) (bT y) /\ bE y 0 (bM K 120 (jI x1) (gB x1)) (fI y (aF p) (bM K 120 (jI x1) (gB x1)) (∃ (x2 : Nat × Sl × MH × PH), aA (I1 x2) (m3 x2 < m3 x1) (aA (eP 3) (bW (lD x1) (lD x2)) (aA (aK r) (cF r) (aA (aZ x1.1 1 x2.1) (gU p r) (cQ (bV (jI x1) x2.2.2) (gB x1) (gB x2)))))))))) (gE K (lD x1) (jI x1) (gB x1))))))))))))))
theorem VL (sc : bH) (p r : Sl) (m : MH) (h : PH) (K : CV -> MH -> PH -> Prop) : Hv sc p r m h K = (cG (Ph sc p r) Tryz.f44 (aE Tryz.f44) (entry Tryz.f44.ntmps [aS sc, M3 p r] m h) K) := by kernel_rfl
theorem Wu (h : cN s = 0) : iH s := λ t ht => by
 obtain ⟨i, hi⟩ := List.mem_iff_getElem?.1 ht
 have hl : zI s := Classical.byContradiction λ hn => by rw [oH hn] at h; cases h
 exact (hl.2 i t hi).1
structure KC (m0 m : MH) (h : PH) (kk : Sl) (ks : List (List Int)) : Prop where
 sub : Sub m0 m
 fresh : ∀ b i, kk.a = some ⟨b, i, none⟩ -> m0 b = none
 ex : ∃ ss, fD m kk 39 1 (ss.map eS) /\ Slices h ss ks
 le12 : ∀ k ∈ ks, k.length <= 12
theorem KC.nil (m0 : MH) (h : PH) : KC m0 m0 h ⟨none, 0, 0⟩ [] := ⟨Sub.refl _, (λ b i e => (by cases e)), ⟨[], ⟨⟨λ _ h => by simp at h, λ _ h => by simp at h⟩, .inl ⟨rfl, rfl⟩⟩, rfl, λ j s k e => by simp at e⟩, λ k hk => by simp at hk⟩
theorem KC.new {s : Sl} (x : nJ m m' h s 39 1 []) : KC m m' h s [] := by
 refine ⟨λ b o e => ?_, λ b i e => (x.fresh b i e).m_, ⟨[], x.row, rfl, λ j s k e => by simp at e⟩, λ k hk => by simp at hk⟩
 rw [x.other b (λ i e2 => by have := (x.fresh b i e2).m_; rw [e] at this; cases this)]; exact e
theorem KC.grown {m0 : MH} {kk sl : Sl} {k : List Int} (r : KC m0 m h kk ks) (le : PH.le h h') (hi : aU h' sl k) (hk : k.length <= 12) :
 ∃ xs, fD m ⟨kk.a, kk.len, kk.cap⟩ 39 1 xs /\ xs.length = ks.length /\ ∀ s' m', jU m m' ⟨kk.a, kk.len, kk.cap⟩ s' 39 1 (xs ++ [[.slice sl.a sl.len sl.cap]]) -> KC m0 m' h' s' (ks ++ [k]) := by
 obtain ⟨ss, h1, h2⟩ := r.ex
 refine ⟨_, h1, by rw [List.length_map, h2.1], λ s' m' g => ⟨λ b o e => g.other b o (r.sub b o e) (λ i e2 => ?_), λ b i e => ?_, ⟨ss ++ [sl], ?_, (h2.mono le).snoc hi⟩, λ x hx => ?_⟩⟩
 . rw [r.fresh b i e2] at e; cases e
 . rcases g.fresh b i e with e2 | ⟨j, e2⟩
   . cases e3 : m0 b with
     | none => rfl
     | some o => rw [r.sub b o e3] at e2; cases e2
   . exact r.fresh b j e2
 . rw [List.map_append]; exact g.row
 . rcases List.mem_append.1 hx with h3 | h3
   . exact r.le12 x h3
   . simp at h3; subst h3; exact hk
theorem Steps.at' {p : Sl} {vs : List eO} (r : cW h p 22 (vs.map eO.enc)) (s : Steps h vs ts) (hi : ts[i]? = some t) : ∃ b o v, p.a = some ⟨b, o, none⟩ /\ cL h b (o + i * 22) (eO.enc v) /\ hU h t v := by
 obtain ⟨v, h1, h2⟩ := s.2 i t hi
 obtain ⟨b, o, e, k⟩ := r.get (i := i) (e := eO.enc v) (by simp [h1])
 exact ⟨b, o, v, e, k, h2⟩
theorem Steps.slen' {p : Sl} {vs : List eO} (r : cW h p 22 (vs.map eO.enc)) (s : Steps h vs ts) : p.len = ts.length := by
 have := r.len
 simp at this
 rw [this, s.1]
theorem gA.at {p : Sl} (x : gA h p r ts rs) (hi : ts[i]? = some t) : ∃ b o v, p.a = some ⟨b, o, none⟩ /\ cL h b (o + i * 22) (eO.enc v) /\ hU h t v := by
 obtain ⟨vs, h1, h2⟩ := x.steps
 exact Steps.at' h1 h2 hi
theorem gA.slen {p : Sl} (x : gA h p r ts rs) : p.len = ts.length /\ p.len <= p.cap := by
 obtain ⟨vs, h1, h2⟩ := x.steps
 exact ⟨Steps.slen' h1 h2, h1.cap⟩
theorem gA.mono {p : Sl} (x : gA h p r ts rs) (le : PH.le h h') : gA h' p r ts rs := by
 obtain ⟨vs, h1, h2, h3⟩ := x.steps
 exact ⟨⟨vs, h1.mono le, h2, λ i t e => let ⟨v, e1, e2⟩ := h3 i t e; ⟨v, e1, e2.mono le⟩⟩, x.roots.mono le, x.len⟩
theorem QH (r : List Int × Int) : (r.2 ≠ 0 /\ fin r = eX r.2) \/ (r.2 = 0 /\ 12 < r.1.length /\ fin r = eX 2) \/ (r.2 = 0 /\ r.1.length <= 12 /\ fin r = (r.1, 0)) := by
 unfold fin
 by_cases h : r.2 = 0
 . rw [if_pos h]
   unfold lH
   by_cases h2 : r.1.length <= 12
   . rw [if_pos h2]; exact .inr (.inr ⟨h, h2, rfl⟩)
   . rw [if_neg h2]; exact .inr (.inl ⟨h, by omega, rfl⟩)
 . rw [if_neg h]; exact .inl ⟨h, rfl⟩
theorem C7 {s : oC} {ts : List Step} {rs : List Int} (h1 : cN s = 0) (h2 : ¬ (1024 < ts.length \/ 32 < rs.length)) : fJ s ts rs = if (qD s [] ts).2 ≠ 0 then (qD s [] ts).2 else if rs.all (λ r => decide (0 <= r) && decide (r < ts.length)) = true then 0 else 120 := by
 unfold fJ
 rw [if_neg (by simpa using h1), if_neg h2]
theorem FE (hi : ts[i]? = some t) : qD s ks (ts.drop i) = if (sF s ks t).2 = 0 then qD s (ks ++ [(sF s ks t).1]) (ts.drop (i + 1)) else (ks, (sF s ks t).2) := by
 have hl := (List.getElem?_eq_some_iff.1 hi)
 obtain ⟨hl, e⟩ := hl
 rw [List.drop_eq_getElem_cons hl, e]
 rfl
theorem Ri : Sound Tryz.prog 44 BG := by
 refine gC (fn := Tryz.f44) (c := aE Tryz.f44) Tryz.func44 rfl (by decide) ?_
 rintro cvs m h K ⟨sc, p, r, s, ts, rs, rfl, hs, x, hK⟩
 refine ⟨Ph sc p r, rfl, aD E3 (aD Q1 aH), ?_⟩
 rw [<- VL sc p r m h _]
 show Hv sc p r m h (lZ h K)
 dsimp only [Hv, push_cast]
 have pl := x.slen.1
 have rl := x.roots.slen
 have tlen := x.len
 have rlen := x.roots.len
 have done : ∀ {mx : MH} {hx : PH} {e : Int} {kk : Sl}, Sub m mx -> PH.le h hx -> fJ s ts rs = e -> lZ h K (.tup [cS kk, cI e]) mx hx := fun {mx hx e kk} h1 h2 h3 => .out h1 h2 (by rw [<- h3]; exact hK kk)
 refine ⟨sc, s, rfl, hs, aB (λ h1 => ?_) (λ h1 => ?_)⟩
 . have h1 : cN s ≠ 0 := by simpa using h1
   exact done (kk := ⟨none, 0, 0⟩) (Sub.refl m) (.refl _) (by unfold fJ; rw [if_pos h1])
 have h1 : cN s = 0 := by simpa using h1
 refine aC (λ h2 => ?_) (λ h2 => aC (λ h3 => ?_) (λ h3 => ⟨by omega, by omega, by omega, by omega, λ k0 m1 hk0 => ?_⟩))
 . exact done (kk := ⟨none, 0, 0⟩) (Sub.refl m) (.refl _) (by unfold fJ; rw [if_neg (by simpa using h1), if_pos (by omega)])
 . exact done (kk := ⟨none, 0, 0⟩) (Sub.refl m) (.refl _) (by unfold fJ; rw [if_neg (by simpa using h1), if_pos (by omega)])
 have hpe := C7 (s := s) (ts := ts) (rs := rs) h1 (by omega)
 refine ⟨λ ⟨i, kk, mx, hx⟩ => i <= ts.length /\ PH.le h hx /\ ∃ ks, KC m mx hx kk ks /\ ks.length = i /\ qD s ks (ts.drop i) = qD s [] ts, λ ⟨i, _⟩ => ts.length - i, ⟨(0, k0, m1, h), ⟨by omega, .refl _, [], .new hk0, rfl, rfl⟩, MT⟩, ?_⟩
 rintro ⟨i, kk, mx, hx⟩ ⟨hi, hle, ks, hkr, hkl, hst⟩
 dsimp only
 refine aC (λ hlt => ?_) (λ hge => ?_)
 . obtain ⟨t, ht⟩ := fP pl hlt
   obtain ⟨b, o, v, e, rd, rv⟩ := (x.mono hle).at ht
   obtain ⟨ss, hm, hss⟩ := hkr.ex
   rw [FE ht] at hst
   refine ⟨b, o, e, by omega, hlt, v, .imm rd, sc, kk, v, s, ss, ks, t, rfl, hs.mono hle, Wu h1, rv, hm, hss, hkr.le12, λ q hq sl h' le' hi' => ?_⟩
   have hsl := hi'.slen
   rcases QH q with ⟨c1, c2⟩ | ⟨c1, c2, c3⟩ | ⟨c1, c2, c3⟩
   . rw [hq] at c2
     rw [c2, if_neg (by simpa [eX] using c1)] at hst
     refine aB (λ _ => done (kk := ⟨none, 0, 0⟩) hkr.sub (hle.trans le') ?_) (λ h4 => ?_)
     . rw [hpe, <- hst, if_pos (by simpa [eX] using c1)]; rfl
     . exact absurd (by simpa using h4) c1
   . rw [hq] at c3
     rw [c3, if_neg (by simp [eX])] at hst
     refine aB (λ h4 => absurd c1 (by simpa using h4)) (λ _ => aC (λ _ => done (kk := ⟨none, 0, 0⟩) hkr.sub (hle.trans le') ?_) (λ h4 => by omega))
     rw [hpe, <- hst, if_pos (by simp [eX])]; rfl
   . rw [hq] at c3
     rw [c3, if_pos rfl] at hst
     refine aB (λ h4 => absurd c1 (by simpa using h4)) (λ _ => aC (λ h4 => by omega) (λ _ => ?_))
     obtain ⟨xs, hxs, hxl, hg⟩ := hkr.grown le' hi' c2
     exact ⟨xs, hxs, by omega, by omega, λ s' m' g => ⟨(i + 1, s', m', h'), ⟨by show i + 1 <= ts.length; omega, hle.trans le', ks ++ [q.1], hg s' m' g, by simp [hkl], hst⟩, by show ts.length - (i + 1) < ts.length - i; omega, MT⟩⟩
 have hd : ts.drop i = [] := List.drop_of_length_le (by omega)
 rw [hd] at hst
 have h0 : (qD s [] ts).2 = 0 := by rw [<- hst]; rfl
 rw [h0, if_neg (by decide)] at hpe
 clear hst hd
 refine ⟨λ ⟨j, k', m', h'⟩ => j <= rs.length /\ k' = kk /\ m' = mx /\ h' = hx /\ (rs.take j).all (λ r => decide (0 <= r) && decide (r < ts.length)) = true, λ ⟨j, _⟩ => rs.length - j, ⟨(0, kk, mx, hx), ⟨by omega, rfl, rfl, rfl, by simp⟩, MT⟩, ?_⟩
 rintro ⟨j, kk, mx, hx⟩ ⟨hj, rfl, rfl, rfl, hall⟩
 dsimp only
 refine aC (λ hlt => ?_) (λ hge => ?_)
 . obtain ⟨q, hq⟩ := fP rl hlt
   obtain ⟨b, o, e, rd⟩ := (x.roots.mono hle).at' hq
   have bad : ¬ (0 <= q /\ q < ts.length) -> fJ s ts rs = 120 := λ hn => by
    rw [hpe, if_neg]
    intro e2
    have := List.all_eq_true.1 e2 q (List.mem_of_getElem? hq)
    simp only [Bool.and_eq_true, decide_eq_true_eq] at this
    exact hn this
   refine ⟨b, o, e, by omega, hlt, q, .imm rd, aC (λ h4 => done (kk := ⟨none, 0, 0⟩) hkr.sub hle (bad (by omega))) (λ h4 => aC (λ h5 => done (kk := ⟨none, 0, 0⟩) hkr.sub hle (bad (by omega))) (λ h5 => ⟨(j + 1, kk, mx, hx), ⟨by show j + 1 <= rs.length; omega, rfl, rfl, rfl, ?_⟩, by show rs.length - (j + 1) < rs.length - j; omega, MT⟩))⟩
   rw [uM hq, hall, Bool.true_and, Bool.and_eq_true]
   exact ⟨decide_eq_true (by omega), decide_eq_true (by omega)⟩
 . rw [List.take_of_length_le (by omega)] at hall
   exact done hkr.sub hle (by rw [hpe, if_pos hall])
def eY (t : Step) : List Int := [t.left, t.right].take (arity t.op).toNat
def KH : Query := .mk 0 0 gD [] [] [] [] 0 []
def yK : Nat -> List Step -> Nat -> Query
 | 0, _, _ => KH
 | n + 1, ts, i => match ts[i]? with
  | none => KH
  | some t => .mk t.op t.table t.wher t.columns t.on t.group t.order t.limit ((eY t).map λ a => yK n ts a.toNat)
def dC (ts : List Step) (i : Nat) : Query := yK (i + 1) ts i
def mB (ts : List Step) : Prop := ∀ (i : Nat) t, ts[i]? = some t -> 0 <= arity t.op /\ ∀ a ∈ eY t, 0 <= a /\ a < i
noncomputable def jL (s : oC) (ts : List Step) (rs : List Int) (i : Int) : Int := if fJ s ts rs ≠ 0 then fJ s ts rs else if i < 0 \/ (ts.length : Int) <= i then 1 else if lK (dC ts i.toNat) = true then 0 else 2
def Fq : Vc.Spec := λ cvs m h K => ∃ v t, cvs = [aT v] /\ hU h t v /\ 0 <= arity t.op /\ ∀ sl h', PH.le h h' -> aU h' sl (eY t) -> K (cS sl) m h'
def Gx (N : Nat) : Vc.Spec := λ cvs m h K => ∃ p r ts rs, ∃ i : Nat, cvs = [M3 p r, cI i] /\ gA h p r ts rs /\ mB ts /\ i < ts.length /\ i < N /\ ∀ v h', PH.le h h' -> cC h' (dC ts i) v -> K (aQ v) m h'
def Gy : Vc.Spec := λ cvs m h K => ∃ p r ts rs, ∃ i : Nat, cvs = [M3 p r, cI i] /\ gA h p r ts rs /\ mB ts /\ i < ts.length /\ ∀ v h', PH.le h h' -> cC h' (dC ts i) v -> K (aQ v) m h'
def BH : Vc.Spec := λ cvs m h K => ∃ sc p r s ts rs i, cvs = [aS sc, M3 p r, cI i] /\ eW h s sc /\ gA h p r ts rs /\ (jL s ts rs i ≠ 0 -> K (.tup [aQ iP, cI (jL s ts rs i)]) m h) /\
 (jL s ts rs i = 0 -> ∀ v h', PH.le h h' -> cC h' (dC ts i.toNat) v -> K (.tup [aQ v, cI 0]) m h')
noncomputable def Pf (N : Nat) (p r : Sl) (m : MH) : Ctx :=
 cO [(66, Oh), (67, Gz), (68, KF), (69, KE), (45, Fq), (46, Gx N)]
  [(4, { A := Nat × QV × Sl × List QV × PH, st := λ ⟨j, w, a, us, h⟩ => cD 53 55 [(2, .at (.ptr 2 0)), (4, .at (.ptr 4 0)), (6, .at (.ptr 6 0)), (37, sv a), (38, iv a.len), (39, iv j)] [(2, .cells 49 [.val (.slice p.a p.len p.cap), .val (.slice r.a r.len r.cap)]), (4, .cells 43 (iP.enc.map .val)), (6, .cells 43 ((w.enc.take 20).map .val ++ [.lst 49])), (49, .lst 43 21 (us.map QV.enc))] m h })]
  [(3, { A := QV × eO × PH, st := λ ⟨w, t, h⟩ => cD 53 55 [(2, .at (.ptr 2 0)), (4, .at (.ptr 4 0)), (5, .at (.ptr 5 0)), (6, .at (.ptr 6 0))] [(2, .cells 49 [.val (.slice p.a p.len p.cap), .val (.slice r.a r.len r.cap)]), (4, .cells 43 (iP.enc.map .val)), (5, .cells 60 (t.enc.map .val)), (6, .cells 43 ((w.enc.take 20).map .val ++ [.val (.slice none 0 0)]))] m h })] [] false
noncomputable def PE (p r : Sl) (i : Int) (m : MH) : Ctx :=
 cO [(44, BG), (45, Fq), (46, Gy)]
  [(9, { A := Nat × Sl × List Int × List Int × PH, st := λ ⟨j, c, ns, ds, h⟩ => cD 110 113 [(2, iv i), (4, .at (.ptr 4 0)), (6, .at (.ptr 6 0)), (10, .at (.lst 38)), (11, .at (.lst 41)), (46, sv c), (47, iv c.len), (48, iv j)] [(4, .cells 49 [.val (.slice p.a p.len p.cap), .val (.slice r.a r.len r.cap)]), (6, .cells 43 (iP.enc.map .val)), (38, .lst 3 1 (ns.map eI)), (41, .lst 3 1 (ds.map eI))] m h }),
   (13, { A := Nat × Nat × Sl × Sl × List Int × List Int × PH, st := λ ⟨j, k, c, a, ns, ds, h⟩ => cD 110 113 [(2, iv i), (4, .at (.ptr 4 0)), (6, .at (.ptr 6 0)), (10, .at (.lst 38)), (11, .at (.lst 41)), (12, iv j), (46, sv c), (47, iv c.len), (48, iv j), (60, sv a), (61, iv a.len), (62, iv k)] [(4, .cells 49 [.val (.slice p.a p.len p.cap), .val (.slice r.a r.len r.cap)]), (6, .cells 43 (iP.enc.map .val)), (38, .lst 3 1 (ns.map eI)), (41, .lst 3 1 (ds.map eI))] m h })]
  [(21, { A := Unit × PH, st := λ ⟨_, h⟩ => cD 110 113 [(2, iv i), (4, .at (.ptr 4 0)), (6, .at (.ptr 6 0))] [(4, .cells 49 [.val (.slice p.a p.len p.cap), .val (.slice r.a r.len r.cap)]), (6, .cells 43 (iP.enc.map .val))] m h })] [] false
def L3 (v : eO) (m : MH) (h : PH) (K : CV -> MH -> PH -> Prop) : Prop :=
  pB (∃ (o : Int), aG (cK (fS v.op) (fS o)) (0 <= arity o) (arity o <= 2) (bQ h 1 (List.take (arity o).toNat (mI (bT v.left) (bT v.right))) (λ s h1 => K (dO s) m h1))) (λ o => aG (cK (fS v.op) (fS o)) (0 <= arity o) (arity o <= 2) (bQ h 1 (List.take (arity o).toNat (mI (bT v.left) (bT v.right))) (λ s h1 => K (dO s) m h1)))
theorem VK (v : eO) (m : MH) (h : PH) (K : CV -> MH -> PH -> Prop) : L3 v m h K = (cG (cO [(73, AK)] [] [] [] false) Tryz.f45 (aE Tryz.f45) (entry Tryz.f45.ntmps [aT v] m h) K) := by kernel_rfl
abbrev Gl (a : Option Addr) (b : Nat) (c : Sl) (d : Nat -> Nat -> eO -> Prop) : Prop := aY (λ x x1 => aG (bC a x x1) (0 <= (↑b : Int)) ((↑b : Int) < aF c) (∃ (x2 : eO), d x x1 x2))
abbrev Dz (a : Sl -> (List (Int × Bool)) -> Prop) : Prop := ∃ (x : Sl) (x1 : List (Int × Bool)), a x x1
abbrev uC (a b : eO) : Prop := Db 60 a.enc = Db 60 b.enc
noncomputable abbrev wB (a : Nat × QV × Sl × List QV × PH) : Sl := a.2.2.1
noncomputable abbrev kA (a : Nat × QV × Sl × List QV × PH) : QV := a.2.1
noncomputable abbrev rG (a : Nat × QV × Sl × List QV × PH) : List QV × PH := a.2.2.2
abbrev yX (a : (List Step) -> (List Int) -> Prop) : Prop := ∃ (x : List Step) (x1 : List Int), a x x1
attribute [push_cast] Gl Dz uC wB kA rG yX
def L2 (N : Nat) (p r : Sl) (i : Nat) (m : MH) (h : PH) (K : CV -> MH -> PH -> Prop) : Prop :=
  Gl p.a i p (λ b o y => bI m h b (bZ o i 22) y.enc /\ ∃ (I : QV × eO × PH -> Prop), (kC (λ v p1 => aA (cK (eF y.where_) (eF v)) (cX h p1 v) (Dt (λ v1 h1 => eU h h1 (cX h1 p1 v1) (nC y.columns h1 (λ l => fM h1 l (λ s h2 => Dy (λ s1 l1 => aA (cK (dO y.on) (dO s1)) (gM h2 s1 l1) (AN (λ s2 h3 => eU h2 h3 (gM h3 s2 l1) (nC y.group h3 (λ l2 => fM h3 l2 (λ s3 h4 => Dz (λ s4 l3 => aA (cK (dO y.order) (dO s4)) (fU h4 s4 l3) (AN (λ s5 h5 => eU h4 h5 (fU h5 s5 l3) (∃ (x : QV × eO × PH), aA (I x) fL (aA (eP 4) (eP 5) (aA dZ (gU p r) (aA dA (uC y x.2.1) (aG (oJ (bB (bL y.op) (bL y.table) (pQ v1 (bB (gI s) (gI s2) (bB (gI s3) (gI s5) (kJ (bL y.limit) uQ))))) (qQ x.1 uQ)) (m = m) (h5 = x.2.2) True)))))))) /\ Dz (λ s4
 l3 => aA (cK (dO y.order) (dO s4)) (fU h4 s4 l3) (AN (λ s5 h5 => eU h4 h5 (fU h5 s5 l3) (∃ (x : QV × eO × PH), aA (I x) fL (aA (eP 4) (eP 5) (aA dZ (gU p r) (aA dA (uC y x.2.1) (aG (oJ (bB (bL y.op) (bL y.table) (pQ v1 (bB (gI s) (gI s2) (bB (gI s3) (gI s5) (kJ (bL y.limit) uQ))))) (qQ x.1 uQ)) (m = m) (h5 = x.2.2) True)))))))))) /\ nC y.group h3 (λ l2 => fM h3 l2 (λ s3 h4 => Dz (λ s4 l3 => aA (cK (dO y.order) (dO s4)) (fU h4 s4 l3) (AN (λ s5 h5 => eU h4 h5 (fU h5 s5 l3) (∃ (x : QV × eO × PH), aA (I x) fL (aA (eP 4) (eP 5) (aA dZ (gU p r) (aA dA (uC y x.2.1) (aG (oJ (bB (bL y.op) (bL y.table) (pQ v1 (bB (gI s) (gI s2) (bB (gI s3) (gI s5) (kJ (bL y.limit) uQ))))) (qQ x.1 uQ)) (m = m) (h5 = x.2.2) True)))))))))))))) /\
 Dy (λ s1 l1 => aA (cK (dO y.on) (dO s1)) (gM h2 s1 l1) (AN (λ s2 h3 => eU h2 h3 (gM h3 s2 l1) (nC y.group h3 (λ l2 => fM h3 l2 (λ s3 h4 => Dz (λ s4 l3 => aA (cK (dO y.order) (dO s4)) (fU h4 s4 l3) (AN (λ s5 h5 => eU h4 h5 (fU h5 s5 l3) (∃ (x : QV × eO × PH), aA (I x) fL (aA (eP 4) (eP 5) (aA dZ (gU p r) (aA dA (uC y x.2.1) (aG (oJ (bB (bL y.op) (bL y.table) (pQ v1 (bB (gI s) (gI s2) (bB (gI s3) (gI s5) (kJ (bL y.limit) uQ))))) (qQ x.1 uQ)) (m = m) (h5 = x.2.2) True)))))))))))))))) /\ nC y.columns h1 (λ l => fM h1 l (λ s h2 => Dy (λ s1 l1 => aA (cK (dO y.on) (dO s1)) (gM h2 s1 l1) (AN (λ s2 h3 => eU h2 h3 (gM h3 s2 l1) (nC y.group h3 (λ l2 => fM h3 l2 (λ s3 h4 => Dz (λ s4 l3 => aA (cK (dO y.order) (dO
 s4)) (fU h4 s4 l3) (AN (λ s5 h5 => eU h4 h5 (fU h5 s5 l3) (∃ (x : QV × eO × PH), aA (I x) fL (aA (eP 4) (eP 5) (aA dZ (gU p r) (aA dA (uC y x.2.1) (aG (oJ (bB (bL y.op) (bL y.table) (pQ v1 (bB (gI s) (gI s2) (bB (gI s3) (gI s5) (kJ (bL y.limit) uQ))))) (qQ x.1 uQ)) (m = m) (h5 = x.2.2) True)))))))))))))))))))) /\ kC (λ v p1 => aA (cK (eF y.where_) (eF v)) (cX h p1 v) (Dt (λ v1 h1 => eU h h1 (cX h1 p1 v1) (nC y.columns h1 (λ l => fM h1 l (λ s h2 => Dy (λ s1 l1 => aA (cK (dO y.on) (dO s1)) (gM h2 s1 l1) (AN (λ s2 h3 => eU h2 h3 (gM h3 s2 l1) (nC y.group h3 (λ l2 => fM h3 l2 (λ s3 h4 => Dz (λ s4 l3 => aA (cK (dO y.order) (dO s4)) (fU h4 s4 l3) (AN (λ s5 h5 => eU h4 h5 (fU h5 s5 l3) (∃ (x : QV × eO × PH), aA
 (I x) fL (aA (eP 4) (eP 5) (aA dZ (gU p r) (aA dA (uC y x.2.1) (aG (oJ (bB (bL y.op) (bL y.table) (pQ v1 (bB (gI s) (gI s2) (bB (gI s3) (gI s5) (kJ (bL y.limit) uQ))))) (qQ x.1 uQ)) (m = m) (h5 = x.2.2) True))))))))))))))))))))) /\ ∀ (x : QV × eO × PH), I x -> Bk (λ v t => aG (cK (oN x.2.1) (oN v)) (hU x.2.2 t v) (aW (arity t.op)) (fM x.2.2 (eY t) (λ s h1 => ∃ (I1 : Nat × QV × Sl × List QV × PH -> Prop) (m1 : Nat × QV × Sl × List QV × PH -> Nat), (∃ (x1 : Nat × QV × Sl × List QV × PH), aA (I1 x1) fL (aA (eP 4) (eP 6) (aA (bW s (wB x1)) (fN s (wB x1)) (aA (bO x1.1) (gU p r) (aA dA (oJ (qQ x.1 (At.lst 49)) (qQ (kA x1) (At.lst 49))) (aA (rY 43 21 (rU (rG x1))) (m = m) (bG h1 (rG x1).2))))))) /\ ∀ (x1 : Nat × QV × Sl × List QV ×
 PH), I1 x1 -> bE (↑x1.1 : Int) (aF (wB x1)) (aY (λ b1 o1 => aG (bC (wB x1).a b1 o1) (0 <= (↑x1.1 : Int)) ((↑x1.1 : Int) < aF (wB x1)) (∃ (y1 : Int), bI m (rG x1).2 b1 (bZ o1 x1.1 1) (bT y1) /\ gW (λ p1 r1 => yX (λ t1 r2 => ∃ (i1 : Nat), aA (cV (gP p r) y1 = mW (gP p1 r1) i1) (gA (rG x1).2 p1 r1 t1 r2) (aA (mB t1) (i1 < t1.length) (i1 < N /\ ∀ (v1 : QV) (h2 : PH), eU (rG x1).2 h2 (cC h2 (dC t1 i1) v1) (oO (rU (rG x1)) 280 (∃ (x2 : Nat × QV × Sl × List QV × PH), aA (I1 x2) (m1 x2 < m1 x1) (aA (eP 2) (eP 4) (aA dZ (bW (wB x1) (wB x2)) (aA (fN (wB x1) (wB x2)) (aZ x1.1 1 x2.1) (aA (gU p r) dA (aA (oJ (qQ (kA x1) (At.lst 49)) (qQ (kA x2) (At.lst 49))) (cM 43 21 (iK (rU (rG x1)) v1.enc) =
 cM 43 21 (rU (rG x2))) (cQ (m = m) h2 (rG x2).2))))))))))))))) (bQ (rG x1).2 21 (rU (rG x1)) (λ s1 h2 => K (kK (aL (cZ (kA x1).op) (tP (kA x1)) (aL (vF (kA x1)) (cZ (vG (kA x1))) (aL (hX (eM (kA x1))) (hZ (eM (kA x1))) (aL (cZ (iA (eM (kA x1)))) (iE (eM (kA x1))) (aL (gL (eM (kA x1))) (hX (dU (kA x1))) (aL (hZ (dU (kA x1))) (iD (dU (kA x1))) (aL (iE (dU (kA x1))) (gL (dU (kA x1))) (aL (w9 (kA x1)) (xD (kA x1)) (aL (nG (kA x1).on) (y7 (kA x1)) (aL (y8 (kA x1)) (vB (kA x1)) (cT s1)))))))))))) m h2))))))
theorem VJ (N : Nat) (p r : Sl) (i : Nat) (m : MH) (h : PH) (K : CV -> MH -> PH -> Prop) : L2 N p r i m h K = (cG (Pf N p r m) Tryz.f46 (aE Tryz.f46) (entry Tryz.f46.ntmps [M3 p r, cI i] m h) K) := by kernel_rfl
noncomputable abbrev Ah (a : Nat × Sl × List Int × List Int × PH) : List Int := a.2.2.1
noncomputable abbrev Ai (a : Nat × Sl × List Int × List Int × PH) : List Int := a.2.2.2.1
noncomputable abbrev sY (a : Sl × List Int × List Int × PH) : Nat -> Nat -> Option Value := a.2.2.2
noncomputable abbrev yF (a : Nat × Nat × Sl × Sl × List Int × List Int × PH) : Sl := a.2.2.1
noncomputable abbrev pA (a : Nat × Nat × Sl × Sl × List Int × List Int × PH) : Sl × List Int × List Int × PH := a.2.2.2
noncomputable abbrev tY (a : Nat × Nat × Sl × Sl × List Int × List Int × PH) : List Int := (pA a).2.1
noncomputable abbrev tZ (a : Nat × Nat × Sl × Sl × List Int × List Int × PH) : List Int := (pA a).2.2.1
noncomputable abbrev wW (a : Nat × Nat × Sl × Sl × List Int × List Int × PH) : Int := (↑a.1 : Int)
attribute [push_cast] Ah Ai sY yF pA tY tZ wW
def HA (sc : bH) (p r : Sl) (i : Int) (m : MH) (h : PH) (K : CV -> MH -> PH -> Prop) : Prop :=
  ∃ (s : bH), gW (λ p1 r1 => ∃ (s1 : oC), yX (λ t r2 => aG (lY (bK sc) (gP p r) = lY (bK s) (gP p1 r1)) (eW h s1 s) (gA h p1 r1 t r2) (∀ (_ : Sl), dE (fJ s1 t r2) 0 (K (CV.tup (cV (kK zV) (fJ s1 t r2))) m h) (bE i 0 (K (CV.tup (cV (kK zV) 1)) m h) (fI i (aF p) (K (CV.tup (cV (kK zV) 1)) m h) (aA (aW (eR i 1)) (eR i 1 <= eR i 1) (aA (kT (eR i 1 * 8)) (kT (eR i 1)) (aA (aW (eR i 1)) (eR i 1 <= eR i 1) (aA (kT (eR i 1 * 8)) (kT (eR i 1)) (aA (aW (eR i 1)) (eR i 1 <= (↑p.cap : Int)) (∃ (I : Nat × Sl × List Int × List Int × PH -> Prop) (m1 : Nat × Sl × List Int × List Int × PH -> Nat), (∃ (x : Nat × Sl × List Int × List Int × PH), aA (I x) (eA i) (aA (eP 4) (eP 6) (aA (eL 38) (eL 41) (aA (SV.at (At.val (Value.slice p.a (eR i
 1).toNat p.cap)) = wO x.2.1) (dG (eR i 1).toNat x.2.1.len) (aA (bO x.1) (gU p r) (aA dA (mT (List.replicate (eR i 1).toNat yE) (Ah x)) (aG (mT (List.replicate (eR i 1).toNat yE) (Ai x)) (m = m) (h = sY x.2) True))))))) /\ ∀ (x : Nat × Sl × List Int × List Int × PH), I x -> bE (↑x.1 : Int) (aF x.2.1) (aY (λ b o => aG (bC x.2.1.a b o) (0 <= (↑x.1 : Int)) ((↑x.1 : Int) < aF x.2.1) (∃ (y : eO), uA (bI m (sY x.2) b (bZ o x.1 22) y.enc) 0 (↑x.1 : Int) (bY (Ah x)) (λ e => aA (fO (bY (Ah x)) (↑x.1 : Int) e) (rW 0 e) (aA (aW (↑x.1 : Int)) ((↑x.1 : Int) < kE (bY (Ai x))) (∃ (e1 : List Value), aA (fO (bY (Ai x)) (↑x.1 : Int) e1) (rW 0 e1) (Bk (λ v t1 => aG (cK (oN y) (oN v)) (hU (sY x.2) t1 v) (aW
 (arity t1.op)) (fM (sY x.2) (eY t1) (λ s2 h1 => ∃ (I1 : Nat × Nat × Sl × Sl × List Int × List Int × PH -> Prop) (m2 : Nat × Nat × Sl × Sl × List Int × List Int × PH -> Nat), (∃ (x1 : Nat × Nat × Sl × Sl × List Int × List Int × PH), aA (I1 x1) (eA i) (aA (eP 4) (eP 6) (aA (eL 38) (eL 41) (aA (dG x.1 x1.1) (bW x.2.1 (yF x1)) (aA (fN x.2.1 (yF x1)) (dG x.1 x1.1) (aA (bW s2 (pA x1).1) (fN s2 (pA x1).1) (aA (bO x1.2.1) (gU p r) (aA dA (mT (oW (bY (Ah x)) (↑x.1 : Int) (mL (cZ 1) 1 e)) (tY x1)) (aG (mT (oW (bY (Ai x)) (↑x.1 : Int) (mL (cZ 1) 1 e1)) (tZ x1)) (m = m) (h1 = sY (pA x1)) True))))))))) /\ ∀ (x1 : Nat × Nat × Sl × Sl × List Int × List Int × PH), I1 x1 -> bE (↑x1.2.1 : Int) (aF (pA x1).1) (aY (λ b1 o1 => aG (bC
 (pA x1).1.a b1 o1) (0 <= (↑x1.2.1 : Int)) ((↑x1.2.1 : Int) < aF (pA x1).1) (∃ (y1 : Int), uA (bI m (sY (pA x1)) b1 (bZ o1 x1.2.1 1) (bT y1)) 0 (wW x1) (bY (tY x1)) (λ e2 => pB (fO (bY (tY x1)) (wW x1) e2) (λ y2 => uA (iO 1 0 e2 (bT y2)) 0 y1 (bY (tY x1)) (λ e3 => pB (fO (bY (tY x1)) y1 e3) (λ y3 => uA (iO 1 0 e3 (bT y3)) 0 (wW x1) (bY (tY x1)) (λ e4 => aA (fO (bY (tY x1)) (wW x1) e4) (rW 0 e4) (aA (aW (wW x1)) (wW x1 < kE (bY (tZ x1))) (∃ (e5 : List Value), pB (fO (bY (tZ x1)) (wW x1) e5) (λ y4 => uA (iO 1 0 e5 (bT y4)) 0 y1 (bY (tZ x1)) (λ e6 => pB (fO (bY (tZ x1)) y1 e6) (λ y5 => uA (iO 1 0 e6 (bT y5)) 0 (wW x1) (bY
 (tZ x1)) (λ e7 => aA (fO (bY (tZ x1)) (wW x1) e7) (rW 0 e7) (∃ (x2 : Nat × Nat × Sl × Sl × List Int × List Int × PH), aA (I1 x2) (m2 x2 < m2 x1) (aA (eA i) (eP 4) (aA dZ (eL 38) (aA (eL 41) (dG x1.1 x2.1) (aA (bW (yF x1) (yF x2)) (fN (yF x1) (yF x2)) (aA (dG x1.1 x2.1) (bW (pA x1).1 (pA x2).1) (aA (fN (pA x1).1 (pA x2).1) (aZ x1.2.1 1 x2.2.1) (aA (gU p r) dA (kN (mT (oW (bY (tY x1)) (wW x1) (mL (cZ (ite (25 < eR y2 y3) 25 (eR y2 y3))) 1 e4)) (tY x2)) (mT (oW (bY (tZ x1)) (wW x1) (mL (cZ (ite (eR y5 1 > y4) (eR y5 1) y4)) 1 e7)) (tZ x2)) (m = m) (sY (pA x1)) (sY (pA x2))))))))))))))))))))))))) (∃ (x2 : Nat × Sl × List Int × List Int × PH), aA (I x2) (m1 x2 < m1 x) (aA
 (eA i) (eP 4) (aA dZ (eL 38) (aA (eL 41) (bW (yF x1) x2.2.1) (aA (fN (yF x1) x2.2.1) (aZ x1.1 1 x2.1) (aA (gU p r) dA (aA (jK (tY x1) (Ah x2)) (jK (tZ x1) (Ai x2)) (aA (m = m) (sY (pA x1) = sY x2.2) True)))))))))))))))))) (∃ (I1 : Unit × PH -> Prop), lC i (bY (Ah x)) (λ e => pB (fO (bY (Ah x)) i e) (λ y => iO 1 0 e (bT y) /\ fB y 24 (K (CV.tup (cV (kK zV) 2)) m (sY x.2)) (lC i (bY (Ai x)) (λ e1 => pB (fO (bY (Ai x)) i e1) (λ y1 => iO 1 0 e1 (bT y1) /\ fB y1 8 (K (CV.tup (cV (kK zV) 2)) m (sY x.2)) (∃ (x1 : Unit × PH), aA (I1 x1) (eA i) (aA (eP 4) (eP 6) (aA (gU p r) dA (aA (m = m) (sY x.2 = x1.2) True))))))))) /\ ∀ (x1 : Unit × PH), I1 x1 -> gW (λ p2 r3 => yX (fun
 t1 r4 => ∃ (i1 : Nat), aA (cV (gP p r) i = mW (gP p2 r3) i1) (gA x1.2 p2 r3 t1 r4) (aA (mB t1) (i1 < t1.length) (∀ (v : QV) (h1 : PH), eU x1.2 h1 (cC h1 (dC t1 i1) v) (K (CV.tup (cV (eN v) 0)) m h1)))))))))))))))))
theorem Wa (sc : bH) (p r : Sl) (i : Int) (m : MH) (h : PH) (K : CV -> MH -> PH -> Prop) : HA sc p r i m h K = (cG (PE p r i m) Tryz.f22 (aE Tryz.f22) (entry Tryz.f22.ntmps [aS sc, M3 p r, cI i] m h) K) := by kernel_rfl
theorem Ee {ts : List Step} (ok : mB ts) : ∀ (n n' i : Nat), i < n -> i < n' -> yK n ts i = yK n' ts i
 | 0, _, _, h, _ => by omega
 | _ + 1, 0, _, _, h => by omega
 | n + 1, n' + 1, i, h1, h2 => by
  simp only [yK]
  cases e : ts[i]? with
  | none => rfl
  | some t =>
   have : (eY t).map (λ a => yK n ts a.toNat) = (eY t).map (λ a => yK n' ts a.toNat) := List.map_congr_left λ a ha => by
    have := (ok i t e).2 a ha
    exact Ee ok n n' a.toNat (by omega) (by omega)
   simp only [this]
def hP (ts : List Step) (t : Step) : List Query := (eY t).map λ a => dC ts a.toNat
theorem kU (ok : mB ts) (ht : ts[i]? = some t) : dC ts i = .mk t.op t.table t.wher t.columns t.on t.group t.order t.limit (hP ts t) := by
 unfold dC
 simp only [yK, ht]
 have : (eY t).map (λ a => yK i ts a.toNat) = hP ts t := List.map_congr_left λ a ha => by
  have := (ok i t ht).2 a ha
  exact Ee ok _ _ _ (by omega) (by omega)
 rw [this]
mutual
def Ia : Query -> Int
 | .mk _ _ _ _ _ _ _ _ args => 1 + sP args
def sP : List Query -> Int
 | [] => 0
 | p :: ps => max (Ia p) (sP ps)
end
theorem AV : ∀ ps : List Query, 0 <= sP ps
 | [] => by simp [sP]
 | p :: ps => by have := AV ps; simp only [sP]; omega
mutual
theorem HK : ∀ (p : Query) (k : Nat), kV p k = true ↔ (k : Int) < Ia p
 | .mk _ _ _ _ _ _ _ _ args, 0 => by have := AV args; simp only [kV, Ia, true_iff]; omega
 | .mk _ _ _ _ _ _ _ _ args, k + 1 => by simp only [kV, Ia]; rw [F1 args k]; omega
theorem F1 : ∀ (ps : List Query) (k : Nat), pC ps k = true ↔ (k : Int) < sP ps
 | [], k => by simp only [pC, sP, Bool.false_eq_true, false_iff]; omega
 | p :: ps, k => by simp only [pC, sP, Bool.or_eq_true]; rw [HK p k, F1 ps k]; omega
end
theorem pK : lK q = true ↔ BQ q <= 24 /\ Ia q <= 8 := by
 rw [<- Cw, (DO q 8 0 (by omega)).1]
 have := HK q 8
 cases e : kV q 8
 . rw [e] at this; simp at this; simp; omega
 . rw [e] at this; simp at this; simp; omega
theorem Qk (l : List Query) (q : Query) : kX (l ++ [q]) = kX l + BQ q := by
 induction l with
 | nil => simp [kX]
 | cons x l ih => simp only [List.cons_append, kX, ih]; omega
theorem RB (l : List Query) (q : Query) : sP (l ++ [q]) = max (sP l) (Ia q) := by
 induction l with
 | nil => simp only [List.nil_append, sP]; have : 0 <= Ia q := by cases q; rename_i a; have := AV a; simp only [Ia]; omega
          omega
 | cons x l ih => simp only [List.cons_append, sP, ih]; omega
theorem Sq (ok : mB ts) : ∀ (i : Nat), i < ts.length -> Ia (dC ts i) <= i + 1 := by
 intro i
 induction i using Nat.strongRecOn with
 | _ i ih =>
  intro hi
  have ht : ts[i]? = some ts[i] := List.getElem?_eq_getElem hi
  rw [kU ok ht]
  simp only [Ia]
  have : ∀ l : List Int, (∀ a ∈ l, 0 <= a /\ a < i) -> sP (l.map λ a => dC ts a.toNat) <= i := by
   intro l
   induction l with
   | nil => intro _; simp only [List.map_nil, sP]; omega
   | cons a l ih2 =>
    intro h
    have h1 := h a (by simp)
    have h2 := ih2 λ b hb => h b (by simp [hb])
    have h3 := ih a.toNat (by omega) (by omega)
    simp only [List.map_cons, sP]
    omega
  have := this (eY ts[i]) (ok i _ ht).2
  unfold hP
  omega
theorem Qo (h : (sF s ks t).2 = 0) : 0 <= arity t.op /\ ∀ a ∈ eY t, 0 <= a /\ a < ks.length := by
 unfold sF at h
 split at h
 . cases h
 rename_i hok
 have h2 := AX t.op
 have h0 : 0 <= arity t.op := Classical.byContradiction λ e => hok (.inl (by omega))
 have fl : lV t.left (decide (arity t.op > 0)) ks.length = true := by
  cases e : lV t.left (decide (arity t.op > 0)) ks.length with
  | true => rfl
  | false => exact (hok (.inr (.inl e))).elim
 have fr : lV t.right (decide (arity t.op > 1)) ks.length = true := by
  cases e : lV t.right (decide (arity t.op > 1)) ks.length with
  | true => rfl
  | false => exact (hok (.inr (.inr e))).elim
 refine ⟨h0, λ a ha => ?_⟩
 unfold eY at ha
 obtain ⟨n, hn⟩ : ∃ n : Nat, arity t.op = n := ⟨(arity t.op).toNat, by omega⟩
 rw [hn, Int.toNat_natCast] at ha
 unfold lV at fl fr
 match n, hn, ha with
 | 0, _, ha => simp at ha
 | 1, hn, ha =>
  simp at ha
  subst ha
  rw [if_pos (decide_eq_true (by omega))] at fl
  simpa using fl
 | 2, hn, ha =>
  simp at ha
  rw [if_pos (decide_eq_true (by omega))] at fl fr
  rcases ha with rfl | rfl
  . simpa using fl
  . simpa using fr
 | n + 3, hn, _ => omega
theorem GD {s : oC} : ∀ (ts : List Step) (ks : List (List Int)), (qD s ks ts).2 = 0 -> ∀ (i : Nat) t, ts[i]? = some t -> ∃ ks', ks'.length = ks.length + i /\ (sF s ks' t).2 = 0
 | [], _, _, i, t, e => by simp at e
 | u :: ts, ks, h, i, t, e => by
  simp only [qD] at h
  split at h
  . rename_i h1
    match i, e with
    | 0, e => simp at e; subst e; exact ⟨ks, by omega, h1⟩
    | i + 1, e =>
     obtain ⟨ks', h2, h3⟩ := GD ts _ h i t (by simpa using e)
     exact ⟨ks', by simp at h2; omega, h3⟩
  . rename_i h1; exact absurd h h1
theorem JU (h : fJ s ts rs = 0) : cN s = 0 /\ ts.length <= 1024 /\ rs.length <= 32 /\ (qD s [] ts).2 = 0 /\ ∀ r ∈ rs, 0 <= r /\ r < ts.length := by
 unfold fJ at h
 split at h
 . rename_i h1; exact absurd h h1
 rename_i h1
 split at h
 . cases h
 rename_i h2
 split at h
 . rename_i h3; exact absurd h h3
 rename_i h3
 split at h
 . rename_i h4
   refine ⟨by simpa using h1, by omega, by omega, by simpa using h3, λ r hr => ?_⟩
   simpa using List.all_eq_true.1 h4 r hr
 . cases h
theorem Ou (h : fJ s ts rs = 0) : mB ts := λ i t e => by
 obtain ⟨ks, h1, h2⟩ := GD ts [] (JU h).2.2.2.1 i t e
 obtain ⟨h3, h4⟩ := Qo h2
 simp only [List.length_nil, Nat.zero_add] at h1
 exact ⟨h3, λ a ha => by have := h4 a ha; omega⟩
theorem IQ : Sound Tryz.prog 45 Fq := by
 refine aI (fn := Tryz.f45) (c := aE Tryz.f45) Tryz.func45 rfl (by decide) ?_
 rintro cvs m h K ⟨v, t, rfl, x, h0, hK⟩
 refine ⟨cO [(73, AK)] [] [] [] false, rfl, aD IL aH, ?_⟩
 rw [<- VK v m h K]
 dsimp only [L3, push_cast]
 have e := x.op_
 have hl : (eY t).length <= 17592186044416 := by unfold eY; simp; omega
 have main : ∃ op : Int, [fS v.op] = [fS op] /\ 0 <= arity op /\ arity op <= 2 /\ ∀ (s : Sl) (h' : PH), h.le h' -> cW h' s 1 (List.take (arity op).toNat [[cZ v.left], [cZ v.right]]) -> K (dO s) m h' := by
  refine ⟨v.op, rfl, by rw [e]; exact h0, AX _, λ s h' le r => hK s h' le ⟨?_, hl⟩⟩
  rw [e, x.left_, x.right_] at r
  unfold eY
  rw [List.map_take]
  exact r
 exact ⟨main, main⟩
theorem Pg : ∀ N, Sound Tryz.prog 46 (Gx N)
 | 0 => by
  refine aI (fn := Tryz.f46) (c := aE Tryz.f46) Tryz.func46 rfl (by decide) ?_
  rintro cvs m h K ⟨p, r, ts, rs, i, rfl, _, _, _, hN, _⟩
  omega
 | N + 1 => by
  refine aI (fn := Tryz.f46) (c := aE Tryz.f46) Tryz.func46 rfl (by decide) ?_
  rintro cvs m h K ⟨p, r, ts, rs, i, rfl, x, ok, hi, hN, hK⟩
  refine ⟨Pf N p r m, rfl, aD IP (aD EX (aD IN (aD IM (aD IQ (aD (Pg N) aH))))), ?_⟩
  rw [<- VJ N p r i m h K]
  dsimp only [L2, push_cast]
  obtain ⟨t, ht⟩ : ∃ t, ts[i]? = some t := ⟨_, List.getElem?_eq_getElem hi⟩
  obtain ⟨b, o, y, e, rd, rv⟩ := x.at ht
  have pl := x.slen.1
  obtain ⟨a0, hargs⟩ := ok i t ht
  rw [kU ok ht] at hK
  have hal : (eY t).length <= 2 := by unfold eY; simp; omega
  refine ⟨b, o, e, by omega, by omega, y, .imm rd, λ ⟨w, u, hx⟩ => PH.le h hx /\ hU hx t u /\ cC hx t.query w, ?_, ?_⟩
  . repeat' (first
     | (refine ⟨y.where_, t.wher, rfl, rv.where_, λ v1 h1 le1 r1 => ?_⟩)
     | (refine ⟨y.columns, t.columns, rfl, rv.columns_.mono le1, λ s2 h2 le2 r2 => ?_⟩)
     | (refine ⟨y.on, t.on, rfl, rv.on_.mono (le1.trans le2), λ s3 h3 le3 r3 => ?_⟩)
     | (refine ⟨y.group, t.group, rfl, rv.group_.mono ((le1.trans le2).trans le3), λ s4 h4 le4 r4 => ?_⟩)
     | (refine ⟨y.order, t.order, rfl, rv.order_.mono (((le1.trans le2).trans le3).trans le4), λ s5 h5 le5 r5 => ?_⟩)
     | (exact ⟨(⟨y.op, y.table, v1, s2, s3, s4, s5, y.limit, ⟨none, 0, 0⟩⟩, y, h5), ⟨(((le1.trans le2).trans le3).trans le4).trans le5, rv.mono ((((le1.trans le2).trans le3).trans le4).trans le5), iU.rep ⟨rv.op_, rv.table_, r1.mono (((le2.trans le3).trans le4).trans le5), r2.mono ((le3.trans le4).trans le5), r3.mono (le4.trans le5), r4.mono le5, r5, rv.limit_, .nil _ _ _ _⟩⟩, MT⟩)
     | apply And.intro)
  rintro ⟨w, u, hx⟩ ⟨hle, ru, rq⟩
  refine ⟨u, t, rfl, ru, a0, λ sl h2 le2 hsl => ?_⟩
  have al := hsl.slen
  refine ⟨λ ⟨j, w', a, us, hy⟩ => w' = w /\ a = sl /\ j <= (eY t).length /\ PH.le h2 hy /\ us.length = j /\ ∀ (k : Nat) c, ((eY t).take j)[k]? = some c -> ∃ u, us[k]? = some u /\ cC hy (dC ts c.toNat) u, λ ⟨j, _⟩ => (eY t).length - j, ⟨(0, w, sl, [], h2), ⟨rfl, rfl, by omega, .refl _, rfl, λ k c e => by simp at e⟩, MT⟩, ?_⟩
  rintro ⟨j, w, a, us, hy⟩ ⟨rfl, rfl, hj, hly, hul, hus⟩
  dsimp only
  refine aC (λ hlt => ?_) (λ hge s' h' le' hrow => hK ⟨w.op, w.table, w.where_, w.columns, w.on, w.group, w.order, w.limit, s'⟩ h' (((hle.trans le2).trans hly).trans le') ?_)
  . obtain ⟨c, hc⟩ := fP al hlt
    obtain ⟨b1, o1, e1, r1⟩ := (hsl.mono hly).at' hc
    have hcb := hargs c (List.mem_of_getElem? hc)
    refine ⟨b1, o1, e1, by omega, hlt, c, .imm r1, p, r, ts, rs, c.toNat, by rw [show ((c.toNat : Nat) : Int) = c by omega], x.mono ((hle.trans le2).trans hly), ok, by omega, by omega, λ v' h' le' rq' => ⟨by simp; omega, by simp; omega, (j + 1, w, a, us ++ [v'], h'), ⟨rfl, rfl, by omega, hly.trans le', by simp [hul], λ k d hd => ?_⟩, by show (eY t).length - (j + 1) < (eY t).length - j; omega, ?_⟩⟩
    . rw [List.take_add_one, hc] at hd
      by_cases hk : k < j
      . rw [List.getElem?_append_left (by simp; omega)] at hd
        obtain ⟨u', h1, h2⟩ := hus k d hd
        exact ⟨u', by rw [List.getElem?_append_left (by omega)]; exact h1, h2.mono le'⟩
      . rw [List.getElem?_append_right (by simp; omega)] at hd
        have hkl := (List.getElem?_eq_some_iff.1 hd).1
        simp at hkl
        have : k = j := by omega
        subst this
        simp only [List.length_take, Nat.min_eq_left hj, Nat.sub_self] at hd
        simp at hd
        subst hd
        exact ⟨v', by rw [List.getElem?_append_right (by omega), hul]; simp, rq'⟩
    . rw [List.map_append]; exact MT
  . rw [List.take_of_length_le (by omega)] at hus
    have q := (rq.mono ((le2.trans hly).trans le')).parts
    refine iU.rep ⟨q.op_, q.table_, q.where_, q.columns_, q.on_, q.group_, q.order_, q.limit_, ⟨us, hrow, ?_, λ k z hz => ?_⟩, ?_⟩
    . unfold hP; rw [List.length_map]; omega
    . unfold hP at hz
      rw [List.getElem?_map, Option.map_eq_some_iff] at hz
      obtain ⟨c, hc, rfl⟩ := hz
      obtain ⟨u', h1, h2⟩ := hus k c hc
      exact ⟨u', h1, h2.mono le'⟩
    . unfold hP; rw [List.length_map]; omega
theorem Rh : Sound Tryz.prog 46 Gy := gN Pg λ _ _ _ _ ⟨p, r, ts, rs, i, e, h1, h2, h3, h4⟩ => ⟨i + 1, p, r, ts, rs, i, e, h1, h2, h3, by omega, h4⟩
def nN (ts : List Step) (k : Nat) : Int := min (BQ (dC ts k)) 25
def dN (ts : List Step) (k : Nat) : Int := Ia (dC ts k)
theorem S9 (l : List Int) (j : Nat) (x y : Int) : (List.map eI l).set (Int.toNat (j : Int)) (cZ x :: ([] ++ List.drop 1 (eI y))) = List.map eI (l.set j x) := by rw [List.map_set]; rfl
theorem Ci {j : Nat} {x : Int} (h : l[j]? = some x) : (List.map eI l)[j]? = some (eI x) := by rw [List.getElem?_map, h]; rfl
theorem Rt : Sound Tryz.prog 22 BH := by
 refine gC (fn := Tryz.f22) (c := aE Tryz.f22) Tryz.func22 rfl (by decide) ?_
 rintro cvs m h K ⟨sc, p, r, s, ts, rs, i, rfl, hs, x, hE, hK⟩
 refine ⟨PE p r i m, rfl, aD Ri (aD IQ (aD Rh aH)), ?_⟩
 rw [<- Wa sc p r i m h _]
 show HA sc p r i m h (lZ h K)
 dsimp only [HA, push_cast]
 have pl := x.slen
 have tlen := x.len
 have ee : ∀ {e : Int} {hx : PH}, PH.le h hx -> e ≠ 0 -> jL s ts rs i = e -> lZ h K (.tup [aQ iP, cI e]) m hx := fun {e hx} le h0 he => .out (Sub.refl m) le (by rw [<- he] at h0 ⊢; exact hE h0)
 refine ⟨sc, p, r, s, ts, rs, rfl, hs, x, λ kk => aB (λ h1 => ?_) (λ h1 => aC (λ h2 => ?_) (λ h2 => aC (λ h3 => ?_) (λ h3 => ?_)))⟩
 . have h1 : fJ s ts rs ≠ 0 := by simpa using h1
   exact ee (.refl _) h1 (by unfold jL; rw [if_pos h1])
 . have h1 : fJ s ts rs = 0 := by simpa using h1
   exact ee (.refl _) (by decide) (by unfold jL; rw [if_neg (by simpa using h1), if_pos (.inl h2)])
 . have h1 : fJ s ts rs = 0 := by simpa using h1
   exact ee (.refl _) (by decide) (by unfold jL; rw [if_neg (by simpa using h1), if_pos (.inr (by omega))])
 have h1 : fJ s ts rs = 0 := by simpa using h1
 have ok := Ou h1
 obtain ⟨n, rfl⟩ : ∃ n : Nat, i = n := ⟨i.toNat, by omega⟩
 have hn : n < ts.length := by omega
 have hexp : jL s ts rs n = if lK (dC ts n) = true then 0 else 2 := by
  unfold jL
  rw [if_neg (by simpa using h1), if_neg (by omega), Int.toNat_natCast]
 rw [Int.toNat_natCast] at hK
 have hw : IntKind.i64.wrap ((n : Int) + 1) = (n : Int) + 1 := dP (by omega) (by omega)
 have hw2 : ((n : Int) + 1).toNat = n + 1 := by omega
 rw [hw, hw2]
 refine ⟨by omega, by omega, by omega, by omega, by omega, by omega, by omega, by omega, by omega, by omega, ?_⟩
 refine ⟨λ ⟨j, c, ns, ds, hx⟩ => j <= n + 1 /\ c = ⟨p.a, n + 1, p.cap⟩ /\ PH.le h hx /\ ns.length = n + 1 /\ ds.length = n + 1 /\ ∀ k, k < j -> ns[k]? = some (nN ts k) /\ ds[k]? = some (dN ts k), λ ⟨j, _⟩ => n + 1 - j, ⟨(0, ⟨p.a, n + 1, p.cap⟩, List.replicate (n + 1) 0, List.replicate (n + 1) 0, h), ⟨by omega, rfl, .refl _, by simp, by simp, λ k hk => by omega⟩, ?_⟩, ?_⟩
 . rw [show List.map eI (List.replicate (n + 1) (0 : Int)) = List.replicate (n + 1) [cZ 0] by rw [List.map_replicate]; rfl]
   exact MT
 rintro ⟨j, c, ns, ds, hx⟩ ⟨hj, rfl, hle, nl, dl, hnd⟩
 dsimp only at hj nl dl hnd ⊢
 refine aC (λ hlt => ?_) (λ hge => ?_)
 . have hjn : j < n + 1 := by omega
   obtain ⟨t, ht⟩ : ∃ t, ts[j]? = some t := ⟨_, List.getElem?_eq_getElem (by omega)⟩
   obtain ⟨b, o, v, e, rd, rv⟩ := (x.mono hle).at ht
   obtain ⟨a0, hargs⟩ := ok j t ht
   have hex := kU ok ht
   obtain ⟨n0, hn0⟩ : ∃ n0, ns[j]? = some n0 := ⟨_, List.getElem?_eq_getElem (by omega)⟩
   obtain ⟨d0, hd0⟩ : ∃ d0, ds[j]? = some d0 := ⟨_, List.getElem?_eq_getElem (by omega)⟩
   refine ⟨b, o, e, by omega, hlt, v, .imm rd, by omega, by simp; omega, eI n0, Ci hn0, by simp [eI], by omega, by simp; omega, eI d0, Ci hd0, by simp [eI], v, t, rfl, rv, a0, λ sl h' le' hsl => ?_⟩
   have al := hsl.slen
   have hal : (eY t).length <= 2 := by unfold eY; simp; omega
   refine ⟨λ ⟨j', k, c', a, ns', ds', hy⟩ => j' = j /\ c' = ⟨p.a, n + 1, p.cap⟩ /\ a = sl /\ hy = h' /\ k <= (eY t).length /\ ns'.length = n + 1 /\ ds'.length = n + 1 /\ (∀ q, q < j -> ns'[q]? = some (nN ts q) /\ ds'[q]? = some (dN ts q)) /\ ns'[j]? = some (min (1 + kX ((hP ts t).take k)) 25) /\ ds'[j]? = some (1 + sP ((hP ts t).take k)), λ ⟨_, k, _⟩ => (eY t).length - k, ⟨(j, 0, ⟨p.a, n + 1, p.cap⟩, sl, ns.set j 1, ds.set j 1, h'), ⟨rfl, rfl, rfl, rfl, by omega, by simpa using nl, by simpa using dl, λ q hq => ?_, ?_, ?_⟩, ?_⟩, ?_⟩
   . rw [List.getElem?_set_ne (by omega), List.getElem?_set_ne (by omega)]; exact hnd q hq
   . rw [List.getElem?_set_self (by omega)]; simp [kX]; decide
   . rw [List.getElem?_set_self (by omega)]; simp [sP]
   . rw [<- S9 ns j 1 n0, <- S9 ds j 1 d0]; exact MT
   rintro ⟨j, k, c, a, ns', ds', hy⟩ ⟨rfl, rfl, rfl, rfl, hk, nl', dl', hnd', hnj, hdj⟩
   dsimp only at hk nl' dl' hnd' hnj hdj ⊢
   refine aC (λ hlt2 => ?_) (λ hge2 => ?_)
   . obtain ⟨c, hc⟩ := fP al hlt2
     obtain ⟨b1, o1, e1, r1⟩ := hsl.at' hc
     have hcb := hargs c (List.mem_of_getElem? hc)
     obtain ⟨hnc, hdc⟩ := hnd' c.toNat (by omega)
     have hfk : (hP ts t)[k]? = some (dC ts c.toNat) := by unfold hP; rw [List.getElem?_map, hc]; rfl
     have s1 : kX ((hP ts t).take (k + 1)) = kX ((hP ts t).take k) + BQ (dC ts c.toNat) := by rw [List.take_add_one, hfk]; exact Qk _ _
     have s2 : sP ((hP ts t).take (k + 1)) = max (sP ((hP ts t).take k)) (Ia (dC ts c.toNat)) := by rw [List.take_add_one, hfk]; exact RB _ _
     have p1 := nH ((hP ts t).take k)
     have p2 := vM (dC ts c.toNat)
     have p3 := AV ((hP ts t).take k)
     have p4 := Sq ok c.toNat (by omega)
     have p5 : 0 <= Ia (dC ts c.toNat) := by cases dC ts c.toNat; rename_i z; have := AV z; simp only [Ia]; omega
     have e2 : min (1 + kX ((hP ts t).take (k + 1))) 25 = if 25 < IntKind.i64.wrap (min (1 + kX ((hP ts t).take k)) 25 + nN ts c.toNat) then 25 else IntKind.i64.wrap (min (1 + kX ((hP ts t).take k)) 25 + nN ts c.toNat) := by
      unfold nN
      rw [dP (by omega) (by omega), s1]
      split <;> omega
     have e3 : 1 + sP ((hP ts t).take (k + 1)) = if IntKind.i64.wrap (dN ts c.toNat + 1) > 1 + sP ((hP ts t).take k) then IntKind.i64.wrap (dN ts c.toNat + 1) else 1 + sP ((hP ts t).take k) := by
      unfold dN
      rw [dP (by omega) (by omega), s2]
      split <;> omega
     refine ⟨b1, o1, e1, by omega, hlt2, c, .imm r1, by omega, by simp; omega, _, Ci hnj, _, rfl, hcb.1, by simp; omega, _, Ci hnc, _, rfl, by omega, by simp; omega, _, Ci hnj, by simp [eI], by omega, by simp; omega, _, Ci hdj, _, rfl, hcb.1, by simp; omega, _, Ci hdc, _, rfl, by omega, by simp; omega, _, Ci hdj, by simp [eI], ?_⟩
     rw [<- e2, <- e3]
     refine ⟨(j, k + 1, ⟨p.a, n + 1, p.cap⟩, a, ns'.set j (min (1 + kX ((hP ts t).take (k + 1))) 25), ds'.set j (1 + sP ((hP ts t).take (k + 1))), hy), ⟨rfl, rfl, rfl, rfl, by show k + 1 <= _; omega, by simpa using nl', by simpa using dl', λ q hq => ?_, ?_, ?_⟩, by show (eY t).length - (k + 1) < (eY t).length - k; omega, ?_⟩
     . rw [List.getElem?_set_ne (by omega), List.getElem?_set_ne (by omega)]; exact hnd' q hq
     . rw [List.getElem?_set_self (by omega)]
     . rw [List.getElem?_set_self (by omega)]
     . rw [<- S9 ns' j _ (min (1 + kX ((hP ts t).take k)) 25), <- S9 ds' j _ (1 + sP ((hP ts t).take k))]; exact MT
   . have htk : (hP ts t).take k = hP ts t := List.take_of_length_le (by unfold hP; rw [List.length_map]; omega)
     rw [htk] at hnj hdj
     refine ⟨(j + 1, ⟨p.a, n + 1, p.cap⟩, ns', ds', hy), ⟨by show j + 1 <= n + 1; omega, rfl, hle.trans le', nl', dl', λ q hq => ?_⟩, by show n + 1 - (j + 1) < n + 1 - j; omega, MT⟩
     by_cases hqj : q = j
     . subst hqj
       unfold nN dN
       rw [hex]
       exact ⟨hnj, hdj⟩
     . exact hnd' q (by omega)
 have hjn : j = n + 1 := by omega
 subst hjn
 obtain ⟨hn1, hd1⟩ := hnd n (by omega)
 have p1 := vM (dC ts n)
 refine ⟨λ ⟨_, hy⟩ => PH.le h hy /\ lK (dC ts n) = true, ⟨by omega, by simp; omega, _, Ci hn1, _, rfl, aC (λ h4 => ?_) (λ h4 => ⟨by omega, by simp; omega, _, Ci hd1, _, rfl, aC (λ h5 => ?_) (λ h5 => ⟨((), hx), ⟨hle, ?_⟩, MT⟩)⟩)⟩, ?_⟩
 . unfold nN at h4
   exact ee hle (by decide) (by rw [hexp, if_neg (λ e => by have := pK.1 e; omega)])
 . unfold dN at h5
   exact ee hle (by decide) (by rw [hexp, if_neg (λ e => by have := pK.1 e; omega)])
 . unfold nN at h4
   unfold dN at h5
   exact pK.2 ⟨by omega, by omega⟩
 rintro ⟨_, hy⟩ ⟨hle2, hsm⟩
 refine ⟨p, r, ts, rs, n, rfl, x.mono hle2, ok, hn, λ v h' le' rq => ⟨m, h', λ _ _ e => e, hle2.trans le', .refl _, hK (by rw [hexp, if_pos hsm]) v h' (hle2.trans le') rq⟩⟩
def Of : Vc.Spec := λ cvs m h K => ∃ sc s, cvs = [aS sc] /\ eW h s sc /\ ∀ sl : Sl, K (.tup [.val (.agg ⟨eS sl⟩), cI (cN s)]) m h
def JE : Vc.Spec := λ cvs m h K => ∃ kk a n ss ks, cvs = [cS kk, cI (ks.length : Nat), cI a, cB n] /\ fD m kk 39 1 (ss.map eS) /\ Slices h ss ks /\ ∀ sl, (lV a n ks.length = true -> aU h sl (uR ks a n)) -> K (.tup [cS sl, cB (lV a n ks.length)]) m h
noncomputable def Pe (sc : bH) (p r : Sl) : Ctx :=
 zD [(34, Of), (48, AK), (74, JE), (43, KA), (75, SK)]
  [(8, { A := Nat × Sl × MH × PH, st := λ ⟨i, kk, m, h⟩ => cD 116 118 [(2, .at (.ptr 2 0)), (3, .at (.ptr 3 0)), (8, sv kk), (39, sv p), (40, iv p.len), (41, iv i)] [(2, .cells 28 (sc.enc.map .val)), (3, .cells 49 [.val (.slice p.a p.len p.cap), .val (.slice r.a r.len r.cap)])] m h }),
   (23, { A := Nat × Sl × MH × PH, st := λ ⟨i, kk, m, h⟩ => cD 116 118 [(3, .at (.ptr 3 0)), (8, sv kk), (99, sv r), (100, iv r.len), (101, iv i)] [(3, .cells 49 [.val (.slice p.a p.len p.cap), .val (.slice r.a r.len r.cap)])] m h })]
  [(18, { A := Nat × Sl × Sl × Int × MH × PH, st := λ ⟨i, kk, k, e, m, h⟩ => cD 116 118 [(2, .at (.ptr 2 0)), (3, .at (.ptr 3 0)), (8, sv kk), (16, sv k), (17, iv e), (39, sv p), (40, iv p.len), (41, iv i)] [(2, .cells 28 (sc.enc.map .val)), (3, .cells 49 [.val (.slice p.a p.len p.cap), .val (.slice r.a r.len r.cap)])] m h })] [] [1108] [] false
def Hw (sc : bH) (m : MH) (h : PH) (K : CV -> MH -> PH -> Prop) : Prop :=
  mX (λ v s => aA (cK (bK sc) (bK v)) (eW h s v) (dE (cN s) 0 (K (CV.tup (cV (kK eZ) (cN s))) m h) (aA (aW (iR sc)) (iR sc <= iR sc) (aA (kT (iR sc * 24)) (kT (iR sc)) (bQ h 1 (List.replicate (iR sc).toNat eZ) (λ s1 h1 => K (CV.tup (cV (kK (cT s1)) 0)) m h1))))))
theorem VX (sc : bH) (m : MH) (h : PH) (K : CV -> MH -> PH -> Prop) : Hw sc m h K = (cG (cO [(53, qA)] [] [] [] false) Tryz.f34 (aE Tryz.f34) (entry Tryz.f34.ntmps [aS sc] m h) K) := by kernel_rfl
def LS (kk : Sl) (i a : Int) (n : Bool) (m : MH) (h : PH) (K : CV -> MH -> PH -> Prop) : Prop :=
  rL n (K (CV.tup (lY Fj (uS (a == 0)))) m h) (bE a 0 (K (CV.tup (lY Fj aR)) m h) (fI a i (K (CV.tup (lY Fj aR)) m h) (aY (λ b o => aG (bC kk.a b o) (0 <= a) (a < aF kk) (∃ (y : Sl), bI m h b (iW o a 1) (cT y) /\ K (CV.tup (lY (dO y) gV)) m h)))))
theorem Vr (kk : Sl) (i a : Int) (n : Bool) (m : MH) (h : PH) (K : CV -> MH -> PH -> Prop) : LS kk i a n m h K = (cG (cO [] [] [] [] false) Tryz.f74 (aE Tryz.f74) (entry Tryz.f74.ntmps [cS kk, cI i, cI a, cB n] m h) K) := by kernel_rfl
noncomputable abbrev sZ (a : Nat × Sl × Sl × Int × MH × PH) : Int × MH × PH := a.2.2.2
attribute [push_cast] sZ
def Hu (sc : bH) (p r : Sl) (m : MH) (h : PH) (K : CV -> MH -> PH -> Prop) : Prop :=
  mX (λ s s1 => aA (cK (bK sc) (bK s)) (eW h s1 s) (∀ (_ : Sl), lT (cN s1 != 0) (bM K (cN s1) m h) (aF p) 1024 (bM K 2 m h) (fB (aF r) 32 (bM K 2 m h) (Hd (λ I m1 => Hb (λ x => aA (I x) fL (aA (eP 3) (UR = wO (lD x)) (aA (aK p) (cF p) (aA (bO x.1) (bR sc) (aG (gU p r) (bV m x.2.2) (h = gB x) True))))) (λ x => I x -> bE (↑x.1 : Int) (aF p) (aY (λ b o => aG (bC p.a b o) (0 <= (↑x.1 : Int)) ((↑x.1 : Int) < aF p) (∃ (y : eO), bI (jI x) (gB x) b (bZ o x.1 22) y.enc /\ rD y.op (λ o1 => ∃ (k : Sl), G4 (λ a n => J0 (λ s2 k1 => aG (fG (dO (lD x)) (fS (↑x.1 : Int)) (lY (fS y.left) (uS (decide (arity o1 > 0)))) = fG (dO k) (fS (B3 k1)) (lY (fS a) (uS n))) (fD (jI x) k 39 1 (List.map eS s2))
 (Slices (gB x) s2 k1) (∀ (s3 : Sl), (qU (lV a n (B3 k1)) -> aU (gB x) s3 (uR k1 a n)) -> ∃ (k2 : Sl), G4 (λ a1 n1 => J0 (λ s4 k3 => aG (fG (dO (lD x)) (fS (↑x.1 : Int)) (lY (fS y.right) (uS (decide (arity o1 > 1)))) = fG (dO k2) (fS (B3 k3)) (lY (fS a1) (uS n1))) (fD (jI x) k2 39 1 (List.map eS s4)) (Slices (gB x) s4 k3) (∀ (s5 : Sl), (qU (lV a1 n1 (B3 k3)) -> aU (gB x) s5 (uR k3 a1 n1)) -> bE (arity o1) 0 (bM K 120 (jI x) (gB x)) (dT (!(lV a n (B3 k1))) (bM K 120 (jI x) (gB x)) (!(lV a1 n1 (B3 k3))) (bM K 120 (jI x) (gB x)) (Bk (λ v t => aA (cK (oN y) (oN v)) (hU (gB x) t v) (∀ (v1 : QV) (h1 : PH), eU (gB x) h1 (cC h1 (CB t.op t t.wher t.on) v1) (rZ (λ s6 p1 v2 => gW (λ a2 b1 => sA (fun
 s7 p2 q => vE (λ l l1 => aA (fG (bK sc) Fj (eN v1 :: dL (dO s3) s5) = fG (bK s6) (dO p1) (eN v2 :: dL (dO a2) b1)) (eW h1 s7 s6) (aA (iH s7) (aU h1 p1 p2) (aA (cC h1 q v2) (aU h1 a2 l) (aA (aU h1 b1 l1) (xC l 12) (xC l1 12 /\ fM h1 (fF s7 p2 q l l1).1 (λ s8 h2 => ∃ (I1 : Nat × Sl × Sl × Int × MH × PH -> Prop), dW (fF s7 p2 q l l1).2 100 (∃ (x1 : Nat × Sl × Sl × Int × MH × PH), aA (I1 x1) fL (aA (eP 3) (bW (lD x) x1.2.1) (aA (bW s8 x1.2.2.1) (bJ 120 (sZ x1).1) (aA (aK p) (cF p) (aA (dG x.1 x1.1) (bR sc) (aA (gU p r) (bV (jI x) (sZ x1).2) (bG h2 (iI (sZ x1))))))))) (∃ (x1 : Nat × Sl × Sl × Int × MH × PH), aA (I1 x1) fL (aA (eP 3) (bW (lD x) x1.2.1) (aA (bW s8 x1.2.2.1) (SV.at (At.val (cZ (fF s7 p2 q l
 l1).2)) = jD (sZ x1).1) (aA (aK p) (cF p) (aA (dG x.1 x1.1) (bR sc) (aA (gU p r) (bV (jI x) (sZ x1).2) (bG h2 (iI (sZ x1))))))))) /\ ∀ (x1 : Nat × Sl × Sl × Int × MH × PH), eJ (I1 x1) ((sZ x1).1 != 0) (bM K (sZ x1).1 (rR (sZ x1)) (iI (sZ x1))) (∃ (x2 : List (List Value)), aG (fD (rR (sZ x1)) (fK x1.2.1) 39 1 x2) (fR (iV x2 1 * 24)) (kR x2) (mK (λ s9 m2 => jU (rR (sZ x1)) m2 (fK x1.2.1) s9 39 1 (iK x2 (cT x1.2.2.1)) -> ∃ (x3 : Nat × Sl × MH × PH), aA (I x3) (m1 x3 < m1 x) (aA (eP 2) (eP 3) (aA (bW s9 (lD x3)) (aK p) (aA (cF p) (aZ x1.1 1 x3.1) (kN (bR sc) (gU p r) (bV m2 x3.2.2) (iI (sZ x1)) (gB x3)))))))))))))))))))))))))))))))) (Hd (λ I1 m2 => Hb (λ x1 => aA (I1 x1) hJ (aA
 (bW (lD x) (lD x1)) (aK r) (aA (cF r) (bO x1.1) (aA (gU p r) (bV (jI x) x1.2.2) (bG (gB x) (gB x1)))))) (λ x1 => I1 x1 -> bE (↑x1.1 : Int) (aF r) (aY (λ b o => aG (bC r.a b o) (0 <= (↑x1.1 : Int)) ((↑x1.1 : Int) < aF r) (∃ (y : Int), bI (jI x1) (gB x1) b (bZ o x1.1 1) (bT y) /\ bE y 0 (bM K 120 (jI x1) (gB x1)) (fI y (aF p) (bM K 120 (jI x1) (gB x1)) (∃ (x2 : Nat × Sl × MH × PH), aA (I1 x2) (m2 x2 < m2 x1) (aA (eP 3) (bW (lD x1) (lD x2)) (aA (aK r) (cF r) (aA (aZ x1.1 1 x2.1) (gU p r) (cQ (bV (jI x1) x2.2.2) (gB x1) (gB x2)))))))))) (gE K (lD x1) (jI x1) (gB x1)))))))))))
theorem VI (sc : bH) (p r : Sl) (m : MH) (h : PH) (K : CV -> MH -> PH -> Prop) : Hu sc p r m h K = (cG (Pe sc p r) Tryz.f47 (aE Tryz.f47) (entry Tryz.f47.ntmps [aS sc, M3 p r] m h) K) := by kernel_rfl
theorem IW : Sound Tryz.prog 34 Of := by
 refine gC (fn := Tryz.f34) (c := aE Tryz.f34) Tryz.func34 rfl (by decide) ?_
 rintro cvs m h K ⟨sc, s, rfl, hs, hK⟩
 refine ⟨cO [(53, qA)] [] [] [] false, rfl, aD f53_sound aH, ?_⟩
 rw [<- VX sc m h _]
 show Hw sc m h (lZ h K)
 dsimp only [Hw, push_cast]
 have hl := hs.tables.slen
 refine ⟨sc, s, rfl, hs, aB (λ _ => .here (hK ⟨none, 0, 0⟩)) (λ h1 => ?_)⟩
 have h1 : cN s = 0 := by simpa using h1
 have h8 : s.tables.length <= 8 := by
  have hl : zI s := Classical.byContradiction λ hn => by rw [oH hn] at h1; cases h1
  exact hl.1
 have hK := hK
 rw [h1] at hK
 exact ⟨by omega, by omega, by omega, by omega, λ sl h' le _ => .out (Sub.refl m) le (hK sl)⟩
theorem Q0 : Sound Tryz.prog 74 JE := by
 refine aI (fn := Tryz.f74) (c := aE Tryz.f74) Tryz.func74 rfl (by decide) ?_
 rintro cvs m h K ⟨kk, a, n, ss, ks, rfl, hr, hss, hK⟩
 refine ⟨cO [] [] [] [] false, rfl, aH, ?_⟩
 rw [<- Vr kk (ks.length : Nat) a n m h K]
 dsimp only [LS, push_cast]
 have kl : kk.len = ks.length := by
  have := fD.slen hr
  rw [List.length_map] at this
  rw [this, hss.1]
 unfold lV uR at hK
 refine aB (λ h1 => ?_) (λ h1 => ?_)
 . have h1 : n = false := by simpa using h1
   subst h1
   exact hK ⟨none, 0, 0⟩ λ _ => ⟨.nil _ _, by simp⟩
 . have h1 : n = true := by simpa using h1
   subst h1
   simp only [if_true] at hK
   refine aC (λ h2 => ?_) (λ h2 => aC (λ h3 => ?_) (λ h3 => ?_))
   . rw [decide_eq_false (by omega : ¬ 0 <= a)] at hK
     exact hK ⟨none, 0, 0⟩ λ e => by cases e
   . rw [decide_eq_true (by omega : 0 <= a), decide_eq_false (by omega : ¬ a < (ks.length : Int))] at hK
     exact hK ⟨none, 0, 0⟩ λ e => by cases e
   . obtain ⟨b, o, sl, e, rd, hi⟩ := J9 hr hss (a := a) (by omega) (by omega)
     rw [decide_eq_true (by omega : 0 <= a), decide_eq_true (by omega : a < (ks.length : Int))] at hK
     exact ⟨b, o, e, by omega, by omega, sl, rd, hK sl λ _ => hi⟩
theorem Rg : Sound Tryz.prog 47 BG := by
 refine gC (fn := Tryz.f47) (c := aE Tryz.f47) Tryz.func47 rfl (by decide) ?_
 rintro cvs m h K ⟨sc, p, r, s, ts, rs, rfl, hs, x, hK⟩
 refine ⟨Pe sc p r, rfl, aD IW (aD AU (aD Q0 (aD IT (aD IK aH)))), ?_⟩
 rw [<- VI sc p r m h _]
 show Hu sc p r m h (lZ h K)
 dsimp only [Hu, push_cast]
 have pl := x.slen.1
 have rl := x.roots.slen
 have tlen := x.len
 have rlen := x.roots.len
 have done : ∀ {mx : MH} {hx : PH} {e : Int} {kk : Sl}, Sub m mx -> PH.le h hx -> fJ s ts rs = e -> lZ h K (.tup [cS kk, cI e]) mx hx := fun {mx hx e kk} h1 h2 h3 => .out h1 h2 (by rw [<- h3]; exact hK kk)
 refine ⟨sc, s, rfl, hs, λ _ => aB (λ h1 => ?_) (λ h1 => ?_)⟩
 . have h1 : cN s ≠ 0 := by simpa using h1
   exact done (kk := ⟨none, 0, 0⟩) (Sub.refl m) (.refl _) (by unfold fJ; rw [if_pos h1])
 have h1 : cN s = 0 := by simpa using h1
 refine aC (λ h2 => ?_) (λ h2 => aC (λ h3 => ?_) (λ h3 => ?_))
 . exact done (kk := ⟨none, 0, 0⟩) (Sub.refl m) (.refl _) (by unfold fJ; rw [if_neg (by simpa using h1), if_pos (by omega)])
 . exact done (kk := ⟨none, 0, 0⟩) (Sub.refl m) (.refl _) (by unfold fJ; rw [if_neg (by simpa using h1), if_pos (by omega)])
 have hpe := C7 (s := s) (ts := ts) (rs := rs) h1 (by omega)
 refine ⟨λ ⟨i, kk, mx, hx⟩ => i <= ts.length /\ PH.le h hx /\ ∃ ks, KC m mx hx kk ks /\ ks.length = i /\ qD s ks (ts.drop i) = qD s [] ts, λ ⟨i, _⟩ => ts.length - i, ⟨(0, ⟨none, 0, 0⟩, m, h), ⟨by omega, .refl _, [], .nil m h, rfl, rfl⟩, MT⟩, ?_⟩
 rintro ⟨i, kk, mx, hx⟩ ⟨hi, hle, ks, hkr, hkl, hst⟩
 dsimp only
 refine aC (λ hlt => ?_) (λ hge => ?_)
 . obtain ⟨t, ht⟩ := fP pl hlt
   obtain ⟨b, o, v, e, rd, rv⟩ := (x.mono hle).at ht
   obtain ⟨ss, hm, hss⟩ := hkr.ex
   rw [FE ht] at hst
   subst hkl
   have bad : ∀ {e : Int}, (sF s ks t).2 = e -> e ≠ 0 -> fJ s ts rs = e := fun {e} h4 h5 => by
    rw [h4, if_neg h5] at hst
    rw [hpe, <- hst]
    exact if_pos h5
   have hstep : sF s ks t = if arity v.op < 0 \/ lV v.left (decide (arity v.op > 0)) ks.length = false \/ lV v.right (decide (arity v.op > 1)) ks.length = false then eX 120
    else if (fF s [] t.query (uR ks v.left (decide (arity v.op > 0))) (uR ks v.right (decide (arity v.op > 1)))).2 = 100 then eX 120
    else fF s [] t.query (uR ks v.left (decide (arity v.op > 0))) (uR ks v.right (decide (arity v.op > 1))) := by
    obtain ⟨e0, _, _, _, _, _, _, _, e3, e4⟩ := rv
    unfold sF
    rw [<- e0, <- e3, <- e4]
   refine ⟨b, o, e, by omega, hlt, v, .imm rd, v.op, rfl, kk, v.left, decide (arity v.op > 0), ss, ks, rfl, hm, hss, λ sl hsl => ⟨kk, v.right, decide (arity v.op > 1), ss, ks, rfl, hm, hss, λ sl1 hsl1 => ?_⟩⟩
   refine aC (λ h4 => done (kk := ⟨none, 0, 0⟩) hkr.sub hle (bad (by rw [hstep, if_pos (.inl h4)]; rfl) (by decide))) (λ h4 => aB (λ h5 => done (kk := ⟨none, 0, 0⟩) hkr.sub hle (bad (by rw [hstep, if_pos (.inr (.inl (by simpa using h5)))]; rfl) (by decide))) (λ h5 => aB (λ h6 => done (kk := ⟨none, 0, 0⟩) hkr.sub hle (bad (by rw [hstep, if_pos (.inr (.inr (by simpa using h6)))]; rfl) (by decide))) (λ h6 => ?_)))
   have f1 : lV v.left (decide (arity v.op > 0)) ks.length = true := by simpa using h5
   have f2 : lV v.right (decide (arity v.op > 1)) ks.length = true := by simpa using h6
   rw [if_neg (by rw [f1, f2]; simp; omega)] at hstep
   refine ⟨v, t, rfl, rv, λ v' h' le' hq => ⟨sc, ⟨none, 0, 0⟩, v', sl, sl1, s, [], t.query, _, _, rfl, hs.mono (hle.trans le'), Wu h1, jH _, hq, (hsl f1).mono le', (hsl1 f2).mono le', Ep hkr.le12 _ _, Ep hkr.le12 _ _, λ k2 h2 le2 hi2 => ?_⟩⟩
   have r12 := Ix s [] t.query (uR ks v.left (decide (arity v.op > 0))) (uR ks v.right (decide (arity v.op > 1)))
   generalize fF s [] t.query (uR ks v.left (decide (arity v.op > 0))) (uR ks v.right (decide (arity v.op > 1))) = R at *
   refine ⟨λ ⟨i', kk', k, e, m', h'⟩ => i' = ks.length /\ kk' = kk /\ k = k2 /\ m' = mx /\ h' = h2 /\ (sF s ks t).2 = e /\ (e = 0 -> (sF s ks t).1 = R.1), aB (λ h7 => ⟨(ks.length, kk, k2, 120, mx, h2), ⟨rfl, rfl, rfl, rfl, rfl, by rw [hstep, if_pos (by simpa using h7)]; rfl, λ e => by cases e⟩, MT⟩) (λ h7 => ?_), ?_⟩
   . rw [if_neg (by simpa using h7)] at hstep
     exact ⟨(ks.length, kk, k2, R.2, mx, h2), ⟨rfl, rfl, rfl, rfl, rfl, by rw [hstep], λ _ => by rw [hstep]⟩, MT⟩
   rintro ⟨i', kk', k3, e, m', h3⟩ ⟨rfl, rfl, rfl, rfl, rfl, g1, g2⟩
   refine aB (λ h8 => done (kk := ⟨none, 0, 0⟩) hkr.sub (hle.trans (le'.trans le2)) (bad g1 (by simpa using h8))) (λ h8 => ?_)
   have e0 : e = 0 := by simpa using h8
   subst e0
   rw [g1, if_pos rfl, g2 rfl] at hst
   obtain ⟨xs, hxs, hxl, hg⟩ := hkr.grown (le'.trans le2) hi2 r12
   exact ⟨xs, hxs, by omega, by omega, λ s' m' g => ⟨(ks.length + 1, s', m', h3), ⟨by show ks.length + 1 <= ts.length; omega, hle.trans (le'.trans le2), ks ++ [R.1], hg s' m' g, by simp, hst⟩, by show ts.length - (ks.length + 1) < ts.length - ks.length; omega, MT⟩⟩
 have hd : ts.drop i = [] := List.drop_of_length_le (by omega)
 rw [hd] at hst
 have h0 : (qD s [] ts).2 = 0 := by rw [<- hst]; rfl
 rw [h0, if_neg (by decide)] at hpe
 clear hst hd
 refine ⟨λ ⟨j, k', m', h'⟩ => j <= rs.length /\ k' = kk /\ m' = mx /\ h' = hx /\ (rs.take j).all (λ r => decide (0 <= r) && decide (r < ts.length)) = true, λ ⟨j, _⟩ => rs.length - j, ⟨(0, kk, mx, hx), ⟨by omega, rfl, rfl, rfl, by simp⟩, MT⟩, ?_⟩
 rintro ⟨j, kk, mx, hx⟩ ⟨hj, rfl, rfl, rfl, hall⟩
 dsimp only
 refine aC (λ hlt => ?_) (λ hge => ?_)
 . obtain ⟨q, hq⟩ := fP rl hlt
   obtain ⟨b, o, e, rd⟩ := (x.roots.mono hle).at' hq
   have bad : ¬ (0 <= q /\ q < ts.length) -> fJ s ts rs = 120 := λ hn => by
    rw [hpe, if_neg]
    intro e2
    have := List.all_eq_true.1 e2 q (List.mem_of_getElem? hq)
    simp only [Bool.and_eq_true, decide_eq_true_eq] at this
    exact hn this
   refine ⟨b, o, e, by omega, hlt, q, .imm rd, aC (λ h4 => done (kk := ⟨none, 0, 0⟩) hkr.sub hle (bad (by omega))) (λ h4 => aC (λ h5 => done (kk := ⟨none, 0, 0⟩) hkr.sub hle (bad (by omega))) (λ h5 => ⟨(j + 1, kk, mx, hx), ⟨by show j + 1 <= rs.length; omega, rfl, rfl, rfl, ?_⟩, by show rs.length - (j + 1) < rs.length - j; omega, MT⟩))⟩
   rw [uM hq, hall, Bool.true_and, Bool.and_eq_true]
   exact ⟨decide_eq_true (by omega), decide_eq_true (by omega)⟩
 . rw [List.take_of_length_le (by omega)] at hall
   exact done hkr.sub hle (by rw [hpe, if_pos hall])
def WQ (v : QV) : CV := .val (.agg ⟨v.enc.take 20 ++ [.slice none 0 0]⟩)
def Fx : Vc.Spec := λ cvs m h K => ∃ v q, cvs = [aQ v] /\ cC h q v /\ q.args = [] /\ ∀ v' h', PH.le h h' -> cC h' q v' -> K (WQ v') m h'
def JC : Vc.Spec := λ cvs m h K => ∃ v t, cvs = [aT v] /\ hU h t v /\ ∀ v' h', PH.le h h' -> cC h' t.query v' -> K (WQ v') m h'
noncomputable def Mf (v : QV) (co : List Int) (on : List (Int × Int)) (gr : List Int) (od : List (Int × Bool)) (m : MH) : Ctx :=
 cO [(58, SX), (28, Fw)] [(9, { A := PV × PH, st := λ ⟨w, h⟩ => cD 46 47 [(1, .at (.ptr 1 0)), (2, .at (.ptr 2 0)), (3, .at (.ptr 3 0)), (29, iv v.args.len), (30, iv 0)] [(1, .cells 43 (v.enc.map .val)), (2, .cells 43 (iP.enc.map .val)), (3, .cells 43 (([Value.int .i64 v.op, Value.int .i64 v.table] ++ w.enc).map .val ++ [.lst 12, .lst 16, .lst 20, .lst 24, .val (.int .i64 v.limit), .val (.slice none 0 0)])), (12, .lst 3 1 (co.map eI)), (16, .lst 78 2 (on.map pM)), (20, .lst 3 1 (gr.map eI)), (24, .lst 80 2 (od.map xS))] m h })] [] [] false
noncomputable def Pc (N : Nat) (p r : Sl) (i : Int) (m : MH) : Ctx :=
 cO [(43, JC), (48, AK), (49, Gx N)] []
  [(5, { A := QV × List QV × Int × PH, st := λ ⟨w, us, n, h⟩ => cD 47 49 [(1, iv i), (2, .at (.ptr 2 0)), (4, .at (.ptr 4 0)), (5, .at (.ptr 5 0)), (6, iv n)] [(2, .cells 49 [.val (.slice p.a p.len p.cap), .val (.slice r.a r.len r.cap)]), (4, .cells 43 (iP.enc.map .val)), (5, .cells 43 ((w.enc.take 20).map .val ++ [.lst 29])), (29, .lst 43 21 (us.map QV.enc))] m h }),
   (7, { A := QV × List QV × PH, st := λ ⟨w, us, h⟩ => cD 47 49 [(4, .at (.ptr 4 0)), (5, .at (.ptr 5 0))] [(4, .cells 43 (iP.enc.map .val)), (5, .cells 43 ((w.enc.take 20).map .val ++ [.lst 29])), (29, .lst 43 21 (us.map QV.enc))] m h })] [] false
noncomputable def PD (p r : Sl) (i : Int) (m : MH) (h : PH) : Ctx :=
 cO [(47, BG), (48, AK), (49, Gy)]
  [(8, { A := Nat × Sl × List Int × List Int, st := λ ⟨j, c, ns, ds⟩ => cD 109 112 [(2, iv i), (4, .at (.ptr 4 0)), (6, .at (.ptr 6 0)), (10, .at (.lst 86)), (11, .at (.lst 91)), (41, sv c), (42, iv c.len), (43, iv j)] [(4, .cells 49 [.val (.slice p.a p.len p.cap), .val (.slice r.a r.len r.cap)]), (6, .cells 43 (iP.enc.map .val)), (86, .lst 3 1 (ns.map eI)), (91, .lst 3 1 (ds.map eI))] m h })]
  [(14, { A := Nat × Sl × List Int × List Int × eO × Int × Int × Int, st := λ ⟨j, c, ns, ds, t, n, d, a⟩ => cD 109 112 [(2, iv i), (4, .at (.ptr 4 0)), (6, .at (.ptr 6 0)), (10, .at (.lst 86)), (11, .at (.lst 91)), (13, .at (.ptr 13 0)), (14, iv n), (15, iv d), (16, iv a), (41, sv c), (42, iv c.len), (43, iv j)] [(4, .cells 49 [.val (.slice p.a p.len p.cap), .val (.slice r.a r.len r.cap)]), (6, .cells 43 (iP.enc.map .val)), (13, .cells 60 (t.enc.map .val)), (86, .lst 3 1 (ns.map eI)), (91, .lst 3 1 (ds.map eI))] m h }),
   (16, { A := Nat × Sl × List Int × List Int × Int × Int, st := λ ⟨j, c, ns, ds, n, d⟩ => cD 109 112 [(2, iv i), (4, .at (.ptr 4 0)), (6, .at (.ptr 6 0)), (10, .at (.lst 86)), (11, .at (.lst 91)), (14, iv n), (15, iv d), (41, sv c), (42, iv c.len), (43, iv j)] [(4, .cells 49 [.val (.slice p.a p.len p.cap), .val (.slice r.a r.len r.cap)]), (6, .cells 43 (iP.enc.map .val)), (86, .lst 3 1 (ns.map eI)), (91, .lst 3 1 (ds.map eI))] m h }),
   (20, { A := Unit, st := λ _ => cD 109 112 [(2, iv i), (4, .at (.ptr 4 0)), (6, .at (.ptr 6 0))] [(4, .cells 49 [.val (.slice p.a p.len p.cap), .val (.slice r.a r.len r.cap)]), (6, .cells 43 (iP.enc.map .val))] m h })] [] false
def E4 (v : QV) (co : List Int) (on : List (Int × Int)) (gr : List Int) (od : List (Int × Bool)) (m : MH) (h : PH) (K : CV -> MH -> PH -> Prop) : Prop :=
  ∃ (v1 : PV) (s : Sl) (p : Pred) (p1 : List VV), aG (lY (eF v.where_) Fj = dL (eF v1) s) (cX h p v1) (Es h s p1) (Dt (λ v2 h1 => eU h h1 (cX h1 (BN p1 p) v2) (∃ (y : List (List Value)), AG (dK 1 y) (cW h1 (D3 v) 1 y) (tK y 8) (tL y) (λ y1 => AG (dK 2 y1) (cW h1 (fK v.on) 2 y1) (tK y1 16) (tL y1) (λ y2 => AG (dK 1 y2) (cW h1 (fK v.group) 1 y2) (tK y2 8) (tL y2) (λ y3 => aA (dK 2 y3) (cW h1 (fK v.order) 2 y3) (aA (tK y3 16) (tL y3) (∃ (I : PV × PH -> Prop) (m1 : PV × PH -> Nat), (∃ (x : PV × PH), aA (I x) gF (aA (eP 2) (eP 3) (aA (oU v) (eA 0) (aA (dD v) dA (aA (oJ (yG v v2 16 20 24 uQ) (yG v x.1 16 20 24 uQ)) (mT y co) (aA (cM 78 2 y1 = cM 78 2 (Bm on)) (mT y2 gr) (aG (cM 80 2 y3 = cM
 80 2 (B5 od)) (m = m) (h1 = x.2) True))))))) /\ ∀ (x : PV × PH), I x -> bE 0 (aF v.args) (aY (λ b o => aG (bC v.args.a b o) ((0 : Int) <= 0) (0 < aF v.args) (∃ (y4 : QV), bI m x.2 b (o + 0) y4.enc /\ kS (λ v3 q => aA (cK (eN y4) (eN v3)) (cC x.2 q v3) (∀ (v4 : QV) (h2 : PH), eU x.2 h2 (cC h2 q v4) (aA (bI m h2 b (o + 0) y4.enc) (cL h2 b (o + 0) y4.enc) (aA (fR 280) (fR 1) (∃ (x1 : PV × PH), aA (I x1) (m1 x1 < m1 x) (aA (eP 1) (eP 2) (aA hJ (oU v) (aA (bJ 1 0) (dD v) (aA dA (oJ (yG v x.1 16 20 24 (At.lst 42)) (yG v x1.1 16 20 24 uQ)) (aA (eQ (Bn co)) (eQ (cM 78 2 (Bm on))) (aA (eQ (Bn gr)) (eQ (cM 80 2 (B5 od))) (aA (m = m) (h2 = x1.2) True))))))))))))))) (bQ x.2 1 (bY co) (λ s1 h2 => bQ h2 2 (Bm on) (λ s2 h3 => bQ h3 1
 (bY gr) (λ s3 h4 => bQ h4 2 (B5 od) (λ s4 h5 => K (kK (aL (cZ v.op) (tP v) (aL (cZ x.1.op) (cZ x.1.cmp) (aL (tC x.1) (tD x.1) (aL (cZ (kP x.1)) (tE x.1) (aL (gL x.1.left) (hX x.1.right) (aL (hZ x.1.right) (iD x.1.right) (aL (iE x.1.right) (gL x.1.right) (aL (nG x.1.args) (nG s1) (aL (nG s2) (nG s3) (aL (nG s4) (vB v) eZ))))))))))) m h5)))))))))))))
theorem Tv (v : QV) (co : List Int) (on : List (Int × Int)) (gr : List Int) (od : List (Int × Bool)) (m : MH) (h : PH) (K : CV -> MH -> PH -> Prop) : E4 v co on gr od m h K = (cG (Mf v co on gr od m) Tryz.f28 (aE Tryz.f28) (entry Tryz.f28.ntmps [aQ v] m h) K) := by kernel_rfl
def IS (v : eO) (m : MH) (h : PH) (K : CV -> MH -> PH -> Prop) : Prop :=
  kS (λ v1 q => aG (cK (kK (aL (cZ v.op) (cZ v.table) (aL (cZ v.where_.op) (cZ v.where_.cmp) (aL (tC v.where_) (tD v.where_) (aL (cZ (kP v.where_)) (tE v.where_) (aL (gL v.where_.left) (hX (yU v)) (aL (hZ (yU v)) (iD (yU v)) (aL (iE (yU v)) (gL (yU v)) (aL (nG v.where_.args) (nG v.columns) (aL (nG v.on) (nG v.group) (aL (nG v.order) (cZ v.limit) eZ))))))))))) (eN v1)) (cC h q v1) (q.args = []) (∀ (v2 : QV) (h1 : PH), eU h h1 (cC h1 q v2) (K (kK (aL (cZ v2.op) (tP v2) (aL (vF v2) (cZ (vG v2)) (aL (hX (eM v2)) (hZ (eM v2)) (aL (cZ (iA (eM v2))) (iE (eM v2)) (aL (gL (eM v2)) (hX (dU v2)) (aL (hZ (dU v2)) (iD (dU v2)) (aL (iE (dU v2)) (gL (dU v2)) (aL (w9 v2) (xD v2) (aL (nG
 v2.on) (y7 v2) (aL (y8 v2) (vB v2) eZ))))))))))) m h1)))
theorem Tp (v : eO) (m : MH) (h : PH) (K : CV -> MH -> PH -> Prop) : IS v m h K = (cG (cO [(28, Fx)] [] [] [] false) Tryz.f43 (aE Tryz.f43) (entry Tryz.f43.ntmps [aT v] m h) K) := by kernel_rfl
abbrev vR (a b : List (List Value)) : Prop := cM 43 21 a = cM 43 21 b
attribute [push_cast] vR
def L0 (N : Nat) (p r : Sl) (i : Nat) (m : MH) (h : PH) (K : CV -> MH -> PH -> Prop) : Prop :=
  Gl p.a i p (λ b o y => bI m h b (bZ o i 22) y.enc /\ Bk (λ v t => aA (cK (oN y) (oN v)) (hU h t v) (∀ (v1 : QV) (h1 : PH), eU h h1 (cC h1 (CB t.op t t.wher t.on) v1) (rD v1.op (λ o1 => ∃ (I : QV × List QV × Int × PH -> Prop), fB (arity o1) 0 (aY (λ b1 o2 => aG (bC p.a b1 o2) (0 <= (↑i : Int)) ((↑i : Int) < aF p) (∃ (y1 : Int), bI m h1 b1 (bZ o2 i 22 + 20) (bT y1) /\ gW (λ p1 r1 => yX (λ t1 r2 => ∃ (i1 : Nat), aA (cV (gP p r) y1 = mW (gP p1 r1) i1) (gA h1 p1 r1 t1 r2) (aA (mB t1) (i1 < t1.length) (i1 < N /\ ∀ (v2 : QV) (h2 : PH), eU h1 h2 (cC h2 (dC t1 i1) v2) (aA (bI m h2 b1 (bZ o2 i 22 + 20) (bT y1)) (cL h2 b1 (bZ o2 i 22 + 20) (bT y1)) (aA (fR 280) (fR 1) (∃ (x : QV × List QV × Int × PH), aA (I x) (eQ (wR i)) (aA (eP 2) (eP
 4) (aA eT (bJ (arity o1) x.2.2.1) (aA (gU p r) dA (kN (oJ (qQ v1 (At.lst 29)) (qQ x.1 (At.lst 29))) (vR (jG v2.enc) (nA x.2.1)) (m = m) h2 x.2.2.2)))))))))))))) (∃ (x : QV × List QV × Int × PH), aA (I x) (eQ (wR i)) (aA (eP 2) (eP 4) (aA eT (bJ (arity o1) x.2.2.1) (aA (gU p r) dA (kN (oJ (qQ v1 (At.lst 29)) (qQ x.1 (At.lst 29))) (rY 43 21 (nA x.2.1)) (m = m) h1 x.2.2.2))))) /\ ∀ (x : QV × List QV × Int × PH), I x -> ∃ (I1 : QV × List QV × PH -> Prop), fB x.2.2.1 1 (aY (λ b1 o2 => aG (bC p.a b1 o2) (0 <= (↑i : Int)) ((↑i : Int) < aF p) (∃ (y1 : Int), bI m x.2.2.2 b1 (bZ o2 i 22 + 21) (bT y1) /\ gW (λ p1 r1 => yX (λ t1 r2 => ∃ (i1 : Nat), aA (cV (gP p r) y1 = mW (gP p1 r1) i1) (gA x.2.2.2 p1 r1 t1 r2) (aA (mB t1) (i1 < t1.length) (i1 < N /\ ∀
 (v2 : QV) (h2 : PH), eU x.2.2.2 h2 (cC h2 (dC t1 i1) v2) (aA (bI m h2 b1 (bZ o2 i 22 + 21) (bT y1)) (cL h2 b1 (bZ o2 i 22 + 21) (bT y1)) (aA (fR (iV (nA x.2.1) 1 * 280)) (kR (nA x.2.1)) (∃ (x1 : QV × List QV × PH), aA (I1 x1) (eP 4) (aA (eP 5) dA (aA (oJ (qQ x.1 (At.lst 29)) (qQ x1.1 (At.lst 29))) (cM 43 21 (iK (nA x.2.1) v2.enc) = cM 43 21 (rU x1.2)) (aA (m = m) (h2 = x1.2.2) True))))))))))))) (∃ (x1 : QV × List QV × PH), aA (I1 x1) (eP 4) (aA (eP 5) dA (aA (oJ (qQ x.1 (At.lst 29)) (qQ x1.1 (At.lst 29))) (vR (nA x.2.1) (rU x1.2)) (aA (m = m) (x.2.2.2 = x1.2.2) True)))) /\ ∀ (x1 : QV × List QV × PH), I1 x1 -> bQ x1.2.2 21 (rU x1.2) (λ s h2 => K (kK (aL (cZ x1.1.op) (tP x1.1) (aL (vF x1.1) (cZ (vG x1.1)) (aL (hX (eM x1.1)) (hZ (eM
 x1.1)) (aL (cZ (iA (eM x1.1))) (iE (eM x1.1)) (aL (gL (eM x1.1)) (hX (dU x1.1)) (aL (hZ (dU x1.1)) (iD (dU x1.1)) (aL (iE (dU x1.1)) (gL (dU x1.1)) (aL (w9 x1.1) (xD x1.1) (aL (nG x1.1.on) (y7 x1.1) (aL (y8 x1.1) (vB x1.1) (cT s)))))))))))) m h2))))))
theorem VG (N : Nat) (p r : Sl) (i : Nat) (m : MH) (h : PH) (K : CV -> MH -> PH -> Prop) : L0 N p r i m h K = (cG (Pc N p r i m) Tryz.f49 (aE Tryz.f49) (entry Tryz.f49.ntmps [M3 p r, cI i] m h) K) := by kernel_rfl
noncomputable abbrev yH (a : Nat × Sl × List Int × List Int) : List Int := a.2.2.1
noncomputable abbrev yI (a : Nat × Sl × List Int × List Int) : List Int := a.2.2.2
noncomputable abbrev uZ (a : Nat × Sl × List Int × List Int × eO × Int × Int × Int) : Int × Int × Int := a.2.2.2.2.2
noncomputable abbrev Bq (a : Nat × Sl × List Int × List Int × eO × Int × Int × Int) : eO := a.2.2.2.2.1
noncomputable abbrev Aj (a : Nat × Sl × List Int × List Int × Int × Int) : Int × Int := a.2.2.2.2
attribute [push_cast] yH yI uZ Bq Aj
def Mj (sc : bH) (p r : Sl) (i : Int) (m : MH) (h : PH) (K : CV -> MH -> PH -> Prop) : Prop :=
  ∃ (s : bH), gW (λ p1 r1 => ∃ (s1 : oC), yX (λ t r2 => aG (lY (bK sc) (gP p r) = lY (bK s) (gP p1 r1)) (eW h s1 s) (gA h p1 r1 t r2) (∀ (_ : Sl), dE (fJ s1 t r2) 0 (K (CV.tup (cV (kK zV) (fJ s1 t r2))) m h) (bE i 0 (K (CV.tup (cV (kK zV) 1)) m h) (fI i (aF p) (K (CV.tup (cV (kK zV) 1)) m h) (aA (aW (eR i 1)) (eR i 1 <= (↑p.cap : Int)) (∃ (I : Nat × Sl × List Int × List Int -> Prop) (m1 : Nat × Sl × List Int × List Int -> Nat), (∃ (x : Nat × Sl × List Int × List Int), aA (I x) (eA i) (aA (eP 4) (eP 6) (aA (eL 86) (eL 91) (aA (SV.at (At.val (Value.slice p.a (eR i 1).toNat p.cap)) = wO x.2.1) (dG (eR i 1).toNat x.2.1.len) (aA (bO x.1) (gU p r) (aA dA (yW 3 1 (yH x)) (aG (yW 3 1 (yI x)) (m = m) (h = h) True))))))) /\ ∀ (x : Nat × Sl × List Int
 × List Int), I x -> bE (↑x.1 : Int) (aF x.2.1) (aY (λ b o => aG (bC x.2.1.a b o) (0 <= (↑x.1 : Int)) ((↑x.1 : Int) < aF x.2.1) (∃ (y : eO), bI m h b (bZ o x.1 22) y.enc /\ rD y.op (λ o1 => ∃ (I1 : Nat × Sl × List Int × List Int × eO × Int × Int × Int -> Prop), fB (arity o1) 0 (lC y.left (bY (yH x)) (λ e => pB (fO (bY (yH x)) y.left e) (λ y1 => uA (iO 1 0 e (bT y1)) 0 y.left (bY (yI x)) (λ e1 => pB (fO (bY (yI x)) y.left e1) (λ y2 => iO 1 0 e1 (bT y2) /\ ∃ (x1 : Nat × Sl × List Int × List Int × eO × Int × Int × Int), aA (I1 x1) (eA i) (aA (eP 4) (eP 6) (aA (eL 86) (eL 91) (aA jZ (bJ (eR 1 y1) (uZ x1).1) (aA (bJ (ite (y2 > 0) y2 0) (uZ x1).2.1) (bJ (arity o1) (uZ x1).2.2) (aA (bW x.2.1 x1.2.1) (fN x.2.1 x1.2.1) (aA
 (dG x.1 x1.1) (gU p r) (aA dA (uC y (Bq x1)) (kN (jK (yH x) x1.2.2.1) (jK (yI x) x1.2.2.2.1) (m = m) h h))))))))))))) (∃ (x1 : Nat × Sl × List Int × List Int × eO × Int × Int × Int), aA (I1 x1) (eA i) (aA (eP 4) (eP 6) (aA (eL 86) (eL 91) (aA jZ (bJ 1 (uZ x1).1) (aA (bJ 0 (uZ x1).2.1) (bJ (arity o1) (uZ x1).2.2) (aA (bW x.2.1 x1.2.1) (fN x.2.1 x1.2.1) (aA (dG x.1 x1.1) (gU p r) (aA dA (uC y (Bq x1)) (kN (jK (yH x) x1.2.2.1) (jK (yI x) x1.2.2.2.1) (m = m) h h))))))))) /\ ∀ (x1 : Nat × Sl × List Int × List Int × eO × Int × Int × Int), I1 x1 -> ∃ (I2 : Nat × Sl × List Int × List Int × Int × Int -> Prop), fB (uZ x1).2.2 1 (lC (Bq x1).right (bY x1.2.2.1) (λ e => pB (fO (bY x1.2.2.1) (Bq x1).right e) (λ y1 =>
 uA (iO 1 0 e (bT y1)) 0 (Bq x1).right (bY x1.2.2.2.1) (λ e1 => pB (fO (bY x1.2.2.2.1) (Bq x1).right e1) (λ y2 => iO 1 0 e1 (bT y2) /\ ∃ (x2 : Nat × Sl × List Int × List Int × Int × Int), aA (I2 x2) (eA i) (aA (eP 4) (eP 6) (aA (eL 86) (eL 91) (aA (bJ (eR (uZ x1).1 y1) (Aj x2).1) (bJ (ite (y2 > (uZ x1).2.1) y2 (uZ x1).2.1) (Aj x2).2) (aA (bW x1.2.1 x2.2.1) (fN x1.2.1 x2.2.1) (aA (dG x1.1 x2.1) (gU p r) (aA dA (jK x1.2.2.1 x2.2.2.1) (aA (jK x1.2.2.2.1 x2.2.2.2.1) (m = m) (bG h h))))))))))))) (∃ (x2 : Nat × Sl × List Int × List Int × Int × Int), aA (I2 x2) (eA i) (aA (eP 4) (eP 6) (aA (eL 86) (eL 91) (aA (bJ (uZ x1).1 (Aj x2).1) (bJ (uZ x1).2.1 (Aj x2).2) (aA (bW x1.2.1 x2.2.1) (fN x1.2.1 x2.2.1) (aA (dG
 x1.1 x2.1) (gU p r) (aA dA (jK x1.2.2.1 x2.2.2.1) (aA (jK x1.2.2.2.1 x2.2.2.2.1) (m = m) (bG h h))))))))) /\ ∀ (x2 : Nat × Sl × List Int × List Int × Int × Int), I2 x2 -> aA (fR (iV (bY x2.2.2.1) 1 * 8)) (kR (bY x2.2.2.1)) (aA (fR (iV (bY x2.2.2.2.1) 1 * 8)) (kR (bY x2.2.2.2.1)) (∃ (x3 : Nat × Sl × List Int × List Int), aA (I x3) (m1 x3 < m1 x) (aA (eA i) (eP 4) (aA dZ (eL 86) (aA (eL 91) (bW x2.2.1 x3.2.1) (aA (fN x2.2.1 x3.2.1) (aZ x2.1 1 x3.1) (aA (gU p r) dA (aA (uB x2.2.2.1 (ite (25 < (Aj x2).1) 25 (Aj x2).1) (yH x3)) (uB x2.2.2.2.1 (eR (Aj x2).2 1) (yI x3)) (aA (m = m) (h = h) True))))))))))))) (∃ (I1 : Unit -> Prop), lC i (bY (yH x)) (λ e => pB (fO (bY (yH x)) i e) (λ y => iO 1 0 e (bT y) /\ fB
 y 24 (K (CV.tup (cV (kK zV) 2)) m h) (lC i (bY (yI x)) (λ e1 => pB (fO (bY (yI x)) i e1) (λ y1 => iO 1 0 e1 (bT y1) /\ fB y1 8 (K (CV.tup (cV (kK zV) 2)) m h) (∃ (x1 : Unit), aA (I1 x1) (eA i) (aA (eP 4) (eP 6) (aA (gU p r) dA (aA (m = m) (h = h) True))))))))) /\ ∀ (x1 : Unit), I1 x1 -> gW (λ p2 r3 => yX (λ t1 r4 => ∃ (i1 : Nat), aA (cV (gP p r) i = mW (gP p2 r3) i1) (gA h p2 r3 t1 r4) (aA (mB t1) (i1 < t1.length) (∀ (v : QV) (h1 : PH), eU h h1 (cC h1 (dC t1 i1) v) (K (CV.tup (cV (eN v) 0)) m h1)))))))))))))
theorem V9 (sc : bH) (p r : Sl) (i : Int) (m : MH) (h : PH) (K : CV -> MH -> PH -> Prop) : Mj sc p r i m h K = (cG (PD p r i m h) Tryz.f23 (aE Tryz.f23) (entry Tryz.f23.ntmps [aS sc, M3 p r, cI i] m h) K) := by kernel_rfl
theorem Tw {op : Int} {on : List (Int × Int)} (x : iU h op ta w co on gr od li [] v) (hK : ∀ v' h', PH.le h h' -> cC h' (.mk op ta w co on gr od li []) v' -> K (WQ v') m h') : E4 v co on gr od m h K := by
 dsimp only [E4, push_cast]
 have hl := x.args_.slen
 have l1 := x.columns_.len
 have l2 := x.on_.len
 have l3 := x.group_.len
 have l4 := x.order_.len
 refine ⟨v.where_, ⟨none, 0, 0⟩, w, [], rfl, x.where_, .nil _ _ _ _, λ wv h1 hle1 hw => ⟨_, kG co, (x.columns_.mono hle1).row, by simp; omega, by simp; omega, _, A7 on, (x.on_.mono hle1).row, by simp; omega, by simp; omega, _, kG gr, (x.group_.mono hle1).row, by simp; omega, by simp; omega, _, A6 od, (x.order_.mono hle1).row, by simp; omega, by simp; omega, ?_⟩⟩
 rw [Fm] at hw
 refine ⟨λ ⟨w', hx⟩ => w' = wv /\ PH.le h1 hx, λ _ => 0, ⟨(wv, h1), ⟨rfl, .refl _⟩, MT⟩, ?_⟩
 rintro ⟨wv, hx⟩ ⟨rfl, hle⟩
 dsimp only
 refine aC (λ hlt => by simp at hl; omega) (λ _ s1 h2 hle2 r1 s2 h3 hle3 r2 s3 h4 hle4 r3 s4 h5 hle5 r4 => ?_)
 have a4 := hle5
 have a3 := hle4.trans a4
 have a2 := hle3.trans a3
 have a1 := hle2.trans a2
 have a0 := hle.trans a1
 exact hK ⟨v.op, v.table, wv, s1, s2, s3, s4, v.limit, cA⟩ h5 (hle1.trans a0) (iU.rep ⟨x.op_, x.table_, hw.mono a0, ⟨r1.mono a2, l1⟩, ⟨r2.mono a3, l2⟩, ⟨r3.mono a4, l3⟩, ⟨r4, l4⟩, x.limit_, .nil _ _ _ _⟩)
theorem Nq : Sound Tryz.prog 28 Fx := by
 refine aI (fn := Tryz.f28) (c := aE Tryz.f28) Tryz.func28 rfl (by decide) ?_
 rintro cvs m h K ⟨v, q, rfl, hq, ha, hK⟩
 obtain ⟨op, ta, w, co, on, gr, od, li, args⟩ := q
 simp only [Query.args] at ha
 subst ha
 refine ⟨Mf v co on gr od m, rfl, aD f58_sound (aD E5 aH), ?_⟩
 rw [<- Tv v co on gr od m h K]
 exact Tw hq.parts hK
theorem Tq {v : eO} (x : hU h t v) (hK : ∀ v' h', PH.le h h' -> cC h' t.query v' -> K (WQ v') m h') : IS v m h K :=
 ⟨⟨v.op, v.table, v.where_, v.columns, v.on, v.group, v.order, v.limit, ⟨none, 0, 0⟩⟩, t.query, rfl, iU.rep ⟨x.op_, x.table_, x.where_, x.columns_, x.on_, x.group_, x.order_, x.limit_, .nil _ _ _ _⟩, rfl, hK⟩
theorem Np : Sound Tryz.prog 43 JC := by
 refine aI (fn := Tryz.f43) (c := aE Tryz.f43) Tryz.func43 rfl (by decide) ?_
 rintro cvs m h K ⟨v, t, rfl, x, hK⟩
 refine ⟨cO [(28, Fx)] [] [] [] false, rfl, aD Nq aH, ?_⟩
 rw [<- Tp v m h K]
 exact Tq x hK
structure Cv (h : PH) (ts : List Step) (al : List Int) (us : List QV) : Prop where
 len : us.length = al.length
 get : ∀ (k : Nat) c, al[k]? = some c -> ∃ u, us[k]? = some u /\ cC h (dC ts c.toNat) u
theorem Cv.nil (h : PH) (ts : List Step) : Cv h ts [] [] := ⟨rfl, λ k c e => by simp at e⟩
theorem Cv.snoc {al : List Int} {us : List QV} {c : Int} {u : QV} (x : Cv h ts al us) (le : PH.le h h') (hu : cC h' (dC ts c.toNat) u) : Cv h' ts (al ++ [c]) (us ++ [u]) := by
 refine ⟨by simp [x.len], λ k d e => ?_⟩
 by_cases hk : k < al.length
 . rw [List.getElem?_append_left hk] at e
   obtain ⟨u', h1, h2⟩ := x.get k d e
   exact ⟨u', by rw [List.getElem?_append_left (by rw [x.len]; exact hk)]; exact h1, h2.mono le⟩
 . have hl := (List.getElem?_eq_some_iff.1 e).1
   simp at hl
   obtain rfl : k = al.length := by omega
   simp at e
   subst e
   exact ⟨u, by rw [<- x.len]; simp, hu⟩
theorem Pd : ∀ N, Sound Tryz.prog 49 (Gx N)
 | 0 => by
  refine aI (fn := Tryz.f49) (c := aE Tryz.f49) Tryz.func49 rfl (by decide) ?_
  rintro cvs m h K ⟨p, r, ts, rs, i, rfl, _, _, _, hN, _⟩
  omega
 | N + 1 => by
  refine aI (fn := Tryz.f49) (c := aE Tryz.f49) Tryz.func49 rfl (by decide) ?_
  rintro cvs m h K ⟨p, r, ts, rs, i, rfl, x, ok, hi, hN, hK⟩
  refine ⟨Pc N p r i m, rfl, aD Np (aD AU (aD (Pd N) aH)), ?_⟩
  rw [<- VG N p r i m h K]
  dsimp only [L0, push_cast]
  obtain ⟨t, ht⟩ : ∃ t, ts[i]? = some t := ⟨_, List.getElem?_eq_getElem hi⟩
  obtain ⟨b, o, y, e, rd, rv⟩ := x.at ht
  have pl := x.slen.1
  obtain ⟨a0, hargs⟩ := ok i t ht
  rw [kU ok ht] at hK
  refine ⟨b, o, e, by omega, by omega, y, .imm rd, y, t, rfl, rv, λ w h1 le1 rq => ?_⟩
  have q := rq.parts
  have wop : w.op = t.op := q.op_
  have rl := cL.part rd 20 1
  have rr := cL.part rd 21 1
  refine ⟨w.op, rfl, λ ⟨w', us, n, hx⟩ => w' = w /\ n = arity t.op /\ PH.le h1 hx /\ Cv hx ts ((eY t).take 1) us, ?_, ?_⟩
  . rw [wop]
    refine aC (λ h2 => ?_) (λ h2 => ⟨(w, [], arity t.op, h1), ⟨rfl, rfl, .refl _, ?_⟩, MT⟩)
    . have hm : y.left ∈ eY t := by
       unfold eY
       rw [<- rv.left_, show (arity t.op).toNat = (arity t.op).toNat - 1 + 1 by omega]
       simp
      have hb := hargs _ hm
      refine ⟨b, o, e, by omega, by omega, y.left, .imm (rl.mono le1), p, r, ts, rs, y.left.toNat, by rw [show ((y.left.toNat : Nat) : Int) = y.left by omega], x.mono le1, ok, by omega, by omega, λ v h2 le2 rv2 => ⟨.imm (rl.mono (le1.trans le2)), rl.mono (le1.trans le2), by decide, by decide, (w, [v], arity t.op, h2), ⟨rfl, rfl, le2, ?_⟩, MT⟩⟩
      have := (Cv.nil h1 ts).snoc (c := y.left) le2 rv2
      rw [show (eY t).take 1 = [] ++ [y.left] by unfold eY; rw [<- rv.left_, show (arity t.op).toNat = (arity t.op).toNat - 1 + 1 by omega]; simp]
      exact this
    . rw [show (eY t).take 1 = [] by unfold eY; rw [show (arity t.op).toNat = 0 by omega]; rfl]
      exact .nil _ _
  rintro ⟨w, us, n, hx⟩ ⟨rfl, rfl, hle, hus⟩
  dsimp only
  refine ⟨λ ⟨w', us, hx⟩ => w' = w /\ PH.le h1 hx /\ Cv hx ts (eY t) us, ?_, ?_⟩
  . refine aC (λ h2 => ?_) (λ h2 => ⟨(w, us, hx), ⟨rfl, hle, ?_⟩, MT⟩)
    . have e2 : eY t = [y.left, y.right] := by
       unfold eY
       rw [<- rv.left_, <- rv.right_, List.take_of_length_le (by simp; omega)]
      have hb := hargs y.right (by rw [e2]; simp)
      refine ⟨b, o, e, by omega, by omega, y.right, .imm (rr.mono (le1.trans hle)), p, r, ts, rs, y.right.toNat, by rw [show ((y.right.toNat : Nat) : Int) = y.right by omega], x.mono (le1.trans hle), ok, by omega, by omega, λ v h2 le2 rv2 => ⟨.imm (rr.mono ((le1.trans hle).trans le2)), rr.mono ((le1.trans hle).trans le2), ?_, ?_, (w, us ++ [v], h2), ⟨rfl, hle.trans le2, ?_⟩, ?_⟩⟩
      . have := hus.len; rw [e2] at this; simp at this ⊢; omega
      . have := hus.len; rw [e2] at this; simp at this ⊢; omega
      . have := hus.snoc (c := y.right) le2 rv2
        rw [e2] at this ⊢
        exact this
      . rw [List.map_append]; exact MT
    . rw [List.take_of_length_le (by unfold eY; simp; omega)] at hus
      exact hus
  rintro ⟨w, us, hx⟩ ⟨rfl, hle2, hus⟩
  intro s' h' le' hrow
  refine hK ⟨w.op, w.table, w.where_, w.columns, w.on, w.group, w.order, w.limit, s'⟩ h' ((le1.trans hle2).trans le') ?_
  have q := (rq.mono (hle2.trans le')).parts
  have hal : (eY t).length <= 2 := by unfold eY; simp; omega
  refine iU.rep ⟨q.op_, q.table_, q.where_, q.columns_, q.on_, q.group_, q.order_, q.limit_, ⟨us, hrow, ?_, λ k z hz => ?_⟩, ?_⟩
  . unfold hP; rw [List.length_map, hus.len]
  . unfold hP at hz
    rw [List.getElem?_map, Option.map_eq_some_iff] at hz
    obtain ⟨c, hc, rfl⟩ := hz
    obtain ⟨u', h1, h2⟩ := hus.get k c hc
    exact ⟨u', h1, h2.mono le'⟩
  . unfold hP; rw [List.length_map]; omega
theorem Rf : Sound Tryz.prog 49 Gy := gN Pd λ _ _ _ _ ⟨p, r, ts, rs, i, e, h1, h2, h3, h4⟩ => ⟨i + 1, p, r, ts, rs, i, e, h1, h2, h3, by omega, h4⟩
theorem N4 (q : Query) : 0 <= Ia q := by cases q; rename_i z; have := AV z; simp only [Ia]; omega
theorem Tc {j : Nat} (ok : mB ts) (ht : ts[j]? = some t) : nN ts j = min (1 + (if arity t.op > 0 then nN ts t.left.toNat else 0) + (if arity t.op > 1 then nN ts t.right.toNat else 0)) 25 /\ dN ts j = 1 + max (if arity t.op > 0 then dN ts t.left.toNat else 0) (if arity t.op > 1 then dN ts t.right.toNat else 0) := by
 have p1 := vM (dC ts t.left.toNat)
 have p2 := vM (dC ts t.right.toNat)
 have p3 := N4 (dC ts t.left.toNat)
 have p4 := N4 (dC ts t.right.toNat)
 unfold nN dN
 rw [kU ok ht]
 by_cases h1 : arity t.op > 1
 . have e : eY t = [t.left, t.right] := by unfold eY; rw [List.take_of_length_le (by simp; omega)]
   rw [if_pos h1, if_pos h1, if_pos (by omega), if_pos (by omega)]
   simp only [hP, e, List.map_cons, List.map_nil, BQ, kX, Ia, sP]
   constructor <;> omega
 . rw [if_neg h1, if_neg h1]
   by_cases h0 : arity t.op > 0
   . have e : eY t = [t.left] := by unfold eY; rw [show (arity t.op).toNat = 1 by omega]; rfl
     rw [if_pos h0, if_pos h0]
     simp only [hP, e, List.map_cons, List.map_nil, BQ, kX, Ia, sP, Int.add_zero]
     exact ⟨by omega, trivial⟩
   . have e : eY t = [] := by unfold eY; rw [show (arity t.op).toNat = 0 by omega]; rfl
     rw [if_neg h0, if_neg h0]
     simp [hP, e, BQ, kX, Ia, sP]
theorem Rs : Sound Tryz.prog 23 BH := by
 refine aI (fn := Tryz.f23) (c := aE Tryz.f23) Tryz.func23 rfl (by decide) ?_
 rintro cvs m h K ⟨sc, p, r, s, ts, rs, i, rfl, hs, x, hE, hK⟩
 refine ⟨PD p r i m h, rfl, aD Rg (aD AU (aD Rf aH)), ?_⟩
 rw [<- V9 sc p r i m h K]
 dsimp only [Mj, push_cast]
 have pl := x.slen
 have tlen := x.len
 have ee : ∀ {e : Int}, e ≠ 0 -> jL s ts rs i = e -> K (.tup [aQ iP, cI e]) m h := fun {e} h0 he => by rw [<- he] at h0 ⊢; exact hE h0
 refine ⟨sc, p, r, s, ts, rs, rfl, hs, x, λ kk => aB (λ h1 => ?_) (λ h1 => aC (λ h2 => ?_) (λ h2 => aC (λ h3 => ?_) (λ h3 => ?_)))⟩
 . have h1 : fJ s ts rs ≠ 0 := by simpa using h1
   exact ee h1 (by unfold jL; rw [if_pos h1])
 . have h1 : fJ s ts rs = 0 := by simpa using h1
   exact ee (by decide) (by unfold jL; rw [if_neg (by simpa using h1), if_pos (.inl h2)])
 . have h1 : fJ s ts rs = 0 := by simpa using h1
   exact ee (by decide) (by unfold jL; rw [if_neg (by simpa using h1), if_pos (.inr (by omega))])
 have h1 : fJ s ts rs = 0 := by simpa using h1
 have ok := Ou h1
 obtain ⟨n, rfl⟩ : ∃ n : Nat, i = n := ⟨i.toNat, by omega⟩
 have hn : n < ts.length := by omega
 have hexp : jL s ts rs n = if lK (dC ts n) = true then 0 else 2 := by
  unfold jL
  rw [if_neg (by simpa using h1), if_neg (by omega), Int.toNat_natCast]
 rw [Int.toNat_natCast] at hK
 have hw : IntKind.i64.wrap ((n : Int) + 1) = (n : Int) + 1 := dP (by omega) (by omega)
 have hw2 : ((n : Int) + 1).toNat = n + 1 := by omega
 rw [hw, hw2]
 refine ⟨by omega, by omega, λ ⟨j, c, ns, ds⟩ => j <= n + 1 /\ c = ⟨p.a, n + 1, p.cap⟩ /\ ns.length = j /\ ds.length = j /\ ∀ k, k < j -> ns[k]? = some (nN ts k) /\ ds[k]? = some (dN ts k), λ ⟨j, _⟩ => n + 1 - j, ⟨(0, ⟨p.a, n + 1, p.cap⟩, [], []), ⟨by omega, rfl, rfl, rfl, λ k hk => by omega⟩, MT⟩, ?_⟩
 rintro ⟨j, c, ns, ds⟩ ⟨hj, rfl, nl, dl, hnd⟩
 dsimp only at hj nl dl hnd ⊢
 refine aC (λ hlt => ?_) (λ hge => ?_)
 . have hjn : j < n + 1 := by omega
   obtain ⟨t, ht⟩ : ∃ t, ts[j]? = some t := ⟨_, List.getElem?_eq_getElem (by omega)⟩
   obtain ⟨b, o, v, e, rd, rv⟩ := x.at ht
   obtain ⟨a0, hargs⟩ := ok j t ht
   obtain ⟨q1, q2⟩ := Tc ok ht
   have al := AX t.op
   have eop : v.op = t.op := rv.op_
   have bN : ∀ k, 1 <= nN ts k /\ nN ts k <= 25 := λ k => by have := vM (dC ts k); unfold nN; omega
   have bD : ∀ k, k < ts.length -> 0 <= dN ts k /\ dN ts k <= 1000000001 := λ k hk => by have := N4 (dC ts k); have := Sq ok k hk; unfold dN; omega
   have gl : arity t.op > 0 -> 0 <= v.left /\ v.left < j := λ h4 => by rw [rv.left_]; exact hargs _ (by unfold eY; rw [show (arity t.op).toNat = (arity t.op).toNat - 1 + 1 by omega]; simp)
   have gr : arity t.op > 1 -> 0 <= v.right /\ v.right < j := λ h4 => by rw [rv.right_]; exact hargs _ (by unfold eY; rw [List.take_of_length_le (by simp; omega)]; simp)
   rw [<- rv.left_, <- rv.right_] at q1 q2
   refine ⟨b, o, e, by omega, hlt, v, .imm rd, v.op, rfl, λ ⟨j', c', ns', ds', v', n', d', a'⟩ => j' = j /\ c' = ⟨p.a, n + 1, p.cap⟩ /\ ns' = ns /\ ds' = ds /\ v' = v /\ a' = arity t.op /\ n' = 1 + (if arity t.op > 0 then nN ts v.left.toNat else 0) /\ d' = (if arity t.op > 0 then dN ts v.left.toNat else 0), ?_, ?_⟩
   . rw [eop]
     refine aC (λ h4 => ?_) (λ h4 => ⟨(j, ⟨p.a, n + 1, p.cap⟩, ns, ds, v, 1, 0, arity t.op), ⟨rfl, rfl, rfl, rfl, rfl, rfl, by rw [if_neg h4]; rfl, by rw [if_neg h4]⟩, MT⟩)
     obtain ⟨g1, g2⟩ := gl h4
     obtain ⟨e1, e2⟩ := hnd v.left.toNat (by omega)
     have b1 := bN v.left.toNat
     have b2 := bD v.left.toNat (by omega)
     refine ⟨g1, by simp; omega, _, Ci e1, _, rfl, g1, by simp; omega, _, Ci e2, _, rfl, ?_⟩
     rw [dP (by omega) (by omega), show (if dN ts v.left.toNat > 0 then dN ts v.left.toNat else 0) = dN ts v.left.toNat by split <;> omega]
     exact ⟨(j, ⟨p.a, n + 1, p.cap⟩, ns, ds, v, 1 + nN ts v.left.toNat, dN ts v.left.toNat, arity t.op), ⟨rfl, rfl, rfl, rfl, rfl, rfl, by rw [if_pos h4], by rw [if_pos h4]⟩, MT⟩
   rintro ⟨j, c, ns, ds, v, n', d', a'⟩ ⟨rfl, rfl, rfl, rfl, rfl, rfl, hn', hd'⟩
   dsimp only at hn' hd' ⊢
   refine ⟨λ ⟨j', c', ns', ds', n2, d2⟩ => j' = j /\ c' = ⟨p.a, n + 1, p.cap⟩ /\ ns' = ns /\ ds' = ds /\ min n2 25 = nN ts j /\ 0 <= n2 /\ n2 <= 100 /\ d2 + 1 = dN ts j, ?_, ?_⟩
   . refine aC (λ h4 => ?_) (λ h4 => ⟨(j, ⟨p.a, n + 1, p.cap⟩, ns, ds, n', d'), ⟨rfl, rfl, rfl, rfl, ?_, ?_, ?_, ?_⟩, MT⟩)
     . obtain ⟨g1, g2⟩ := gr h4
       obtain ⟨e1, e2⟩ := hnd v.right.toNat (by omega)
       have b1 := bN v.right.toNat
       have b2 := bD v.right.toNat (by omega)
       have b3 := bN v.left.toNat
       rw [if_pos (show arity t.op > 0 by omega)] at q1 q2 hn' hd'
       rw [if_pos h4] at q1 q2
       have b4 := bD v.left.toNat (by have := gl (by omega); omega)
       refine ⟨g1, by simp; omega, _, Ci e1, _, rfl, g1, by simp; omega, _, Ci e2, _, rfl, ?_⟩
       rw [dP (by omega) (by omega)]
       exact ⟨(j, ⟨p.a, n + 1, p.cap⟩, ns, ds, n' + nN ts v.right.toNat, if dN ts v.right.toNat > d' then dN ts v.right.toNat else d'), ⟨rfl, rfl, rfl, rfl, by rw [q1, hn'], by omega, by omega, by rw [q2, hd']; split <;> omega⟩, MT⟩
     . rw [if_neg h4] at q1
       rw [q1, hn', Int.add_zero]
     . rw [hn']; split
       . have := bN v.left.toNat; omega
       . decide
     . rw [hn']; split
       . have := bN v.left.toNat; omega
       . decide
     . rw [if_neg h4] at q2
       rw [q2, hd']
       split
       . have := bD v.left.toNat (by have := gl (by omega); omega); omega
       . rfl
   rintro ⟨j, c, ns, ds, n2, d2⟩ ⟨rfl, rfl, rfl, rfl, hn2, z1, z2, hd2⟩
   dsimp only at hn2 z1 z2 hd2 ⊢
   have b2 := bD j (by omega)
   refine ⟨by simp; omega, by simp; omega, by simp; omega, by simp; omega, (j + 1, ⟨p.a, n + 1, p.cap⟩, ns ++ [nN ts j], ds ++ [dN ts j]), ⟨by show j + 1 <= n + 1; omega, rfl, by simp [nl], by simp [dl], λ k hk => ?_⟩, by show n + 1 - (j + 1) < n + 1 - j; omega, ?_⟩
   . by_cases hk2 : k < j
     . rw [List.getElem?_append_left (by omega), List.getElem?_append_left (by omega)]; exact hnd k hk2
     . obtain rfl : k = j := by omega
       rw [List.getElem?_append_right (by omega), List.getElem?_append_right (by omega), nl, dl]; simp
   . rw [show (if 25 < n2 then 25 else n2) = nN ts j by rw [<- hn2]; split <;> omega, dP (by omega) (by omega), dP (by omega) (by omega), hd2, List.map_append, List.map_append]
     exact MT
 have hjn : j = n + 1 := by omega
 subst hjn
 obtain ⟨hn1, hd1⟩ := hnd n (by omega)
 have p1 := vM (dC ts n)
 refine ⟨λ _ => lK (dC ts n) = true, ⟨by omega, by simp; omega, _, Ci hn1, _, rfl, aC (λ h4 => ?_) (λ h4 => ⟨by omega, by simp; omega, _, Ci hd1, _, rfl, aC (λ h5 => ?_) (λ h5 => ⟨(), ?_, MT⟩)⟩)⟩, ?_⟩
 . unfold nN at h4
   exact ee (by decide) (by rw [hexp, if_neg (λ e => by have := pK.1 e; omega)])
 . unfold dN at h5
   exact ee (by decide) (by rw [hexp, if_neg (λ e => by have := pK.1 e; omega)])
 . unfold nN at h4
   unfold dN at h5
   exact pK.2 ⟨by omega, by omega⟩
 intro _ hsm
 exact ⟨p, r, ts, rs, n, rfl, x, ok, hn, λ v h' le' rq => hK (by rw [hexp, if_pos hsm]) v h' le' rq⟩
structure kF (m : MH) (h : PH) (pb : Nat) (s r : Sl) (ts : List Step) : Prop where
 at_ : m pb = some (.cells #[.slice s.a s.len s.cap, .slice r.a r.len r.cap] 49 (0, 0))
 row : ∃ vs, fD m s 60 22 (vs.map eO.enc) /\ Steps h vs ts
structure zM (m m' : MH) (pb : Nat) (s s' : Sl) : Prop where
 other : ∀ b o, m b = some o -> b ≠ pb -> (∀ i, s.a ≠ some ⟨b, i, none⟩) -> m' b = some o
 fresh : ∀ b i, s'.a = some ⟨b, i, none⟩ -> m b = none \/ ∃ i, s.a = some ⟨b, i, none⟩
def SB : Vc.Spec := λ cvs m h K => ∃ v q l r, cvs = [aQ v, cI l, cI r] /\ cC h q v /\ ∀ t' h', PH.le h h' -> hU h' (stepOf q l r) t' -> K (aT t') m h'
def P8 (N : Nat) : Vc.Spec := λ cvs m h K => ∃ v q pb s r ts, cvs = [cP pb, aQ v] /\ cC h q v /\ SizeOf.sizeOf q < N /\ QI q /\ Ie q /\ kF m h pb s r ts /\ (∀ t ∈ ts, zH t) /\ (ts.length : Int) + BQ q <= 1000000 /\
 ∀ ts' (k : Nat) s' m' h', PH.le h h' -> xI q ts ts' k -> kF m' h' pb s' r ts' -> (∀ t ∈ ts', zH t) -> zM m m' pb s s' -> K (cI k) m' h'
def P9 : Vc.Spec := λ cvs m h K => ∃ v q pb s r ts, cvs = [cP pb, aQ v] /\ cC h q v /\ QI q /\ Ie q /\ kF m h pb s r ts /\ (∀ t ∈ ts, zH t) /\ (ts.length : Int) + BQ q <= 1000000 /\
 ∀ ts' (k : Nat) s' m' h', PH.le h h' -> xI q ts ts' k -> kF m' h' pb s' r ts' -> (∀ t ∈ ts', zH t) -> zM m m' pb s s' -> K (cI k) m' h'
structure Qb (m0 m : MH) (h : PH) (p r : Sl) (ts : List Step) (ks : List Nat) : Prop where
 steps : ∃ vs, oD m0 m p 60 22 (vs.map eO.enc) /\ Steps h vs ts
 roots : oD m0 m r 3 1 (ks.map fun (k : Nat) => eI k)
def F6 : Vc.Spec := λ cvs m h K => ∃ sc sl s qs, cvs = [aS sc, cS sl] /\ eW h s sc /\ sM h sl qs /\ (∀ q ∈ qs, (dV s [] q).2 = 0 -> QI q) /\ lJ s qs = 0 /\
 ∀ p r ts ks m' h', PH.le h h' -> Sub m m' -> uP qs [] ts ks -> Qb m m' h' p r ts ks -> K (.tup [M3 p r, cI 0]) m' h'
noncomputable def Pq (N pb : Nat) (v : QV) : Ctx :=
 zD [(35, P8 N), (71, SB), (20, SD)]
  [(3, { A := Nat × Nat × MH × PH, st := λ ⟨i, ab, m, h⟩ => cD 66 68 [(0, pv pb), (3, .at (.ptr 3 0)), (5, pv ab), (11, iv v.args.len), (12, iv i)] [(3, .cells 43 (v.enc.map .val))] m h }),
   (9, { A := Nat × Nat × eO × MH × PH, st := λ ⟨i, n, t, m, h⟩ => cD 66 68 [(0, pv pb), (7, .at (.ptr 7 0)), (35, iv n), (36, iv i)] [(7, .cells 60 (t.enc.map .val))] m h })] [] [] [0, 78, 1047] [] false
noncomputable def PJ (sc : bH) (sl : Sl) (m0 : MH) : Ctx :=
 zD [(34, Of), (26, sN), (35, P9)]
  [(7, { A := Nat × PH, st := λ ⟨i, h⟩ => cD 60 62 [(1, sv sl), (2, .at (.ptr 2 0)), (4, .at (.ptr 4 0)), (28, sv sl), (29, iv sl.len), (30, iv i)] [(2, .cells 28 (sc.enc.map .val)), (4, .cells 49 [.val (.slice none 0 0), .val (.slice none 0 0)])] m0 h }),
   (15, { A := Nat × Nat × MH × PH, st := λ ⟨i, pb, m, h⟩ => cD 60 62 [(4, .at (.ptr 4 0)), (12, pv pb), (45, sv sl), (46, iv sl.len), (47, iv i)] [(4, .cells 49 [.val (.slice none 0 0), .val (.slice none 0 0)])] m h })] [] [] [0, 1047, 1039, 200012] [] false
def LV (v : QV) (l r : Int) (m : MH) (h : PH) (K : CV -> MH -> PH -> Prop) : Prop :=
  kS (λ v1 q => aA (cK (kK (aL aX aX (aL (vF v) (cZ (vG v)) (aL (hX (eM v)) (hZ (eM v)) (aL (cZ (iA (eM v))) (iE (eM v)) (aL (gL (eM v)) (hX (dU v)) (aL (hZ (dU v)) (iD (dU v)) (aL (iE (dU v)) (gL (dU v)) (aL (w9 v) (xD v) (aL (nG v.on) (y7 v) (aL (y8 v) aX eZ))))))))))) (eN v1)) (cC h q v1) (∀ (v2 : QV) (h1 : PH), eU h h1 (cC h1 q v2) (K (kK (aL (cZ v.op) (tP v) (aL (vF v2) (cZ (vG v2)) (aL (hX (eM v2)) (hZ (eM v2)) (aL (cZ (iA (eM v2))) (iE (eM v2)) (aL (gL (eM v2)) (hX (dU v2)) (aL (hZ (dU v2)) (iD (dU v2)) (aL (iE (dU v2)) (gL (dU v2)) (aL (w9 v2) (xD v2) (aL (nG v2.on) (y7 v2) (aL (y8 v2) (vB v) (kY (cZ l) (cZ
 r))))))))))))) m h1)))
theorem Vv (v : QV) (l r : Int) (m : MH) (h : PH) (K : CV -> MH -> PH -> Prop) : LV v l r m h K = (cG (cO [(28, Fw)] [] [] [] false) Tryz.f71 (aE Tryz.f71) (entry Tryz.f71.ntmps [aQ v, cI l, cI r] m h) K) := by kernel_rfl
noncomputable abbrev oS (a : Nat × Nat × MH × PH) : Nat := a.2.1
noncomputable abbrev lQ (a : Nat × Nat × MH × PH) : Nat -> Nat -> Option Value := a.2.2.2
noncomputable abbrev rN (a : Nat × Nat × MH × PH) : Nat -> Option Obj := nW a.2
noncomputable abbrev rM (a : Nat × Nat × eO × MH × PH) : Nat -> Nat -> Option Value := a.2.2.2.2
noncomputable abbrev uD (a : Nat × Nat × eO × MH × PH) : Nat -> Option Obj := a.2.2.2.1
attribute [push_cast] oS lQ rN rM uD
def Ma (N pb : Nat) (v : QV) (m : MH) (h : PH) (K : CV -> MH -> PH -> Prop) : Prop :=
  ∀ (b : Nat) (m1 : MH), gX m h b -> hO m m1 b (kY aX aX) 78 -> ∃ (I : Nat × Nat × MH × PH -> Prop) (m2 : Nat × Nat × MH × PH -> Nat), (∃ (x : Nat × Nat × MH × PH), aA (I x) (cH pb) (aA (eP 3) (i7 b (oS x)) (aA (oU v) (bO x.1) (aA (dD v) (bV m1 x.2.2) (bG h (lQ x)))))) /\ ∀ (x : Nat × Nat × MH × PH), I x -> bE (↑x.1 : Int) (aF v.args) (aY (λ b1 o => aG (bC v.args.a b1 o) (0 <= (↑x.1 : Int)) ((↑x.1 : Int) < aF v.args) (∃ (y : QV), bI (rN x) (lQ x) b1 (bZ o x.1 21) y.enc /\ kS (λ v1 q => ∃ (p : Nat), gW (λ s r => ∃ (t : List Step), aA (bX (eH pb) y.enc = bX (eH p) v1.enc) (cC (lQ x) q v1) (aA (qM q N) (QI q) (aA (Ie q) (kF (rN x) (lQ x) p s r t) (aA (∀ (t1 : Step), List.Mem t1 t -> zH t1) ((↑t.length : Int) + BQ q <= 1000000) (Gi
 (λ t1 k s1 => kD (λ m3 h1 => eU (lQ x) h1 (xI q t t1 k) (kF m3 h1 p s1 r t1 -> (∀ (t2 : Step), List.Mem t2 t1 -> zH t2) -> zM (rN x) m3 p s s1 -> aA (aW (↑x.1 : Int)) ((↑x.1 : Int) < 2) (pP m3 (oS x) (bZ 0 x.1 1) (bT (↑k : Int)) (λ m4 => ∃ (x1 : Nat × Nat × MH × PH), aA (I x1) (m2 x1 < m2 x) (aA (cH pb) hJ (aA (i7 (oS x) (oS x1)) (oU v) (aA (aZ x.1 1 x1.1) (dD v) (cQ (bV m4 x1.2.2) h1 (lQ x1))))))))))))))))))) (aA (aW 0) ((0 : Int) < 2) (∃ (y : Int), aG (bI (rN x) (lQ x) (oS x) 0 (bT y)) ((0 : Int) <= 1) ((1 : Int) < 2) (∃ (y1 : Int), bI (rN x) (lQ x) (oS x) 1 (bT y1) /\ kS (λ v1 q => ∃ (l r : Int), aA (eN v :: cV (fS y) y1 = eN v1 :: cV (fS l) r) (cC (lQ x) q v1) (∀ (t : eO) (h1 : PH), eU (lQ x) h1
 (hU h1 (stepOf q l r) t) (∃ (y2 : Sl), bI (rN x) h1 pb 0 (cT y2) /\ ∃ (I1 : Nat × Nat × eO × MH × PH -> Prop) (m3 : Nat × Nat × eO × MH × PH -> Nat), (∃ (x1 : Nat × Nat × eO × MH × PH), aA (I1 x1) (cH pb) (aA (eP 7) (wR y2.len = wR x1.2.1) (aA (bO x1.1) (uC t x1.2.2.1) (aA (bV (rN x) x1.2.2.2) (h1 = rM x1) True)))) /\ ∀ (x1 : Nat × Nat × eO × MH × PH), I1 x1 -> bE (↑x1.1 : Int) (↑x1.2.1 : Int) (∃ (y3 : Sl), bI (uD x1) (rM x1) pb 0 (cT y3) /\ Gl y3.a x1.1 y3 (λ b1 o y4 => aA (bI (uD x1) (rM x1) b1 (bZ o x1.1 22) y4.enc) (bI (uD x1) (rM x1) pb 0 (cT y3)) (∃ (v2 : eO), Bk (λ w t1 => ∃ (u : Step), aG (bX (oN y4) x1.2.2.1.enc = bX (oN v2) w.enc) (hU (rM x1) t1 v2) (hU (rM x1) u w) (∀ (r1 : Bool), dQ r1 (t1 = u) -> bI (uD x1) (rM x1) pb 0
 (cT y3) /\ branch r1 (K (fS (↑x1.1 : Int)) (uD x1) (rM x1)) (∃ (x2 : Nat × Nat × eO × MH × PH), aA (I1 x2) (m3 x2 < m3 x1) (aA (cH pb) (eP 7) (aA (dG x1.2.1 x2.2.1) (aZ x1.1 1 x2.1) (aA (uC x1.2.2.1 x2.2.2.1) (bV (uD x1) x2.2.2.2) (bG (rM x1) (rM x2))))))))))) (∃ (y3 : Sl), B6 (bI (uD x1) (rM x1) pb 0 (cT y3)) (bI (uD x1) (rM x1) pb 0 (cT y3)) (λ x2 => aG (fD (uD x1) (fK y3) 60 22 x2) (fR (iV x2 1 * 272)) (kR x2) (mK (λ s m4 => jU (uD x1) m4 (fK y3) s 60 22 (iK x2 x1.2.2.1.enc) -> xB (λ c E => aA (KB m4 pb (xJ c E 0)) (0 < c.size) (∀ (m5 : MH), hO m4 m5 pb (mL (nG s) 1 c.toList) E -> ∃ (y4 : Sl), bI m5 (rM x1) pb 0 (cT y4) /\ K (fS (jY (aF y4))) m5 (rM x1)))))))))))))
theorem VW (N pb : Nat) (v : QV) (m : MH) (h : PH) (K : CV -> MH -> PH -> Prop) : Ma N pb v m h K = (cG (Pq N pb v) Tryz.f35 (aE Tryz.f35) (entry Tryz.f35.ntmps [cP pb, aQ v] m h) K) := by kernel_rfl
def Mn (sc : bH) (sl : Sl) (m : MH) (h : PH) (K : CV -> MH -> PH -> Prop) : Prop :=
  fB (aF sl) 32 (K (CV.tup (cV (kK (kY j7 j7)) 2)) m h) (mX (λ s s1 => aA (cK (bK sc) (bK s)) (eW h s1 s) (∀ (_ : Sl), dE (cN s1) 0 (K (CV.tup (cV (kK (kY j7 j7)) (cN s1))) m h) (G9 (λ I m1 => G5 (λ x => aA (I x) (aK sl) (aA (eP 2) (eP 4) (aA (aK sl) (cF sl) (aA (bO x.1) (bR sc) (aG qI (m = m) (h = x.2) True))))) (λ x => I x -> bE (↑x.1 : Int) (aF sl) (aY (λ b o => aG (bC sl.a b o) (0 <= (↑x.1 : Int)) ((↑x.1 : Int) < aF sl) (∃ (y : QV), bI m x.2 b (bZ o x.1 21) y.enc /\ rZ (λ s2 p v => sA (λ s3 p1 q => aA (bK sc :: bX Fj y.enc = bK s2 :: bX (dO p) v.enc) (eW x.2 s3 s2) (aA (aU x.2 p p1) (cC x.2 q v) (fM x.2 (dV s3 p1 q).1 (λ _ h1 => dE (rX s3 p1 q) 0 (K (CV.tup (lY (kK (kY j7 j7)) (CV.val (cZ
 (rX s3 p1 q))))) m h1) (∃ (x1 : Nat × PH), aA (I x1) (m1 x1 < m1 x) (aA (aK sl) fL (aA (eP 4) (aK sl) (aA (cF sl) (aZ x.1 1 x1.1) (kN (bR sc) qI (m = m) h1 x1.2))))))))))))) (∀ (b : Nat) (m2 : MH), gX m x.2 b -> hO m m2 b (kY j7 j7) 49 -> ∃ (I1 : Nat × Nat × MH × PH -> Prop) (m3 : Nat × Nat × MH × PH -> Nat), (∃ (x1 : Nat × Nat × MH × PH), aA (I1 x1) (eP 4) (aA (i7 b (oS x1)) (aK sl) (aA (cF sl) (bO x1.1) (aA qI (bV m2 x1.2.2) (bG x.2 (lQ x1)))))) /\ ∀ (x1 : Nat × Nat × MH × PH), I1 x1 -> bE (↑x1.1 : Int) (aF sl) (aY (λ b1 o => aG (bC sl.a b1 o) (0 <= (↑x1.1 : Int)) ((↑x1.1 : Int) < aF sl) (∃ (y : QV), bI (rN x1) (lQ x1) b1 (bZ o x1.1 21) y.enc /\ ∃ (y1 : Sl), aA (bI (rN x1) (lQ x1) (oS x1) 1 (cT y1)) (bI (rN x1) (lQ x1) (oS x1) 1
 (cT y1)) (kS (λ v q => ∃ (p : Nat), gW (λ s2 r => ∃ (t : List Step), aA (bX (eH (oS x1)) y.enc = bX (eH p) v.enc) (cC (lQ x1) q v) (aA (QI q) (Ie q) (aG (kF (rN x1) (lQ x1) p s2 r t) (∀ (t1 : Step), List.Mem t1 t -> zH t1) ((↑t.length : Int) + BQ q <= 1000000) (Gi (λ t1 k s3 => kD (λ m4 h1 => eU (lQ x1) h1 (xI q t t1 k) (kF m4 h1 p s3 r t1 -> (∀ (t2 : Step), List.Mem t2 t1 -> zH t2) -> zM (rN x1) m4 p s2 s3 -> B6 (bI m4 h1 (oS x1) 1 (cT y1)) (bI m4 h1 (oS x1) 1 (cT y1)) (λ x2 => aG (fD m4 (fK y1) 3 1 x2) (fR (iV x2 1 * 8)) (kR x2) (mK (λ s4 m5 => jU m4 m5 (fK y1) s4 3 1 (iK x2 (bT (↑k : Int))) -> pP m5 (oS x1) 1 (cT s4) (λ m6 => ∃ (x3 : Nat × Nat × MH × PH), aA (I1 x3) (m3 x3 < m3 x1) (aA (eP 4) (i7
 (oS x1) (oS x3)) (aA (aK sl) (cF sl) (aA (aZ x1.1 1 x3.1) qI (cQ (bV m6 x3.2.2) h1 (lQ x3))))))))))))))))))))) (∃ (y : Sl × Sl), bI (rN x1) (lQ x1) (oS x1) 0 (kY (nG y.1) (nG y.2)) /\ K (CV.tup (cV (gP y.1 y.2) 0)) (rN x1) (lQ x1)))))))))
theorem Wg (sc : bH) (sl : Sl) (m : MH) (h : PH) (K : CV -> MH -> PH -> Prop) : Mn sc sl m h K = (cG (PJ sc sl m) Tryz.f15 (aE Tryz.f15) (entry Tryz.f15.ntmps [aS sc, cS sl] m h) K) := by kernel_rfl
theorem Q3 : Sound Tryz.prog 71 SB := by
 refine aI (fn := Tryz.f71) (c := aE Tryz.f71) Tryz.func71 rfl (by decide) ?_
 rintro cvs m h K ⟨v, q, l, r, rfl, hq, hK⟩
 refine ⟨cO [(28, Fw)] [] [] [] false, rfl, aD E5 aH, ?_⟩
 rw [<- Vv v l r m h K]
 dsimp only [LV, push_cast]
 obtain ⟨op, ta, w, co, on, gr, od, li, args⟩ := q
 have p := hq.parts
 refine ⟨⟨0, 0, v.where_, v.columns, v.on, v.group, v.order, 0, ⟨none, 0, 0⟩⟩, .mk 0 0 w co on gr od 0 [], rfl, iU.rep ⟨rfl, rfl, p.where_, p.columns_, p.on_, p.group_, p.order_, rfl, .nil _ _ _ _⟩, λ v' h' le r => ?_⟩
 have q' := r.parts
 exact hK ⟨v.op, v.table, v'.where_, v'.columns, v'.on, v'.group, v'.order, v.limit, _, _⟩ h' le ⟨p.op_, p.table_, q'.where_, q'.columns_, q'.on_, q'.group_, q'.order_, p.limit_, rfl, rfl⟩
theorem zM.refl (m : MH) (pb : Nat) (s : Sl) : zM m m pb s s := ⟨λ _ _ e _ _ => e, λ b i e => .inr ⟨i, e⟩⟩
theorem zM.trans {m1 m2 : MH} {pb : Nat} {s s1 s2 : Sl} {o : Obj} (g1 : zM m m1 pb s s1) (hp : m1 pb = some o) (g2 : zM m1 m2 pb s1 s2) : zM m m2 pb s s2 := by
 refine ⟨λ b o e hb hs => g2.other b o (g1.other b o e hb hs) hb λ i e2 => ?_, λ b i e => ?_⟩
 . rcases g1.fresh b i e2 with h | ⟨j, h⟩
   . rw [e] at h; cases h
   . exact hs j h
 . rcases g2.fresh b i e with h | ⟨j, h⟩
   . cases e2 : m b with
     | none => exact .inl rfl
     | some o2 =>
      by_cases hs : ∃ i, s.a = some ⟨b, i, none⟩
      . exact .inr hs
      . have hb : b ≠ pb := λ e3 => by rw [e3, hp] at h; cases h
        rw [g1.other b o2 e2 hb λ i e3 => hs ⟨i, e3⟩] at h
        cases h
   . exact g1.fresh b j h
theorem zM.upd {m1 m2 : MH} {pb ab : Nat} {s s1 : Sl} {o : Obj} (g : zM m m1 pb s s1) (u : gS m1 m2 ab o) (h : m ab = none) : zM m m2 pb s s1 := ⟨λ b o e hb hs => by
 rw [u.other b (λ e2 => by rw [e2, h] at e; cases e)]
 exact g.other b o e hb hs, g.fresh⟩
theorem kF.keep {pb ab : Nat} {s : Sl} {o : Obj} (x : kF m h pb s r ts) (le : PH.le h h') (u : gS m m' ab o) (h1 : ab ≠ pb) (h2 : ∀ cur, m ab ≠ some (.cells cur 60 (0, 0))) : kF m' h' pb s r ts := by
 obtain ⟨vs, a, b⟩ := x.row
 refine ⟨by rw [u.other pb h1.symm]; exact x.at_, vs, fD.keep a λ c i e => u.other c λ e2 => ?_, b.1, λ i t e => ?_⟩
 . obtain ⟨cur, e3⟩ := fD.blk a e
   rw [e2] at e3
   exact h2 cur e3
 . obtain ⟨v, e1, e2⟩ := b.2 i t e
   exact ⟨v, e1, e2.mono le⟩
theorem kF.mono {pb : Nat} {s : Sl} (x : kF m h pb s r ts) (le : PH.le h h') : kF m h' pb s r ts := by
 obtain ⟨vs, a, b⟩ := x.row
 refine ⟨x.at_, vs, a, b.1, λ i t e => ?_⟩
 obtain ⟨v, e1, e2⟩ := b.2 i t e
 exact ⟨v, e1, e2.mono le⟩
theorem kF.len {pb : Nat} {s : Sl} (x : kF m h pb s r ts) : s.len = ts.length := by
 obtain ⟨vs, a, b⟩ := x.row
 have := fD.slen a
 rw [List.length_map, b.1] at this
 exact this
structure Wt (m0 : MH) (pb ab : Nat) (s0 r : Sl) (args : List Query) (ts : List Step) (i : Nat) (m : MH) (h : PH) (s : Sl) (ts1 : List Step) (l : Nat) (ts2 : List Step) (k : Nat) : Prop where
 one : if i = 0 then ts1 = ts /\ l = 0 else HY args ts ts1 l
 two : if i <= 1 then ts2 = ts1 /\ k = 0 else Second args ts1 ts2 k
 plan : kF m h pb s r ts2
 ints : ∀ t ∈ ts2, zH t
 arr : m ab = some (.cells #[.int .i64 l, .int .i64 k] 78 (0, 0))
 grew : zM m0 m pb s0 s
 len : (ts2.length : Int) + kX (args.drop i) + 1 <= 1000000
theorem Steps.snoc {vs : List eO} {v : eO} (s : Steps h vs ts) (hv : hU h t v) : Steps h (vs ++ [v]) (ts ++ [t]) := by
 refine ⟨by simp [s.1], λ i x e => ?_⟩
 by_cases hi : i < ts.length
 . rw [List.getElem?_append_left hi] at e
   obtain ⟨u, h1, h2⟩ := s.2 i x e
   exact ⟨u, by rw [List.getElem?_append_left (by rw [s.1]; exact hi)]; exact h1, h2⟩
 . have hl := (List.getElem?_eq_some_iff.1 e).1
   simp at hl
   obtain rfl : i = ts.length := by omega
   simp at e
   subst e
   exact ⟨v, by rw [<- s.1]; simp, hv⟩
theorem PR {α : Type} {l : List α} {a : α} (h : l[i]? = some a) : l.drop i = a :: l.drop (i + 1) := by
 obtain ⟨hl, e⟩ := List.getElem?_eq_some_iff.1 h
 rw [List.drop_eq_getElem_cons hl, e]
theorem Pr : ∀ N, Sound Tryz.prog 35 (P8 N)
 | 0 => by
  refine aI (fn := Tryz.f35) (c := aE Tryz.f35) Tryz.func35 rfl (by decide) ?_
  rintro cvs m h K ⟨v, q, pb, s, r, ts, rfl, _, hN, _⟩
  omega
 | N + 1 => by
  refine aI (fn := Tryz.f35) (c := aE Tryz.f35) Tryz.func35 rfl (by decide) ?_
  rintro cvs m h K ⟨v, q, pb, s, r, ts, rfl, hq, hN, hi, ha, hp, hts, hl, hK⟩
  refine ⟨Pq N pb v, rfl, aD (Pr N) (aD Q3 (aD Rv aH)), ?_⟩
  rw [<- VW N pb v m h K]
  dsimp only [Ma, push_cast]
  have hargs := @qS q
  obtain ⟨op, ta, w, co, on, gr, od, li, args⟩ := q
  have x := hq.parts
  have hal := x.args_.slen
  rw [GR] at hi
  obtain ⟨hn, hia⟩ := hi
  rw [MQ] at ha
  obtain ⟨har, haa⟩ := ha
  have ha2 := AX op
  simp only [BQ] at hl
  simp only [Query.args] at hargs
  intro ab m1 hun hup
  have npb : ab ≠ pb := λ e => by have := hp.at_; rw [<- e, hun.m_] at this; cases this
  refine ⟨λ ⟨i, b, mx, hx⟩ => b = ab /\ i <= args.length /\ PH.le h hx /\ ∃ s1 ts1 l ts2 k, Wt m pb ab s r args ts i mx hx s1 ts1 l ts2 k, λ ⟨i, _⟩ => args.length - i, ⟨(0, ab, m1, h), ⟨rfl, by omega, .refl _, s, ts, 0, ts, 0, ?_⟩, MT⟩, ?_⟩
  . exact ⟨⟨rfl, rfl⟩, ⟨rfl, rfl⟩, hp.keep (.refl _) hup npb (by rw [hun.m_]; simp), hts, hup.at_, (zM.refl m pb s).upd hup hun.m_, by simp; omega⟩
  rintro ⟨i, b, mx, hx⟩ ⟨rfl, hi, hle, s1, ts1, l, ts2, k, A⟩
  dsimp only
  have nrow : ∀ {m' : MH} {hy : PH} {s' : Sl} {us : List Step} {cs : Array Value}, kF m' hy pb s' r us -> m' b = some (.cells cs 78 (0, 0)) -> ∀ j, s'.a ≠ some ⟨b, j, none⟩ := λ P e j e2 => by
   obtain ⟨vs, a, _⟩ := P.row
   obtain ⟨cur, e3⟩ := fD.blk a e2
   rw [e] at e3
   cases e3
  refine aC (λ hlt => ?_) (λ hge => ?_)
  . obtain ⟨a, hai⟩ := fP hal hlt
    obtain ⟨b1, o1, u, e1, r1, hru⟩ := (x.args_.mono hle).at hai
    have hm := List.mem_of_getElem? hai
    have hil := (List.getElem?_eq_some_iff.1 hai).1
    have hd := PR hai
    have len := A.len
    rw [hd] at len
    simp only [kX] at len
    have p0 := nH (args.drop (i + 1))
    refine ⟨b1, o1, e1, by omega, hlt, u, .imm r1, u, a, pb, s1, r, ts2, rfl, hru, by have := hargs hm; omega, hia a hm, haa a hm, A.plan, A.ints, by omega, λ ts' k' s' m' h' le' hadd hp' hts' g' => ?_⟩
    have nab := g'.other b _ A.arr npb (nrow A.plan A.arr)
    have l' := uN a hadd
    have g2 := A.grew.trans A.plan.at_ g'
    refine ⟨by omega, by omega, _, _, ⟨nab⟩, by simp; omega, λ m2 hu => ?_⟩
    rcases (show i = 0 \/ i = 1 by omega) with rfl | rfl
    . exact ⟨(1, b, m2, h'), ⟨rfl, hil, hle.trans le', s', ts', k', ts', 0, ⟨by rw [show args = a :: args.drop 1 from hd]; obtain ⟨⟨e2, _⟩, e3, _⟩ := And.intro A.one A.two; rw [<- e2, <- e3]; exact hadd, ⟨rfl, rfl⟩, hp'.keep (.refl _) hu npb (by rw [nab]; simp), hts', by have := A.two.2; subst this; exact hu.at_, g2.upd hu hun.m_, by show (ts'.length : Int) + kX (args.drop (0 + 1)) + 1 <= 1000000; omega⟩⟩, by show args.length - 1 < args.length - 0; omega, MT⟩
    . exact ⟨(2, b, m2, h'), ⟨rfl, hil, hle.trans le', s', ts1, l, ts', k', ⟨A.one, by
       have e2 : ts2 = ts1 := A.two.1
       show Second args ts1 ts' k'
       have e3 : args = args.drop 0 := rfl
       obtain ⟨a0, h0⟩ : ∃ a0, args[0]? = some a0 := ⟨_, List.getElem?_eq_getElem (by omega)⟩
       rw [e3, PR h0, show args.drop (0 + 1) = a :: args.drop 2 from hd, <- e2]
       exact hadd, hp'.keep (.refl _) hu npb (by rw [nab]; simp), hts', by exact hu.at_, g2.upd hu hun.m_, by show (ts'.length : Int) + kX (args.drop (1 + 1)) + 1 <= 1000000; omega⟩⟩, by show args.length - 2 < args.length - 1; omega, MT⟩
  have hi2 : i = args.length := by omega
  have hF : HY args ts ts1 l := by
   have h1 := A.one
   split at h1
   . cases args with
     | nil => exact h1
     | cons a rs => simp at hi2; omega
   . exact h1
  have hS : Second args ts1 ts2 k := by
   have h1 := A.two
   split at h1
   . cases args with
     | nil => exact h1
     | cons a rs => cases rs with
      | nil => exact h1
      | cons b rs => simp at hi2; omega
   . exact h1
  have hT : zH ⟨op, ta, w, co, on, gr, od, li, (l : Nat), (k : Nat)⟩ := by
   obtain ⟨h1, h2, h3, h4, h5⟩ := hn
   exact ⟨h1, h2, h3, h4, h5⟩
  have tl := A.len
  have p0 := nH (args.drop i)
  refine ⟨by decide, by decide, (l : Int), .of_m A.arr rfl, by decide, by decide, (k : Int), .of_m A.arr rfl, v, _, (l : Int), (k : Int), rfl, hq.mono hle, λ t' h' le' rt => ?_⟩
  have P := A.plan.mono le'
  have sl := P.len
  refine ⟨s1, .of_m P.at_ rfl, λ ⟨j, n, t, m', hy⟩ => n = ts2.length /\ t = t' /\ m' = mx /\ hy = h' /\ j <= ts2.length /\ ∀ y ∈ ts2.take j, y ≠ ⟨op, ta, w, co, on, gr, od, li, (l : Nat), (k : Nat)⟩, λ ⟨j, _⟩ => ts2.length - j, ⟨(0, s1.len, t', mx, h'), ⟨sl, rfl, rfl, rfl, by omega, by simp⟩, MT⟩, ?_⟩
  rintro ⟨j, n, t, m', hy⟩ ⟨rfl, rfl, rfl, rfl, hj, hno⟩
  dsimp only
  obtain ⟨vs, hr, hst⟩ := P.row
  refine aC (λ hlt => ?_) (λ hge => ?_)
  . obtain ⟨y, hy2⟩ : ∃ y, ts2[j]? = some y := ⟨_, List.getElem?_eq_getElem (by omega)⟩
    obtain ⟨u, hu, ru⟩ := hst.2 j y hy2
    obtain ⟨b1, o1, e1, rd⟩ := fD.rdAt (h := hy) hr (i := j) (e := eO.enc u) (by rw [List.getElem?_map, hu]; rfl)
    refine ⟨s1, .of_m P.at_ rfl, b1, o1, e1, by omega, by omega, u, rd, .of_m P.at_ rfl, u, t, y, _, rfl, ru, rt, λ z hz => ⟨.of_m P.at_ rfl, aB (λ h1 => ?_) (λ h1 => ⟨(j + 1, ts2.length, t, m', hy), ⟨rfl, rfl, rfl, rfl, by show j + 1 <= ts2.length; omega, λ y' hy' => ?_⟩, by show ts2.length - (j + 1) < ts2.length - j; omega, MT⟩)⟩⟩
    . exact hK ts2 j s1 m' hy (hle.trans le') (rA.2 ⟨ts1, l, ts2, k, hF, hS, .inl ⟨y, hy2, by rw [hz.1 h1]; rfl, rfl⟩⟩) P A.ints A.grew
    . rw [List.take_add_one, hy2] at hy'
      rcases List.mem_append.1 hy' with h2 | h2
      . exact hno y' h2
      . simp at h2
        subst h2
        intro e2
        rw [hz.2 e2] at h1
        cases h1
  . have hjl : ts2.take j = ts2 := List.take_of_length_le (by omega)
    rw [hjl] at hno
    have npr : ∀ c i, s1.a = some ⟨c, i, none⟩ -> c ≠ pb := λ c i e e2 => by
     obtain ⟨cur, e3⟩ := fD.blk hr e
     rw [e2, P.at_] at e3
     cases e3
    refine ⟨s1, .of_m P.at_ rfl, .of_m P.at_ rfl, _, hr, by rw [List.length_map, hst.1]; omega, by rw [List.length_map, hst.1]; omega, λ s' m2 g => ?_⟩
    have m2p := g.other pb _ P.at_ λ i e => npr _ i e rfl
    refine ⟨_, _, ⟨m2p⟩, by simp, λ m3 hu => ?_⟩
    have hu : gS m2 m3 pb (.cells #[.slice s'.a s'.len s'.cap, .slice r.a r.len r.cap] 49 (0, 0)) := hu
    have npr' : ∀ c i, s'.a = some ⟨c, i, none⟩ -> c ≠ pb := λ c i e e2 => by
     rcases g.fresh c i e with h1 | ⟨q, h1⟩
     . rw [e2, P.at_] at h1; cases h1
     . exact npr c q h1 e2
    have hrow : fD m3 s' 60 22 ((vs ++ [t]).map eO.enc) := by
     rw [List.map_append]
     exact fD.keep g.row λ c i e => hu.other c (npr' c i e)
    have hsl : s'.len = ts2.length + 1 := by
     have := fD.slen hrow
     simp [hst.1] at this
     exact this
    refine ⟨s', .of_m hu.at_ rfl, ?_⟩
    rw [hsl, dP (by omega) (by omega), show ((ts2.length + 1 : Nat) : Int) - 1 = (ts2.length : Nat) by omega]
    refine hK (ts2 ++ [⟨op, ta, w, co, on, gr, od, li, (l : Nat), (k : Nat)⟩]) ts2.length s' m3 hy (hle.trans le') (rA.2 ⟨ts1, l, ts2, k, hF, hS, .inr ⟨λ y hy3 e => hno y hy3 (key_inj (A.ints y hy3) hT e), rfl, rfl⟩⟩) ⟨hu.at_, vs ++ [t], hrow, Steps.snoc hst rt⟩ (λ y hy3 => ?_) ?_
    . rcases List.mem_append.1 hy3 with h2 | h2
      . exact A.ints y h2
      . simp at h2; subst h2; exact hT
    . refine A.grew.trans P.at_ ⟨λ c o e hc hs => by rw [hu.other c hc]; exact g.other c o e hs, g.fresh⟩
theorem Rm : Sound Tryz.prog 35 P9 := gN Pr λ _ _ _ _ ⟨v, q, pb, s, r, ts, e, h1, h2⟩ => ⟨SizeOf.sizeOf q + 1, v, q, pb, s, r, ts, e, h1, by omega, h2⟩
theorem RE {qs : List Query} (h : lJ s qs = 0) : qs.length <= 32 /\ cN s = 0 /\ ∀ (i : Nat) q, qs[i]? = some q -> (∀ (j : Nat) x, j < i -> qs[j]? = some x -> (dV s [] x).2 = 0) -> (dV s [] q).2 = 0 := by
 unfold lJ at h
 split at h
 . cases h
 rename_i h1
 split at h
 . rename_i h2; exact absurd h h2
 rename_i h2
 refine ⟨by omega, Classical.not_not.1 h2, λ i q hi hj => Classical.byContradiction λ he => ?_⟩
 have hfe : iS (qs.map λ q => (dV s [] q).2) = (dV s [] q).2 := BA (i := i) (by simp [hi]) he (λ j x hj2 hx => by
  rw [List.getElem?_map, Option.map_eq_some_iff] at hx
  obtain ⟨q', hq', rfl⟩ := hx
  exact hj j q' hj2 hq')
 exact he (by rw [<- hfe]; exact h)
structure WI (m0 : MH) (qs : List Query) (b i : Nat) (m : MH) (h : PH) (s r : Sl) (ts : List Step) (ks : List Nat) : Prop where
 len : ks.length = i
 add : uP (qs.take i) [] ts ks
 plan : kF m h b s r ts
 ints : ∀ t ∈ ts, zH t
 sf : ∀ c j, s.a = some ⟨c, j, none⟩ -> m0 c = none
 roots : oD m0 m r 3 1 (ks.map fun (k : Nat) => eI k)
 sub : Sub m0 m
 size : ts.length <= 24 * i
theorem Ry : Sound Tryz.prog 15 F6 := by
 refine aI (fn := Tryz.f15) (c := aE Tryz.f15) Tryz.func15 rfl (by decide) ?_
 rintro cvs m h K ⟨sc, sl, s, qs, rfl, hs, hq, hI, hE, hK⟩
 refine ⟨PJ sc sl m, rfl, aD IW (aD E6 (aD Rm aH)), ?_⟩
 rw [<- Wg sc sl m h K]
 dsimp only [Mn, push_cast]
 have hl := hq.slen
 obtain ⟨q32, hs0, hall0⟩ := RE hE
 refine aC (λ h1 => by omega) (λ _ => ⟨sc, s, rfl, hs, λ _ => aB (λ h2 => ?_) (λ _ => ?_)⟩)
 . simp [hs0] at h2
 refine ⟨λ ⟨i, hx⟩ => i <= qs.length /\ PH.le h hx /\ ∀ j q, j < i -> qs[j]? = some q -> (dV s [] q).2 = 0, λ ⟨i, _⟩ => qs.length - i, ⟨(0, h), ⟨by omega, .refl _, λ j q hj => by omega⟩, MT⟩, ?_⟩
 rintro ⟨i, hx⟩ ⟨hi, hle, hall⟩
 dsimp only
 refine aC (λ hlt => ?_) (λ hge b m1 hb hu1 => ?_)
 . obtain ⟨q, hqi⟩ := fP hl hlt
   obtain ⟨b1, o1, u, e1, r1, hru⟩ := (hq.mono hle).at hqi
   have he := hall0 i q hqi hall
   refine ⟨b1, o1, e1, by omega, hlt, u, .imm r1, sc, cA, u, s, [], q, rfl, hs.mono hle, jH _, hru, λ s1 h1 le1 ri => aB (λ h2 => by simp [he] at h2) (λ _ => ⟨(i + 1, h1), ⟨by show i + 1 <= qs.length; omega, hle.trans le1, λ j q' hj hq' => ?_⟩, by show qs.length - (i + 1) < qs.length - i; omega, MT⟩)⟩
   by_cases hji : j = i
   . subst hji; rw [hqi] at hq'; cases hq'; exact he
   . exact hall j q' (by omega) hq'
 have hall' : ∀ q ∈ qs, (dV s [] q).2 = 0 := λ q hq' => by
  obtain ⟨j, hj⟩ := List.mem_iff_getElem?.1 hq'
  exact hall j q (by have := (List.getElem?_eq_some_iff.1 hj).1; omega) hj
 have nb : m b = none := hb.m_
 refine ⟨λ ⟨i, b', mx, hy⟩ => b' = b /\ i <= qs.length /\ PH.le hx hy /\ ∃ s1 r1 ts ks, WI m qs b i mx hy s1 r1 ts ks, λ ⟨i, _⟩ => qs.length - i, ⟨(0, b, m1, hx), ⟨rfl, by omega, .refl _, cA, cA, [], [], ⟨rfl, ⟨rfl, rfl⟩, ⟨hu1.at_, [], fD.nil _ _ _, rfl, λ i t e => by simp at e⟩, λ t ht => (by simp at ht), λ c j e => (by cases e), oD.nil _ _ _ _, gS.keeps hb hu1, by simp⟩⟩, MT⟩, ?_⟩
 clear hi hge hall i
 rintro ⟨i, b', mx, hy⟩ ⟨rfl, hi, hle2, s1, r1, ts, ks, A⟩
 dsimp only
 have at0 := A.plan.at_
 refine aC (λ hlt => ?_) (λ hge => ?_)
 . obtain ⟨q, hqi⟩ := fP hl hlt
   obtain ⟨b1, o1, u, e1, rd1, hru⟩ := (hq.mono (hle.trans hle2)).at hqi
   have hqm := List.mem_of_getElem? hqi
   have hq0 := hall' q hqm
   have hsz := Io (FK hq0)
   have hsize := A.size
   refine ⟨b1, o1, e1, by omega, hlt, u, .imm rd1, r1, .of_m at0 rfl, .of_m at0 rfl, u, q, b', s1, r1, ts, rfl, hru, hI q hqm hq0, RY hq0, A.plan, A.ints, by omega, λ ts' k s' m' h' le' ha hp' hts' g' => ⟨.of_m hp'.at_ rfl, .of_m hp'.at_ rfl, ?_⟩⟩
   obtain ⟨vs, srow, _⟩ := A.plan.row
   obtain ⟨vs', srow', sst'⟩ := hp'.row
   have rblk : ∀ c j, r1.a = some ⟨c, j, none⟩ -> c ≠ b' /\ (∀ n, s1.a ≠ some ⟨c, n, none⟩) /\ m' c = mx c /\ ∃ cur, m' c = some (.cells cur 3 (0, 0)) := λ c j e => by
    obtain ⟨cur, e2⟩ := fD.blk A.roots.row e
    have h1 : c ≠ b' := λ e3 => by rw [e3, at0] at e2; cases e2
    have h2 : ∀ n, s1.a ≠ some ⟨c, n, none⟩ := λ n e3 => by
     obtain ⟨cur2, e4⟩ := fD.blk srow e3
     rw [e2] at e4; cases e4
    have h3 := g'.other c _ e2 h1 h2
    exact ⟨h1, h2, by rw [h3, e2], cur, h3⟩
   have rrow : fD m' r1 3 1 (ks.map fun (k : Nat) => eI k) := fD.keep A.roots.row λ c j e => (rblk c j e).2.2.1
   have kl := A.len
   refine ⟨_, rrow, by rw [List.length_map]; omega, by rw [List.length_map]; omega, λ s2 m2 g => ?_⟩
   have m2b := g.other b' _ hp'.at_ λ j e => (rblk _ j e).1 rfl
   refine ⟨_, _, ⟨m2b⟩, by simp, λ m3 hu => ?_⟩
   have hu : gS m2 m3 b' (.cells #[.slice s'.a s'.len s'.cap, .slice s2.a s2.len s2.cap] 49 (0, 0)) := hu
   have sub' : Sub m m' := λ c o e => g'.other c o (A.sub c o e) (λ e2 => by rw [e2, nb] at e; cases e) (λ j e2 => by rw [A.sf c j e2] at e; cases e)
   have sub3 : Sub m m3 := λ c o e => by
    rw [hu.other c (λ e2 => by rw [e2, nb] at e; cases e)]
    exact g.other c o (sub' c o e) (λ j e2 => by rw [A.roots.fresh c j e2] at e; cases e)
   have none_ : ∀ c, mx c = none -> m c = none := λ c e => by
    cases e2 : m c with
    | none => rfl
    | some o => rw [A.sub c o e2] at e; cases e
   have none' : ∀ c, m' c = none -> m c = none := λ c e => by
    cases e2 : m c with
    | none => rfl
    | some o => rw [sub' c o e2] at e; cases e
   refine ⟨(i + 1, b', m3, h'), ⟨rfl, by show i + 1 <= qs.length; omega, hle2.trans le', s', s2, ts', ks ++ [k], ⟨by simp [kl], by rw [List.take_add_one, hqi]; exact Cq A.add ha, ⟨hu.at_, vs', ?_, sst'⟩, hts', λ c j e => ?_, ⟨?_, λ c j e => ?_⟩, sub3, ?_⟩⟩, by show qs.length - (i + 1) < qs.length - i; omega, MT⟩
   . refine fD.keep srow' λ c j e => ?_
     obtain ⟨cur, e2⟩ := fD.blk srow' e
     show m3 c = m' c
     rw [hu.other c (λ e3 => by rw [e3, hp'.at_] at e2; cases e2), e2]
     refine g.other c _ e2 λ n e3 => ?_
     obtain ⟨_, _, _, cur2, e4⟩ := rblk c n e3
     rw [e2] at e4; cases e4
   . rcases g'.fresh c j e with h1 | ⟨n, h1⟩
     . exact none_ c h1
     . exact A.sf c n h1
   . rw [List.map_append]
     refine fD.keep g.row λ c j e => hu.other c λ e2 => ?_
     rcases g.fresh c j e with h1 | ⟨n, h1⟩
     . rw [e2, hp'.at_] at h1; cases h1
     . exact (rblk c n h1).1 e2
   . rcases g.fresh c j e with h1 | ⟨n, h1⟩
     . exact none' c h1
     . exact A.roots.fresh c n h1
   . have := uN q ha; omega
 . have hadd := A.add
   rw [List.take_of_length_le (by omega)] at hadd
   obtain ⟨vs, srow, sst⟩ := A.plan.row
   exact ⟨(s1, r1), .of_m at0 rfl, hK s1 r1 ts ks mx hy (hle.trans hle2) A.sub hadd ⟨⟨vs, ⟨srow, A.sf⟩, sst⟩, A.roots⟩⟩
structure MW (t : Step) : Prop where
 wher : wV t.wher
 cols : t.columns.length <= 1000000
def P0 : Vc.Spec := λ cvs m h K => ∃ cb p r ts rs, cvs = [cP cb, M3 p r] /\ aM m h cb /\ gA h p r ts rs /\ ts.length <= 1000000 /\ rs.length <= 1000000 /\ (∀ t ∈ ts, MW t) /\ ∀ p' r' ts' rs' m' h', PH.le h h' -> gA h' p' r' ts' rs' -> bP m m' cb -> aM m' h' cb -> K (M3 p' r') m' h'
noncomputable def PF (cb : Nat) (h : PH) : Ctx :=
 cO [(10, Ez), (12, zL), (30, P4)] []
  [(6, { A := List eO × List Int × MH, st := λ ⟨vs, rs, m⟩ => cD 105 107 [(0, pv cb), (3, .at (.ptr 3 0)), (4, .at (.ptr 4 0))] [(3, .cells 49 [.lst 8, .lst 12]), (4, .cells 49 [.val (.slice none 0 0), .val (.slice none 0 0)]), (8, .lst 60 22 (vs.map eO.enc)), (12, .lst 3 1 (rs.map eI))] m h }),
   (19, { A := List eO × List Int × MH × PH, st := λ ⟨vs, rs, m, h⟩ => cD 105 107 [(3, .at (.ptr 3 0)), (4, .at (.ptr 4 0))] [(3, .cells 49 [.lst 8, .lst 12]), (4, .cells 49 [.val (.slice none 0 0), .val (.slice none 0 0)]), (8, .lst 60 22 (vs.map eO.enc)), (12, .lst 3 1 (rs.map eI))] m h })] [] false
abbrev Ak (a : Nat) : Prop := eQ (oQ 49 (kJ (At.lst a) (At.lst 12)))
noncomputable abbrev mH (a : List eO × List Int × MH) : List (List Value) := List.map eO.enc a.1
abbrev DA (a b : Prop) (c : (List eO × List Int × MH × PH) -> Prop) : Prop := aA a b (∃ (x : List eO × List Int × MH × PH), c x)
noncomputable abbrev Am (a : List eO × List Int × MH × PH) : List (List Value) := List.map eO.enc a.1
noncomputable abbrev Al (a : List eO × List Int × MH × PH) : Nat -> Nat -> Option Value := a.2.2.2
attribute [push_cast] Ak mH DA Am Al
def Mk (cb : Nat) (p r : Sl) (m : MH) (h : PH) (K : CV -> MH -> PH -> Prop) : Prop :=
  ∃ (y : List (List Value)), AG (dK 22 y) (cW h (fK p) 22 y) (tK y 272) (tL y) (λ y1 => aA (dK 1 y1) (cW h (fK r) 1 y1) (aA (tK y1 8) (tL y1) (∃ (I : List eO × List Int × MH -> Prop), dW (kE y) 0 (eV cb 40 m h (λ c n k m1 => aW k -> k < n \/ k = 0 -> eC m m1 c h (oO y1 8 (bQ h 22 y (λ s h1 => bQ h1 1 (iK y1 (bT (y9 (k - 3)))) (λ s1 h2 => K (gP s s1) m1 h2)))))) (mS cb 5 m h (λ c r1 m1 => eC m m1 c h (branch r1 (eV cb 40 m1 h (λ c1 n k m2 => aW k -> k < n \/ k = 0 -> eC m1 m2 c1 h (oO y1 8 (bQ h 22 y (λ s h1 => bQ h1 1 (iK y1 (bT (y9 (k - 3)))) (λ s1 h2 => K (gP s s1) m2 h2)))))) (∃ (x : List eO × List Int × MH), aA (I x) (cH cb) (aA (eP 3) (eP 4) (aA (Ak 8) qI (aA (cM 60 22 y = cM 60 22 (mH x)) (mT y1
 x.2.1) (cQ (m1 = x.2.2) h h)))))))) /\ ∀ (x : List eO × List Int × MH), I x -> eV cb (kE (mH x)) x.2.2 h (λ c n k m1 => aW k -> k < n \/ k = 0 -> eC x.2.2 m1 c h (aA (aW k) (k < kE (mH x)) (∃ (I1 : List eO × List Int × MH × PH -> Prop), eV cb 6 m1 h (λ c1 n1 k1 m2 => aW k1 -> k1 < n1 \/ k1 = 0 -> eC m1 m2 c1 h (dT (k1 == 0) (eV cb (eR (↑(mH x).length : Int) 2) m2 h (λ c2 n2 k2 m3 => aW k2 -> k2 < n2 \/ k2 = 0 -> eC m2 m3 c2 h (∃ (e : List Value), DA (fO (mH x) k e) (rW 20 e) (λ x1 => aA (I1 x1) hJ (aA (eP 4) (Ak 8) (aA qI (cM 60 22 (oW (mH x) k (splice e 20 (bT (jY k2)))) = cM 60 22 (Am x1)) (aA (jK x.2.1 x1.2.1) (bV m3 x1.2.2) (bG h (Al x1))))))))) (k1 == 1) (eV cb (eR (↑(mH x).length : Int) 2) m2 h (λ c2 n2 k2 m3 =>
 aW k2 -> k2 < n2 \/ k2 = 0 -> eC m2 m3 c2 h (∃ (e : List Value), DA (fO (mH x) k e) (rW 21 e) (λ x1 => aA (I1 x1) hJ (aA (eP 4) (Ak 8) (aA qI (cM 60 22 (oW (mH x) k (splice e 21 (bT (jY k2)))) = cM 60 22 (Am x1)) (aA (jK x.2.1 x1.2.1) (bV m3 x1.2.2) (bG h (Al x1))))))))) (dT (k1 == 2) (eV cb 13 m2 h (λ c2 n2 k2 m3 => aW k2 -> k2 < n2 \/ k2 = 0 -> eC m2 m3 c2 h (∃ (e : List Value), DA (fO (mH x) k e) (rW 0 e) (λ x1 => aA (I1 x1) hJ (aA (eP 4) (Ak 8) (aA qI (cM 60 22 (oW (mH x) k (mL (cZ k2) 1 e)) = cM 60 22 (Am x1)) (aA (jK x.2.1 x1.2.1) (bV m3 x1.2.2) (bG h (Al x1))))))))) (k1 == 3) (∃ (e : List Value), fO (mH x) k e /\ ∃ (y2 : Sl), Bl (iO 1 15 e (cT y2)) (λ y3 => aA (dK 1 y3)
 (cW h (fK y2) 1 y3) (aA (tK y3 8) (tL y3) (eV cb 9 m2 h (λ c2 n2 k2 m3 => aW k2 -> k2 < n2 \/ k2 = 0 -> eC m2 m3 c2 h (oO y3 8 (bQ h 1 (iK y3 (bT (jY k2))) (λ s h1 => ∃ (e1 : List Value), DA (fO (mH x) k e1) (rW 15 e1) (λ x1 => aA (I1 x1) hJ (aA (eP 4) (Ak 8) (aA qI (cM 60 22 (oW (mH x) k (splice e1 15 (cT s))) = cM 60 22 (Am x1)) (aA (jK x.2.1 x1.2.1) (bV m3 x1.2.2) (bG h1 (Al x1)))))))))))))) (dW k1 4 (eV cb 7 m2 h (λ c2 n2 k2 m3 => aW k2 -> k2 < n2 \/ k2 = 0 -> eC m2 m3 c2 h (∃ (e : List Value), DA (fO (mH x) k e) (rW 1 e) (λ x1 => aA (I1 x1) hJ (aA (eP 4) (Ak 8) (aA qI (cM 60 22 (oW (mH x) k (splice e 1 (bT (jY k2)))) = cM 60 22 (Am x1)) (aA (jK x.2.1 x1.2.1) (bV m3
 x1.2.2) (bG h (Al x1))))))))) (∃ (e : List Value), fO (mH x) k e /\ ∃ (y2 : PV), iO 13 2 e y2.enc /\ ∃ (c2 : Nat), kC (λ v p1 => aA (bX (eH cb) y2.enc = bX (eH c2) v.enc) (aM m2 h c2) (aA (cX h p1 v) (wV p1) (nD h m2 c2 (λ v1 m3 h1 => ∃ (e1 : List Value), DA (fO (mH x) k e1) (15 <= e1.length) (λ x1 => aA (I1 x1) hJ (aA (eP 4) (Ak 8) (aA qI (cM 60 22 (oW (mH x) k (splice e1 2 v1.enc)) = cM 60 22 (Am x1)) (aA (jK x.2.1 x1.2.1) (bV m3 x1.2.2) (bG h1 (Al x1))))))))))))))) /\ ∀ (x1 : List eO × List Int × MH × PH), I1 x1 -> bQ (Al x1) 22 (Am x1) (λ s h1 => bQ h1 1 (bY x1.2.1) (λ s1 h2 => K (gP s s1) x1.2.2.1 h2))))))))
theorem Wb (cb : Nat) (p r : Sl) (m : MH) (h : PH) (K : CV -> MH -> PH -> Prop) : Mk cb p r m h K = (cG (PF cb h) Tryz.f21 (aE Tryz.f21) (entry Tryz.f21.ntmps [cP cb, M3 p r] m h) K) := by kernel_rfl
theorem RU (l : List eO) : dK 22 (l.map eO.enc) := by
 constructor
 . intro e he; obtain ⟨x, _, rfl⟩ := List.mem_map.1 he; rfl
 . intro e he u hu; obtain ⟨x, _, rfl⟩ := List.mem_map.1 he; simp [eO.enc] at hu; rcases hu with rfl | rfl | rfl | rfl | rfl | rfl | rfl | rfl | rfl | rfl | rfl | rfl | rfl | rfl | rfl | rfl | rfl | rfl | rfl | rfl | rfl | rfl <;> rfl
theorem Steps.mono {vs : List eO} (s : Steps h vs ts) (le : PH.le h h') : Steps h' vs ts := ⟨s.1, λ i t e => by
 obtain ⟨v, h1, h2⟩ := s.2 i t e
 exact ⟨v, h1, h2.mono le⟩⟩
theorem Steps.set {vs : List eO} (s : Steps h vs ts) (i : Nat) {v : eO} (hv : hU h t v) : Steps h (vs.set i v) (ts.set i t) := by
 refine ⟨by simp [s.1], λ j x e => ?_⟩
 rw [List.getElem?_set] at e
 split at e
 . rename_i hij
   subst hij
   split at e
   . cases e; exact ⟨v, by rw [List.getElem?_set_self (by rw [s.1]; assumption)], hv⟩
   . cases e
 . obtain ⟨u, h1, h2⟩ := s.2 j x e
   exact ⟨u, by rw [List.getElem?_set_ne (by assumption)]; exact h1, h2⟩
theorem Qr (vs : List eO) (i : Nat) (v : eO) {e : List Value} (h : e = eO.enc v) : (List.map eO.enc vs).set i e = List.map eO.enc (vs.set i v) := by rw [h, List.map_set]
theorem Ru : Sound Tryz.prog 21 P0 := by
 refine aI (fn := Tryz.f21) (c := aE Tryz.f21) Tryz.func21 rfl (by decide) ?_
 rintro cvs m h K ⟨cb, p, r, ts, rs, rfl, hc, x, tl, rl, hw, hK⟩
 refine ⟨PF cb h, rfl, aD sJ (aD Cg (aD Rp aH)), ?_⟩
 rw [<- Wb cb p r m h K]
 dsimp only [Mk, push_cast]
 obtain ⟨vs, hv, hst⟩ := x.steps
 have vl := hst.1
 have add : ∀ (k : Int) (m' : MH), bP m m' cb -> aM m' h cb -> (rs.map eI).length + 1 <= 1000001 /\ ∀ (s : Sl) (h' : PH), PH.le h h' -> cW h' s 22 (vs.map eO.enc) -> ∀ (s1 : Sl) (h2 : PH), PH.le h' h2 -> cW h2 s1 1 (rs.map eI ++ [[cZ k]]) -> K (kK [nG s, nG s1]) m' h2 := λ k m' o c => ⟨by rw [List.length_map]; omega, λ s h' le hs s1 h2 le2 hs1 => hK s s1 ts (rs ++ [k]) m' h2 (le.trans le2) ⟨⟨vs, hs.mono le2, hst.mono (le.trans le2)⟩, ⟨by rw [List.map_append]; exact hs1, by simp; omega⟩, by omega⟩ o (c.mono (le.trans le2))⟩
 refine ⟨vs.map eO.enc, RU vs, hv, by simp; omega, by simp; omega, rs.map eI, kG rs, x.roots.row, by simp; omega, by simp; omega, λ ⟨us, qs, mx⟩ => us = vs /\ qs = rs /\ vs.length ≠ 0 /\ bP m mx cb /\ aM mx h cb, aB (λ _ => ⟨cb, 40, rfl, hc, λ k m' _ _ o c => ⟨by simp; omega, by simp; omega, (add _ m' o c).2⟩⟩) (λ h1 => ⟨cb, 5, rfl, by decide, by decide, hc, λ b m' o c => aB (λ _ => ⟨cb, 40, rfl, c, λ k m2 _ _ o2 c2 => ⟨by simp; omega, by simp; omega, (add _ m2 (o.trans o2) c2).2⟩⟩) (λ _ => ⟨(vs, rs, m'), ⟨rfl, rfl, by simpa using h1, o, c⟩, MT⟩)⟩), ?_⟩
 clear add
 rintro ⟨us, qs, mx⟩ ⟨rfl, rfl, hne, o, c⟩
 dsimp only
 refine ⟨cb, _, rfl, c, λ k m1 k0 k1 o1 c1 => ?_⟩
 have k1 : k < (us.length : Int) := by simp at k1; omega
 obtain ⟨i, rfl⟩ : ∃ i : Nat, k = i := ⟨k.toNat, by omega⟩
 have o1 := o.trans o1
 obtain ⟨t, ht⟩ : ∃ t, ts[i]? = some t := ⟨_, List.getElem?_eq_getElem (by omega)⟩
 obtain ⟨u, hu, ru⟩ := hst.2 i t ht
 have w := hw t (List.mem_of_getElem? ht)
 have ge : (List.map eO.enc us)[(i : Int).toNat]? = some (eO.enc u) := by simp [hu]
 have fin : ∀ {u' : eO} {t' : Step} {m' : MH} {h' : PH}, hU h' t' u' -> PH.le h h' -> bP m m' cb -> aM m' h' cb -> (fun (x : List eO × List Int × MH × PH) => x.2.1 = qs /\ PH.le h x.2.2.2 /\ bP m x.2.2.1 cb /\ aM x.2.2.1 x.2.2.2 cb /\ ∃ ts', ts'.length = ts.length /\ Steps x.2.2.2 x.1 ts') (us.set i u', qs, m', h') := fun {u' t' m' h'} ru' le o c => ⟨rfl, le, o, c, ts.set i t', by simp, (hst.mono le).set i ru'⟩
 refine ⟨k0, by simpa using k1, λ x => x.2.1 = qs /\ PH.le h x.2.2.2 /\ bP m x.2.2.1 cb /\ aM x.2.2.1 x.2.2.2 cb /\ ∃ ts', ts'.length = ts.length /\ Steps x.2.2.2 x.1 ts', ⟨cb, 6, rfl, c1, λ k m2 k0 k1 o2 c2 => ?_⟩, ?_⟩
 . have o2 := o1.trans o2
   refine aB (λ _ => ⟨cb, _, rfl, c2, λ j m3 _ _ o3 c3 => ⟨_, ge, by simp [eO.enc], ?_⟩⟩) λ _ => aB (λ _ => ⟨cb, _, rfl, c2, λ j m3 _ _ o3 c3 => ⟨_, ge, by simp [eO.enc], ?_⟩⟩) λ _ => aB (λ _ => ⟨cb, _, rfl, c2, λ j m3 _ _ o3 c3 => ⟨_, ge, by simp [eO.enc], ?_⟩⟩) λ _ => aB (λ _ => ⟨_, ge, u.columns, rfl, t.columns.map eI, kG _, ru.columns_.row, by have := w.cols; simp; omega, by have := w.cols; simp; omega, cb, _, rfl, c2, λ j m3 _ _ o3 c3 => ⟨by have := w.cols; simp; omega, by have := w.cols; simp; omega, λ s h' le' hs => ⟨_, ge, by simp [eO.enc], ?_⟩⟩⟩) λ _ => aB (λ _ => ⟨cb, _, rfl, c2, λ j m3 _ _ o3 c3 => ⟨_, ge, by simp [eO.enc], ?_⟩⟩) λ _ => ⟨_, ge, u.where_, rfl, cb, u.where_, t.wher, rfl, c2, ru.where_, w.wher, λ v' p' m3 h3 le3 r3 pw3 o3 c3 => ⟨_, ge, by simp [eO.enc], ?_⟩⟩
   . rw [Int.toNat_natCast, Qr us i ⟨u.op, u.table, u.where_, u.columns, u.on, u.group, u.order, u.limit, IntKind.i64.wrap (j - 1), u.right⟩ (e := splice (eO.enc u) 20 [cZ (IntKind.i64.wrap (j - 1))]) rfl]
     exact ⟨(us.set i ⟨u.op, u.table, u.where_, u.columns, u.on, u.group, u.order, u.limit, IntKind.i64.wrap (j - 1), u.right⟩, qs, m3, h), fin (u' := ⟨u.op, u.table, u.where_, u.columns, u.on, u.group, u.order, u.limit, IntKind.i64.wrap (j - 1), u.right⟩) (t' := { t with left := IntKind.i64.wrap (j - 1) }) ⟨ru.op_, ru.table_, ru.where_, ru.columns_, ru.on_, ru.group_, ru.order_, ru.limit_, rfl, ru.right_⟩ (.refl _) (o2.trans o3) c3, MT⟩
   . rw [Int.toNat_natCast, Qr us i ⟨u.op, u.table, u.where_, u.columns, u.on, u.group, u.order, u.limit, u.left, IntKind.i64.wrap (j - 1)⟩ (e := splice (eO.enc u) 21 [cZ (IntKind.i64.wrap (j - 1))]) rfl]
     exact ⟨(us.set i ⟨u.op, u.table, u.where_, u.columns, u.on, u.group, u.order, u.limit, u.left, IntKind.i64.wrap (j - 1)⟩, qs, m3, h), fin (u' := ⟨u.op, u.table, u.where_, u.columns, u.on, u.group, u.order, u.limit, u.left, IntKind.i64.wrap (j - 1)⟩) (t' := { t with right := IntKind.i64.wrap (j - 1) }) ⟨ru.op_, ru.table_, ru.where_, ru.columns_, ru.on_, ru.group_, ru.order_, ru.limit_, ru.left_, rfl⟩ (.refl _) (o2.trans o3) c3, MT⟩
   . rw [Int.toNat_natCast, Qr us i ⟨j, u.table, u.where_, u.columns, u.on, u.group, u.order, u.limit, u.left, u.right⟩ (e := cZ j :: List.drop 1 (eO.enc u)) rfl]
     exact ⟨(us.set i ⟨j, u.table, u.where_, u.columns, u.on, u.group, u.order, u.limit, u.left, u.right⟩, qs, m3, h), fin (u' := ⟨j, u.table, u.where_, u.columns, u.on, u.group, u.order, u.limit, u.left, u.right⟩) (t' := { t with op := j }) ⟨rfl, ru.table_, ru.where_, ru.columns_, ru.on_, ru.group_, ru.order_, ru.limit_, ru.left_, ru.right_⟩ (.refl _) (o2.trans o3) c3, MT⟩
   . rw [Int.toNat_natCast, Qr us i ⟨u.op, u.table, u.where_, s, u.on, u.group, u.order, u.limit, u.left, u.right⟩ (e := splice (eO.enc u) 15 [nG s]) rfl]
     have r := ru.mono le'
     exact ⟨(us.set i ⟨u.op, u.table, u.where_, s, u.on, u.group, u.order, u.limit, u.left, u.right⟩, qs, m3, h'), fin (u' := ⟨u.op, u.table, u.where_, s, u.on, u.group, u.order, u.limit, u.left, u.right⟩) (t' := { t with columns := t.columns ++ [IntKind.i64.wrap (j - 1)] }) ⟨r.op_, r.table_, r.where_, ⟨by rw [List.map_append]; exact hs, by have := w.cols; simp; omega⟩, r.on_, r.group_, r.order_, r.limit_, r.left_, r.right_⟩ le' (o2.trans o3) (c3.mono le'), MT⟩
   . rw [Int.toNat_natCast, Qr us i ⟨u.op, IntKind.i64.wrap (j - 1), u.where_, u.columns, u.on, u.group, u.order, u.limit, u.left, u.right⟩ (e := splice (eO.enc u) 1 [cZ (IntKind.i64.wrap (j - 1))]) rfl]
     exact ⟨(us.set i ⟨u.op, IntKind.i64.wrap (j - 1), u.where_, u.columns, u.on, u.group, u.order, u.limit, u.left, u.right⟩, qs, m3, h), fin (u' := ⟨u.op, IntKind.i64.wrap (j - 1), u.where_, u.columns, u.on, u.group, u.order, u.limit, u.left, u.right⟩) (t' := { t with table := IntKind.i64.wrap (j - 1) }) ⟨ru.op_, rfl, ru.where_, ru.columns_, ru.on_, ru.group_, ru.order_, ru.limit_, ru.left_, ru.right_⟩ (.refl _) (o2.trans o3) c3, MT⟩
   . rw [Int.toNat_natCast, Qr us i ⟨u.op, u.table, v', u.columns, u.on, u.group, u.order, u.limit, u.left, u.right⟩ (e := splice (eO.enc u) 2 (PV.enc v')) rfl]
     have r := ru.mono le3
     exact ⟨(us.set i ⟨u.op, u.table, v', u.columns, u.on, u.group, u.order, u.limit, u.left, u.right⟩, qs, m3, h3), fin (u' := ⟨u.op, u.table, v', u.columns, u.on, u.group, u.order, u.limit, u.left, u.right⟩) (t' := { t with wher := p' }) ⟨r.op_, r.table_, r3, r.columns_, r.on_, r.group_, r.order_, r.limit_, r.left_, r.right_⟩ le3 (o2.trans o3) c3, MT⟩
 rintro ⟨us2, qs2, m3, h3⟩ ⟨rfl, le, o3, c3, ts', tl', hst'⟩ s h4 le4 hs s1 h5 le5 hs1
 exact hK s s1 ts' _ m3 h5 (le.trans (le4.trans le5)) ⟨⟨us2, hs.mono le5, hst'.mono (le4.trans le5)⟩, ⟨hs1, by omega⟩, by omega⟩ o3 (c3.mono (le4.trans le5))
structure Ex (s : oC) (q : Query) : Prop where
 kinds : (dH s [] q).2 = 0
 small : lK q = true
 ints : QI q
theorem KX : ∀ {l : List Query} {a : Query}, a ∈ l -> BQ a <= kX l /\ Ia a <= sP l
 | x :: l, a, h => by
  have h1 := nH l
  have h2 := vM x
  rcases List.mem_cons.1 h with rfl | h
  . simp only [kX, sP]; omega
  . have := KX h; simp only [kX, sP]; omega
theorem Ex.arg {op : Int} {on : List (Int × Int)} {args : List Query} (g : Ex s (.mk op ta w co on gr od li args)) {a : Query} (ha : a ∈ args) : Ex s a := by
 refine ⟨(uI g.kinds).1 a ha, ?_, (GR.1 g.ints).2 a ha⟩
 have h1 := pK.1 g.small
 have h2 := KX ha
 simp only [BQ, Ia] at h1
 exact pK.2 ⟨by omega, by omega⟩
def zU (i : Nat) (t : Step) : Prop := lV t.left (decide (arity t.op > 0)) i = true /\ lV t.right (decide (arity t.op > 1)) i = true
structure Inv (s : oC) (ts : List Step) : Prop where
 ar : ∀ (i : Nat) t, ts[i]? = some t -> 0 <= arity t.op
 fit : ∀ (i : Nat) t, ts[i]? = some t -> zU i t
 nodup : (ts.map keyOf).Nodup
 good : ∀ i, i < ts.length -> Ex s (dC ts i)
theorem Hj (h0 : 0 <= arity t.op) (h : zU i t) : ∀ a ∈ eY t, 0 <= a /\ a < i := by
 intro a ha
 have h2 := AX t.op
 obtain ⟨fl, fr⟩ := h
 unfold eY at ha
 obtain ⟨n, hn⟩ : ∃ n : Nat, arity t.op = n := ⟨(arity t.op).toNat, by omega⟩
 rw [hn, Int.toNat_natCast] at ha
 unfold lV at fl fr
 match n, hn, ha with
 | 0, _, ha => simp at ha
 | 1, hn, ha =>
  simp at ha
  subst ha
  rw [if_pos (decide_eq_true (by omega))] at fl
  simpa using fl
 | 2, hn, ha =>
  simp at ha
  rw [if_pos (decide_eq_true (by omega))] at fl fr
  rcases ha with rfl | rfl
  . simpa using fl
  . simpa using fr
 | n + 3, hn, _ => omega
theorem Inv.ok (v : Inv s ts) : mB ts := λ i t e => ⟨v.ar i t e, Hj (v.ar i t e) (v.fit i t e)⟩
theorem wI {ts' : List Step} (hp : ts <+: ts') (ok : mB ts') : ∀ i, i < ts.length -> dC ts' i = dC ts i := by
 have ok1 : mB ts := λ i t e => ok i t (Dn hp e)
 intro i
 induction i using Nat.strongRecOn with
 | _ i ih =>
  intro hi
  have ht : ts[i]? = some ts[i] := List.getElem?_eq_getElem hi
  rw [kU ok1 ht, kU ok (Dn hp ht)]
  have : hP ts' ts[i] = hP ts ts[i] := List.map_congr_left λ a ha => by
   have := (ok1 i _ ht).2 a ha
   exact ih a.toNat (by omega) (by omega)
  rw [this]
theorem KZ (v : Inv s ts) (ht : ts[i]? = some t) : zH t := by
 have hi := (List.getElem?_eq_some_iff.1 ht).1
 have g := (v.good i hi).ints
 rw [kU v.ok ht, GR] at g
 obtain ⟨h1, h2, h3, h4, h5⟩ := g.1
 exact ⟨h1, h2, h3, h4, h5⟩
theorem Kb {s : oC} {ts ts' : List Step} {t : Step} {k : Nat} {q : Query} (v : Inv s ts) (h0 : 0 <= arity t.op) (hf : zU ts.length t) (g : Ex s q) (hq : q = .mk t.op t.table t.wher t.columns t.on t.group t.order t.limit (hP ts t)) (h : Ig t ts ts' k) :
 Inv s ts' /\ ts <+: ts' /\ k < ts'.length /\ dC ts' k = q := by
 have hI : zH t := by
  have := g.ints
  rw [hq, GR] at this
  obtain ⟨h1, h2, h3, h4, h5⟩ := this.1
  exact ⟨h1, h2, h3, h4, h5⟩
 rcases h with ⟨x, hx, e, rfl⟩ | ⟨hno, rfl, rfl⟩
 . have hxt : x = t := key_inj (KZ v hx) hI e
   subst hxt
   exact ⟨v, List.prefix_refl _, (List.getElem?_eq_some_iff.1 hx).1, by rw [kU v.ok hx, hq]⟩
 . have hcase : ∀ (i : Nat) u, (ts ++ [t])[i]? = some u -> ts[i]? = some u \/ (i = ts.length /\ u = t) := λ i u e => by
    by_cases hi : i < ts.length
    . rw [List.getElem?_append_left hi] at e; exact .inl e
    . rw [List.getElem?_append_right (by omega)] at e
      have hil := (List.getElem?_eq_some_iff.1 e).1
      simp at hil
      have : i = ts.length := by omega
      subst this
      simp at e
      exact .inr ⟨rfl, e.symm⟩
   have har : ∀ (i : Nat) u, (ts ++ [t])[i]? = some u -> 0 <= arity u.op := λ i u e => by
    rcases hcase i u e with e | ⟨_, rfl⟩
    . exact v.ar i u e
    . exact h0
   have hfit : ∀ (i : Nat) u, (ts ++ [t])[i]? = some u -> zU i u := λ i u e => by
    rcases hcase i u e with e | ⟨rfl, rfl⟩
    . exact v.fit i u e
    . exact hf
   have ok' : mB (ts ++ [t]) := λ i u e => ⟨har i u e, Hj (har i u e) (hfit i u e)⟩
   have hp : ts <+: ts ++ [t] := List.prefix_append _ _
   have hlast : dC (ts ++ [t]) ts.length = q := by
    rw [kU ok' (t := t) (by simp), hq]
    have : hP (ts ++ [t]) t = hP ts t := List.map_congr_left λ a ha => by
     have := Hj h0 hf a ha
     exact wI hp ok' a.toNat (by omega)
    rw [this]
   refine ⟨⟨har, hfit, ?_, λ i hi => ?_⟩, hp, by simp, hlast⟩
   . rw [List.map_append, List.nodup_append]
     refine ⟨v.nodup, by simp, λ a ha b hb => ?_⟩
     obtain ⟨x, hx, rfl⟩ := List.mem_map.1 ha
     simp at hb
     rw [hb]; exact hno x hx
   . by_cases hi' : i < ts.length
     . rw [wI hp ok' i hi']; exact v.good i hi'
     . have : i = ts.length := by simp at hi; omega
       rw [this, hlast]; exact g
theorem Hk {a e : Int} (h0 : 0 <= a) (h1 : a < e) : lV a true e = true := by unfold lV; rw [if_pos rfl]; simp [h0, h1]
theorem CH {s : oC} : ∀ (q : Query) {ts ts' : List Step} {k : Nat}, Ex s q -> Inv s ts -> xI q ts ts' k -> Inv s ts' /\ ts <+: ts' /\ k < ts'.length /\ dC ts' k = q
 | .mk op ta w co on gr od li args, ts, ts', k, g, v, h => by
  rw [rA] at h
  obtain ⟨ts1, l, ts2, r, h1, h2, h3⟩ := h
  have hal := (uI g.kinds).2.1
  have h2le := AX op
  match args, g, h1, h2, hal with
  | [], g, h1, h2, hal =>
   obtain ⟨rfl, rfl⟩ := h1
   obtain ⟨rfl, rfl⟩ := h2
   simp at hal
   refine Kb (t := ⟨op, ta, w, co, on, gr, od, li, 0, 0⟩) v (by show 0 <= arity op; omega) ⟨?_, ?_⟩ g ?_ h3
   . show lV 0 (decide (arity op > 0)) _ = true
     rw [decide_eq_false (by omega)]; rfl
   . show lV 0 (decide (arity op > 1)) _ = true
     rw [decide_eq_false (by omega)]; rfl
   . have : eY ⟨op, ta, w, co, on, gr, od, li, 0, 0⟩ = [] := by unfold eY; rw [<- hal]; rfl
     unfold hP; rw [this]; rfl
  | [a], g, h1, h2, hal =>
   obtain ⟨rfl, rfl⟩ := h2
   simp at hal
   obtain ⟨v1, p1, k1, e1⟩ := CH a (g.arg (by simp)) v h1
   have : eY ⟨op, ta, w, co, on, gr, od, li, (l : Nat), 0⟩ = [(l : Int)] := by unfold eY; rw [<- hal]; rfl
   have main := λ hf hq => Kb (t := ⟨op, ta, w, co, on, gr, od, li, (l : Nat), 0⟩) (q := .mk op ta w co on gr od li [a]) v1 (by show 0 <= arity op; omega) hf g hq h3
   have main2 := λ hf hq => (⟨(main hf hq).1, p1.trans (main hf hq).2.1, (main hf hq).2.2⟩ : _ /\ _ /\ _)
   refine main2 ⟨?_, ?_⟩ ?_
   . show lV l (decide (arity op > 0)) _ = true
     rw [decide_eq_true (by omega)]; exact Hk (by omega) (by omega)
   . show lV 0 (decide (arity op > 1)) _ = true
     rw [decide_eq_false (by omega)]; rfl
   . unfold hP; rw [this, List.map_cons, List.map_nil, Int.toNat_natCast, e1]
  | [a, b], g, h1, h2, hal =>
   simp at hal
   obtain ⟨v1, p1, k1, e1⟩ := CH a (g.arg (by simp)) v h1
   obtain ⟨v2, p2, k2, e2⟩ := CH b (g.arg (by simp)) v1 h2
   have hl2 : l < ts2.length := Nat.lt_of_lt_of_le k1 p2.length_le
   have : eY ⟨op, ta, w, co, on, gr, od, li, (l : Nat), (r : Nat)⟩ = [(l : Int), (r : Int)] := by unfold eY; rw [<- hal]; rfl
   have main := λ hf hq => Kb (t := ⟨op, ta, w, co, on, gr, od, li, (l : Nat), (r : Nat)⟩) (q := .mk op ta w co on gr od li [a, b]) v2 (by show 0 <= arity op; omega) hf g hq h3
   have main2 := λ hf hq => (⟨(main hf hq).1, (p1.trans p2).trans (main hf hq).2.1, (main hf hq).2.2⟩ : _ /\ _ /\ _)
   refine main2 ⟨?_, ?_⟩ ?_
   . show lV l (decide (arity op > 0)) _ = true
     rw [decide_eq_true (by omega)]; exact Hk (by omega) (by omega)
   . show lV r (decide (arity op > 1)) _ = true
     rw [decide_eq_true (by omega)]; exact Hk (by omega) (by omega)
   . unfold hP; rw [this, List.map_cons, List.map_cons, List.map_nil, Int.toNat_natCast, Int.toNat_natCast, wI p2 v2.ok l k1, e1, e2]
  | a :: b :: c :: rest, _, _, _, hal => simp at hal; omega
theorem Tg (s : oC) : Inv s [] := ⟨λ i t e => by simp at e, λ i t e => by simp at e, by simp, λ i hi => by simp at hi⟩
theorem Oy {s : oC} : ∀ {qs : List Query} {ts ts' : List Step} {ks : List Nat}, (∀ q ∈ qs, Ex s q) -> Inv s ts -> uP qs ts ts' ks -> Inv s ts' /\ ts <+: ts' /\ ks.length = qs.length /\ ∀ (i : Nat) q k, qs[i]? = some q -> ks[i]? = some k -> k < ts'.length /\ dC ts' k = q
 | [], ts, ts', ks, _, v, h => by
  obtain ⟨rfl, rfl⟩ := h
  exact ⟨v, List.prefix_refl _, rfl, λ i q k e => by simp at e⟩
 | q :: qs, ts, ts', ks, hg, v, h => by
  obtain ⟨ts1, k, ks', h1, h2, rfl⟩ := h
  obtain ⟨v1, p1, k1, e1⟩ := CH q (hg q (by simp)) v h1
  obtain ⟨v2, p2, l2, e2⟩ := Oy (λ x hx => hg x (by simp [hx])) v1 h2
  refine ⟨v2, p1.trans p2, by simp [l2], λ i x kx hx hkx => ?_⟩
  cases i with
  | zero =>
   simp at hx hkx
   subst hx hkx
   exact ⟨Nat.lt_of_lt_of_le k1 p2.length_le, by rw [wI p2 v2.ok k k1, e1]⟩
  | succ i =>
   simp at hx hkx
   exact e2 i x kx hx hkx
theorem Nb (h : (dV s [] q).2 = 0) (w : QW q) : Ex s q := by
 obtain ⟨_, _, h3, h4⟩ := zY h
 exact ⟨h4, h3, Ow (by simp) q h4 w⟩
theorem HP : ∀ {qs : List Query} {ts ts' : List Step} {ks : List Nat}, uP qs ts ts' ks -> (∀ q ∈ qs, BQ q <= 24) -> ts'.length <= ts.length + 24 * qs.length
 | [], ts, ts', ks, h, _ => by obtain ⟨rfl, rfl⟩ := h; simp
 | q :: qs, ts, ts', ks, h, hq => by
  obtain ⟨ts1, k, ks', h1, h2, rfl⟩ := h
  have := uN q h1
  have := HP h2 λ x hx => hq x (by simp [hx])
  have := hq q (by simp)
  simp; omega
def SY : Vc.Spec := λ cvs m h K => cvs = [] /\ jV m /\ K (cB true) m h
abbrev G7 (a : oC -> (List Query) -> Prop) : Prop := ∃ (x : oC) (x1 : List Query), a x x1
abbrev G6 (a : Sl -> (List Step) -> (List Nat) -> Prop) : Prop := ∀ (x : Sl) (x1 : List Step) (x2 : List Nat), a x x1 x2
attribute [push_cast] G7 G6
def HC (m : MH) (h : PH) (K : CV -> MH -> PH -> Prop) : Prop :=
  bQ h 2 (jG (tM (ByteArray.mk (Array.mk (AE 105 100))) 4)) (λ s h1 => bQ h1 21 (jG (qJ (cZ 1) aX j7 eZ)) (λ s1 h2 => bQ h2 21 (mI (aL (cZ 2) aX (aL (cZ 1) aX (aL aX aX (aL aX aX (tN DL DL j7 j7 j7 j7 j7 aX (cT s1)))))) (aL (cZ 2) aX (aL (cZ 1) aX (aL aX aX (aL aX aX (tN DL DL j7 j7 j7 j7 j7 aX (cT s1))))))) (λ s2 h3 => bQ h3 5 (jG (aL (Value.string (wC 116)) (nG s) (aL (cZ 1) j7 eZ))) (λ s3 h4 => bQ h4 21 (jG (qJ (cZ 6) aX j7 (cT s2))) (λ s4 h5 => xA (λ s5 s6 => G7 (λ s7 q => aA (dL (kK (kY aX (nG s3))) s4 = dL (bK s5) s6) (eW h5 s7 s5) (aA (sM h5 s6 q) (jV m) (aA (∀ (q1 : Query), List.Mem q1 q -> rX s7 [] q1 = 0 -> vI q1) (eJ (tI (lJ s7 q =
 0)) (lJ s7 q == 0) (K aR m h5) (K aR m h5)) (lJ s7 q = 0 -> ∀ (p : Sl), G6 (λ r t k => ∀ (h6 : PH), eU h5 h6 (uP q [] t k) (eJ (SG h6 p r t k) (aF p == 3) (dW (aF r) 1 (aY (λ b o => aG (bC r.a b o) ((0 : Int) <= 0) (0 < aF r) (∃ (y : Int), bI m h6 b (o + 0) (bT y) /\ dW y 2 (aY (λ b1 o1 => aG (bC p.a b1 o1) ((0 : Int) <= 2) (2 < aF p) (∃ (y1 : Int), bI m h6 b1 (o1 + 44 + 20) (bT y1) /\ dW y1 1 (aY (λ b2 o2 => aG (bC p.a b2 o2) ((0 : Int) <= 2) (2 < aF p) (∃ (y2 : Int), bI m h6 b2 (o2 + 44 + 21) (bT y2) /\ K (uS (y2 == 1)) m h6))) (K aR m h6)))) (K aR m h6)))) (K aR m h6)) (K aR m h6)))))))))))))
theorem Wf (m : MH) (h : PH) (K : CV -> MH -> PH -> Prop) : HC m h K = (cG (cO [(14, H0)] [] [] [] false) Tryz.f16 (aE Tryz.f16) (entry Tryz.f16.ntmps [] m h) K) := by kernel_rfl
def HX {α : Type} (T : List α -> α -> Prop) : List α -> List α -> Prop
 | _, [] => True
 | pre, x :: r => T pre x /\ HX T (pre ++ [x]) r
theorem Lv {α : Type} {T : List α -> α -> Prop} : ∀ {l pre : List α}, HX T pre l -> ∀ (j : Nat) x, l[j]? = some x -> T (pre ++ l.take j) x
 | [], _, _, j, x, e => by simp at e
 | y :: r, pre, h, 0, x, e => by simp at e; subst e; simpa using h.1
 | y :: r, pre, h, j + 1, x, e => by
  have := Lv h.2 j x (by simpa using e)
  simpa using this
theorem By {α : Type} {T : List α -> α -> Prop} {l : List α} (h : HX T [] l) : Good T l := λ j x e => by simpa using Lv h j x e
theorem QG {α : Type} {T : List α -> α -> Prop} {l : List α} (h : Good T l) (n : Nat) : Good T (l.take n) := λ j x e => by
 rw [List.getElem?_take] at e
 split at e
 . rename_i hj
   rw [List.take_take, Nat.min_eq_left (by omega)]
   exact h j x e
 . cases e
theorem RT (h8 : s.tables.length <= 8) (hl : ∀ t ∈ s.tables, t.columns.length <= 8 /\ t.refs = [] /\ t.checks = []) (v0 : 0 <= s.version) (v1 : s.version <= 1000) (hg : Good AZ s.tables) : cN s = 0 := by
 have lim : zI s := ⟨h8, λ j t e => by
  obtain ⟨h1, h2, h3⟩ := hl t (List.mem_of_getElem? e)
  exact ⟨h1, by simp [h2], by simp [h3]⟩⟩
 have ok : F5 s := ⟨v0, v1, hg, λ j t e => by
  obtain ⟨h1, h2, h3⟩ := hl t (List.mem_of_getElem? e)
  unfold BO
  rw [h2]
  intro i x e2
  simp at e2⟩
 rw [EE lim ok]
 refine qX _ λ e he => ?_
 obtain ⟨i, _, he⟩ := List.mem_flatMap.1 he
 unfold sR at he
 split at he
 . rename_i t ht
   obtain ⟨h1, h2, h3⟩ := hl t (List.mem_of_getElem? ht)
   rw [h3] at he
   simp at he
 . simp at he
end Go.Ps
