/-
  Part 7 of a proof that a law of the given program returns true: a condition generator that is proved sound, and contracts of functions. No condition of its own. Own work, joined by a program (pack2.py).
-/
import Derived.Test.YtileehgdfcknkaaGreatDoorMf
namespace Go.Ps
open Go Go.Vc Go.Proofs
variable {K : CV -> MH -> PH -> Prop} {m : MH} {h : PH} {s : nX} {ps : List Int} {cb : Nat} {sc : bL} {v : QV} {q : Query} {p : Pred} {l : List Int} {i : Nat} {N : Nat} {m' : MH} {h' : PH} {co : List Int} {gr : List Int} {od : List (Int × Bool)} {w : Pred} {ta : Int} {li : Int} {xs : List (List Value)} {sz : Nat} {k : Nat} {ks : List (List Int)} {rs : List Int} {r : Sl} {a : List Int} {b : Nat}
structure Lh (h : PH) (b : Nat) (l : List (List VV)) : Prop where
 ex : ∃ us, D2 h b us /\ eF h us l
theorem Lh.mono {l : List (List VV)} (x : Lh h b l) (le : PH.le h h') : Lh h' b l := by
 obtain ⟨us, h1, h2⟩ := x.ex
 exact ⟨us, h1.mono le, h2.mono le⟩
structure CO (h : PH) (t : Sl) (bs : List Nat) (ls : List (List (List VV))) : Prop where
 row : cN h t 1 (bs.map λ b => [K9 b])
 len : bs.length = ls.length
 at_ : ∀ (i b : Nat) (l : List (List VV)), bs[i]? = some b -> ls[i]? = some l -> Lh h b l
structure iC (w : Nat) (l : List (List VV)) : Prop where
 row : ∀ r ∈ l, OA r
 wid : ∀ r ∈ l, r.length = w
 srt : kA l
 len : l.length <= 1000000
def TI (l : List (List VV)) (x : List VV) : Bool := l.any λ y => dV x y == 0
theorem I9 {l : List (List VV)} {x : List VV} : TI l x = true ↔ x ∈ l := by
 simp only [TI, List.any_eq_true, beq_iff_eq, kT]
 exact ⟨λ ⟨y, h1, h2⟩ => h2 ▸ h1, λ h => ⟨x, h, rfl⟩⟩
def OB (ok : Query -> List (List (List VV)) -> Prop) (f : Query -> List (List (List VV)) -> List (List VV)) : Vc.Spec := λ cvs m h K => ∃ v t q bs ls, cvs = [aQ v, cS t] /\ cR h q v /\ CO h t bs ls /\ jY m /\ ok q ls /\
 ∀ s' h', PH.le h h' -> Rows h' s' (f q ls) -> K (cS s') m h'
def Ox : Vc.Spec := λ cvs m h K => ∃ t i bs ls w, cvs = [cS t, cB i] /\ CO h t bs ls /\ jY m /\ 2 <= ls.length /\ (∀ l ∈ ls, iC w l) /\
 ∀ s' h', PH.le h h' -> Rows h' s' ((ls.getD 0 []).filter λ x => TI (ls.getD 1 []) x == i) -> K (cS s') m h'
noncomputable def W2 : Ctx := N2 [(74, Zr)] [(6, { A := Nat × Nat × Sl × Sl × List VV × MH × PH, st := λ ⟨i, b, e, c, l, m, h⟩ => cH 40 42 [(5, vv (.pointer (some ⟨b, 0, none⟩))), (6, sv e), (7, .at (.lst 17)), (19, sv c), (20, iv c.len), (21, iv i)] [(17, .lst 27 3 (l.map VV.enc))] m h })] [] [200002, 200005, 1053]
noncomputable abbrev nS (a : Nat) : List Value := iK (xR a 0)
abbrev FD (a : Option Addr) (b c : Int) (d : Sl) (e : MH) (g : Nat -> Nat -> Option Value) (i : Nat -> Nat) (j : Nat -> (PH -> List Value -> List (List Value) -> Prop) -> Prop) : Prop := aT (λ x x1 => aA (aU a x x1) (b <= c) (c < aG d /\ ∃ (x2 : Nat), aL e g x (i x1) (nS x2) /\ ∃ (x3 : PH -> List Value -> List (List Value) -> Prop), j x2 x3))
abbrev A6 (a : Nat -> Option Obj) (b : Nat -> Nat -> Option Value) (c : Sl) (d : Nat -> MH -> Nat -> (PH -> List Value -> List (List Value) -> Prop) -> Prop) : Prop := ∀ (x : Nat) (x1 : MH), bK (cD a b x) (bG a x1 x hU 53) (FD c.a 0 0 c x1 b (λ x2 => x2 + 0) (λ x2 x3 => d x x1 x2 x3))
attribute [push_cast] nS FD A6
def He (v : QV) (t : Sl) (m : MH) (h : PH) (K : CV -> MH -> PH -> Prop) : Prop :=
  ∀ (b : Nat) (m1 : MH), bK (cD m h b) (bG m m1 b v.enc 38) (A6 m1 h t (λ b1 m2 y S => pW S h y m2 (λ x I k e => dW (λ m3 h1 => bK (tD x k e) (PH.le h h1) (I k m3 h1 -> ∃ (y1 : PV), aL m3 h1 b 2 y1.enc /\ Ft (λ v1 s p r => aA (wJ y1 e = wJ v1 s) (eD h1 p v1) (cJ h1 s r /\ branch (kO r p) (CY m3 h1 b1 (λ y2 x1 => gO (λ s1 m4 => eC m3 m4 (dA y2) s1 74 1 (jB x1 e) -> gG (λ c E => aA (uT m4 b1 (eV c E 0)) (fD 0 c) (∀ (m5 : MH), bG m4 m5 b1 (eU (eA s1) 1 c) E -> I (k + 1) m5 h1))))) (I (k + 1) m3 h1)))))) (λ m3 h1 => hP m3 h1 b1 0 (λ y1 => K (cK y1) m3 h1))))
noncomputable abbrev uF (a : Nat × Nat × Sl × Sl × List VV × MH × PH) : Sl := a.2.2.2.1
noncomputable abbrev Bn (a : Nat × Nat × Sl × Sl × List VV × MH × PH) : List (List Value) := rR a.2.2.2.2.1
noncomputable abbrev pC (a : Nat × Nat × Sl × Sl × List VV × MH × PH) : MH × PH := a.2.2.2.2.2
abbrev lM (a : PH) (b : List (List VV)) (c : CV -> MH -> PH -> Prop) (d : MH) : Prop := qT (λ x x1 => dG a x1 (Rows x1 x b) (c (cK x) d x1))
attribute [push_cast] uF Bn pC lM
def Hd (v : QV) (t : Sl) (m : MH) (h : PH) (K : CV -> MH -> PH -> Prop) : Prop :=
  ∀ (b : Nat) (m1 : MH), bK (cD m h b) (bG m m1 b v.enc 38) (A6 m1 h t (λ b1 m2 y S => pW S h y m2 (λ x I k e => dW (λ m3 h1 => bK (tD x k e) (PH.le h h1) (I k m3 h1 -> ∃ (y1 : Sl), aA (aL m3 h1 b 15 (aM y1)) (cA (aG y1)) (aA (aG y1 <= aG y1) (qJ (aG y1 * 32)) (qJ (aG y1) /\ hP m3 h1 b 15 (λ y2 => ∃ (I1 : Nat × Nat × Sl × Sl × List VV × MH × PH -> Prop) (m4 : Nat × Nat × Sl × Sl × List VV × MH × PH -> Nat), (∃ (x1 : Nat × Nat × Sl × Sl × List VV × MH × PH), aA (I1 x1) (cY b1 x1.2.1) (aA (bD e x1.2.2.1) (eL 17) (aA (bD y2 (uF x1)) (cM y2 (uF x1)) (aA (bC x1.1) (Option.some (Own.lst 27 3 (List.replicate (aG y1).toNat uE)) = Option.some (Own.lst 27 3 (Bn x1))) (jG (bJ m3 (pC x1)) (cE h1 (pC x1))))))) /\ ∀ (x1 : Nat × Nat × Sl × Sl × List VV × MH ×
 PH), I1 x1 -> bA (↑x1.1 : Int) (aG (uF x1)) (aT (λ b2 o => aA (aU (uF x1).a b2 o) (0 <= (↑x1.1 : Int)) ((↑x1.1 : Int) < aG (uF x1) /\ ∃ (y3 : Int), aL (pC x1).1 (pC x1).2 b2 (bN o x1.1 1) (bZ y3) /\ aT (λ b3 o1 => aA (aU x1.2.2.1.a b3 o1) (0 <= y3) (y3 < aG x1.2.2.1 /\ ∃ (y4 : VV), aA (aL (pC x1).1 (pC x1).2 b3 (fM o1 y3 3) y4.enc) (0 <= (↑x1.1 : Int)) ((↑x1.1 : Int) < j3 (Bn x1) /\ ∃ (e1 : List Value), aA (uO (Bn x1) (rF x1.1) e1) (3 <= e1.length) (∃ (x2 : Nat × Nat × Sl × Sl × List VV × MH × PH), aA (I1 x2) (m4 x2 < m4 x1) (aA (cY x1.2.1 x2.2.1) (bD x1.2.2.1 x2.2.2.1) (aA (eL 17) (bD (uF x1) (uF x2)) (aA (cM (uF x1) (uF x2)) (fK (bE x1.1 1) = bV x2.1) (bM (Option.some (Own.lst 27 3 (List.set (Bn x1) (rF x1.1) (aJ (dQ
 y4.kind) (dQ y4.int) (Value.string y4.text :: List.drop 3 e1)))) = Option.some (Own.lst 27 3 (Bn x2))) (bJ (pC x1).1 (pC x2)) (cE (pC x1).2 (pC x2))))))))))))) (hP (pC x1).1 (pC x1).2 x1.2.1 0 (λ y3 => bH (pC x1).2 3 (Bn x1) (λ s h2 => ∃ (x2 : List (List Value)), aA (dC (pC x1).1 (dA y3) 74 1 x2) (gH ((x2.length + 1) * 24)) (iA x2 /\ gO (λ s1 m5 => eC (pC x1).1 m5 (dA y3) s1 74 1 (jB x2 s) -> gG (λ c E => aA (uT m5 x1.2.1 (eV c E 0)) (fD 0 c) (∀ (m6 : MH), bG m5 m6 x1.2.1 (eU (eA s1) 1 c) E -> I (k + 1) m6 h2))))))))))))) (λ m3 h1 => hP m3 h1 b1 0 (λ y1 => ∃ (s : Sl) (u : List Sl) (l : List (List VV)), aA (fU y1 = fU s) (nW m3 h1 s 1 (qK u)) (aA (eF h1 u l) (Eg l.length) (lM h1 (Ag l) K m3))))))
def Ha (v : QV) (t : Sl) (m : MH) (h : PH) (K : CV -> MH -> PH -> Prop) : Prop :=
  aT (λ b o => aA (aU t.a b o) ((0 : Int) <= 0) (0 < aG t /\ ∃ (y : Nat), aL m h b (o + 0) (nS y) /\ aT (λ b1 o1 => aA (aU t.a b1 o1) ((0 : Int) <= 1) (1 < aG t /\ ∃ (y1 : Nat), aA (aL m h b1 (o1 + 1) (nS y1)) (aZ h b1 (o1 + 1) (nS y1)) (JR (λ b2 v1 => aA (mR (CV.val (xR y 0)) = mR (CV.val (xR b2 0))) (D2 h b2 v1) (∀ (s : Sl), Fc s 1 v1 (λ m1 x o2 => m x = Option.some o2 -> m1 x = Option.some o2) (λ x => Bp m x) (λ m1 => aZ h b (o + 0) (nS y) /\ ∃ (s1 : Sl), JR (λ b3 u => ∃ (v2 : List Sl), aA (aX (cK s) (CV.val (xR y1 0)) = aX (cK s1) (CV.val (xR b3 0))) (dC m1 s1 74 1 (qK u)) (aA (D2 h b3 v2) (Eg u.length) (∀ (s2 : Sl), Fc s2 1 (u ++ v2) (λ m2 x o2 => bK (m1 x = Option.some o2) (∀ (i : Nat), jO (aU s1.a x i)) (m2 x = Option.some o2))
 (λ x => Bp m1 x \/ ∃ (i : Nat), aU s1.a x i) (λ m2 => aA (aZ h b (o + 0) (nS y)) (aZ h b1 (o1 + 1) (nS y1)) (∃ (s3 : Sl) (u1 : List Sl) (l : List (List VV)), aA (fU s2 = fU s3) (nW m2 h s3 1 (qK u1)) (aA (eF h u1 l) (Eg l.length) (lM h (Ag l) K m2)))))))))))))))
noncomputable abbrev Eh  : Value := Value.map Option.none
abbrev cG (a : MH) (b : PH) (c d : Nat) : Prop := aL a b c 0 (iK (BM d))
abbrev kW (a : MH) (b : PH) (c d : Nat) (e : Prop) : Prop := aL a b c 0 (iK (BM d)) /\ e
noncomputable abbrev BL (a : List VV) : Value := Value.string (cQ a)
abbrev tH (a b : Prop) (c : (List (Value × Value)) -> Prop) : Prop := aA a b (∀ (x : List (Value × Value)), c x)
attribute [push_cast] Eh cG kW BL tH
def G6 (t : Sl) (i : Bool) (m : MH) (h : PH) (K : CV -> MH -> PH -> Prop) : Prop :=
  ∀ (b : Nat) (m1 : MH), bK (cD m h b) (bG m m1 b (iK (Value.bool i)) 4) (Bf m1 h 0 (λ b1 m2 => ∀ (b2 : Nat) (m3 : MH), bK (cD m2 h b2) (bG m2 m3 b2 (iK Eh) 177) (gG (λ c E => aA (uT m3 b2 (eV c E 0)) (fD 0 c) (∀ (m4 : MH), bG m3 m4 b2 (eU (BM b1) 1 c) E -> FD t.a 0 1 t m4 h (λ o => o + 1) (λ y S => pW S h y m4 (λ x I k e => dW (λ m5 h1 => bK (tD x k e) (PH.le h h1) (I k m5 h1 -> ∃ (y1 : Nat), aA (cG m5 h1 b2 y1) (cG m5 h1 b2 y1) (nN (λ s r => aA (fU e = fU s) (cJ h1 s r) (aA (OA r) (jY m5) (kW m5 h1 b2 y1 (vL (λ k1 O => aA (jS m5 y1 k1) (qC O) (aA (O (BL r)) (dX (Instr.sameBits 10000 (BL r) (BL r))) (tH (∀ (e1 : Value × Value), vD e1 k1 O) ((∀ (e1 : Value × Value), oE (List.Mem e1 k1) (e1.1 = BL r)) -> ∀ (m6 : MH), bK
 (iF m5 m6 y1) (jS m6 y1 (k1 ++ vJ (BL r) zW)) (I (k + 1) m6 h1)) (λ l => ∀ (v : Value) (l1 : List (Value × Value)), k1 = l ++ kN (BL r) v l1 -> ∀ (m6 : MH), bK (iF m5 m6 y1) (jS m6 y1 (l ++ kN (BL r) zW l1)) (I (k + 1) m6 h1))))))))))))) (λ m5 h1 => A6 m5 h1 t (λ b3 m6 y1 S1 => pW S1 h1 y1 m6 (λ x I k e => dW (λ m7 h2 => bK (tD x k e) (PH.le h1 h2) (I k m7 h2 -> ∃ (y2 : Nat), kW m7 h2 b2 y2 (∃ (y3 : Bool), aA (aL m7 h2 b 0 (iK (Value.bool y3))) (cG m7 h2 b2 y2) (aL m7 h2 b 0 (iK (Value.bool y3)) /\ nN (λ s r => aA (fU e = fU s) (cJ h2 s r) (aA (OA r) (jY m7) (aA (cG m7 h2 b2 y2) (aL m7 h2 b 0 (iK (Value.bool y3))) (aL m7 h2 b 0 (iK (Value.bool y3)) /\ ∃ (k1 : List (Value × Bool)) (O : Value -> Prop), aA (zN m7 y2 (List.map (fun (p : Value × Bool) => (p.1,
 Value.bool p.2)) k1)) (qC O) (aA (O (BL r)) (∀ (e1 : Value × Bool), List.Mem e1 k1 -> O e1.1) (fP (∀ (e1 : Value × Bool), oE (List.Mem e1 k1) (e1.1 = BL r)) (false == y3) (CY m7 h2 b3 (λ y4 x1 => gO (λ s1 m8 => eC m7 m8 (dA y4) s1 74 1 (jB x1 e) -> gG (λ c1 E1 => aA (uT m8 b3 (eV c1 E1 0)) (fD 0 c1) (∀ (m9 : MH), bG m8 m9 b3 (eU (eA s1) 1 c1) E1 -> I (k + 1) m9 h2))))) (I (k + 1) m7 h2) /\ ∀ (y4 : Bool), fP (List.Mem (BL r, y4) k1) (y4 == y3) (CY m7 h2 b3 (λ y5 x1 => gO (λ s1 m8 => eC m7 m8 (dA y5) s1 74 1 (jB x1 e) -> gG (λ c1 E1 => aA (uT m8 b3 (eV c1 E1 0)) (fD 0 c1) (∀ (m9 : MH), bG m8 m9 b3 (eU (eA s1) 1 c1) E1 -> I (k + 1) m9 h2))))) (I (k + 1) m7 h2)))))))))))) (λ m7 h2 => hP m7 h2 b3 0 (λ y2 => K (cK y2) m7 h2))))))))))
abbrev NG (a : (List Nat) -> (List (List (List VV))) -> Prop) : Prop := ∃ (x : List Nat) (x1 : List (List (List VV))), a x x1
attribute [push_cast] NG
def Vy (v : QV) (t : Sl) (m : MH) (h : PH) (K : CV -> MH -> PH -> Prop) : Prop :=
  ∃ (t1 : Sl) (i : Bool), NG (λ b l => ∃ (w : Nat), aA (aX (cK t) aW = aX (cK t1) (AE i)) (CO h t1 b l) (aA (jY m) (2 <= l.length) ((∀ (l1 : List (List VV)), List.Mem l1 l -> iC w l1) /\ lM h (List.filter (fun (x : List VV) => TI (List.getD l 1 []) x == i) (List.getD l 0 [])) K m)))
def Vx (v : QV) (t : Sl) (m : MH) (h : PH) (K : CV -> MH -> PH -> Prop) : Prop :=
  ∃ (t1 : Sl) (i : Bool), NG (λ b l => ∃ (w : Nat), aA (aX (cK t) fJ = aX (cK t1) (AE i)) (CO h t1 b l) (aA (jY m) (2 <= l.length) ((∀ (l1 : List (List VV)), List.Mem l1 l -> iC w l1) /\ lM h (List.filter (fun (x : List VV) => TI (List.getD l 1 []) x == i) (List.getD l 0 [])) K m)))
abbrev C6 (a b : Sl) (c : PH) (d e : (List VV) -> (List Int) -> Prop) : Prop := iW (λ x x1 => ∃ (x2 : List VV) (x3 : List Int), aA (jP a b = jP x x1) (cJ c x x2) (aA (Ints c x1 x3) (d x2 x3) (e x2 x3)))
noncomputable abbrev bY (a : List VV) (b : List Int) : Value := BL (pick a b)
abbrev Ff (a b : Sl) (c : PH) (d : MH) (e : Prop) (g i : (List VV) -> (List Int) -> Prop) : Prop := iW (λ x x1 => ∃ (x2 : List VV) (x3 : List Int), aA (jP a b = jP x x1) (cJ c x x2) (aA (Ints c x1 x3) (OA x2) (aA (gC x2.length x3) (jY d) (aA e (g x2 x3) (i x2 x3)))))
attribute [push_cast] C6 bY Ff
def Hb (v : QV) (t : Sl) (m : MH) (h : PH) (K : CV -> MH -> PH -> Prop) : Prop :=
  JT (λ s o => aA (fU v.on = fU s) (lK h s o) (∀ (a : Sl), qT (λ b h1 => dG h h1 (Ints h1 a (jU o)) (Ints h1 b (fH o) -> ∀ (b1 : Nat) (m1 : MH), bK (cD m h1 b1) (bG m m1 b1 hU 33) (∀ (b2 : Nat) (m2 : MH), bK (cD m1 h1 b2) (bG m1 m2 b2 hU 33) (gG (λ c E => aA (uT m2 b1 (eV c E 0)) (fD 0 c) (∀ (m3 : MH), bG m2 m3 b1 (eU (eA a) 1 c) E -> gG (λ c1 E1 => aA (uT m3 b2 (eV c1 E1 0)) (fD 0 c1) (∀ (m4 : MH), bG m3 m4 b2 (eU (eA b) 1 c1) E1 -> Bf m4 h1 0 (λ b3 m5 => ∀ (b4 : Nat) (m6 : MH), bK (cD m5 h1 b4) (bG m5 m6 b4 (iK Eh) 177) (gG (λ c2 E2 => aA (uT m6 b4 (eV c2 E2 0)) (fD 0 c2) (∀ (m7 : MH), bG m6 m7 b4 (eU (BM b3) 1 c2) E2 -> FD t.a 0 1 t m7 h1 (λ o1 => o1 + 1) (λ y S => pW S h1 y m7 (λ x I k e => dW (λ m8 h2 =>
 bK (tD x k e) (PH.le h1 h2) (I k m8 h2 -> ∃ (y1 : Nat), kW m8 h2 b4 y1 (∃ (y2 : Sl), aA (aL m8 h2 b2 0 (aM y2)) (cG m8 h2 b4 y1) (C6 e y2 h2 (λ r _ => OA r) (λ r c3 => aA (gC r.length c3) (jY m8) (cG m8 h2 b4 y1 /\ vL (λ k1 O => aA (jS m8 y1 k1) (qC O) (aA (O (bY r c3)) (dX (Instr.sameBits 10000 (bY r c3) (bY r c3))) (tH (∀ (e1 : Value × Value), vD e1 k1 O) ((∀ (e1 : Value × Value), oE (List.Mem e1 k1) (e1.1 = bY r c3)) -> ∀ (m9 : MH), bK (iF m8 m9 y1) (jS m9 y1 (k1 ++ vJ (bY r c3) zW)) (I (k + 1) m9 h2)) (λ l => ∀ (v1 : Value) (l1 : List (Value × Value)), k1 = l ++ kN (bY r c3) v1 l1 -> ∀ (m9 : MH), bK (iF m8 m9 y1) (jS m9 y1 (l ++ kN (bY r c3) zW l1)) (I (k + 1) m9 h2)))))))))))) (λ m8 h2 => A6 m8 h2 t (λ b5 m9 y1 S1 => pW S1 h2 y1 m9
 (λ x I k e => dW (λ a1 h3 => bK (tD x k e) (PH.le h2 h3) (I k a1 h3 -> ∃ (y2 : Nat), kW a1 h3 b4 y2 (∃ (y3 : Sl), aA (aL a1 h3 b1 0 (aM y3)) (cG a1 h3 b4 y2) (Ff e y3 h3 a1 (cG a1 h3 b4 y2) (λ _ _ => aL a1 h3 b1 0 (aM y3)) (λ r c3 => IN a1 y2 (λ O => O (bY r c3)) (λ k1 e1 => oE (List.Mem e1 k1) (e1.1 = bY r c3)) (I (k + 1) a1 h3) (bY r c3) (CY a1 h3 b5 (λ y4 x1 => gO (λ s1 a2 => eC a1 a2 (dA y4) s1 74 1 (jB x1 e) -> gG (λ c4 E3 => aA (uT a2 b5 (eV c4 E3 0)) (fD 0 c4) (∀ (a3 : MH), bG a2 a3 b5 (eU (eA s1) 1 c4) E3 -> I (k + 1) a3 h3))))))))))) (λ a1 h3 => hP a1 h3 b5 0 (λ y2 => K (cK y2) a1 h3)))))))))))))))))))
def Ax (m mx : MH) (b : Nat) : Prop := ∀ x o, m x = some o -> x ≠ b -> mx x = some o
structure mE (m mx : MH) (b : Nat) (us : List Sl) : Prop where
 ex : ∃ s : Sl, mx b = some (.cells #[.slice s.a s.len s.cap] 53 (0, 0)) /\ dC mx s 74 1 (us.map eS) /\ ∀ i x, s.a = some ⟨x, i, none⟩ -> m x = none
theorem mE.new (hb : m' b = some (.cells #[sR] 53 (0, 0))) : mE m m' b [] := ⟨⟨none, 0, 0⟩, hb, ⟨Ai [], .inl ⟨rfl, rfl⟩⟩, λ i x e => by cases e⟩
theorem EY {mx : MH} {s : Sl} {us : List Sl} {e : Sl} {Q : MH -> Prop} (hmb : ∃ o, m b = some o) (hs : Ax m mx b) (hb : mx b = some (.cells #[.slice s.a s.len s.cap] 53 (0, 0))) (hrow : dC mx s 74 1 (us.map eS)) (hfr : ∀ i x, s.a = some ⟨x, i, none⟩ -> m x = none) (hl : us.length <= 502633886983) (hQ : ∀ m', Ax m m' b -> mE m m' b (us ++ [e]) -> Q m') :
 ∃ xs : List (List Value), dC mx (Sl.mk s.a s.len s.cap) 74 1 xs /\ (xs.length + 1) * 24 <= 140737488355328 /\ xs.length < 140737488355328 /\ ∀ (s' : Sl) (m' : MH), eC mx m' (Sl.mk s.a s.len s.cap) s' 74 1 (xs ++ [[eA e]]) ->
  ∃ (cs : Array Value) (E : TypeId), uT m' b (.cells cs E (0, 0)) /\ 0 < cs.size /\ ∀ m2 : MH, jH m' m2 b (.cells (Array.mk (eA s' :: cs.toList.drop 1)) E (0, 0)) -> Q m2 := by
 obtain ⟨ob, hmb⟩ := hmb
 have hnb : ∀ i, s.a ≠ some ⟨b, i, none⟩ := λ i e2 => by rw [hfr i b e2] at hmb; cases hmb
 refine ⟨us.map eS, hrow, by rw [mI]; omega, by rw [mI]; omega, λ s' m' hg => ⟨_, _, ⟨hg.other b _ hb hnb⟩, by simp, λ m2 hu => hQ m2 ?_ ⟨s', hu.at_, ?_, ?_⟩⟩⟩
 . intro x o hx hne
   rw [hu.other x hne]
   exact hg.other x o (hs x o hx hne) (λ i e2 => by have e2 : s.a = some ⟨x, i, none⟩ := e2; rw [hfr i x e2] at hx; cases hx)
 . have e1 : (us ++ [e]).map eS = us.map eS ++ [[eA e]] := by simp [eS]
   rw [e1]
   refine dC.keep hg.row (λ x i e2 => hu.other x (λ e3 => ?_))
   subst e3
   rcases hg.fresh x i e2 with h1 | ⟨j, h1⟩
   . rw [hb] at h1; cases h1
   . exact hnb j h1
 . intro i x e2
   rcases hg.fresh x i e2 with h1 | ⟨j, h1⟩
   . cases e4 : m x with
     | none => rfl
     | some o =>
      by_cases e5 : x = b
      . subst e5; rw [hb] at h1; cases h1
      . rw [hs x o e4 e5] at h1; cases h1
   . exact hfr j x h1
theorem mE.app {mx : MH} {hx : PH} {us : List Sl} {e : Sl} {Q : MH -> Prop} (hmb : ∃ o, m b = some o) (hs : Ax m mx b) (o : mE m mx b us) (hl : us.length <= 502633886983) (hQ : ∀ m', Ax m m' b -> mE m m' b (us ++ [e]) -> Q m') :
 ∃ y : Sl, aL mx hx b 0 [eA y] /\ ∃ xs : List (List Value), dC mx (Sl.mk y.a y.len y.cap) 74 1 xs /\ (xs.length + 1) * 24 <= 140737488355328 /\ xs.length < 140737488355328 /\ ∀ (s' : Sl) (m' : MH), eC mx m' (Sl.mk y.a y.len y.cap) s' 74 1 (xs ++ [[eA e]]) ->
  ∃ (cs : Array Value) (E : TypeId), uT m' b (.cells cs E (0, 0)) /\ 0 < cs.size /\ ∀ m2 : MH, jH m' m2 b (.cells (Array.mk (eA s' :: cs.toList.drop 1)) E (0, 0)) -> Q m2 := by
 obtain ⟨s, hb, hrow, hfr⟩ := o.ex
 exact ⟨s, .of_m hb rfl, EY hmb hs hb hrow hfr hl hQ⟩
theorem cZ.sub {hx : PH} {r : CV} (sub : Sub m m') (le : PH.le h hx) (hK : K r m hx) : cZ h K r m' hx := λ _ => ⟨m, hx, sub, le, λ _ _ _ e => .inl e, hK⟩
theorem cZ.row {hx : PH} {s : Sl} {us : List Sl} (sub : Sub m m') (le : PH.le h hx) (hr : dC m' s 74 1 (us.map eS)) (hf : ∀ i b, s.a = some ⟨b, i, none⟩ -> m b = none) (hK : ∀ h', PH.le hx h' -> cN h' s 1 (us.map eS) -> K (cS s) m h') : cZ h K (cS s) m' hx := by
 intro hd
 rcases hr.ex with ⟨rfl, hx0⟩ | ⟨b, cap, cur, rfl, hm, h1, h2, h3, h4⟩
 . refine ⟨m, hx, sub, le, λ b i v e => .inl e, hK hx (.refl _) ?_⟩
   rw [hx0]; exact cN.nil _ _
 . have hn : ∀ i, hx b i = none := hd b _ hm
   refine ⟨m, kY hx b cur.toList, sub, le.trans (zC hn), λ b' i v e => ?_, hK _ (zC hn) ⟨?_, ?_, ?_⟩⟩
   . by_cases hb : b' = b
     . subst hb
       simp only [kY, if_true] at e
       exact .inr ⟨cur, 74, (0, 0), hm, by rw [<- BU]; exact e, hf 0 b' rfl⟩
     . simp only [kY, if_neg hb] at e
       exact .inl e
   . simp
   . by_cases hu : us.map eS = []
     . exact .inl hu
     . refine .inr ⟨b, 0, rfl, λ i e hi => ⟨λ j v hv => ?_⟩⟩
       have hel := hr.rows.len e (lP hi)
       have hj : j = 0 := by have := (mG.1 hv).1; omega
       subst hj
       have hlt := (mG.1 hi).1
       have h5 : ((us.map eS).flatten)[i]? = some v := by
        rw [AD] at hi
        cases hu2 : us[i]? with
        | none => rw [hu2] at hi; cases hi
        | some u =>
         rw [hu2] at hi
         simp at hi
         subst hi
         simp [eS] at hv
         subst hv
         have : ∀ l : List Sl, (l.map eS).flatten = l.map λ u => Value.slice u.a u.len u.cap := λ l => by
          induction l with
          | nil => rfl
          | cons a l ih => simp only [EB, Jj, ih]; rfl
         rw [this, AD, hu2]; rfl
       rw [<- h4, DT, if_pos aC] at h5
       simp only [kY, if_true]
       rw [show 0 + i * 1 + 0 = i by omega]
       exact h5
   . exact h1
structure oI (m : MH) (y : Nat) (ks : List ByteArray) : Prop where
 ex : ∃ kk : List ByteArray, jS m y (kk.map λ k => (Value.string k, Value.bool true)) /\ ∀ k, k ∈ kk ↔ k ∈ ks
theorem oI.keep {y : Nat} {ks : List ByteArray} (s : oI m y ks) (hk : m' y = m y) : oI m' y ks := by
 obtain ⟨kk, ⟨es, c, h1, h2, h3, h4⟩, h5⟩ := s.ex
 exact ⟨kk, ⟨es, c, by rw [hk]; exact h1, h2, h3, h4⟩, h5⟩
theorem oI.new {y : Nat} (h : m y = some (.map #[] 0)) : oI m y [] := ⟨[], ⟨#[], 0, h, rfl, by simp, by simp⟩, by simp⟩
theorem oI.get {y : Nat} {ks : List ByteArray} {key : ByteArray} {K : Bool -> Prop} (s : oI m y ks) (hK : ∀ t : Bool, (t = true ↔ key ∈ ks) -> K t) :
 ∃ (kvs : List (Value × Bool)) (Ok : Value -> Prop), zN m y (kvs.map λ p => (p.1, Value.bool p.2)) /\ KeyLaw Tryz.prog 9 Ok /\ Ok (.string key) /\ (∀ e, List.Mem e kvs -> Ok e.1) /\ ((∀ e, List.Mem e kvs -> e.1 = Value.string key -> False) -> K false) /\ ∀ t, List.Mem (Value.string key, t) kvs -> K t := by
 obtain ⟨kk, ⟨es, c, h1, h2, _, _⟩, h5⟩ := s.ex
 refine ⟨kk.map λ k => (Value.string k, true), _, ⟨es, c, h1, by rw [h2]; simp⟩, AJ, ⟨key, rfl⟩, λ e he => ?_, λ hn => hK false ⟨λ e => (by cases e), λ hk => ?_⟩, λ t ht => hK t ⟨λ _ => ?_, λ _ => ?_⟩⟩
 . obtain ⟨k, _, rfl⟩ := mH.1 (show e ∈ _ from he)
   exact ⟨k, rfl⟩
 . exact (hn (Value.string key, true) (mH.2 (⟨key, (h5 key).2 hk, rfl⟩ : ∃ a, a ∈ kk /\ (Value.string a, true) = (Value.string key, true))) rfl).elim
 . obtain ⟨k, hk, e⟩ := mH.1 (show (Value.string key, t) ∈ _ from ht)
   simp only [Ez, Value.string.injEq] at e
   rw [<- e.1]; exact (h5 k).1 hk
 . obtain ⟨k, hk, e⟩ := mH.1 (show (Value.string key, t) ∈ _ from ht)
   simp only [Ez] at e
   exact e.2.symm
theorem O0 (key : ByteArray) : Instr.sameBits 10000 (Value.string key) (Value.string key) = true := by
 show (key == key) = true
 cases key with
 | mk d => exact beq_self_eq_true d
theorem oI.put {y : Nat} {ks : List ByteArray} {key : ByteArray} {Q : MH -> Prop} (s : oI m y ks) (hQ : ∀ m' : MH, iF m m' y -> oI m' y (key :: ks) -> Q m') :
 ∃ (kvs : List (Value × Value)) (Ok : Value -> Prop), jS m y kvs /\ KeyLaw Tryz.prog 9 Ok /\ Ok (.string key) /\ Instr.sameBits 10000 (Value.string key) (Value.string key) = true /\ (∀ e, List.Mem e kvs -> Ok e.1) /\ ((∀ e, List.Mem e kvs -> e.1 = Value.string key -> False) -> ∀ m' : MH, iF m m' y -> jS m' y (kvs ++ [(Value.string key, Value.bool true)]) -> Q m') /\
  ∀ (l1 : List (Value × Value)) (v0 : Value) (l2 : List (Value × Value)), kvs = l1 ++ (Value.string key, v0) :: l2 -> ∀ m' : MH, iF m m' y -> jS m' y (l1 ++ (Value.string key, Value.bool true) :: l2) -> Q m' := by
 obtain ⟨kk, hm, h5⟩ := s.ex
 refine ⟨_, _, hm, AJ, ⟨key, rfl⟩, O0 key, λ e he => ?_, λ hn m' hs hm' => hQ m' hs ⟨kk ++ [key], by simpa using hm', λ k => ?_⟩, λ l1 v0 l2 e m' hs hm' => hQ m' hs ⟨kk, ?_, λ k => ?_⟩⟩
 . obtain ⟨k, _, rfl⟩ := mH.1 (show e ∈ _ from he)
   exact ⟨k, rfl⟩
 . simp [h5, or_comm]
 . have : (Value.string key, v0) ∈ kk.map λ k => (Value.string k, Value.bool true) := by rw [e]; simp
   obtain ⟨k, _, e2⟩ := mH.1 this
   simp only [Ez] at e2
   rw [<- e2.2] at e
   rw [e]; exact hm'
 . have : (Value.string key, v0) ∈ kk.map λ k => (Value.string k, Value.bool true) := by rw [e]; simp
   obtain ⟨k2, hk2, e2⟩ := mH.1 this
   simp only [Ez, Value.string.injEq] at e2
   rw [h5]
   constructor
   . exact D3 _
   . intro h
     rcases xA.1 h with rfl | h
     . rw [<- e2.1]; exact (h5 k2).1 hk2
     . exact h
theorem CO.get {t : Sl} {bs : List Nat} {ls : List (List (List VV))} (a : CO h t bs ls) {l : List (List VV)} (hl : ls[i]? = some l) : ∃ b off x, t.a = some ⟨b, off, none⟩ /\ (i : Int) < (t.len : Int) /\ aZ h b (off + i) [K9 x] /\ Lh h x l := by
 have hi := (mG.1 hl).1
 have hb : bs[i]? = some (bs[i]'(by rw [a.len]; exact hi)) := kP _
 obtain ⟨b, o, e, rd⟩ := a.row.get (i := i) (e := [K9 (bs[i]'(by rw [a.len]; exact hi))]) (by simp [hb])
 have hlen := a.row.len
 simp only [mI] at hlen
 have := a.len
 exact ⟨b, o, _, e, aC, by simpa using rd, a.at_ i _ l hb hl⟩
theorem eF.at' {us : List Sl} {rs : List (List VV)} (x : eF h us rs) {u : Sl} (hu : us[i]? = some u) : ∃ r, rs[i]? = some r /\ cJ h u r := by
 have hi := (mG.1 hu).1
 obtain ⟨v, h1, h2⟩ := x.at_ i _ (kP (by rw [<- x.len]; exact hi))
 rw [hu] at h1; cases h1
 exact ⟨_, kP (by rw [<- x.len]; exact hi), h2⟩
theorem iU {α : Type} {l : List α} {x : α} (p : α -> Bool) (hx : l[k]? = some x) : (l.take (k + 1)).filter p = (l.take k).filter p ++ (if p x then [x] else []) := by
 rw [EA, hx, Option.toList_some, List.filter_append]
 congr 1
 cases e : p x <;> simp [e]
theorem Sub.x {m1 mx : MH} (h : Sub m m1) (hb : m b = none) (hx : Ax m1 mx b) : Sub m mx := λ x o hxo => hx x o (h x o hxo) (λ e => by rw [e, hb] at hxo; cases hxo)
def DV (n : Nat) : Query -> List (List (List VV)) -> Prop := λ _ ls => n <= ls.length /\ ∀ l ∈ ls, ∃ w, iC w l
def FO (q : Query) (ls : List (List (List VV))) : List (List VV) := match q with | .mk _ _ w _ _ _ _ _ _ => (ls.getD 0 []).filter λ r => kO r w
theorem BV {ls : List (List (List VV))} {i : Nat} (h : i < ls.length) : ls[i]? = some (ls.getD i []) := by
 rw [Hy, kP h]; rfl
theorem D1 {f : FuncId} {fn : Func} (hf : Tryz.prog.funcs[f]? = some fn) {S : Vc.Spec} (hvc : ∀ cvs m h K, S cvs m h K -> ∃ C : Ctx, C.P = Tryz.prog /\ (∀ g S, assoc C.specs g = some S -> Sound Tryz.prog g S) /\ ∃ N : Prop, N = TM C fn (dK fn) (entry fn.ntmps cvs m h) (cZ h K) /\ N) (hb : fn.body = some (dK fn) := by rfl) (hname : (fn.name == "runtime.NumGoroutine") = false := by decide) : Sound Tryz.prog f S := Rv hf hb hname λ cvs m h K hS => let ⟨C, hC, hs, N, e, hn⟩ := hvc cvs m h K hS; ⟨C, hC, hs, e ▸ hn⟩
theorem Sc : Sound Tryz.prog 148 (OB (DV 1) FO) := by
 refine D1 Tryz.func148 ?_
 rintro cvs m h K ⟨v, t, q, bs, ls, rfl, hq, ha, _, hok, hK⟩
 refine ⟨N2 [(183, XS)] [] [] [200002, 200005, 1053], rfl, aD RZ aF, He v t m h (cZ h K), by kernel_rfl, ?_⟩
 show He v t m h (cZ h K)
 dsimp only [He, push_cast]
 intro b m1 hb1 hu1 b2 m2 hb2 hu2
 have hsub1 : Sub m m1 := (Sub.refl m).upd hb1.m_ hu1.other
 have hn2 : m b2 = none := by
  cases e : m b2 with
  | none => rfl
  | some o => have e1 := hsub1 b2 o e; rw [hb2.m_] at e1; cases e1
 have hsub2 : Sub m m2 := hsub1.upd hn2 hu2.other
 have hne : b ≠ b2 := λ e => by have := hb2.m_; rw [<- e, hu1.at_] at this; cases this
 obtain ⟨b3, off, x, ea, hlt, rd, sq⟩ := ha.get (BV (i := 0) (by have := hok.1; omega))
 obtain ⟨us, hseq, hru⟩ := sq.ex
 obtain ⟨op, ta, w, co, on, gr, od, li, args⟩ := q
 have xq := hq.parts
 obtain ⟨wd, hrel⟩ := hok.2 _ (lP (BV (i := 0) (by have := hok.1; omega)))
 simp only [FO] at hK
 generalize ls.getD 0 [] = l at hseq hru hK hrel sq
 have hul := hru.len
 have hll := hrel.len
 refine ⟨b3, off, ea, aC, aC, x, .imm rd, tM, us, λ k mx hx => hx = h /\ Ax m2 mx b2 /\ ∃ us2, mE m2 mx b2 us2 /\ us2.length <= k /\ eF h us2 ((l.take k).filter λ r => kO r w), sL, ⟨x, us, rfl, hseq, rfl⟩, ⟨rfl, λ x o e _ => e, [], mE.new hu2.at_, by simp, by simpa using eF.nil h⟩, ?_, ?_⟩
 . rintro k e mx hx hk - ⟨rfl, hs, us2, hout, hl2, hr2⟩
   obtain ⟨r, hr, hv⟩ := hru.at' hk
   have hkl := (mG.1 hk).1
   refine ⟨v.where_, .of_m (hs b _ (by rw [hu2.other b hne]; exact hu1.at_) hne) rfl, v.where_, e, w, r, rfl, xq.where_, hv, aB (λ ht => ?_) (λ hf => ?_)⟩
   . refine mE.app ⟨_, hu2.at_⟩ hs hout aC (λ m' hs' ho' => ⟨rfl, hs', us2 ++ [e], ho', by simp; omega, ?_⟩)
     rw [iU _ hr, if_pos ht]
     exact hr2.snoc hv
   . refine ⟨rfl, hs, us2, hout, aC, ?_⟩
     rw [iU _ hr, if_neg (by simp [hf]), OE]
     exact hr2
 . rintro mx hx - ⟨rfl, hs, us2, hout, hl2, hr2⟩
   rw [hul, Ig] at hr2
   obtain ⟨s, hb, hrow, hfr⟩ := hout.ex
   refine ⟨s, .of_m hb rfl, cZ.row (hsub2.x hn2 hs) (.refl _) hrow (λ i y e => ?_) (λ h' le hri => hK s h' le ((hr2.mono le).rows hri (by have := hr2.len; omega)))⟩
   cases e2 : m y with
   | none => rfl
   | some o => have e1 := hfr i y e; rw [hsub2 y o e2] at e1; cases e1
theorem eF.app {us vs : List Sl} {a b : List (List VV)} (x : eF h us a) (y : eF h vs b) : eF h (us ++ vs) (a ++ b) := by
 refine ⟨by simp [x.len, y.len], λ j r hr => ?_⟩
 have hl := x.len
 by_cases hj : j < a.length
 . rw [Na hj] at hr
   obtain ⟨u, h1, h2⟩ := x.at_ j r hr
   exact ⟨u, by rw [Na aC]; exact h1, h2⟩
 . rw [Ji aC] at hr
   obtain ⟨u, h1, h2⟩ := y.at_ _ r hr
   exact ⟨u, by rw [Ji aC, hl]; exact h1, h2⟩
def Nf (_ : Query) (ls : List (List (List VV))) : List (List VV) := Ag (ls.getD 0 [] ++ ls.getD 1 [])
theorem R8 : Sound Tryz.prog 152 (OB (DV 2) Nf) := by
 refine FN Tryz.func152 ?_
 rintro cvs m h K ⟨v, t, q, bs, ls, rfl, _, ha, _, hok, hK⟩
 refine ⟨dM [(189, Q0), (188, Oy), (74, Zr)] [] [] [] false, rfl, aD RW (aD Ko (aD GS aF)), Ha v t m h (kB h K), by kernel_rfl, ?_⟩
 show Ha v t m h (kB h K)
 dsimp only [Ha, push_cast]
 have h2 := hok.1
 obtain ⟨b, off, x, ea, hlt, rd, sq⟩ := ha.get (BV (i := 0) aC)
 obtain ⟨b', off', x', ea', hlt', rd', sq'⟩ := ha.get (BV (i := 1) aC)
 obtain ⟨us, hseq, hru⟩ := sq.ex
 obtain ⟨us', hseq', hru'⟩ := sq'.ex
 obtain ⟨_, hrel⟩ := hok.2 _ (lP (BV (i := 0) aC))
 obtain ⟨_, hrel'⟩ := hok.2 _ (lP (BV (i := 1) aC))
 have l1 := hrel.len
 have l2 := hrel'.len
 have l3 := hru.len
 refine ⟨b, off, ea, aC, aC, x, .imm rd, b', off', ea', aC, aC, x', .imm rd', rd', x, us, rfl, hseq, λ s1 m1 hr1 hs1 hf1 => ⟨rd, s1, x', us, us', rfl, hr1, hseq', aC, λ s2 m2 hr2 hs2 hf2 => ⟨rd, rd', s2, us ++ us', _, rfl, hr2.src, hru.app hru', by rw [BG]; omega, λ s3 h3 le3 hr3 => ?_⟩⟩⟩
 refine ⟨m, h3, λ y o hy => hs2 y o (hs1 y o hy) (λ i e => ?_), le3, .refl _, hK s3 h3 le3 hr3⟩
 rw [hf1 y i e] at hy; cases hy
def O9 (q : Query) (ls : List (List (List VV))) : List (List VV) := match q with | .mk _ _ _ co _ _ _ _ _ => Ag ((ls.getD 0 []).map λ r => pick r co)
def JI (q : Query) (ls : List (List (List VV))) : Prop := match q with | .mk _ _ _ co _ _ _ _ _ => 1 <= ls.length /\ co.length <= 12 /\ ∃ w, iC w (ls.getD 0 []) /\ gC w co
theorem Sb : Sound Tryz.prog 149 (OB JI O9) := by
 refine D1 Tryz.func149 ?_
 rintro cvs m h K ⟨v, t, q, bs, ls, rfl, hq, ha, _, hok, hK⟩
 refine ⟨W2, rfl, aD GS aF, Hd v t m h (cZ h K), by kernel_rfl, ?_⟩
 show Hd v t m h (cZ h K)
 dsimp only [Hd, push_cast]
 obtain ⟨op, ta, w, co, on, gr, od, li, args⟩ := q
 obtain ⟨hl1, hco, wd, hrel, hcols⟩ := hok
 intro b m1 hb1 hu1 b2 m2 hb2 hu2
 have hsub1 : Sub m m1 := (Sub.refl m).upd hb1.m_ hu1.other
 have hn2 : m b2 = none := by
  cases e : m b2 with
  | none => rfl
  | some o => have e1 := hsub1 b2 o e; rw [hb2.m_] at e1; cases e1
 have hsub2 : Sub m m2 := hsub1.upd hn2 hu2.other
 have hne : b ≠ b2 := λ e => by have := hb2.m_; rw [<- e, hu1.at_] at this; cases this
 obtain ⟨b3, off, x, ea, hlt, rd, sq⟩ := ha.get (BV (i := 0) aC)
 obtain ⟨us, hseq, hru⟩ := sq.ex
 have xq := hq.parts
 have hcl := xq.columns_.slen
 simp only [O9] at hK
 generalize ls.getD 0 [] = l at hseq hru hK hrel sq
 have hul := hru.len
 have hll := hrel.len
 refine ⟨b3, off, ea, aC, aC, x, .imm rd, tM, us, λ k mx hx => PH.le h hx /\ Ax m2 mx b2 /\ ∃ us2, mE m2 mx b2 us2 /\ us2.length <= k /\ eF hx us2 ((l.take k).map λ r => pick r co), sL, ⟨x, us, rfl, hseq, rfl⟩, ⟨.refl _, λ x o e _ => e, [], mE.new hu2.at_, by simp, by simpa using eF.nil h⟩, ?_, ?_⟩
 . rintro k e mx hx hk - ⟨le, hs, us2, hout, hl2, hr2⟩
   obtain ⟨r, hr, hv⟩ := hru.at' hk
   have hkl := (mG.1 hk).1
   have hmq : mx b = some (.cells ⟨v.enc⟩ 38 (0, 0)) := hs b _ (by rw [hu2.other b hne]; exact hu1.at_) hne
   have hrw := hrel.wid r (lP hr)
   have hv' := cJ.mono hv le
   have hvl := bW.slen hv'
   have hpl : (pick r co).length = co.length := by simp [pick]
   refine ⟨v.columns, .of_m hmq rfl, aC, aC, aC, aC, v.columns, .of_m hmq rfl, λ z => z.1 <= co.length /\ z.2.1 = b2 /\ z.2.2.1 = e /\ z.2.2.2.1 = v.columns /\ z.2.2.2.2.1 = (pick r co).take z.1 ++ List.replicate (co.length - z.1) zeroV /\ z.2.2.2.2.2.1 = mx /\ z.2.2.2.2.2.2 = hx, λ z => co.length - z.1, ⟨(0, b2, e, v.columns, List.replicate co.length zeroV, mx, hx), ⟨by simp, rfl, rfl, rfl, by simp, rfl, rfl⟩, ?_⟩, ?_⟩
   . dsimp only
     rw [List.map_replicate, show ((v.columns.len : Int)).toNat = co.length by omega]
     exact MT
   . rintro ⟨i, bb, ee, cc, cells, my, hy⟩ ⟨hi, e1, e2, e3, e4, e5, e6⟩
     dsimp only at hi e1 e2 e3 e4 e5 e6
     subst e1 e2 e3 e4 e5 e6
     refine aE (λ hlt2 => ?_) (λ hge => ?_)
     . dsimp only at hlt2 ⊢
       obtain ⟨c, hci⟩ := fE hcl hlt2
       obtain ⟨b4, o4, e4, rd4⟩ := (xq.columns_.mono le).at hci
       obtain ⟨y, hy1, hy2, h0, h1⟩ := Nw (r := r) (by rw [hrw]; exact hcols) hci
       obtain ⟨b5, o5, y', e5, rd5, rfl⟩ := bW.at hv' hy1
       have hil : i < co.length := by omega
       have hset : ((pick r co).take i ++ List.replicate (co.length - i) zeroV).set i y = (pick r co).take (i + 1) ++ List.replicate (co.length - (i + 1)) zeroV := by
        rw [List.set_append, if_neg (by simp; omega)]
        rw [EA, hy2, Option.toList_some, Q3]
        congr 1
        rw [show co.length - i = (co.length - (i + 1)) + 1 by omega, List.replicate_succ]
        simp [hpl, Nat.min_eq_left (Nat.le_of_lt hil)]
       have hcell : (((pick r co).take i ++ List.replicate (co.length - i) zeroV).map VV.enc)[i]? = some (VV.enc zeroV) := by
        rw [AD, Ji (by simp; omega), List.getElem?_replicate, if_pos (by simp; omega)]
        rfl
       refine ⟨b4, o4, e4, aC, aC, c, .imm (by simpa using rd4), b5, o5, e5, h0, aC, y, .imm rd5, aC, by simp; omega, _, hcell, by simp [VV.enc], (i + 1, bb, ee, v.columns, (pick r co).take (i + 1) ++ List.replicate (co.length - (i + 1)) zeroV, my, hy), ⟨by dsimp only; omega, rfl, rfl, rfl, rfl, rfl, rfl⟩, (by dsimp only; omega), ?_⟩
       dsimp only
       refine ⟨rfl, rfl, rfl, rfl, rfl, by rw [kC aC], ?_, rfl, rfl, trivial⟩
       rw [<- hset, List.map_set]
       rfl
     . dsimp only at hge ⊢
       have : i = co.length := by omega
       subst this
       rw [EC aC, Nat.sub_self, List.replicate_zero, OE]
       obtain ⟨s, hb, hrow, hfr⟩ := hout.ex
       refine ⟨s, .of_m hb rfl, λ s3 h3 le3 hr3 => EY ⟨_, hu2.at_⟩ hs hb hrow hfr aC (λ m' hs' ho' => ⟨le.trans le3, hs', us2 ++ [s3], ho', by simp; omega, ?_⟩)⟩
       have e6 : (l.take (k + 1)).map (λ r => pick r co) = (l.take k).map (λ r => pick r co) ++ [pick r co] := by
        rw [EA, hr]; simp
       rw [e6]
       exact (hr2.mono le3).snoc ⟨⟨_, hr3, rfl, λ i x hx => ⟨x, hx, rfl⟩⟩, by rw [hpl]; omega⟩
 . rintro mx hx - ⟨le, hs, us2, hout, hl2, hr2⟩
   rw [hul, Ig] at hr2
   obtain ⟨s, hb, hrow, hfr⟩ := hout.ex
   refine ⟨s, .of_m hb rfl, s, us2, _, rfl, hrow.src, hr2, by simp; omega, λ s3 h3 le3 hr3 => cZ.sub (hsub2.x hn2 hs) (le.trans le3) (hK s3 h3 (le.trans le3) hr3)⟩
theorem gE {m0 : MH} {o : Obj} (hs : Sub m0 m) (hn : cD m h b) (hu : jH m m' b o) : Sub m0 m' /\ m0 b = none := by
 have h1 : m0 b = none := by
  cases e : m0 b with
  | none => rfl
  | some x => have e1 := hs b x e; rw [hn.m_] at e1; cases e1
 exact ⟨hs.upd h1 hu.other, h1⟩
theorem mem_keys {l : List (List VV)} {w k : Nat} {x : List VV} (hl : iC w l) (hx : OA x) (hw : x.length = w) : cQ x ∈ (l.take k).map cQ ↔ x ∈ l.take k := by
 constructor
 . intro h
   obtain ⟨y, hy, e⟩ := mH.1 h
   have hyl := X0 hy
   rw [(Ek (by rw [hl.wid y hyl, hw]) (hl.row y hyl).val hx.val).1 e] at hy
   exact hy
 . exact λ h => mH.2 ⟨x, h, rfl⟩
theorem Kn : Sound Tryz.prog 190 Ox := by
 refine D1 Tryz.func190 ?_
 rintro cvs m h K ⟨t, i, bs, ls, w, rfl, ha, hT, h2, hok, hK⟩
 refine ⟨N2 [(210, Up)] [] [] [200003, 200005, 200007, 1053, 400000, 0], rfl, aD RO aF, G6 t i m h (cZ h K), by kernel_rfl, ?_⟩
 show G6 t i m h (cZ h K)
 dsimp only [G6, push_cast]
 intro b3 m1 hb1 hu1 by_ m2 hb2 hu2 b5 m3 hb3 hu3
 obtain ⟨s1, n3⟩ := gE (Sub.refl m) hb1 hu1
 obtain ⟨s2, ny⟩ := gE s1 hb2 hu2
 obtain ⟨s3, n5⟩ := gE s2 hb3 hu3
 refine ⟨_, _, ⟨hu3.at_⟩, by simp, λ m4 hu4 => ?_⟩
 have s4 : Sub m m4 := s3.upd n5 hu4.other
 have hyne : by_ ≠ b5 := λ e => by have := hb3.m_; rw [<- e, hu2.at_] at this; cases this
 have h3ne : b3 ≠ b5 := λ e => by have := hb3.m_; rw [<- e, hu2.other b3 (λ e2 => by have := hb2.m_; rw [<- e2, hu1.at_] at this; cases this), hu1.at_] at this; cases this
 have h3y : b3 ≠ by_ := λ e2 => by have := hb2.m_; rw [<- e2, hu1.at_] at this; cases this
 have m4y : m4 by_ = some (.map #[] 0) := by rw [hu4.other by_ hyne, hu3.other by_ hyne]; exact hu2.at_
 have m43 : m4 b3 = some (.cells #[.bool i] 4 (0, 0)) := by rw [hu4.other b3 h3ne, hu3.other b3 h3ne, hu2.other b3 h3y]; exact hu1.at_
 have m45 : m4 b5 = some (.cells #[.map (some by_)] 177 (0, 0)) := hu4.at_
 obtain ⟨b, off, x, ea, hlt, rd, sq⟩ := ha.get (BV (i := 1) aC)
 obtain ⟨us', hseq', hru'⟩ := sq.ex
 have hrel' := hok _ (lP (BV (i := 1) aC))
 have hrel := hok _ (lP (BV (i := 0) aC))
 obtain ⟨b6, off6, x6, ea6, hlt6, rd6, sq6⟩ := ha.get (BV (i := 0) aC)
 obtain ⟨us, hseq, hru⟩ := sq6.ex
 generalize ls.getD 1 [] = l' at hru' hrel' hK sq
 generalize ls.getD 0 [] = l at hru hrel hK sq6
 have hul := hru.len
 have hll := hrel.len
 have hul' := hru'.len
 refine ⟨b, off, ea, aC, aC, x, .imm rd, tM, us', λ k mx hx => hx = h /\ (∀ z o, m4 z = some o -> z ≠ by_ -> mx z = some o) /\ oI mx by_ ((l'.take k).map cQ), sL, ⟨x, us', rfl, hseq', rfl⟩, ⟨rfl, λ z o e _ => e, by simpa using oI.new m4y⟩, ?_, ?_⟩
 . rintro k e mx hx hk - ⟨rfl, hs, hsn⟩
   obtain ⟨r, hr, hv⟩ := hru'.at' hk
   have hrl := lP hr
   have r5 : aL mx hx b5 0 [Value.map (some by_)] := .of_m (hs b5 _ m45 (Ne.symm hyne)) rfl
   refine ⟨by_, r5, r5, e, r, rfl, hv, hrel'.row r hrl, hT.sub (λ z o e2 => hs z o (s4 z o e2) (λ e3 => by rw [e3, ny] at e2; cases e2)), r5, hsn.put (λ m' hs' hsn' => ⟨rfl, λ z o e2 hne => by rw [hs'.other z hne]; exact hs z o e2 hne, ?_⟩)⟩
   obtain ⟨kk, h5, h6⟩ := hsn'.ex
   exact ⟨kk, h5, λ q => by rw [h6, EA, hr]; simp [or_comm]⟩
 . rintro mx hx - ⟨rfl, hs, hsn⟩ b7 m5 hb5 hu5
   rw [hul', Ig] at hsn
   have s5 : Sub m mx := λ z o e2 => hs z o (s4 z o e2) (λ e3 => by rw [e3, ny] at e2; cases e2)
   obtain ⟨s6, n7⟩ := gE s5 hb5 hu5
   have ne7 : ∀ z o, mx z = some o -> z ≠ b7 := λ z o e2 e3 => by rw [e3, hb5.m_] at e2; cases e2
   have y7 : by_ ≠ b7 := by
    obtain ⟨kk, ⟨es, c, h1, _⟩, _⟩ := hsn.ex
    exact ne7 by_ _ h1
   have m55 : m5 b5 = some (.cells #[.map (some by_)] 177 (0, 0)) := by rw [hu5.other b5 (ne7 b5 _ (hs b5 _ m45 (Ne.symm hyne)))]; exact hs b5 _ m45 (Ne.symm hyne)
   have m53 : m5 b3 = some (.cells #[.bool i] 4 (0, 0)) := by rw [hu5.other b3 (ne7 b3 _ (hs b3 _ m43 h3y))]; exact hs b3 _ m43 h3y
   have hsn5 : oI m5 by_ (l'.map cQ) := hsn.keep (hu5.other by_ y7)
   have n57 : b5 ≠ b7 := ne7 b5 _ (hs b5 _ m45 (Ne.symm hyne))
   have n37 : b3 ≠ b7 := ne7 b3 _ (hs b3 _ m43 h3y)
   refine ⟨b6, off6, ea6, aC, aC, x6, .imm rd6, tM, us, λ k my hy => hy = hx /\ Ax m5 my b7 /\ ∃ us2, mE m5 my b7 us2 /\ us2.length <= k /\ eF hx us2 ((l.take k).filter λ z => TI l' z == i), sL, ⟨x6, us, rfl, hseq, rfl⟩, ⟨rfl, λ z o e _ => e, [], mE.new hu5.at_, by simp, by simpa using eF.nil hx⟩, ?_, ?_⟩
   . rintro k e my hy hk - ⟨rfl, hs7, us2, hout, hl2, hr2⟩
     obtain ⟨r, hr, hv⟩ := hru.at' hk
     have hkl := (mG.1 hk).1
     have hrl := lP hr
     have r5 : aL my hy b5 0 [Value.map (some by_)] := .of_m (hs7 b5 _ m55 n57) rfl
     have r3 : aL my hy b3 0 [Value.bool i] := .of_m (hs7 b3 _ m53 n37) rfl
     have hsn7 : oI my by_ (l'.map cQ) := by
      obtain ⟨kk, ⟨es, c, h1, h2, h3, h4⟩, h5⟩ := hsn5.ex
      exact ⟨kk, ⟨es, c, hs7 by_ _ h1 y7, h2, h3, h4⟩, h5⟩
     have key : ∀ t : Bool, (t = true ↔ cQ r ∈ l'.map cQ) -> t = TI l' r := λ t ht => by
      have h1 := mem_keys (k := l'.length) hrel' (hrel.row r hrl) (hrel.wid r hrl)
      rw [Ig] at h1
      rw [h1] at ht
      cases t
      . cases e2 : TI l' r with
        | false => rfl
        | true => exact ht.2 (I9.1 e2)
      . exact (I9.2 (ht.1 rfl)).symm
     refine ⟨by_, r5, i, r3, r5, r3, e, r, rfl, hv, hrel.row r hrl, hT.sub (s6.x n7 hs7), r5, r3, r3, hsn7.get (K := λ t => branch (t == i) _ _) (λ t ht => ?_)⟩
     have e3 := key t ht
     refine aB (λ h1 => ?_) (λ h1 => ?_)
     . refine mE.app ⟨_, hu5.at_⟩ hs7 hout aC (λ m' hs' ho' => ⟨rfl, hs', us2 ++ [e], ho', by simp; omega, ?_⟩)
       rw [iU _ hr, if_pos (by rw [<- e3]; exact h1)]
       exact hr2.snoc hv
     . refine ⟨rfl, hs7, us2, hout, aC, ?_⟩
       rw [iU _ hr, if_neg (by rw [<- e3, h1]; simp), OE]
       exact hr2
   . rintro my hy - ⟨rfl, hs7, us2, hout, hl2, hr2⟩
     rw [hul, Ig] at hr2
     obtain ⟨s, hb, hrow, hfr⟩ := hout.ex
     refine ⟨s, .of_m hb rfl, cZ.row (s6.x n7 hs7) (.refl _) hrow (λ j y e => ?_) (λ h' le hri => hK s h' le ((hr2.mono le).rows hri (by have := hr2.len; omega)))⟩
     cases e2 : m y with
     | none => rfl
     | some o => have e1 := hfr j y e; rw [s6 y o e2] at e1; cases e1
def zS (_ : Query) (ls : List (List (List VV))) : Prop := 2 <= ls.length /\ ∃ w, ∀ l ∈ ls, iC w l
def NH (_ : Query) (ls : List (List (List VV))) : List (List VV) := (ls.getD 0 []).filter λ x => TI (ls.getD 1 []) x == false
def NQ (_ : Query) (ls : List (List (List VV))) : List (List VV) := (ls.getD 0 []).filter λ x => TI (ls.getD 1 []) x == true
theorem R7 : Sound Tryz.prog 153 (OB zS NH) := by
 refine gX Tryz.func153 ?_
 rintro cvs m h K ⟨v, t, q, bs, ls, rfl, _, ha, hT, ⟨h2, w, hok⟩, hK⟩
 refine ⟨dM [(190, Ox)] [] [] [] false, rfl, aD Kn aF, Vy v t m h K, by kernel_rfl, ?_⟩
 exact ⟨t, false, bs, ls, w, rfl, ha, hT, h2, hok, hK⟩
theorem R6 : Sound Tryz.prog 154 (OB zS NQ) := by
 refine gX Tryz.func154 ?_
 rintro cvs m h K ⟨v, t, q, bs, ls, rfl, _, ha, hT, ⟨h2, w, hok⟩, hK⟩
 refine ⟨dM [(190, Ox)] [] [] [] false, rfl, aD Kn aF, Vx v t m h K, by kernel_rfl, ?_⟩
 exact ⟨t, true, bs, ls, w, rfl, ha, hT, h2, hok, hK⟩
def j6 : List (Int × Bool) -> List VV -> List VV -> Int
 | [], a, b => dV a b
 | (c, dn) :: r, a, b => if 0 <= c /\ c < a.length /\ c < b.length then (if jX (a.getD c.toNat zeroV) (b.getD c.toNat zeroV) ≠ 0 then (if dn then - jX (a.getD c.toNat zeroV) (b.getD c.toNat zeroV) else jX (a.getD c.toNat zeroV) (b.getD c.toNat zeroV)) else j6 r a b) else j6 r a b
def Gd : Vc.Spec := λ cvs m h K => ∃ o s t od a b, cvs = [cS o, cS s, cS t] /\ iE h o od /\ cJ h s a /\ cJ h t b /\ K (cI (j6 od a b)) m h
def M4 : Vc.Spec := λ cvs m h K => ∃ s t bq v od a b, cvs = [cS s, cS t, cP bq] /\ m bq = some (.cells ⟨QV.enc v⟩ 38 (0, 0)) /\ iE h v.order od /\ cJ h s a /\ cJ h t b /\ K (cI (j6 od a b)) m h
def Zy : Vc.Spec := λ cvs m h K => ∃ i : Nat, ∃ bq bg br v od g s rs r x, cvs = [cI i, cP bq, cP bg, cP br] /\ m bq = some (.cells ⟨QV.enc v⟩ 38 (0, 0)) /\ m bg = some (.cells #[Sl.val g] 53 (0, 0)) /\ m br = some (.cells #[Sl.val s] 74 (0, 0)) /\ iE h v.order od /\ Rows h g rs /\ cJ h s r /\ rs[i]? = some x /\
 K (cB (decide (j6 od x r >= 0))) m h
def XB : Vc.Spec := λ cvs m h K => ∃ (s : Sl) (bq : Nat) (v : QV) (od : List (Int × Bool)) (w : Nat) (ps : List (Sl × List VV)), cvs = [cS s, .val (.func (.func 211) #[] #[.pointer (some ⟨bq, 0, none⟩)])] /\ m bq = some (.cells ⟨QV.enc v⟩ 38 (0, 0)) /\ (∀ i, s.a ≠ some ⟨bq, i, none⟩) /\ iE h v.order od /\ dC m s 74 1 (ps.map λ p => eS p.1) /\ (∀ p ∈ ps, cJ h p.1 p.2) /\ (∀ p ∈ ps, p.2.length = w) /\ ps.length <= 140737488355328 /\
 ∀ (ps' : List (Sl × List VV)) (m' : MH), ps'.Perm ps -> ps'.Pairwise (λ p q => ¬ j6 od q.2 p.2 < 0) -> dC m' s 74 1 (ps'.map λ p => eS p.1) -> (∀ b, (∀ i, s.a ≠ some ⟨b, i, none⟩) -> m' b = m b) -> K (.tup []) m' h
noncomputable def YX (o s t : Sl) (m : MH) (h : PH) : Ctx :=
 dM [(70, M5), (71, Ie)] [(2, { A := Nat, st := λ i => cH 55 58 [(1, sv s), (2, sv t), (10, sv o), (11, iv o.len), (12, iv i)] [] m h })] [] [] false
def Qc (o s t : Sl) (m : MH) (h : PH) (K : CV -> MH -> PH -> Prop) : Prop :=
  nG (λ I x => aA (I x) (aI s) (aA (aI t) (aI o) (aA (bI o) (bC x) (aA (m = m) (h = h) True)))) (λ I m1 x => I x -> bA (↑x : Int) (aG o) (aT (λ b o1 => aA (aU o.a b o1) (0 <= (↑x : Int)) ((↑x : Int) < aG o /\ ∃ (y : Int × Bool), aL m h b (bN o1 x 2) (yR y) /\ bA y.1 0 (∃ (x1 : Nat), aA (I x1) (m1 x1 < m1 x) (aA (aI s) (aI t) (aA (aI o) (bI o) (aA (fK (bE x 1) = bV x1) (m = m) (cV h h))))) (cW (decide (y.1 >= aG s)) (∃ (x1 : Nat), aA (I x1) (m1 x1 < m1 x) (aA (aI s) (aI t) (aA (aI o) (bI o) (aA (fK (bE x 1) = bV x1) (m = m) (cV h h))))) (decide (y.1 >= aG t)) (∃ (x1 : Nat), aA (I x1) (m1 x1 < m1 x) (aA (aI s) (aI t) (aA (aI o) (bI o) (aA (fK (bE x 1) = bV x1) (m = m) (cV h h))))) (aT (λ b1 o2 => aA (aU s.a b1 o2) (0 <=
 y.1) (y.1 < aG s /\ ∃ (y1 : VV), aL m h b1 (fM o2 y.1 3) y1.enc /\ aT (λ b2 o3 => aA (aU t.a b2 o3) (0 <= y.1) (y.1 < aG t /\ ∃ (y2 : VV), aL m h b2 (fM o3 y.1 3) y2.enc /\ FC y1 y2 (λ a b3 => cW (jX a b3 == 0) (∃ (x1 : Nat), aA (I x1) (m1 x1 < m1 x) (aA (aI s) (aI t) (aA (aI o) (bI o) (aA (fK (bE x 1) = bV x1) (m = m) (cV h h))))) y.2 (K (dH (dZ (0 - jX a b3))) m h) (K (dH (jX a b3)) m h))))))))))) (C9 s t h (λ a b => K (dH (dV a b)) m h)))
def Vv (s t : Sl) (bq : Nat) (m : MH) (h : PH) (K : CV -> MH -> PH -> Prop) : Prop :=
  hP m h bq 18 (λ y => iW (λ o s1 => ∃ (t1 : Sl) (o1 : List (Int × Bool)) (a b : List VV), aA (cK y :: aX (cK s) (cK t) = cK o :: aX (cK s1) (cK t1)) (iE h o o1) (aA (cJ h s1 a) (cJ h t1 b) (K (dH (j6 o1 a b)) m h))))
def Mk (i : Nat) (bq bg br : Nat) (m : MH) (h : PH) (K : CV -> MH -> PH -> Prop) : Prop :=
  hP m h bq 18 (λ y => hP m h bg 0 (λ y1 => aT (λ b o => aA (aU y1.a b o) (0 <= (↑i : Int)) ((↑i : Int) < aG y1 /\ ∃ (y2 : Sl), aL m h b (bN o i 1) (aM y2) /\ ∃ (y3 : Sl), aA (aL m h br 0 (aM y3)) (aL m h bg 0 (aM y1)) (iW (λ o1 s => ∃ (t : Sl) (o2 : List (Int × Bool)) (a b1 : List VV), aA (cK y :: aX (cK y2) (cK y3) = cK o1 :: aX (cK s) (cK t)) (iE h o1 o2) (aA (cJ h s a) (cJ h t b1) (aL m h bg 0 (aM y1) /\ K (AE (decide (j6 o2 a b1 >= 0))) m h))))))))
theorem SS (a b : VV) : -1 <= jX a b /\ jX a b <= 1 := by
 have h1 : ∀ x y : Int, -1 <= yC x y /\ yC x y <= 1 := λ x y => by unfold yC; split <;> (try split) <;> omega
 have h2 := (J2 a.text.data.toList b.text.data.toList).2
 have h3 : -1 <= Lg a.text b.text /\ Lg a.text b.text <= 1 := by unfold Lg; omega
 have h4 := h1 a.kind b.kind
 have h5 := h1 a.int b.int
 unfold jX
 split
 . exact h4
 . split
   . exact h5
   . exact h3
theorem VQ {c : Int} {dn : Bool} {r : List (Int × Bool)} {a b : List VV} (h : ¬ (0 <= c /\ c < a.length /\ c < b.length)) : j6 ((c, dn) :: r) a b = j6 r a b := by
 rw [j6, if_neg h]
theorem Zo {c : Int} {dn : Bool} {r : List (Int × Bool)} {a b : List VV} {x y : VV} (h0 : 0 <= c) (hx : a[c.toNat]? = some x) (hy : b[c.toNat]? = some y) : j6 ((c, dn) :: r) a b = if jX x y ≠ 0 then (if dn then - jX x y else jX x y) else j6 r a b := by
 have h1 := (mG.1 hx).1
 have h2 := (mG.1 hy).1
 rw [j6, if_pos ⟨h0, aC, aC⟩]
 rw [Hy, Hy, hx, hy]
 rfl
theorem GX : Sound Tryz.prog 34 Gd := by
 refine gX Tryz.func34 ?_
 rintro cvs m h K ⟨o, s, t, od, a, b, rfl, ho, hs, ht, hK⟩
 refine ⟨YX o s t m h, rfl, aD GU (aD Dt aF), Qc o s t m h K, by kernel_rfl, ?_⟩
 dsimp only [Qc, push_cast]
 have hol := ho.slen
 have hln := ho.len
 have hsl := bW.slen hs
 have htl := bW.slen ht
 refine ⟨λ i => i <= od.length /\ j6 od a b = j6 (od.drop i) a b, λ i => od.length - i, ⟨0, ⟨aC, by simp⟩, MT⟩, λ i ⟨hi, he⟩ => aE (λ hlt => ?_) (λ hge => ?_)⟩
 . obtain ⟨⟨c, dn⟩, hx⟩ := fE hol hlt
   obtain ⟨b1, o1, e1, r1⟩ := ho.row.get (i := i) (e := CR (c, dn)) (by simp [hx])
   rw [drop_cons hx] at he
   have skip : ¬ (0 <= c /\ c < a.length /\ c < b.length) -> ∃ x_1 : Nat, (λ i => i <= od.length /\ j6 od a b = j6 (od.drop i) a b) x_1 /\ (λ i => od.length - i) x_1 < (λ i => od.length - i) i /\ eQ (Ya s) /\ eQ (Ya t) /\ eQ (Ya o) /\ eQ (fK ↑o.len) /\ fK (IntKind.i64.wrap ((i : Int) + 1)) = fK ↑x_1 /\ m = m /\ h = h /\ True := λ hn =>
    ⟨i + 1, ⟨aC, by rw [he, VQ hn]⟩, (show od.length - (i + 1) < od.length - i by omega), MT⟩
   refine ⟨b1, o1, e1, aC, hlt, (c, dn), .imm r1, aE (λ h1 => skip (λ e => by have : c < 0 := h1; omega)) (λ h1 => aE (λ h2 => skip (λ e => by have : c >= (s.len : Int) := h2; omega)) (λ h2 => aE (λ h3 => skip (λ e => by have : c >= (t.len : Int) := h3; omega)) (λ h3 => ?_)))⟩
   dsimp only at h1 h2 h3 ⊢
   obtain ⟨x, hxa⟩ : ∃ x, a[c.toNat]? = some x := ⟨_, kP aC⟩
   obtain ⟨y, hyb⟩ : ∃ y, b[c.toNat]? = some y := ⟨_, kP aC⟩
   obtain ⟨b2, o2, u, e2, r2, rfl⟩ := bW.at hs hxa
   obtain ⟨b3, o3, u, e3, r3, rfl⟩ := bW.at ht hyb
   rw [Zo aC hxa hyb] at he
   have hsm := SS x y
   refine ⟨b2, o2, e2, aC, aC, x, .imm r2, b3, o3, e3, aC, aC, y, .imm r3, x, y, rfl, aB (λ h4 => ⟨i + 1, ⟨aC, ?_⟩, (show od.length - (i + 1) < od.length - i by omega), MT⟩) (λ h4 => aB (λ h5 => ?_) (λ h5 => ?_))⟩
   . rw [he, if_neg (by simpa using h4)]
   . have h5 : dn = true := h5
     rw [he, if_pos (by simpa using h4), if_pos h5] at hK
     rw [eG aC aC, Int.zero_sub]; exact hK
   . have h5 : dn = false := h5
     rw [he, if_pos (by simpa using h4), if_neg (by simp [h5])] at hK
     exact hK
 . rw [he, List.drop_eq_nil_of_le aC, j6] at hK
   exact ⟨s, t, a, b, rfl, hs, ht, hK⟩
theorem RN : Sound Tryz.prog 211 M4 := by
 refine gX Tryz.func211 ?_
 rintro cvs m h K ⟨s, t, bq, v, od, a, b, rfl, hm, ho, hs, ht, hK⟩
 refine ⟨vO [(34, Gd)] [] [] [] [0] [] false, rfl, aD GX aF, Vv s t bq m h K, by kernel_rfl, ?_⟩
 exact ⟨v.order, .of_m hm rfl, v.order, s, t, od, a, b, rfl, ho, hs, ht, hK⟩
theorem RU : Sound Tryz.prog 193 Zy := by
 refine gX Tryz.func193 ?_
 rintro cvs m h K ⟨i, bq, bg, br, v, od, g, s, rs, r, x, rfl, hq, hg, hr, ho, hrs, hv, hx, hK⟩
 refine ⟨vO [(34, Gd)] [] [] [] [0] [] false, rfl, aD GX aF, Mk i bq bg br m h K, by kernel_rfl, ?_⟩
 dsimp only [Mk, push_cast]
 have hl := bW.slen hrs
 have hi := (mG.1 hx).1
 obtain ⟨b1, o1, u, e1, r1, ru⟩ := bW.at hrs hx
 have rg : aL m h bg 0 [eA g] := .of_m hg rfl
 exact ⟨v.order, .of_m hq rfl, g, rg, b1, o1, e1, aC, aC, u, .imm r1, s, .of_m hr rfl, rg, v.order, u, s, od, x, r, rfl, ho, ru, hv, rg, hK⟩
def F6 (w : Nat) : List (Int × Bool) -> List VV -> List VV -> Int
 | [], a, b => dV a b
 | (c, dn) :: r, a, b => if 0 <= c /\ c < w then (if (if dn then - jX (a.getD c.toNat zeroV) (b.getD c.toNat zeroV) else jX (a.getD c.toNat zeroV) (b.getD c.toNat zeroV)) ≠ 0 then (if dn then - jX (a.getD c.toNat zeroV) (b.getD c.toNat zeroV) else jX (a.getD c.toNat zeroV) (b.getD c.toNat zeroV)) else F6 w r a b) else F6 w r a b
theorem zG {w : Nat} : ∀ {od : List (Int × Bool)} {a b : List VV}, a.length = w -> b.length = w -> j6 od a b = F6 w od a b
 | [], _, _, _, _ => rfl
 | (c, dn) :: r, a, b, ha, hb => by
  rw [j6, F6, ha, hb, zG (od := r) ha hb]
  by_cases h : 0 <= c /\ c < w
  . rw [if_pos ⟨h.1, h.2, h.2⟩, if_pos h]
    cases dn <;> simp
  . rw [if_neg (λ e => h ⟨e.1, e.2.1⟩), if_neg h]
theorem M6.neg {α : Type} {c : α -> α -> Int} (h : M6 c) : M6 (λ x y => - c x y) := by
 refine ⟨λ x y => by have := h.anti x y; omega, λ x y z h1 h2 => ?_⟩
 have a1 := h.anti x y
 have a2 := h.anti y z
 have a3 := h.anti x z
 have := h.trans z y x aC aC
 omega
theorem F5 (w : Nat) : ∀ od, M6 (F6 w od)
 | [] => CF
 | (c, dn) :: r => by
  have ih := F5 w r
  have hc : M6 (λ a b : List VV => jX (a.getD c.toNat zeroV) (b.getD c.toNat zeroV)) := F7.of λ a : List VV => a.getD c.toNat zeroV
  by_cases h : 0 <= c /\ c < w
  . have e : F6 w ((c, dn) :: r) = λ a b => if (if dn then - jX (a.getD c.toNat zeroV) (b.getD c.toNat zeroV) else jX (a.getD c.toNat zeroV) (b.getD c.toNat zeroV)) ≠ 0 then (if dn then - jX (a.getD c.toNat zeroV) (b.getD c.toNat zeroV) else jX (a.getD c.toNat zeroV) (b.getD c.toNat zeroV)) else F6 w r a b := by
     funext a b; rw [F6, if_pos h]
    rw [e]
    cases dn
    . exact hc.lex ih
    . exact hc.neg.lex ih
  . have e : F6 w ((c, dn) :: r) = F6 w r := by funext a b; rw [F6, if_neg h]
    rw [e]; exact ih
theorem Xr {w : Nat} (od : List (Int × Bool)) : Sort.SWO (Go.Proofs.ltOf (fun (x y : BX h (λ l => l.length = w)) => j6 od x.l y.l)) := by
 have e : (fun (x y : BX h (λ l => l.length = w)) => j6 od x.l y.l) = λ x y => F6 w od x.l y.l := by
  funext x y; exact zG x.pr_ y.pr_
 rw [e]; exact (F5 w od).swo
theorem Qw : Sound Tryz.prog 107 XB := by
 refine ⟨⟨Tryz.f107, Tryz.func107, rfl, by decide⟩, ?_⟩
 rintro cvs vs m h w K ⟨s, bq, v, od, wd, ps, rfl, hq, hnq, ho, hr, hv, hw, hl, hK⟩ hp
 obtain ⟨v1, v2, rfl⟩ : ∃ v v2, vs = [v, v2] := by
  have := (mY hp.args).1
  match vs, this with
  | [v, v2], _ => exact ⟨v, v2, rfl⟩
 have h1 : v1 = s.val := hp.args.1
 have h2 : v2 = .func (.func 211) #[] #[.pointer (some ⟨bq, 0, none⟩)] := hp.args.2.1
 subst h1 h2
 refine Lo (R := λ l => l.length = wd) (g := 211) (cb := [.pointer (some ⟨bq, 0, none⟩)]) (m2 := λ b => if b = bq then m bq else none) (cf := j6 od) rfl hp ⟨Tryz.f211, Tryz.func211, rfl, by decide⟩ hr hv hw hl (Xr od) ⟨M4, RN, λ x y => ⟨x.s, y.s, bq, v, od, x.l, y.l, rfl, by simpa using hq, ho, x.ok, y.ok, rfl, rfl, rfl⟩⟩ (λ b o hb => ?_) hK
 have hb : (if b = bq then m bq else none) = some o := hb
 split at hb
 . rename_i e; subst e; exact ⟨hb, hnq⟩
 . cases hb
noncomputable def W0 : Ctx := N2 [(184, S9), (186, XO), (185, Q2), (187, QZ)]
 [(13, { A := Nat × Nat × Sl × Sl × MH × PH, st := λ ⟨i, b, e, g, m, h⟩ => cH 66 68 [(10, vv (.pointer (some ⟨b, 0, none⟩))), (11, sv e), (51, sv g), (52, iv g.len), (53, iv i)] [] m h })] [] [200005, 200006, 200007, 200010, 1053, 400000, 0]
abbrev wD (a : MH) (b : Nat) (c : List VV) (d : List Int) (e : Prop) (g : Sl -> Prop) : Prop := ∃ (x : List (Value × Sl)) (x1 : Value -> Prop), aA (zN a b (List.map (fun (x2 : Value × Sl) => (x2.1, eA x2.2)) x)) (qC x1) (aA (x1 (bY c d)) (∀ (x2 : Value × Sl), List.Mem x2 x -> x1 x2.1) (((∀ (x2 : Value × Sl), oE (List.Mem x2 x) (x2.1 = bY c d)) -> e) /\ ∀ (x2 : Sl), List.Mem (bY c d, x2) x -> g x2))
noncomputable abbrev wB  : Sl := Sl.mk Option.none 0 0
noncomputable abbrev lB (a : Nat × Nat × Sl × Sl × MH × PH) : Nat := a.2.1
noncomputable abbrev wK (a : Nat × Nat × Sl × Sl × MH × PH) : Sl := a.2.2.1
noncomputable abbrev j4 (a : Nat × Nat × Sl × Sl × MH × PH) : Sl × MH × PH := a.2.2.2
noncomputable abbrev mN (a : Nat × Nat × Sl × Sl × MH × PH) : Sl := (j4 a).1
noncomputable abbrev mO (a : Nat × Nat × Sl × Sl × MH × PH) : Nat -> Option Obj := hX (j4 a)
abbrev Da (a : List (List VV)) (b : (List VV) -> Prop) : Prop := ∀ (x : List VV), List.Mem x a -> b x
attribute [push_cast] wD wB lB wK j4 mN mO Da
def Hc (v : QV) (t : Sl) (m : MH) (h : PH) (K : CV -> MH -> PH -> Prop) : Prop :=
  JT (λ s o => aA (fU v.on = fU s) (lK h s o) (∀ (a : Sl), qT (λ b h1 => dG h h1 (Ints h1 a (jU o)) (Ints h1 b (fH o) -> ∀ (b1 : Nat) (m1 : MH), bK (cD m h1 b1) (bG m m1 b1 hU 33) (∀ (b2 : Nat) (m2 : MH), bK (cD m1 h1 b2) (bG m1 m2 b2 hU 33) (gG (λ c E => aA (uT m2 b1 (eV c E 0)) (fD 0 c) (∀ (m3 : MH), bG m2 m3 b1 (eU (eA a) 1 c) E -> gG (λ c1 E1 => aA (uT m3 b2 (eV c1 E1 0)) (fD 0 c1) (∀ (m4 : MH), bG m3 m4 b2 (eU (eA b) 1 c1) E1 -> Bf m4 h1 0 (λ b3 m5 => ∀ (b4 : Nat) (m6 : MH), bK (cD m5 h1 b4) (bG m5 m6 b4 (iK Eh) 207) (gG (λ c2 E2 => aA (uT m6 b4 (eV c2 E2 0)) (fD 0 c2) (∀ (m7 : MH), bG m6 m7 b4 (eU (BM b3) 1 c2) E2 -> FD t.a 0 1 t m7 h1 (λ o1 => o1 + 1) (λ y S => pW S h1 y m7 (λ x I k e => dW (λ m8 h2 =>
 bK (tD x k e) (PH.le h1 h2) (I k m8 h2 -> hP m8 h2 b2 0 (λ y1 => C6 e y1 h2 (λ r c3 => gC r.length c3) (λ r c3 => branch (List.all (pick r c3) lI) (hP m8 h2 b2 0 (λ y2 => C6 e y2 h2 (λ r1 _ => OA r1) (λ r1 c4 => aA (gC r1.length c4) (jY m8) (∃ (y3 : Nat), kW m8 h2 b4 y3 (∃ (y4 : Nat), aA (cG m8 h2 b4 y4) (kW m8 h2 b4 y3 (wD m8 y4 r1 c4 (aA (cG m8 h2 b4 y3) (cG m8 h2 b4 y4) (aA (cG m8 h2 b4 y3) (cG m8 h2 b4 y4) (∃ (x1 : List (List Value)), aA (dC m8 wB 74 1 x1) (gH ((x1.length + 1) * 24)) (iA x1 /\ gO (λ s1 m9 => eC m8 m9 wB s1 74 1 (jB x1 e) -> aA (cG m9 h2 b4 y3) (cG m9 h2 b4 y4) (vL (λ k1 O => aA (jS m9 y3 k1) (qC O) (aA (O (bY r1 c4)) (dX (Instr.sameBits 10000 (bY r1 c4) (bY r1 c4))) (tH (∀ (e1 : Value × Value),
 vD e1 k1 O) ((∀ (e1 : Value × Value), oE (List.Mem e1 k1) (e1.1 = bY r1 c4)) -> ∀ (a1 : MH), bK (iF m9 a1 y3) (jS a1 y3 (k1 ++ vJ (bY r1 c4) (eA s1))) (I (k + 1) a1 h2)) (λ l => ∀ (v1 : Value) (l1 : List (Value × Value)), k1 = l ++ kN (bY r1 c4) v1 l1 -> ∀ (a1 : MH), bK (iF m9 a1 y3) (jS a1 y3 (l ++ kN (bY r1 c4) (eA s1) l1)) (I (k + 1) a1 h2))))))))))) (λ y5 => aA (cG m8 h2 b4 y3) (cG m8 h2 b4 y4) (aA (cG m8 h2 b4 y3) (cG m8 h2 b4 y4) (∃ (x1 : List (List Value)), aA (dC m8 (dA y5) 74 1 x1) (gH ((x1.length + 1) * 24)) (iA x1 /\ gO (λ s1 m9 => eC m8 m9 (dA y5) s1 74 1 (jB x1 e) -> aA (cG m9 h2 b4 y3) (cG m9 h2 b4 y4) (vL (λ k1 O => aA (jS m9 y3 k1) (qC O) (aA (O (bY r1 c4)) (dX (Instr.sameBits 10000 (bY r1 c4) (bY r1 c4))) (tH (∀ (e1 :
 Value × Value), vD e1 k1 O) ((∀ (e1 : Value × Value), oE (List.Mem e1 k1) (e1.1 = bY r1 c4)) -> ∀ (a1 : MH), bK (iF m9 a1 y3) (jS a1 y3 (k1 ++ vJ (bY r1 c4) (eA s1))) (I (k + 1) a1 h2)) (λ l => ∀ (v1 : Value) (l1 : List (Value × Value)), k1 = l ++ kN (bY r1 c4) v1 l1 -> ∀ (a1 : MH), bK (iF m9 a1 y3) (jS a1 y3 (l ++ kN (bY r1 c4) (eA s1) l1)) (I (k + 1) a1 h2))))))))))))) (aA (cG m8 h2 b4 y3) (cG m8 h2 b4 y4) (kW m8 h2 b4 y3 (wD m8 y4 r1 c4 (zX (cG m8 h2 b4 y3) (cG m8 h2 b4 y4) (λ x1 => aA (dC m8 wB 74 1 x1) (gH ((x1.length + 1) * 24)) (iA x1 /\ gO (λ s1 m9 => eC m8 m9 wB s1 74 1 (jB x1 e) -> aA (cG m9 h2 b4 y3) (cG m9 h2 b4 y4) (vL (λ k1 O => aA (jS m9 y3 k1) (qC O) (aA (O (bY r1 c4)) (dX (Instr.sameBits 10000 (bY r1 c4) (bY
 r1 c4))) (tH (∀ (e1 : Value × Value), vD e1 k1 O) ((∀ (e1 : Value × Value), oE (List.Mem e1 k1) (e1.1 = bY r1 c4)) -> ∀ (a1 : MH), bK (iF m9 a1 y3) (jS a1 y3 (k1 ++ vJ (bY r1 c4) (eA s1))) (I (k + 1) a1 h2)) (λ l => ∀ (v1 : Value) (l1 : List (Value × Value)), k1 = l ++ kN (bY r1 c4) v1 l1 -> ∀ (a1 : MH), bK (iF m9 a1 y3) (jS a1 y3 (l ++ kN (bY r1 c4) (eA s1) l1)) (I (k + 1) a1 h2)))))))))) (λ y5 => zX (cG m8 h2 b4 y3) (cG m8 h2 b4 y4) (λ x1 => aA (dC m8 (dA y5) 74 1 x1) (gH ((x1.length + 1) * 24)) (iA x1 /\ gO (λ s1 m9 => eC m8 m9 (dA y5) s1 74 1 (jB x1 e) -> aA (cG m9 h2 b4 y3) (cG m9 h2 b4 y4) (vL (λ k1 O => aA (jS m9 y3 k1) (qC O) (aA (O (bY r1 c4)) (dX (Instr.sameBits 10000 (bY r1 c4) (bY r1 c4))) (tH (∀ (e1 : Value × Value), vD
 e1 k1 O) ((∀ (e1 : Value × Value), oE (List.Mem e1 k1) (e1.1 = bY r1 c4)) -> ∀ (a1 : MH), bK (iF m9 a1 y3) (jS a1 y3 (k1 ++ vJ (bY r1 c4) (eA s1))) (I (k + 1) a1 h2)) (λ l => ∀ (v1 : Value) (l1 : List (Value × Value)), k1 = l ++ kN (bY r1 c4) v1 l1 -> ∀ (a1 : MH), bK (iF m9 a1 y3) (jS a1 y3 (l ++ kN (bY r1 c4) (eA s1) l1)) (I (k + 1) a1 h2)))))))))))))))))) (I (k + 1) m8 h2)))))) (λ m8 h2 => A6 m8 h2 t (λ b5 m9 y1 S1 => pW S1 h2 y1 m9 (λ x I k e => dW (λ a1 h3 => bK (tD x k e) (PH.le h2 h3) (I k a1 h3 -> hP a1 h3 b1 0 (λ y2 => C6 e y2 h3 (λ r c3 => gC r.length c3) (λ r c3 => hZ (!(List.all (pick r c3) lI)) (I (k + 1) a1 h3) (λ y3 => kW a1 h3 b4 y3 (∃ (y4 : Sl), aA (aL a1 h3 b1 0 (aM y4)) (cG a1 h3 b4 y3) (Ff e y4 h3 a1 (cG a1 h3 b4 y3) (λ _ _ => aL a1 h3
 b1 0 (aM y4)) (λ r1 c4 => wD a1 y3 r1 c4 (∃ (I1 : Nat × Nat × Sl × Sl × MH × PH -> Prop) (a2 : Nat × Nat × Sl × Sl × MH × PH -> Nat), (∃ (x1 : Nat × Nat × Sl × Sl × MH × PH), aA (I1 x1) (cY b5 (lB x1)) (aA (bD e (wK x1)) (sQn = Ya (mN x1)) (aA (bC (mN x1).len) (bC x1.1) (aA (bJ a1 (j4 x1).2) (cE h3 (j4 x1).2) True)))) /\ ∀ (x1 : Nat × Nat × Sl × Sl × MH × PH), I1 x1 -> bA (↑x1.1 : Int) (aG (mN x1)) (aT (λ b6 o1 => aA (aU (mN x1).a b6 o1) (0 <= (↑x1.1 : Int)) ((↑x1.1 : Int) < aG (mN x1) /\ ∃ (y5 : Sl), aL (mO x1) (dP (j4 x1)) b6 (bN o1 x1.1 1) (aM y5) /\ ∃ (y6 : Sl), aA (aL (mO x1) (dP (j4 x1)) (lB x1) 0 (aM y6)) (aL (mO x1) (dP (j4 x1)) (lB x1) 0 (aM y6)) (aL (mO x1) (dP (j4 x1)) (lB x1) 0 (aM y6) /\ bH
 (dP (j4 x1)) 1 (aM (wK x1) :: cT (aM y5)) (λ s1 h4 => ∃ (s2 : Sl) (r2 : List (List VV)), aA (fU s1 = fU s2) (Rows h4 s2 r2) (aA (r2.length <= 10) (Da r2 (λ r3 => r3.length <= 12)) (qT (λ s3 h5 => dG h4 h5 (cJ h5 s3 r2.flatten) (zX (aL (mO x1) h5 (lB x1) 0 (aM y6)) (aL (mO x1) h5 (lB x1) 0 (aM y6)) (λ x2 => aA (dC (mO x1) (dA y6) 74 1 x2) (gH ((x2.length + 1) * 24)) (iA x2 /\ gO (λ s4 a3 => eC (mO x1) a3 (dA y6) s4 74 1 (jB x2 s3) -> gG (λ c5 E3 => aA (uT a3 (lB x1) (eV c5 E3 0)) (fD 0 c5) (∀ (a4 : MH), bG a3 a4 (lB x1) (eU (eA s4) 1 c5) E3 -> ∃ (x3 : Nat × Nat × Sl × Sl × MH × PH), aA (I1 x3) (a2 x3 < a2 x1) (aA (cY (lB x1) (lB x3)) (bD (wK x1) (wK x3)) (aA (bD (mN x1) (mN x3)) (cM
 (mN x1) (mN x3)) (aA (fK (bE x1.1 1) = bV x3.1) (bJ a4 (j4 x3).2) (lF h5 (j4 x3).2)))))))))))))))))) (I (k + 1) (mO x1) (dP (j4 x1)))) (λ y5 => ∃ (I1 : Nat × Nat × Sl × Sl × MH × PH -> Prop) (a2 : Nat × Nat × Sl × Sl × MH × PH -> Nat), (∃ (x1 : Nat × Nat × Sl × Sl × MH × PH), aA (I1 x1) (cY b5 (lB x1)) (aA (bD e (wK x1)) (bD y5 (mN x1)) (aA (cM y5 (mN x1)) (bC x1.1) (aA (bJ a1 (j4 x1).2) (cE h3 (j4 x1).2) True)))) /\ ∀ (x1 : Nat × Nat × Sl × Sl × MH × PH), I1 x1 -> bA (↑x1.1 : Int) (aG (mN x1)) (aT (λ b6 o1 => aA (aU (mN x1).a b6 o1) (0 <= (↑x1.1 : Int)) ((↑x1.1 : Int) < aG (mN x1) /\ ∃ (y6 : Sl), aL (mO x1) (dP (j4 x1)) b6 (bN o1 x1.1 1) (aM y6) /\ ∃ (y7 : Sl), aA (aL (mO x1) (dP (j4 x1)) (lB x1) 0 (aM y7))
 (aL (mO x1) (dP (j4 x1)) (lB x1) 0 (aM y7)) (aL (mO x1) (dP (j4 x1)) (lB x1) 0 (aM y7) /\ bH (dP (j4 x1)) 1 (aM (wK x1) :: cT (aM y6)) (λ s1 h4 => ∃ (s2 : Sl) (r2 : List (List VV)), aA (fU s1 = fU s2) (Rows h4 s2 r2) (aA (r2.length <= 10) (Da r2 (λ r3 => r3.length <= 12)) (qT (λ s3 h5 => dG h4 h5 (cJ h5 s3 r2.flatten) (zX (aL (mO x1) h5 (lB x1) 0 (aM y7)) (aL (mO x1) h5 (lB x1) 0 (aM y7)) (λ x2 => aA (dC (mO x1) (dA y7) 74 1 x2) (gH ((x2.length + 1) * 24)) (iA x2 /\ gO (λ s4 a3 => eC (mO x1) a3 (dA y7) s4 74 1 (jB x2 s3) -> gG (λ c5 E3 => aA (uT a3 (lB x1) (eV c5 E3 0)) (fD 0 c5) (∀ (a4 : MH), bG a3 a4 (lB x1) (eU (eA s4) 1 c5) E3 -> ∃ (x3 : Nat × Nat × Sl × Sl × MH × PH), aA (I1 x3)
 (a2 x3 < a2 x1) (aA (cY (lB x1) (lB x3)) (bD (wK x1) (wK x3)) (aA (bD (mN x1) (mN x3)) (cM (mN x1) (mN x3)) (aA (fK (bE x1.1 1) = bV x3.1) (bJ a4 (j4 x3).2) (lF h5 (j4 x3).2)))))))))))))))))) (I (k + 1) (mO x1) (dP (j4 x1))))))))))))) (λ a1 h3 => hP a1 h3 b5 0 (λ y2 => K (cK y2) a1 h3)))))))))))))))))))
def adZ (on : List (Int × Int)) (ls : List (List (List VV))) : Prop := 2 <= ls.length /\ ∃ w w', iC w (ls.getD 0 []) /\ iC w' (ls.getD 1 []) /\ gC w (jU on) /\ gC w' (fH on)
def JG (q : Query) (ls : List (List (List VV))) : Prop := match q with | .mk _ _ _ _ on _ _ _ _ => adZ on ls
def agree (on : List (Int × Int)) (x y : List VV) : Bool := dV (pick x (jU on)) (pick y (fH on)) == 0
def OY (q : Query) (ls : List (List (List VV))) : List (List VV) := match q with | .mk _ _ _ _ on _ _ _ _ => (ls.getD 0 []).filter λ x => (ls.getD 1 []).any λ y => agree on x y
theorem VT {on : List (Int × Int)} {x y : List VV} : agree on x y = true ↔ pick x (jU on) = pick y (fH on) := by
 simp only [agree, beq_iff_eq, kT]
theorem EX {r : List VV} {cols : List Int} (hr : OA r) (hc : gC r.length cols) : ∀ v ∈ pick r cols, Zp v := λ v hv => hr.val v (Pd hc hv)
theorem GM {on : List (Int × Int)} {x y : List VV} (hx : OA x) (hy : OA y) (cx : gC x.length (jU on)) (cy : gC y.length (fH on)) : cQ (pick x (jU on)) = cQ (pick y (fH on)) ↔ agree on x y = true := by
 rw [VT]
 exact Ek (by simp [pick, jU, fH]) (EX hx cx) (EX hy cy)
structure Start (m m7 : MH) (sa sb : Sl) (T : TypeId) (b1 b2 y b7 : Nat) : Prop where
 sub : Sub m m7
 a_ : m7 b1 = some (.cells #[.slice sa.a sa.len sa.cap] 33 (0, 0))
 b_ : m7 b2 = some (.cells #[.slice sb.a sb.len sb.cap] 33 (0, 0))
 y_ : m7 y = some (.map #[] 0)
 c_ : m7 b7 = some (.cells #[.map (some y)] T (0, 0))
 ya : b1 ≠ y
 yb : b2 ≠ y
 yc : b7 ≠ y
 free : m y = none
theorem OQ {sa sb : Sl} {T : TypeId} {Q : Nat -> Nat -> Nat -> Nat -> MH -> Prop} (hK : ∀ b1 b2 y b7 m7, Start m m7 sa sb T b1 b2 y b7 -> Q b1 b2 y b7 m7) :
 ∀ (b1 : Nat) (m1 : MH), cD m h b1 -> jH m m1 b1 (.cells #[sR] 33 (0, 0)) -> ∀ (b2 : Nat) (m2 : MH), cD m1 h b2 -> jH m1 m2 b2 (.cells #[sR] 33 (0, 0)) ->
  ∃ (cs : Array Value) (E : TypeId), uT m2 b1 (.cells cs E (0, 0)) /\ 0 < cs.size /\ ∀ m3 : MH, jH m2 m3 b1 (.cells (Array.mk (eA sa :: cs.toList.drop 1)) E (0, 0)) ->
  ∃ (cs : Array Value) (E : TypeId), uT m3 b2 (.cells cs E (0, 0)) /\ 0 < cs.size /\ ∀ m4 : MH, jH m3 m4 b2 (.cells (Array.mk (eA sb :: cs.toList.drop 1)) E (0, 0)) ->
  ∀ (y : Nat) (m5 : MH), cD m4 h y -> jH m4 m5 y (.map (Array.mk []) 0) -> ∀ (b7 : Nat) (m6 : MH), cD m5 h b7 -> jH m5 m6 b7 (.cells (Array.mk [.map none]) T (0, 0)) ->
  ∃ (cs : Array Value) (E : TypeId), uT m6 b7 (.cells cs E (0, 0)) /\ 0 < cs.size /\ ∀ m7 : MH, jH m6 m7 b7 (.cells (Array.mk (.map (some y) :: cs.toList.drop 1)) E (0, 0)) -> Q b1 b2 y b7 m7 := by
 intro b1 m1 hb1 hu1 b2 m2 hb2 hu2
 obtain ⟨s1, n1⟩ := gE (Sub.refl m) hb1 hu1
 obtain ⟨s2, n2⟩ := gE s1 hb2 hu2
 have e12 : b1 ≠ b2 := λ e => by have := hb2.m_; rw [<- e, hu1.at_] at this; cases this
 refine ⟨_, _, ⟨by rw [hu2.other b1 e12]; exact hu1.at_⟩, by simp, λ m3 hu3 => ?_⟩
 have s3 : Sub m m3 := s2.upd n1 hu3.other
 refine ⟨_, _, ⟨by rw [hu3.other b2 (Ne.symm e12)]; exact hu2.at_⟩, by simp, λ m4 hu4 y m5 hb5 hu5 b7 m6 hb6 hu6 => ?_⟩
 have s4 : Sub m m4 := s3.upd n2 hu4.other
 have m4a : m4 b1 = some (.cells #[.slice sa.a sa.len sa.cap] 33 (0, 0)) := by rw [hu4.other b1 e12]; exact hu3.at_
 have m4b : m4 b2 = some (.cells #[.slice sb.a sb.len sb.cap] 33 (0, 0)) := hu4.at_
 obtain ⟨s5, ny⟩ := gE s4 hb5 hu5
 obtain ⟨s6, n7⟩ := gE s5 hb6 hu6
 have ne5 : ∀ {z o}, m4 z = some o -> z ≠ y := fun {z o} e e2 => by rw [e2, hb5.m_] at e; cases e
 have ne6 : ∀ {z o}, m5 z = some o -> z ≠ b7 := fun {z o} e e2 => by rw [e2, hb6.m_] at e; cases e
 have m5a := m4a; rw [<- hu5.other b1 (ne5 m4a)] at m5a
 have m5b := m4b; rw [<- hu5.other b2 (ne5 m4b)] at m5b
 have m5y : m5 y = some (.map #[] 0) := hu5.at_
 refine ⟨_, _, ⟨hu6.at_⟩, by simp, λ m7 hu7 => hK _ _ _ _ _ ⟨s6.upd n7 hu7.other, ?_, ?_, ?_, hu7.at_, ne5 m4a, ne5 m4b, Ne.symm (ne6 m5y), ny⟩⟩
 . rw [hu7.other b1 (ne6 m5a), hu6.other b1 (ne6 m5a)]; exact m5a
 . rw [hu7.other b2 (ne6 m5b), hu6.other b2 (ne6 m5b)]; exact m5b
 . rw [hu7.other y (ne6 m5y), hu6.other y (ne6 m5y)]; exact m5y
theorem R9 : Sound Tryz.prog 151 (OB JG OY) := by
 refine D1 Tryz.func151 ?_
 rintro cvs m h K ⟨v, t, q, bs, ls, rfl, hq, ha, hT, hok, hK⟩
 refine ⟨N2 [(184, S9), (186, XO)] [] [] [200005, 200006, 200007, 200009, 1053, 400000, 0], rfl, aD Kp (aD BB aF), Hb v t m h (cZ h K), by kernel_rfl, ?_⟩
 show Hb v t m h (cZ h K)
 dsimp only [Hb, push_cast]
 obtain ⟨op, ta, w, co, on, gr, od, li, args⟩ := q
 obtain ⟨h2, wa, wb, hrel, hrel', hca, hcb⟩ := hok
 refine ⟨v.on, on, rfl, hq.parts.on_, λ sa sb h1 le1 hia hib => OQ λ b1 b2 y b7 m7 st => ?_⟩
 obtain ⟨b, off, x, ea, hlt, rd, sq⟩ := ha.get (BV (i := 1) aC)
 obtain ⟨b6, off6, x6, ea6, hlt6, rd6, sq6⟩ := ha.get (BV (i := 0) aC)
 obtain ⟨us', hseq', hru'⟩ := (sq.mono le1).ex
 obtain ⟨us, hseq, hru⟩ := (sq6.mono le1).ex
 simp only [OY] at hK
 generalize ls.getD 1 [] = l' at hru' hrel' hK sq
 generalize ls.getD 0 [] = l at hru hrel hK sq6
 have hul := hru.len
 have hll := hrel.len
 have hul' := hru'.len
 have s7 := st.sub
 have ny := st.free
 refine ⟨b, off, ea, aC, aC, x, .imm (rd.mono le1), tM, us', λ k mx hx => hx = h1 /\ (∀ z o, m7 z = some o -> z ≠ y -> mx z = some o) /\ oI mx y ((l'.take k).map λ z => cQ (pick z (fH on))), sL, ⟨x, us', rfl, hseq', rfl⟩, ⟨rfl, λ z o e _ => e, by simpa using oI.new st.y_⟩, ?_, ?_⟩
 . rintro k e mx hx hk - ⟨rfl, hs, hsn⟩
   obtain ⟨r, hr, hv⟩ := hru'.at' hk
   have hrl := lP hr
   have r5 : aL mx hx b7 0 [Value.map (some y)] := .of_m (hs b7 _ st.c_ st.yc) rfl
   have rb : aL mx hx b2 0 [eA sb] := .of_m (hs b2 _ st.b_ st.yb) rfl
   refine ⟨y, r5, sb, rb, r5, e, sb, r, fH on, rfl, hv, hib, hrel'.row r hrl, by rw [hrel'.wid r hrl]; exact hcb, hT.sub (λ z o e2 => hs z o (s7 z o e2) (λ e3 => by rw [e3, ny] at e2; cases e2)), r5, hsn.put (λ m' hs' hsn' => ⟨rfl, λ z o e2 hne => by rw [hs'.other z hne]; exact hs z o e2 hne, ?_⟩)⟩
   obtain ⟨kk, h5, h6⟩ := hsn'.ex
   exact ⟨kk, h5, λ q => by rw [h6, EA, hr]; simp [or_comm]⟩
 . rintro mx hx - ⟨rfl, hs, hsn⟩ b9 m5 hb5 hu5
   rw [hul', Ig] at hsn
   have s5 : Sub m mx := λ z o e2 => hs z o (s7 z o e2) (λ e3 => by rw [e3, ny] at e2; cases e2)
   obtain ⟨s6, n7⟩ := gE s5 hb5 hu5
   have ne7 : ∀ {z o}, mx z = some o -> m5 z = some o /\ z ≠ b9 := fun {z o} e2 => by
    have : z ≠ b9 := λ e3 => by rw [e3, hb5.m_] at e2; cases e2
    exact ⟨by rw [hu5.other z this]; exact e2, this⟩
   obtain ⟨m5a, na⟩ := ne7 (hs b1 _ st.a_ st.ya)
   obtain ⟨m5c, nc⟩ := ne7 (hs b7 _ st.c_ st.yc)
   have y7 : y ≠ b9 := by
    obtain ⟨kk, ⟨es, c, h1, _⟩, _⟩ := hsn.ex
    exact (ne7 h1).2
   have hsn5 := hsn.keep (hu5.other y y7)
   refine ⟨b6, off6, ea6, aC, aC, x6, .imm (rd6.mono le1), tM, us, λ k my hy => hy = hx /\ Ax m5 my b9 /\ ∃ us2, mE m5 my b9 us2 /\ us2.length <= k /\ eF hx us2 ((l.take k).filter λ z => l'.any λ y => agree on z y), sL, ⟨x6, us, rfl, hseq, rfl⟩, ⟨rfl, λ z o e _ => e, [], mE.new hu5.at_, by simp, by simpa using eF.nil hx⟩, ?_, ?_⟩
   . rintro k e my hy hk - ⟨rfl, hs7, us2, hout, hl2, hr2⟩
     obtain ⟨r, hr, hv⟩ := hru.at' hk
     have hkl := (mG.1 hk).1
     have hrl := lP hr
     have r5 : aL my hy b7 0 [Value.map (some y)] := .of_m (hs7 b7 _ m5c nc) rfl
     have r3 : aL my hy b1 0 [eA sa] := .of_m (hs7 b1 _ m5a na) rfl
     have hsn7 : oI my y (l'.map λ z => cQ (pick z (fH on))) := by
      obtain ⟨kk, ⟨es, c, h1, h2, h3, h4⟩, h5⟩ := hsn5.ex
      exact ⟨kk, ⟨es, c, hs7 y _ h1 y7, h2, h3, h4⟩, h5⟩
     have hcr : gC r.length (jU on) := by rw [hrel.wid r hrl]; exact hca
     have key : ∀ t : Bool, (t = true ↔ cQ (pick r (jU on)) ∈ l'.map λ z => cQ (pick z (fH on))) -> t = l'.any λ y => agree on r y := λ t ht => by
      have h1 : (cQ (pick r (jU on)) ∈ l'.map λ z => cQ (pick z (fH on))) ↔ (l'.any λ y => agree on r y) = true := by
       rw [mH, List.any_eq_true]
       constructor
       . rintro ⟨z, hz, e2⟩
         exact ⟨z, hz, (GM (hrel.row r hrl) (hrel'.row z hz) hcr (by rw [hrel'.wid z hz]; exact hcb)).1 e2.symm⟩
       . rintro ⟨z, hz, e2⟩
         exact ⟨z, hz, ((GM (hrel.row r hrl) (hrel'.row z hz) hcr (by rw [hrel'.wid z hz]; exact hcb)).2 e2).symm⟩
      rw [h1] at ht
      cases t
      . cases e2 : l'.any λ y => agree on r y with
        | false => rfl
        | true => exact ht.2 e2
      . exact (ht.1 rfl).symm
     refine ⟨y, r5, sa, r3, r5, e, sa, r, jU on, rfl, hv, hia, hrel.row r hrl, hcr, hT.sub (s6.x n7 hs7), r5, r3, hsn7.get (K := λ t => branch t _ _) (λ t ht => ?_)⟩
     have e3 := key t ht
     refine aB (λ h1 => ?_) (λ h1 => ?_)
     . refine mE.app ⟨_, hu5.at_⟩ hs7 hout aC (λ m' hs' ho' => ⟨rfl, hs', us2 ++ [e], ho', by simp; omega, ?_⟩)
       rw [iU _ hr, if_pos (by rw [<- e3]; exact h1)]
       exact hr2.snoc hv
     . refine ⟨rfl, hs7, us2, hout, aC, ?_⟩
       rw [iU _ hr, if_neg (by rw [<- e3, h1]; simp), OE]
       exact hr2
   . rintro my hy - ⟨rfl, hs7, us2, hout, hl2, hr2⟩
     rw [hul, Ig] at hr2
     obtain ⟨s, hb, hrow, hfr⟩ := hout.ex
     refine ⟨s, .of_m hb rfl, cZ.row (s6.x n7 hs7) le1 hrow (λ j z e => ?_) (λ h' le hri => hK s h' (le1.trans le) ((hr2.mono le).rows hri (by have := hr2.len; omega)))⟩
     cases e2 : m z with
     | none => rfl
     | some o => have e1 := hfr j z e; rw [s6 z o e2] at e1; cases e1
structure oL (m0 m : MH) (y : Nat) (kk : List (ByteArray × Sl)) (us : ByteArray -> List Sl) : Prop where
 map_ : jS m y (kk.map λ p => (Value.string p.1, eA p.2))
 nodup : (kk.map Prod.fst).Nodup
 row : ∀ p ∈ kk, dC m p.2 74 1 ((us p.1).map eS)
 fresh : ∀ p ∈ kk, ∀ x i, p.2.a = some ⟨x, i, none⟩ -> m0 x = none
 apart : ∀ p ∈ kk, ∀ q ∈ kk, p.1 ≠ q.1 -> ∀ x i j, p.2.a = some ⟨x, i, none⟩ -> q.2.a ≠ some ⟨x, j, none⟩
 none_ : ∀ k, k ∉ kk.map Prod.fst -> us k = []
 old : ∀ x o, m0 x = some o -> x ≠ y -> m x = some o
def BT (kk : List (ByteArray × Sl)) (key : ByteArray) (s : Sl) : Prop := (s = ⟨none, 0, 0⟩ /\ key ∉ kk.map Prod.fst) \/ (key, s) ∈ kk
theorem oL.new {y : Nat} (h : m y = some (.map #[] 0)) : oL m m y [] λ _ => [] := ⟨⟨#[], 0, h, rfl, by simp, by simp⟩, by simp, by simp, by simp, by simp, λ _ _ => rfl, λ _ _ e _ => e⟩
theorem BT.row {m0 : MH} {y : Nat} {kk : List (ByteArray × Sl)} {us : ByteArray -> List Sl} {key : ByteArray} {s : Sl} (g : oL m0 m y kk us) (hs : BT kk key s) : dC m s 74 1 ((us key).map eS) /\ ∀ x i, s.a = some ⟨x, i, none⟩ -> m0 x = none := by
 rcases hs with ⟨rfl, hn⟩ | hp
 . rw [g.none_ key hn]
   exact ⟨⟨Ai [], .inl ⟨rfl, rfl⟩⟩, λ x i e => by cases e⟩
 . exact ⟨g.row _ hp, g.fresh _ hp⟩
theorem oL.keep {m0 : MH} {y : Nat} {kk : List (ByteArray × Sl)} {us : ByteArray -> List Sl} (g : oL m0 m y kk us) (hk : ∀ x o, m x = some o -> m' x = some o) : oL m0 m' y kk us := by
 obtain ⟨es, c, h1, h2, h3, h4⟩ := g.map_
 refine ⟨⟨es, c, hk _ _ h1, h2, h3, h4⟩, g.nodup, λ p hp => ?_, g.fresh, g.apart, g.none_, λ x o h1 h2 => hk x o (g.old x o h1 h2)⟩
 obtain ⟨hr, hx⟩ := g.row p hp
 refine ⟨hr, hx.imp id ?_⟩
 rintro ⟨b, cap, cur, e, hm, h⟩
 exact ⟨b, cap, cur, e, hk _ _ hm, h⟩
def K5 (us : ByteArray -> List Sl) (key : ByteArray) (e : Sl) : ByteArray -> List Sl := λ k => if k = key then us k ++ [e] else us k
theorem oL.core {m0 m1 : MH} {y : Nat} {kk kk' : List (ByteArray × Sl)} {us : ByteArray -> List Sl} {key : ByteArray} {s s' e : Sl} (g : oL m0 m y kk us) (hy : ∃ o, m0 y = some o) (hs : BT kk key s) (hg : eC m m1 s s' 74 1 ((us key).map eS ++ [[eA e]]))
 (hm : jS m' y (kk'.map λ p => (Value.string p.1, eA p.2))) (hsame : iF m1 m' y) (hnd : (kk'.map Prod.fst).Nodup) (hmem : ∀ p ∈ kk', p = (key, s') \/ (p ∈ kk /\ p.1 ≠ key)) (hkey : (key, s') ∈ kk') (hkk : ∀ k, k ∈ kk.map Prod.fst -> k ∈ kk'.map Prod.fst) : oL m0 m' y kk' (K5 us key e) := by
 obtain ⟨oy, hy⟩ := hy
 obtain ⟨hrow, hfr⟩ := hs.row g
 obtain ⟨es, c, h1, _⟩ := g.map_
 have hny : ∀ i, s.a ≠ some ⟨y, i, none⟩ := λ i e2 => by rw [hfr y i e2] at hy; cases hy
 have hdom : ∀ x, m x = none -> m0 x = none := λ x hx => by
  cases h0 : m0 x with
  | none => rfl
  | some o =>
   by_cases hxy : x = y
   . subst hxy; rw [hx] at h1; cases h1
   . rw [g.old x o h0 hxy] at hx; cases hx
 have hs'f : ∀ x i, s'.a = some ⟨x, i, none⟩ -> m0 x = none := λ x i e2 => by
  rcases hg.fresh x i e2 with h | ⟨j, h⟩
  . exact hdom x h
  . exact hfr x j h
 have hsome : ∀ p ∈ kk, ∀ x i, p.2.a = some ⟨x, i, none⟩ -> ∃ o, m x = some o := λ p hp x i e2 => by
  rcases (g.row p hp).ex with ⟨h, _⟩ | ⟨b, cap, cur, h, hm, _⟩
  . rw [h] at e2; cases e2
  . rw [h] at e2
    simp only [sW, Addr.mk.injEq] at e2
    exact ⟨_, e2.1 ▸ hm⟩
 have hap : ∀ p ∈ kk, p.1 ≠ key -> ∀ x i j, p.2.a = some ⟨x, i, none⟩ -> s.a ≠ some ⟨x, j, none⟩ := λ p hp hne x i j e2 e3 => by
  rcases hs with ⟨rfl, _⟩ | hs
  . cases e3
  . exact g.apart p hp _ hs hne x i j e2 e3
 refine ⟨hm, hnd, λ p hp => ?_, λ p hp x i e2 => ?_, λ p hp q hq hne x i j e2 e3 => ?_, λ k hk => ?_, λ x o h0 hne => ?_⟩
 . rcases hmem p hp with rfl | ⟨hp', hne⟩
   . have e1 : (K5 us key e key).map eS = (us key).map eS ++ [[eA e]] := by simp [K5, eS]
     rw [e1]
     exact dC.keep hg.row λ b i e2 => hsame.other b (λ e3 => by rw [e3] at e2; rw [hs'f y i e2] at hy; cases hy)
   . have e1 : K5 us key e p.1 = us p.1 := if_neg hne
     rw [e1]
     refine dC.keep (g.row p hp') λ b i e2 => ?_
     obtain ⟨o, ho⟩ := hsome p hp' b i e2
     rw [hsame.other b (λ e3 => by rw [e3] at e2; rw [g.fresh p hp' y i e2] at hy; cases hy), ho]
     exact hg.other b o ho (λ j => hap p hp' hne b i j e2)
 . rcases hmem p hp with rfl | ⟨hp', _⟩
   . exact hs'f x i e2
   . exact g.fresh p hp' x i e2
 . have hx : ∀ p ∈ kk, p.1 ≠ key -> ∀ i j, p.2.a = some ⟨x, i, none⟩ -> s'.a ≠ some ⟨x, j, none⟩ := λ p hp hne i j e2 e3 => by
    rcases hg.fresh x j e3 with h | ⟨j', h⟩
    . obtain ⟨o, ho⟩ := hsome p hp x i e2
      rw [h] at ho; cases ho
    . exact hap p hp hne x i j' e2 h
   rcases hmem p hp with rfl | ⟨hp', hpn⟩ <;> rcases hmem q hq with rfl | ⟨hq', hqn⟩
   . exact hne rfl
   . exact hx q hq' hqn j i e3 e2
   . exact hx p hp' hpn i j e2 e3
   . exact g.apart p hp' q hq' hne x i j e2 e3
 . have hk1 : k ≠ key := λ e2 => hk (mH.2 ⟨_, hkey, e2.symm⟩)
   simp only [K5, if_neg hk1]
   exact g.none_ k λ h => hk (hkk k h)
 . rw [hsame.other x hne]
   exact hg.other x o (g.old x o h0 hne) (λ i e2 => by have h5 := hfr x i e2; rw [h0] at h5; cases h5)
theorem oL.put {m0 m1 : MH} {y : Nat} {kk : List (ByteArray × Sl)} {us : ByteArray -> List Sl} {key : ByteArray} {s s' e : Sl} {Q : MH -> Prop} (g : oL m0 m y kk us) (hy : ∃ o, m0 y = some o) (hs : BT kk key s) (hg : eC m m1 s s' 74 1 ((us key).map eS ++ [[eA e]]))
 (hQ : ∀ m' kk', oL m0 m' y kk' (K5 us key e) -> Q m') :
 ∃ (kvs : List (Value × Value)) (Ok : Value -> Prop), jS m1 y kvs /\ KeyLaw Tryz.prog 9 Ok /\ Ok (.string key) /\ Instr.sameBits 10000 (Value.string key) (Value.string key) = true /\ (∀ e, List.Mem e kvs -> Ok e.1) /\ ((∀ e, List.Mem e kvs -> e.1 = Value.string key -> False) -> ∀ m' : MH, iF m1 m' y -> jS m' y (kvs ++ [(Value.string key, eA s')]) -> Q m') /\
  ∀ (l1 : List (Value × Value)) (v0 : Value) (l2 : List (Value × Value)), kvs = l1 ++ (Value.string key, v0) :: l2 -> ∀ m' : MH, iF m1 m' y -> jS m' y (l1 ++ (Value.string key, eA s') :: l2) -> Q m' := by
 have hny : ∀ i, s.a ≠ some ⟨y, i, none⟩ := λ i e2 => by
  obtain ⟨o, ho⟩ := hy
  rw [(hs.row g).2 y i e2] at ho; cases ho
 obtain ⟨es, c, h1, h2, h3, h4⟩ := g.map_
 refine ⟨kk.map λ p => (Value.string p.1, eA p.2), _, ⟨es, c, hg.other _ _ h1 hny, h2, h3, h4⟩, AJ, ⟨key, rfl⟩, O0 key, λ e he => ?_, λ hn m' hsame hm' => ?_, λ l1 v0 l2 e0 m' hsame hm' => ?_⟩
 . obtain ⟨k, _, rfl⟩ := mH.1 (show e ∈ _ from he)
   exact ⟨k.1, rfl⟩
 . have hnk : key ∉ kk.map Prod.fst := λ h => by
    obtain ⟨p, hp, e2⟩ := mH.1 h
    subst e2
    exact hn _ (List.mem_map_of_mem (f := λ p : ByteArray × Sl => (Value.string p.1, eA p.2)) hp) rfl
   refine hQ m' (kk ++ [(key, s')]) (g.core hy hs hg (by simpa using hm') hsame ?_ ?_ (by simp) (λ k hk => by rw [xH]; exact List.mem_append_left _ hk))
   . rw [xH, List.nodup_append]
     refine ⟨g.nodup, by simp, λ a ha b hb e2 => ?_⟩
     simp at hb
     subst e2 hb
     exact hnk ha
   . intro p hp
     rcases BZ.1 hp with h | h
     . exact .inr ⟨h, λ e2 => hnk (e2 ▸ List.mem_map_of_mem h)⟩
     . exact .inl (by simpa using h)
 . obtain ⟨k1, k2', e1, e2, e3⟩ := List.map_eq_append_iff.1 e0
   obtain ⟨p, k2, e4, e5, e6⟩ := List.map_eq_cons_iff.1 e3
   subst e1 e4 e2 e6
   simp only [Ez, Value.string.injEq] at e5
   have hnd := g.nodup
   rw [xH, EB, e5.1] at hnd
   have hnd2 := List.nodup_append.1 hnd
   have hnd3 := List.nodup_cons.1 hnd2.2.1
   refine hQ m' (k1 ++ (key, s') :: k2) (g.core hy hs hg (by simpa using hm') hsame (by simpa using hnd) ?_ (by simp) (λ k hk => by simpa [e5.1] using hk))
   intro q hq
   rcases BZ.1 hq with h | h
   . exact .inr ⟨List.mem_append_left _ h, λ e7 => hnd2.2.2 q.1 (List.mem_map_of_mem h) key (Gh ..) e7⟩
   . rcases xA.1 h with h | h
     . exact .inl h
     . exact .inr ⟨List.mem_append_right _ (D3 _ h), λ e7 => hnd3.1 (e7 ▸ List.mem_map_of_mem h)⟩
theorem oL.app {m0 : MH} {hx : PH} {y c : Nat} {T : TypeId} {kk : List (ByteArray × Sl)} {us : ByteArray -> List Sl} {key : ByteArray} {s e : Sl} {Q : MH -> Prop} (g : oL m0 m y kk us) (hy : ∃ o, m0 y = some o) (hc0 : ∃ o, m0 c = some o) (hc : m c = some (.cells #[.map (some y)] T (0, 0))) (hl : (us key).length <= 502633886983)
 (hQ : ∀ m' kk', oL m0 m' y kk' (K5 us key e) -> Q m') (hs : BT kk key s) :
 ∃ xs : List (List Value), dC m (Sl.mk s.a s.len s.cap) 74 1 xs /\ (xs.length + 1) * 24 <= 140737488355328 /\ xs.length < 140737488355328 /\ ∀ (s' : Sl) (m1 : MH), eC m m1 (Sl.mk s.a s.len s.cap) s' 74 1 (xs ++ [[eA e]]) ->
  aL m1 hx c 0 [Value.map (some y)] /\ aL m1 hx c 0 [Value.map (some y)] /\
 ∃ (kvs : List (Value × Value)) (Ok : Value -> Prop), jS m1 y kvs /\ KeyLaw Tryz.prog 9 Ok /\ Ok (.string key) /\ Instr.sameBits 10000 (Value.string key) (Value.string key) = true /\ (∀ e, List.Mem e kvs -> Ok e.1) /\ ((∀ e, List.Mem e kvs -> e.1 = Value.string key -> False) -> ∀ m' : MH, iF m1 m' y -> jS m' y (kvs ++ [(Value.string key, eA s')]) -> Q m') /\
  ∀ (l1 : List (Value × Value)) (v0 : Value) (l2 : List (Value × Value)), kvs = l1 ++ (Value.string key, v0) :: l2 -> ∀ m' : MH, iF m1 m' y -> jS m' y (l1 ++ (Value.string key, eA s') :: l2) -> Q m' := by
 obtain ⟨hrow, hfr⟩ := hs.row g
 refine ⟨_, hrow, by simp; omega, by simp; omega, λ s' m1 hg => ?_⟩
 have r : aL m1 hx c 0 [Value.map (some y)] := .of_m (hg.other c _ hc λ i e2 => by
  obtain ⟨o, ho⟩ := hc0
  have e2 : s.a = some ⟨c, i, none⟩ := e2
  rw [hfr c i e2] at ho; cases ho) rfl
 exact ⟨r, r, g.put hy hs hg hQ⟩
theorem oL.get2 {m0 : MH} {y : Nat} {kk : List (ByteArray × Sl)} {us : ByteArray -> List Sl} {key : ByteArray} {K0 : Prop} {K : Sl -> Prop} (g : oL m0 m y kk us) (h0 : BT kk key ⟨none, 0, 0⟩ -> K0) (hK : ∀ s, BT kk key s -> K s) :
 ∃ (kvs : List (Value × Sl)) (Ok : Value -> Prop), zN m y (kvs.map λ p => (p.1, eA p.2)) /\ KeyLaw Tryz.prog 9 Ok /\ Ok (.string key) /\ (∀ e, List.Mem e kvs -> Ok e.1) /\ ((∀ e, List.Mem e kvs -> e.1 = Value.string key -> False) -> K0) /\ ∀ t, List.Mem (Value.string key, t) kvs -> K t := by
 obtain ⟨es, c, h1, h2, _, _⟩ := g.map_
 refine ⟨kk.map λ p => (.string p.1, p.2), _, ⟨es, c, h1, by rw [h2]; simp⟩, AJ, ⟨key, rfl⟩, λ e he => ?_, λ hn => h0 (.inl ⟨rfl, λ h => ?_⟩), λ t ht => hK t (.inr ?_)⟩
 . obtain ⟨k, _, rfl⟩ := mH.1 (show e ∈ _ from he)
   exact ⟨k.1, rfl⟩
 . obtain ⟨p, hp, e⟩ := mH.1 h
   subst e
   exact hn (.string p.1, p.2) (List.mem_map_of_mem (f := λ p : ByteArray × Sl => (Value.string p.1, p.2)) hp) rfl
 . obtain ⟨p, hp, e⟩ := mH.1 (show (Value.string key, t) ∈ _ from ht)
   simp only [Ez, Value.string.injEq] at e
   obtain ⟨e1, e2⟩ := e
   subst e1 e2; exact hp
structure QY (m0 m : MH) (h : PH) (y : Nat) (f : ByteArray -> List (List VV)) : Prop where
 ex : ∃ kk us, oL m0 m y kk us /\ ∀ k, eF h (us k) (f k)
theorem QY.upd {m0 : MH} {y : Nat} {kk : List (ByteArray × Sl)} {us : ByteArray -> List Sl} {f f' : ByteArray -> List (List VV)} {key : ByteArray} {e : Sl} {r : List VV} (g : oL m0 m' y kk (K5 us key e)) (hf : ∀ k, eF h (us k) (f k)) (hv : cJ h e r) (e1 : f' key = f key ++ [r]) (e2 : ∀ k, k ≠ key -> f' k = f k) : QY m0 m' h y f' := by
 refine ⟨kk, _, g, λ k => ?_⟩
 by_cases hk : k = key
 . subst hk
   rw [e1]
   have : K5 us k e k = us k ++ [e] := if_pos rfl
   rw [this]
   exact (hf k).snoc hv
 . rw [e2 k hk]
   have : K5 us key e k = us k := if_neg hk
   rw [this]
   exact hf k
def AM (cols : List Int) (r : List VV) : Bool := (pick r cols).all lI
def mW (on : List (Int × Int)) (b : List (List VV)) (x : List VV) : List (List VV) :=
 if AM (jU on) x then (b.filter λ y => AM (fH on) y && agree on x y).map (x ++ ·) else []
def Pp (q : Query) (ls : List (List (List VV))) : List (List VV) := match q with | .mk _ _ _ _ on _ _ _ _ => (ls.getD 0 []).flatMap (mW on (ls.getD 1 []))
def JJ (q : Query) (ls : List (List (List VV))) : Prop := match q with | .mk _ _ _ _ on _ _ _ _ => adZ on ls /\ (ls.getD 0 []).length * (ls.getD 1 []).length <= 1000000
theorem uY {α β : Type} {f : α -> List β} {n : Nat} : ∀ {l : List α}, (∀ x ∈ l, (f x).length <= n) -> (l.flatMap f).length <= l.length * n
 | [], _ => by simp
 | a :: l, h => by
  have h1 := h a (Gh ..)
  have h2 := uY (l := l) λ x hx => h x (D3 _ hx)
  simp only [List.flatMap_cons, BG, Gi, Nat.add_mul, Nat.one_mul]
  omega
theorem wX {α β : Type} {l : List α} {x : α} (f : α -> List β) (hx : l[k]? = some x) : (l.take (k + 1)).flatMap f = (l.take k).flatMap f ++ f x := by
 rw [EA, hx]; simp
theorem zB {on : List (Int × Int)} {b : List (List VV)} {x : List VV} : (mW on b x).length <= b.length := by
 unfold mW; split
 . rw [mI]; exact Q5 _ _
 . simp
def under (cols : List Int) (l : List (List VV)) (key : ByteArray) : List (List VV) := l.filter λ z => AM cols z && decide (cQ (pick z cols) = key)
theorem D4 {cols : List Int} {l : List (List VV)} {r : List VV} (hr : l[k]? = some r) (key : ByteArray) : under cols (l.take (k + 1)) key = under cols (l.take k) key ++ (if AM cols r && decide (cQ (pick r cols) = key) then [r] else []) := iU _ hr
theorem Sa : Sound Tryz.prog 150 (OB JJ Pp) := by
 refine D1 Tryz.func150 ?_
 rintro cvs m h K ⟨v, t, q, bs, ls, rfl, hq, ha, hT, hok, hK⟩
 refine ⟨W0, rfl, aD Kp (aD BB (aD RY (aD RX aF))), Hc v t m h (cZ h K), by kernel_rfl, ?_⟩
 show Hc v t m h (cZ h K)
 dsimp only [Hc, push_cast]
 obtain ⟨op, ta, w, co, on, gr, od, li, args⟩ := q
 obtain ⟨⟨h2, wa, wb, hrel, hrel', hca, hcb⟩, hpr⟩ := hok
 refine ⟨v.on, on, rfl, hq.parts.on_, λ sa sb h1 le1 hia hib => OQ λ b1 b2 y b7 m7 st => ?_⟩
 obtain ⟨b, off, x, ea, hlt, rd, sq⟩ := ha.get (BV (i := 1) aC)
 obtain ⟨b6, off6, x6, ea6, hlt6, rd6, sq6⟩ := ha.get (BV (i := 0) aC)
 obtain ⟨us', hseq', hru'⟩ := (sq.mono le1).ex
 obtain ⟨us, hseq, hru⟩ := (sq6.mono le1).ex
 simp only [Pp] at hK
 generalize ls.getD 1 [] = l' at hru' hrel' hK sq hpr
 generalize ls.getD 0 [] = l at hru hrel hK sq6 hpr
 have hul := hru.len
 have hll := hrel.len
 have hll' := hrel'.len
 have hul' := hru'.len
 have s7 := st.sub
 have ny := st.free
 have gsub : ∀ {mx kk us}, oL m7 mx y kk us -> Sub m mx := λ g z o e2 => g.old z o (s7 z o e2) (λ e3 => by rw [e3, ny] at e2; cases e2)
 refine ⟨b, off, ea, aC, aC, x, .imm (rd.mono le1), tM, us', λ k mx hx => hx = h1 /\ QY m7 mx h1 y (under (fH on) (l'.take k)), sL, ⟨x, us', rfl, hseq', rfl⟩, ⟨rfl, ⟨[], _, oL.new st.y_, λ k => by simpa [under] using eF.nil h1⟩⟩, ?_, ?_⟩
 . rintro k e mx hx hk - ⟨rfl, ⟨kk, uk, g, hg⟩⟩
   obtain ⟨r, hr, hv⟩ := hru'.at' hk
   have hrl := lP hr
   have hcr : gC r.length (fH on) := by rw [hrel'.wid r hrl]; exact hcb
   have mc := g.old b7 _ st.c_ st.yc
   have r5 : aL mx hx b7 0 [Value.map (some y)] := .of_m mc rfl
   have rb : aL mx hx b2 0 [eA sb] := .of_m (g.old b2 _ st.b_ st.yb) rfl
   refine ⟨sb, rb, e, sb, r, fH on, rfl, hv, hib, hcr, aB (λ hreal => ?_) (λ hreal => ?_)⟩
   . have hl : (uk (cQ (pick r (fH on)))).length <= 502633886983 := by
      have h5 := (hg (cQ (pick r (fH on)))).len
      have h6 : (under (fH on) (l'.take k) (cQ (pick r (fH on)))).length <= (l'.take k).length := Q5 _ _
      rw [Hz] at h6
      omega
     have app := fun {s : Sl} => g.app (hx := hx) (e := e) (s := s) (Q := λ m' => hx = hx /\ QY m7 m' hx y (under (fH on) (l'.take (k + 1)))) ⟨_, st.y_⟩ ⟨_, st.c_⟩ mc hl (λ m' kk' g' => ⟨rfl, QY.upd g' hg hv (by rw [D4 hr, if_pos]; simpa [AM] using hreal) (λ k2 hk2 => by rw [D4 hr, if_neg, OE]; simp [Ne.symm hk2])⟩)
     exact ⟨sb, rb, e, sb, r, fH on, rfl, hv, hib, hrel'.row r hrl, hcr, hT.sub (gsub g), y, r5, y, r5, ⟨r5, g.get2 (λ hs => ⟨r5, r5, r5, r5, app hs⟩) (λ s hs => ⟨r5, r5, r5, r5, app hs⟩)⟩, r5, r5, r5, g.get2 (λ hs => ⟨r5, r5, app hs⟩) (λ s hs => ⟨r5, r5, app hs⟩)⟩
   . refine ⟨rfl, ⟨kk, uk, g, λ k2 => ?_⟩⟩
     rw [D4 hr, if_neg, OE]
     . exact hg k2
     . simp [AM, hreal]
 . rintro mx hx - ⟨rfl, gr⟩ b9 m5 hb5 hu5
   rw [hul', Ig] at gr
   have ne7 : ∀ {z o}, mx z = some o -> m5 z = some o /\ z ≠ b9 := fun {z o} e2 => by
    have : z ≠ b9 := λ e3 => by rw [e3, hb5.m_] at e2; cases e2
    exact ⟨by rw [hu5.other z this]; exact e2, this⟩
   have s5 : Sub m mx := by
    obtain ⟨kk, uk, g, _⟩ := gr.ex
    exact gsub g
   obtain ⟨s6, n7⟩ := gE s5 hb5 hu5
   obtain ⟨kk, uk, g, hg⟩ := gr.ex
   refine ⟨b6, off6, ea6, aC, aC, x6, .imm (rd6.mono le1), tM, us, λ k my hy => PH.le hx hy /\ Ax m5 my b9 /\ ∃ us2, mE m5 my b9 us2 /\ eF hy us2 ((l.take k).flatMap (mW on l')), sL, ⟨x6, us, rfl, hseq, rfl⟩, ⟨.refl _, λ z o e _ => e, [], mE.new hu5.at_, by simpa using eF.nil hx⟩, ?_, ?_⟩
   . rintro k e my hy hk - ⟨le, hs7, us2, hout, hr2⟩
     obtain ⟨r, hr, hv⟩ := hru.at' hk
     have hkl := (mG.1 hk).1
     have hrl := lP hr
     have old7 : ∀ z o, mx z = some o -> my z = some o := λ z o e2 => hs7 z o (ne7 e2).1 (ne7 e2).2
     have g7 := g.keep old7
     have r5 : aL my hy b7 0 [Value.map (some y)] := .of_m (g7.old b7 _ st.c_ st.yc) rfl
     have r3 : aL my hy b1 0 [eA sa] := .of_m (g7.old b1 _ st.a_ st.ya) rfl
     have hcr : gC r.length (jU on) := by rw [hrel.wid r hrl]; exact hca
     have hv' := cJ.mono hv le
     refine ⟨sa, r3, e, sa, r, jU on, rfl, hv', hia.mono le, hcr, aB (λ hreal => ?_) (λ hreal => ?_)⟩
     . refine ⟨le, hs7, us2, hout, ?_⟩
       have : mW on l' r = [] := if_neg (by simpa [AM] using hreal)
       rw [wX _ hr, this, OE]; exact hr2
     . have hreal : (pick r (jU on)).all lI = true := by simpa using hreal
       have hgl : under (fH on) l' (cQ (pick r (jU on))) = l'.filter λ y => AM (fH on) y && agree on r y := by
        refine List.filter_congr λ z hz => ?_
        congr 1
        have h5 := GM (hrel.row r hrl) (hrel'.row z hz) hcr (by rw [hrel'.wid z hz]; exact hcb)
        cases e5 : agree on r z with
        | true => exact decide_eq_true (h5.2 e5).symm
        | false => exact decide_eq_false λ e6 => by rw [h5.1 e6.symm] at e5; cases e5
       have hjr : mW on l' r = (under (fH on) l' (cQ (pick r (jU on)))).map (r ++ ·) := by rw [hgl]; exact if_pos (by simpa [AM] using hreal)
       have hpre : ((l.take k).flatMap (mW on l')).length + (under (fH on) l' (cQ (pick r (jU on)))).length <= 1000000 := by
        have h5 : ((l.take (k + 1)).flatMap (mW on l')).length <= (l.take (k + 1)).length * l'.length := uY λ x _ => zB
        rw [wX _ hr, BG, hjr, mI] at h5
        have h6 : (l.take (k + 1)).length * l'.length <= l.length * l'.length := X1 _ (by rw [Hz]; omega)
        omega
       have loop : ∀ s, BT kk (cQ (pick r (jU on))) s -> dC mx s 74 1 ((uk (cQ (pick r (jU on)))).map eS) := λ s hs => (hs.row g).1
       generalize hG : under (fH on) l' (cQ (pick r (jU on))) = G at hjr hpre
       have hGu := hg (cQ (pick r (jU on)))
       rw [hG] at hGu
       have hGl := hGu.len
       refine ⟨y, r5, sa, r3, r5, e, sa, r, jU on, rfl, hv', hia.mono le, hrel.row r hrl, hcr, hT.sub (s6.x n7 hs7), r5, r3, g7.get2 (λ hs => ?_) (λ s hs => ?_)⟩
       . refine ⟨λ z => z.1 <= G.length /\ z.2.1 = b9 /\ z.2.2.1 = e /\ z.2.2.2.1 = (⟨none, 0, 0⟩ : Sl) /\ PH.le hy z.2.2.2.2.2 /\ Ax m5 z.2.2.2.2.1 b9 /\ ∃ us3, mE m5 z.2.2.2.2.1 b9 us3 /\ eF z.2.2.2.2.2 us3 ((l.take k).flatMap (mW on l') ++ (G.take z.1).map (r ++ ·)), λ z => G.length - z.1, ⟨(0, b9, e, (⟨none, 0, 0⟩ : Sl), my, hy), ⟨by simp, rfl, rfl, rfl, .refl _, hs7, us2, hout, by simpa using hr2⟩, MT⟩, ?_⟩
         rintro ⟨i, bb, ee, gg, mz, hz⟩ ⟨hi, e1, e2, e3, lez, hsz, us3, houtz, hrz⟩
         dsimp only at hi e1 e2 e3 lez hsz houtz hrz
         subst e1 e2 e3
         have gz := g.keep (λ z o e2 => hsz z o (ne7 e2).1 (ne7 e2).2)
         have hrow := (hs.row gz).1
         have hsl := hrow.slen
         rw [mI, hGl] at hsl
         refine aE (λ hlt2 => ?_) (λ hge => ?_)
         . dsimp only at hlt2 ⊢
           have hiG : i < G.length := by omega
           obtain ⟨u, hu, hvu⟩ := hGu.at_ i _ (kP hiG)
           obtain ⟨b8, e8, rd8⟩ := hrow.rd (h := hz) (i := i) (e := [eA u]) (by rw [AD, hu]; rfl)
           obtain ⟨so, hbo, hrowo, hfro⟩ := houtz.ex
           have rdo : ∀ hh, aL mz hh bb 0 [eA so] := λ hh => .of_m hbo rfl
           have hru3 := hrz.len
           simp only [BG, mI, Hz] at hru3
           refine ⟨b8, 0, e8, aC, aC, u, by simpa using rd8, so, rdo _, rdo _, rdo _, λ s2 h3 le3 hri => ⟨s2, [r, G[i]], rfl, ?_, by simp, ?_, λ sl h4 le4 hsl4 => ⟨rdo _, rdo _, EY ⟨_, hu5.at_⟩ hsz hbo hrowo hfro aC (λ m' hs' ho' => ⟨(i + 1, bb, ee, ⟨none, 0, 0⟩, m', h4), ⟨by dsimp only; omega, rfl, rfl, rfl, lez.trans (le3.trans le4), hs', us3 ++ [sl], ho', ?_⟩, by dsimp only; omega, ?_⟩)⟩⟩⟩
           . refine eF.rows (us := [ee, u]) ?_ hri (by simp)
             refine ⟨rfl, λ j z hj => ?_⟩
             match j, hj with
             | 0, hj =>
              simp at hj; subst hj
              exact ⟨ee, rfl, cJ.mono hv' (lez.trans le3)⟩
             | 1, hj =>
              simp at hj; subst hj
              exact ⟨u, rfl, cJ.mono hvu (le.trans (lez.trans le3))⟩
           . intro z hz2
             have hz2 : z ∈ [r, G[i]] := hz2
             rcases xA.1 hz2 with rfl | hz2
             . exact (hrel.row _ hrl).len
             . have e7 := X5.1 hz2
               have : z ∈ l' := by
                have h9 : z ∈ under (fH on) l' (cQ (pick r (jU on))) := by rw [hG, e7]; exact Q8 _
                exact (List.mem_filter.1 h9).1
               exact (hrel'.row _ this).len
           . have e7 : (G.take (i + 1)).map (r ++ ·) = (G.take i).map (r ++ ·) ++ [r ++ G[i]] := by rw [EA, kP hiG, xH]; rfl
             rw [e7, <- Q3]
             exact (hrz.mono (le3.trans le4)).snoc (by simpa using hsl4)
           . dsimp only
             exact ⟨rfl, rfl, rfl, rfl, by rw [kC aC], rfl, rfl, trivial⟩
         . dsimp only at hge ⊢
           have : i = G.length := by have hsl : 0 = G.length := hsl; omega
           subst this
           refine ⟨le.trans lez, hsz, us3, houtz, ?_⟩
           rw [wX _ hr, hjr]
           rw [Ig] at hrz
           exact hrz
       . refine ⟨λ z => z.1 <= G.length /\ z.2.1 = b9 /\ z.2.2.1 = e /\ z.2.2.2.1 = s /\ PH.le hy z.2.2.2.2.2 /\ Ax m5 z.2.2.2.2.1 b9 /\ ∃ us3, mE m5 z.2.2.2.2.1 b9 us3 /\ eF z.2.2.2.2.2 us3 ((l.take k).flatMap (mW on l') ++ (G.take z.1).map (r ++ ·)), λ z => G.length - z.1, ⟨(0, b9, e, s, my, hy), ⟨by simp, rfl, rfl, rfl, .refl _, hs7, us2, hout, by simpa using hr2⟩, MT⟩, ?_⟩
         rintro ⟨i, bb, ee, gg, mz, hz⟩ ⟨hi, e1, e2, e3, lez, hsz, us3, houtz, hrz⟩
         dsimp only at hi e1 e2 e3 lez hsz houtz hrz
         subst e1 e2 e3
         have gz := g.keep (λ z o e2 => hsz z o (ne7 e2).1 (ne7 e2).2)
         have hrow := (hs.row gz).1
         have hsl := hrow.slen
         rw [mI, hGl] at hsl
         refine aE (λ hlt2 => ?_) (λ hge => ?_)
         . dsimp only at hlt2 ⊢
           have hiG : i < G.length := by omega
           obtain ⟨u, hu, hvu⟩ := hGu.at_ i _ (kP hiG)
           obtain ⟨b8, e8, rd8⟩ := hrow.rd (h := hz) (i := i) (e := [eA u]) (by rw [AD, hu]; rfl)
           obtain ⟨so, hbo, hrowo, hfro⟩ := houtz.ex
           have rdo : ∀ hh, aL mz hh bb 0 [eA so] := λ hh => .of_m hbo rfl
           have hru3 := hrz.len
           simp only [BG, mI, Hz] at hru3
           refine ⟨b8, 0, e8, aC, aC, u, by simpa using rd8, so, rdo _, rdo _, rdo _, λ s2 h3 le3 hri => ⟨s2, [r, G[i]], rfl, ?_, by simp, ?_, λ sl h4 le4 hsl4 => ⟨rdo _, rdo _, EY ⟨_, hu5.at_⟩ hsz hbo hrowo hfro aC (λ m' hs' ho' => ⟨(i + 1, bb, ee, gg, m', h4), ⟨by dsimp only; omega, rfl, rfl, rfl, lez.trans (le3.trans le4), hs', us3 ++ [sl], ho', ?_⟩, by dsimp only; omega, ?_⟩)⟩⟩⟩
           . refine eF.rows (us := [ee, u]) ?_ hri (by simp)
             refine ⟨rfl, λ j z hj => ?_⟩
             match j, hj with
             | 0, hj =>
              simp at hj; subst hj
              exact ⟨ee, rfl, cJ.mono hv' (lez.trans le3)⟩
             | 1, hj =>
              simp at hj; subst hj
              exact ⟨u, rfl, cJ.mono hvu (le.trans (lez.trans le3))⟩
           . intro z hz2
             have hz2 : z ∈ [r, G[i]] := hz2
             rcases xA.1 hz2 with rfl | hz2
             . exact (hrel.row _ hrl).len
             . have e7 := X5.1 hz2
               have : z ∈ l' := by
                have h9 : z ∈ under (fH on) l' (cQ (pick r (jU on))) := by rw [hG, e7]; exact Q8 _
                exact (List.mem_filter.1 h9).1
               exact (hrel'.row _ this).len
           . have e7 : (G.take (i + 1)).map (r ++ ·) = (G.take i).map (r ++ ·) ++ [r ++ G[i]] := by rw [EA, kP hiG, xH]; rfl
             rw [e7, <- Q3]
             exact (hrz.mono (le3.trans le4)).snoc (by simpa using hsl4)
           . dsimp only
             exact ⟨rfl, rfl, rfl, rfl, by rw [kC aC], rfl, rfl, trivial⟩
         . dsimp only at hge ⊢
           have : i = G.length := by omega
           subst this
           refine ⟨le.trans lez, hsz, us3, houtz, ?_⟩
           rw [wX _ hr, hjr]
           rw [Ig] at hrz
           exact hrz
   . rintro my hy le2 ⟨le, hs7, us2, hout, hr2⟩
     rw [hul, Ig] at hr2
     obtain ⟨s, hb, hrow, hfr⟩ := hout.ex
     refine ⟨s, .of_m hb rfl, cZ.row (s6.x n7 hs7) (le1.trans le) hrow (λ j z e => ?_) (λ h' le' hri => hK s h' (le1.trans (le.trans le')) ((hr2.mono le').rows hri ?_))⟩
     . cases e2 : m z with
       | none => rfl
       | some o => have e1 := hfr j z e; rw [s6 z o e2] at e1; cases e1
     . have h5 : (l.flatMap (mW on l')).length <= l.length * l'.length := uY λ x _ => zB
       omega
noncomputable def WN : Ctx := N2 [(186, XO), (107, XB)]
 [(7, { A := Nat × Nat × Nat × MH × PH, st := λ ⟨b, c, r, m, h⟩ => cH 35 37 [(2, vv (.pointer (some ⟨b, 0, none⟩))), (5, vv (.pointer (some ⟨c, 0, none⟩))), (26, vv (.pointer (some ⟨r, 0, none⟩)))] [] m h })] [] [200002, 200005, 1053, 400000, 0]
noncomputable abbrev lC (a : Nat × Nat × Nat × MH × PH) : Nat × MH × PH := a.2.2
abbrev JU (a : (List (Value × Value)) -> (List (Value × Value)) -> Prop) : Prop := ∃ (x x1 : List (Value × Value)), a x x1
attribute [push_cast] lC JU
def G5 (v : QV) (u : Nat) (m : MH) (h : PH) (K : CV -> MH -> PH -> Prop) : Prop :=
  ∀ (b : Nat) (m1 : MH), bK (cD m h b) (bG m m1 b v.enc 38) (Bf m1 h 0 (λ b1 m2 => ∀ (b2 : Nat) (m3 : MH), bK (cD m2 h b2) (bG m2 m3 b2 (iK Eh) 207) (gG (λ c E => aA (uT m3 b2 (eV c E 0)) (fD 0 c) (∀ (m4 : MH), bG m3 m4 b2 (eU (BM b1) 1 c) E -> ∃ (S : PH -> List Value -> List (List Value) -> Prop), pW S h u m4 (λ x I k e => dW (λ m5 h1 => bK (tD x k e) (PH.le h h1) (I k m5 h1 -> hP m5 h1 b 17 (λ y => C6 e y h1 (λ r _ => OA r) (λ r c1 => aA (gC r.length c1) (jY m5) (∃ (y1 : Nat), kW m5 h1 b2 y1 (∃ (y2 : Nat), aA (cG m5 h1 b2 y2) (kW m5 h1 b2 y1 (wD m5 y2 r c1 (aA (cG m5 h1 b2 y1) (cG m5 h1 b2 y2) (aA (cG m5 h1 b2 y1) (cG m5 h1 b2 y2) (∃ (x1 : List (List Value)), aA (dC m5 wB 74 1 x1) (gH ((x1.length + 1) * 24)) (iA x1 /\ gO (λ s m6
 => eC m5 m6 wB s 74 1 (jB x1 e) -> aA (cG m6 h1 b2 y1) (cG m6 h1 b2 y2) (vL (λ k1 O => aA (jS m6 y1 k1) (qC O) (aA (O (bY r c1)) (dX (Instr.sameBits 10000 (bY r c1) (bY r c1))) (tH (∀ (e1 : Value × Value), vD e1 k1 O) ((∀ (e1 : Value × Value), oE (List.Mem e1 k1) (e1.1 = bY r c1)) -> ∀ (m7 : MH), bK (iF m6 m7 y1) (jS m7 y1 (k1 ++ vJ (bY r c1) (eA s))) (I (k + 1) m7 h1)) (λ l => ∀ (v1 : Value) (l1 : List (Value × Value)), k1 = l ++ kN (bY r c1) v1 l1 -> ∀ (m7 : MH), bK (iF m6 m7 y1) (jS m7 y1 (l ++ kN (bY r c1) (eA s) l1)) (I (k + 1) m7 h1))))))))))) (λ y3 => aA (cG m5 h1 b2 y1) (cG m5 h1 b2 y2) (aA (cG m5 h1 b2 y1) (cG m5 h1 b2 y2) (∃ (x1 : List (List Value)), aA (dC m5 (dA y3) 74 1 x1) (gH ((x1.length + 1) * 24)) (iA x1 /\ gO (λ s m6
 => eC m5 m6 (dA y3) s 74 1 (jB x1 e) -> aA (cG m6 h1 b2 y1) (cG m6 h1 b2 y2) (vL (λ k1 O => aA (jS m6 y1 k1) (qC O) (aA (O (bY r c1)) (dX (Instr.sameBits 10000 (bY r c1) (bY r c1))) (tH (∀ (e1 : Value × Value), vD e1 k1 O) ((∀ (e1 : Value × Value), oE (List.Mem e1 k1) (e1.1 = bY r c1)) -> ∀ (m7 : MH), bK (iF m6 m7 y1) (jS m7 y1 (k1 ++ vJ (bY r c1) (eA s))) (I (k + 1) m7 h1)) (λ l => ∀ (v1 : Value) (l1 : List (Value × Value)), k1 = l ++ kN (bY r c1) v1 l1 -> ∀ (m7 : MH), bK (iF m6 m7 y1) (jS m7 y1 (l ++ kN (bY r c1) (eA s) l1)) (I (k + 1) m7 h1))))))))))))) (aA (cG m5 h1 b2 y1) (cG m5 h1 b2 y2) (kW m5 h1 b2 y1 (wD m5 y2 r c1 (zX (cG m5 h1 b2 y1) (cG m5 h1 b2 y2) (λ x1 => aA (dC m5 wB 74 1 x1) (gH ((x1.length + 1) * 24)) (iA x1 /\
 gO (λ s m6 => eC m5 m6 wB s 74 1 (jB x1 e) -> aA (cG m6 h1 b2 y1) (cG m6 h1 b2 y2) (vL (λ k1 O => aA (jS m6 y1 k1) (qC O) (aA (O (bY r c1)) (dX (Instr.sameBits 10000 (bY r c1) (bY r c1))) (tH (∀ (e1 : Value × Value), vD e1 k1 O) ((∀ (e1 : Value × Value), oE (List.Mem e1 k1) (e1.1 = bY r c1)) -> ∀ (m7 : MH), bK (iF m6 m7 y1) (jS m7 y1 (k1 ++ vJ (bY r c1) (eA s))) (I (k + 1) m7 h1)) (λ l => ∀ (v1 : Value) (l1 : List (Value × Value)), k1 = l ++ kN (bY r c1) v1 l1 -> ∀ (m7 : MH), bK (iF m6 m7 y1) (jS m7 y1 (l ++ kN (bY r c1) (eA s) l1)) (I (k + 1) m7 h1)))))))))) (λ y3 => zX (cG m5 h1 b2 y1) (cG m5 h1 b2 y2) (λ x1 => aA (dC m5 (dA y3) 74 1 x1) (gH ((x1.length + 1) * 24)) (iA x1 /\ gO (λ s m6 => eC m5 m6 (dA y3) s 74 1 (jB x1 e)
 -> aA (cG m6 h1 b2 y1) (cG m6 h1 b2 y2) (vL (λ k1 O => aA (jS m6 y1 k1) (qC O) (aA (O (bY r c1)) (dX (Instr.sameBits 10000 (bY r c1) (bY r c1))) (tH (∀ (e1 : Value × Value), vD e1 k1 O) ((∀ (e1 : Value × Value), oE (List.Mem e1 k1) (e1.1 = bY r c1)) -> ∀ (m7 : MH), bK (iF m6 m7 y1) (jS m7 y1 (k1 ++ vJ (bY r c1) (eA s))) (I (k + 1) m7 h1)) (λ l => ∀ (v1 : Value) (l1 : List (Value × Value)), k1 = l ++ kN (bY r c1) v1 l1 -> ∀ (m7 : MH), bK (iF m6 m7 y1) (jS m7 y1 (l ++ kN (bY r c1) (eA s) l1)) (I (k + 1) m7 h1)))))))))))))))))))) (λ m5 h1 => ∃ (y : Nat), kW m5 h1 b2 y (∃ (k : List (Value × Value)), jT (jS m5 y k) (λ r => ∀ (m6 : MH), bK (cD m5 h1 r) (iF m5 m6 r) (kF m6 y r k k -> ∃ (I : Nat × Nat × Nat × MH × PH -> Prop) (m7 : Nat × Nat × Nat × MH × PH -> Nat), (∃ (x :
 Nat × Nat × Nat × MH × PH), aA (I x) (cY b x.1) (aA (cY b2 x.2.1) (cY r (lC x).1) (jG (bJ m6 (lC x).2) (cE h1 (lC x).2)))) /\ ∀ (x : Nat × Nat × Nat × MH × PH), I x -> ∃ (b3 : Nat), JU (λ k1 l => tH (kF (dD (lC x)) b3 (lC x).1 k1 l) (l = [] -> ∃ (y1 : Nat), kW (dD (lC x)) (cO (lC x)) x.2.1 y1 (K (CV.val (BM y1)) (dD (lC x)) (cO (lC x)))) (λ l1 => ∀ (x1 : Value × Value) (l2 : List (Value × Value)), l = l1 ++ x1 :: l2 -> ∀ (m8 : MH), bK (iF (dD (lC x)) m8 (lC x).1) (DN m8 b3 (lC x).1 k1 (l1 ++ l2) x1) (∃ (b4 : Nat), JU (λ k2 l3 => ∃ (x2 : Value × Value), DN m8 b4 (lC x).1 k2 l3 x2 /\ ∃ (s : Sl) (b5 : Nat) (v1 : QV) (o : List (Int × Bool)) (w : Nat) (p : List (Sl × List VV)), aA (aX (CV.val x2.2) (CV.val (Cm 211 (Array.mk (iK (UC x.1
 0))))) = aX (cK s) (CV.val (Cm 211 (Array.mk (iK (UC b5 0)))))) (m8 b5 = Option.some (eV (Array.mk v1.enc) 38 0)) (aA (∀ (i : Nat), jO (aU s.a b5 i)) (iE (cO (lC x)) v1.order o) (aA (Fe m8 s 1 p) (∀ (p1 : Sl × List VV), List.Mem p1 p -> cJ (cO (lC x)) p1.1 p1.2) (aA (∀ (p1 : Sl × List VV), List.Mem p1 p -> p1.2.length = w) (gH p.length) (∀ (p1 : List (Sl × List VV)) (m9 : MH), bK (List.Perm p1 p) (List.Pairwise (fun (p2 : Sl × List VV) => fun (q : Sl × List VV) => ¬(j6 o q.2 p2.2 < 0)) p1) (bK (Fe m9 s 1 p1) (∀ (b6 : Nat), (∀ (i : Nat), jO (aU s.a b6 i)) -> m9 b6 = m8 b6) (∃ (x3 : Nat × Nat × Nat × MH × PH), aA (I x3) (m7 x3 < m7 x) (aA (cY x.1 x3.1) (cY x.2.1 x3.2.1) (bM (cY (lC x).1 (lC x3).1) (bJ m9 (lC x3).2) (cE (cO (lC x)) (lC x3).2))))))))))))))))))))))
def nA (gr : List Int) (l : List (List VV)) (k : ByteArray) : List (List VV) := l.filter λ z => decide (cQ (pick z gr) = k)
def p8 (od : List (Int × Bool)) (l : List (List VV)) : Prop := l.Pairwise λ a b => ¬ j6 od b a < 0
structure tN (m : MH) (h : PH) (y : Nat) (gr : List Int) (od : List (Int × Bool)) (l : List (List VV)) (kk : List (ByteArray × Sl)) (g : ByteArray -> List (List VV)) : Prop where
 map_ : jS m y (kk.map λ p => (Value.string p.1, eA p.2))
 nodup : (kk.map Prod.fst).Nodup
 rows : ∀ p ∈ kk, Rows h p.2 (g p.1)
 none_ : ∀ k, k ∉ kk.map Prod.fst -> g k = []
 perm : ∀ k, (g k).Perm (nA gr l k)
 sort : ∀ k, p8 od (g k)
def Ot : Vc.Spec := λ cvs m h K => ∃ v u gr od l w, cvs = [aQ v, .val (.func (.func 147) #[] #[.pointer (some ⟨u, 0, none⟩)])] /\ Ints h v.group gr /\ iE h v.order od /\ Lh h u l /\ iC w l /\ gC w gr /\ jY m /\
 ∀ y m2 h2 kk g, m y = none -> (∀ b, b ≠ y -> m2 b = m b) -> PH.le h h2 -> tN m2 h2 y gr od l kk g -> K (.val (.map (some y))) m2 h2
structure aiJ (m : MH) (h : PH) (od : List (Int × Bool)) (p : ByteArray × Sl) (f : ByteArray -> List (List VV)) (st : Prop) : Prop where
 ex : ∃ ps : List (Sl × List VV), dC m p.2 74 1 (ps.map λ q => eS q.1) /\ (∀ q ∈ ps, cJ h q.1 q.2) /\ (ps.map Prod.snd).Perm (f p.1) /\ (st -> p8 od (ps.map Prod.snd))
noncomputable def leftOf (m : MH) (r : Nat) : Nat := match m r with
 | some (.mapIter (some b) _ seen _) => (match m b with | some (.map es _) => (es.toList.filter λ e => !seen.contains e.born).length | _ => 0)
 | _ => 0
theorem kF.left_ {r : Nat} {kvs left : List (Value × Value)} (i : kF m b r kvs left) : leftOf m r = left.length := by
 obtain ⟨es, c, since, seen, c0, h1, _, _, _, h5, _, _, _, h9⟩ := i.ex
 simp only [leftOf, h5, h1]
 rw [<- h9, mI]
theorem kF.mem {r : Nat} {kvs left : List (Value × Value)} (i : kF m b r kvs left) {x : Value × Value} (hx : x ∈ left) : x ∈ kvs := by
 obtain ⟨es, c, since, seen, c0, h1, h2, _, _, h5, _, _, _, h9⟩ := i.ex
 rw [<- h9] at hx
 rw [<- h2]
 obtain ⟨e, he, rfl⟩ := mH.1 hx
 exact mH.2 ⟨e, (List.mem_filter.1 he).1, rfl⟩
theorem kF.keep {r : Nat} {kvs left : List (Value × Value)} (i : kF m b r kvs left) (h1 : m' b = m b) (h2 : m' r = m r) : kF m' b r kvs left := by
 obtain ⟨es, c, since, seen, c0, h3, h4⟩ := i.ex
 exact ⟨es, c, since, seen, c0, by rw [h1]; exact h3, by rw [h2]; exact h4⟩
theorem kF.nodup {r : Nat} {kvs left : List (Value × Value)} (i : kF m b r kvs left) (hn : kvs.Nodup) : left.Nodup := by
 obtain ⟨es, c, since, seen, c0, h1, h2, _, _, h5, _, _, _, h9⟩ := i.ex
 rw [<- h9]
 rw [<- h2] at hn
 exact hn.sublist (List.filter_sublist.map _)
theorem adX {us : List Sl} {rs : List (List VV)} (hu : eF h us rs) : ∃ ps : List (Sl × List VV), ps.map Prod.fst = us /\ ps.map Prod.snd = rs /\ ∀ q ∈ ps, cJ h q.1 q.2 := by
 refine ⟨us.zip rs, List.map_fst_zip (Nat.le_of_eq hu.len), List.map_snd_zip (Nat.le_of_eq hu.len.symm), λ q hq => ?_⟩
 obtain ⟨i, hi⟩ := List.mem_iff_getElem?.1 hq
 rw [List.getElem?_zip_eq_some] at hi
 obtain ⟨u, h1, h2⟩ := hu.at_ i _ hi.2
 rw [hi.1] at h1; cases h1; exact h2
theorem dC.ice {s : Sl} {us : List Sl} (hr : dC m s 74 1 (us.map eS)) (hb : ∀ b cur, s.a = some ⟨b, 0, none⟩ -> m b = some (.cells cur 74 (0, 0)) -> ∀ i, h b i = cur[i]?) : cN h s 1 (us.map eS) := by
 rcases hr.ex with ⟨rfl, hx0⟩ | ⟨b, cap, cur, rfl, hm, h1, h2, h3, h4⟩
 . rw [hx0]; exact cN.nil _ _
 . refine ⟨by simp, ?_, h1⟩
   by_cases hu : us.map eS = []
   . exact .inl hu
   . refine .inr ⟨b, 0, rfl, λ i e hi => ⟨λ j v hv => ?_⟩⟩
     have hel := hr.rows.len e (lP hi)
     have hj : j = 0 := by have := (mG.1 hv).1; omega
     subst hj
     have hlt := (mG.1 hi).1
     have h5 : ((us.map eS).flatten)[i]? = some v := by
      rw [AD] at hi
      cases hu2 : us[i]? with
      | none => rw [hu2] at hi; cases hi
      | some u =>
       rw [hu2] at hi
       simp at hi
       subst hi
       simp [eS] at hv
       subst hv
       have : ∀ l : List Sl, (l.map eS).flatten = l.map λ u => Value.slice u.a u.len u.cap := λ l => by
        induction l with
        | nil => rfl
        | cons a l ih => simp only [EB, Jj, ih]; rfl
       rw [this, AD, hu2]; rfl
     rw [<- h4, DT, if_pos aC] at h5
     rw [hb b cur rfl hm, <- BU, show 0 + i * 1 + 0 = i by omega]
     exact h5
theorem Jb {kk : List (ByteArray × Sl)} (hn : (kk.map Prod.fst).Nodup) {p q : ByteArray × Sl} (hp : p ∈ kk) (hq : q ∈ kk) (e : p.1 = q.1) : p = q := by
 induction kk with
 | nil => cases hp
 | cons a kk ih =>
  have hn := List.nodup_cons.1 hn
  rcases xA.1 hp with rfl | hp2 <;> rcases xA.1 hq with rfl | hq2
  . rfl
  . exact (hn.1 (mH.2 ⟨q, hq2, e.symm⟩)).elim
  . exact (hn.1 (mH.2 ⟨p, hp2, e⟩)).elim
  . exact ih hn.2 hp2 hq2
theorem Km : Sound Tryz.prog 191 Ot := by
 refine D1 Tryz.func191 ?_
 rintro cvs m h K ⟨v, u, gr, od, l, w, rfl, hgr, hod, sq, hrel, hcols, hT, hK⟩
 refine ⟨WN, rfl, aD BB (aD Qw aF), G5 v u m h (cZ h K), by kernel_rfl, ?_⟩
 show G5 v u m h (cZ h K)
 dsimp only [G5, push_cast]
 intro bq m1 hb1 hu1 y m2 hb2 hu2 bc m3 hb3 hu3
 obtain ⟨s1, nq⟩ := gE (Sub.refl m) hb1 hu1
 obtain ⟨s2, ny⟩ := gE s1 hb2 hu2
 obtain ⟨s3, nc⟩ := gE s2 hb3 hu3
 have hqy : bq ≠ y := λ e => by have := hb2.m_; rw [<- e, hu1.at_] at this; cases this
 have m2q : m2 bq = some (.cells ⟨QV.enc v⟩ 38 (0, 0)) := by rw [hu2.other bq hqy]; exact hu1.at_
 have hqc : bq ≠ bc := λ e => by have := hb3.m_; rw [<- e, m2q] at this; cases this
 have hyc : y ≠ bc := λ e => by have := hb3.m_; rw [<- e, hu2.at_] at this; cases this
 refine ⟨_, _, ⟨hu3.at_⟩, by simp, λ m4 hu4 => ?_⟩
 have s4 : Sub m m4 := s3.upd nc hu4.other
 have m4q : m4 bq = some (.cells ⟨QV.enc v⟩ 38 (0, 0)) := by rw [hu4.other bq hqc, hu3.other bq hqc]; exact m2q
 have m4y : m4 y = some (.map #[] 0) := by rw [hu4.other y hyc, hu3.other y hyc]; exact hu2.at_
 have m4c : m4 bc = some (.cells #[.map (some y)] 207 (0, 0)) := hu4.at_
 obtain ⟨us, hseq, hru⟩ := sq.ex
 have hul := hru.len
 have hll := hrel.len
 clear hu1 hu2 hu3 hu4 hb1 hb2 hb3 s1 s2 s3 m2q
 have gsub : ∀ {mx kk us}, oL m4 mx y kk us -> Sub m mx := λ g z o e2 => g.old z o (s4 z o e2) (λ e3 => by rw [e3, ny] at e2; cases e2)
 refine ⟨tM, us, λ k mx hx => hx = h /\ QY m4 mx h y (nA gr (l.take k)), sL, ⟨u, us, rfl, hseq, rfl⟩, ⟨rfl, ⟨[], _, oL.new m4y, λ k => by simpa [nA] using eF.nil h⟩⟩, ?_, ?_⟩
 . rintro k e mx hx hk - ⟨rfl, ⟨kk, uk, g, hg⟩⟩
   obtain ⟨r, hr, hv⟩ := hru.at' hk
   have hrl := lP hr
   have mc := g.old bc _ m4c (Ne.symm hyc)
   have r5 : aL mx hx bc 0 [Value.map (some y)] := .of_m mc rfl
   have rq : aL mx hx bq 17 [eA v.group] := .of_m (g.old bq _ m4q hqy) rfl
   have hl : (uk (cQ (pick r gr))).length <= 502633886983 := by
    have h5 := (hg (cQ (pick r gr))).len
    have h6 : (nA gr (l.take k) (cQ (pick r gr))).length <= (l.take k).length := Q5 _ _
    rw [Hz] at h6
    omega
   have app := fun {s : Sl} => g.app (hx := hx) (e := e) (s := s) (Q := λ m' => hx = hx /\ QY m4 m' hx y (nA gr (l.take (k + 1)))) ⟨_, m4y⟩ ⟨_, m4c⟩ mc hl (λ m' kk' g' => ⟨rfl, QY.upd g' hg hv (by rw [nA, iU _ hr, if_pos (by simp)]; rfl) (λ k2 hk2 => by rw [nA, iU _ hr, if_neg (by simp [Ne.symm hk2]), OE]; rfl)⟩)
   exact ⟨v.group, rq, e, v.group, r, gr, rfl, hv, hgr, hrel.row r hrl, by rw [hrel.wid r hrl]; exact hcols, hT.sub (gsub g), y, r5, y, r5, ⟨r5, g.get2 (λ hs => ⟨r5, r5, r5, r5, app hs⟩) (λ s hs => ⟨r5, r5, r5, r5, app hs⟩)⟩, r5, r5, r5, g.get2 (λ hs => ⟨r5, r5, app hs⟩) (λ s hs => ⟨r5, r5, app hs⟩)⟩
 . rintro mx hx - ⟨rfl, ⟨kk, uk, g, hg⟩⟩
   rw [hul, Ig] at hg
   have mc := g.old bc _ m4c (Ne.symm hyc)
   have mq := g.old bq _ m4q hqy
   refine ⟨y, .of_m mc rfl, _, g.map_, λ r m5 hb5 hs5 it => ?_⟩
   have ne5 : ∀ {z o}, mx z = some o -> m5 z = mx z /\ z ≠ r := fun {z o} e2 => by
    have : z ≠ r := λ e3 => by rw [e3, hb5.m_] at e2; cases e2
    exact ⟨hs5.other z this, this⟩
   have hsome : ∀ p ∈ kk, ∀ x i, p.2.a = some ⟨x, i, none⟩ -> ∃ o, mx x = some o := λ p hp x i e2 => ⟨_, ((g.row p hp).blk e2).choose_spec⟩
   have kvsnd : (kk.map λ p => (Value.string p.1, eA p.2)).Nodup := by
    have h5 := g.nodup
    rw [List.nodup_iff_pairwise_ne, List.pairwise_map] at h5
    rw [List.nodup_iff_pairwise_ne, List.pairwise_map]
    exact h5.imp λ hne e => hne (by simp only [Ez, Value.string.injEq] at e; exact e.1)
   refine ⟨λ z => z.1 = bq /\ z.2.1 = bc /\ z.2.2.1 = r /\ z.2.2.2.2 = hx /\ (∀ b o, mx b = some o -> (∀ p ∈ kk, ∀ i, p.2.a ≠ some ⟨b, i, none⟩) -> z.2.2.2.1 b = some o) /\ ∃ left, kF z.2.2.2.1 y r (kk.map λ p => (Value.string p.1, eA p.2)) left /\ ∀ p ∈ kk, aiJ z.2.2.2.1 hx od p (nA gr l) ((Value.string p.1, eA p.2) ∉ left), λ z => leftOf z.2.2.2.1 z.2.2.1, ⟨(bq, bc, r, m5, hx), ⟨rfl, rfl, rfl, rfl, λ b o e _ => (ne5 e).1.trans e, _, it, λ p hp => ?_⟩, MT⟩, ?_⟩
   . obtain ⟨ps, e1, e2, e3⟩ := adX (hg p.1)
     refine ⟨ps, ?_, e3, by rw [e2], λ hn => (hn (List.mem_map_of_mem (f := λ p : ByteArray × Sl => (Value.string p.1, eA p.2)) hp)).elim⟩
     have e5 : (ps.map λ q => eS q.1) = (uk p.1).map eS := by rw [<- e1, List.map_map]; rfl
     rw [e5]
     exact dC.keep (g.row p hp) λ b i e => (ne5 (hsome p hp b i e).choose_spec).1
   . rintro ⟨b1, b2, b3, mz, hz⟩ ⟨e1, e2, e3, e4, oth, left, itz, half⟩
     dsimp only at e1 e2 e3 e4 oth itz half ⊢
     subst e1 e2 e3 e4
     refine ⟨y, _, left, itz, λ hleft => ?_, λ l1 x l2 hlx m6 hs6 ita => ?_⟩
     . have notg : ∀ b o, m4 b = some o -> ∀ p ∈ kk, ∀ i, p.2.a ≠ some ⟨b, i, none⟩ := λ b o e p hp i e2 => by rw [g.fresh p hp b i e2] at e; cases e
       refine ⟨y, .of_m (oth b2 _ mc (notg b2 _ m4c)) rfl, λ hd => ?_⟩
       subst hleft
       classical
       let B : Nat -> Prop := λ b => ∃ p ∈ kk, p.2.a = some ⟨b, 0, none⟩
       have hB : ∀ b, B b -> m b = none /\ b ≠ y /\ ∀ i, hz b i = none := by
        rintro b ⟨p, hp, e⟩
        obtain ⟨ps, h1, _⟩ := (half p hp).ex
        refine ⟨?_, λ e2 => ?_, hd b _ (h1.blk e).choose_spec⟩
        . cases e2 : m b with
          | none => rfl
          | some o => exact (notg b o (s4 b o e2) p hp 0 e).elim
        . rw [e2] at e; exact notg y _ m4y p hp 0 e
       let h2 : PH := λ b i => if B b then (match mz b with | some (.cells cs _ _) => cs[i]? | _ => none) else hz b i
       have le2 : PH.le hz h2 := ⟨λ b i v e => by
        have : ¬ B b := λ hb => by rw [(hB b hb).2.2 i] at e; cases e
        show (if B b then _ else hz b i) = some v
        rw [if_neg this]; exact e⟩
       have grp : ∀ p ∈ kk, ∃ G, Rows h2 p.2 G /\ G.Perm (nA gr l p.1) /\ p8 od G := λ p hp => by
        obtain ⟨ps, h1, h3, h4, h5⟩ := (half p hp).ex
        refine ⟨ps.map Prod.snd, ?_, h4, h5 (by simp)⟩
        have e5 : (ps.map λ q => eS q.1) = (ps.map Prod.fst).map eS := by rw [List.map_map]; rfl
        rw [e5] at h1
        have hri : cN h2 p.2 1 ((ps.map Prod.fst).map eS) := dC.ice h1 λ b cur ea hm i => by
         show (if B b then _ else hz b i) = _
         rw [if_pos ⟨p, hp, ea⟩, hm]
        refine eF.rows (us := ps.map Prod.fst) ⟨by simp, λ j x hx => ?_⟩ hri ?_
        . rw [AD] at hx
          cases e6 : ps[j]? with
          | none => rw [e6] at hx; cases hx
          | some q =>
           rw [e6] at hx
           have hx : q.2 = x := by simpa using hx
           exact ⟨q.1, by rw [AD, e6]; rfl, hx ▸ cJ.mono (h3 q (lP e6)) le2⟩
        . have := h4.length_eq
          have h6 : (nA gr l p.1).length <= l.length := Q5 _ _
          omega
       let G : ByteArray -> List (List VV) := λ k => if e : ∃ p G, p ∈ kk /\ p.1 = k /\ Rows h2 p.2 G /\ G.Perm (nA gr l p.1) /\ p8 od G then e.choose_spec.choose else []
       have hG : ∀ p ∈ kk, Rows h2 p.2 (G p.1) /\ (G p.1).Perm (nA gr l p.1) /\ p8 od (G p.1) := λ p hp => by
        have ex : ∃ p' G, p' ∈ kk /\ p'.1 = p.1 /\ Rows h2 p'.2 G /\ G.Perm (nA gr l p'.1) /\ p8 od G := by
         obtain ⟨G, hG⟩ := grp p hp
         exact ⟨p, G, hp, rfl, hG⟩
        have e6 : G p.1 = ex.choose_spec.choose := dif_pos ex
        rw [e6]
        obtain ⟨h5, h6, h7⟩ := ex.choose_spec.choose_spec
        have tr : ∀ p' G', p' ∈ kk -> p'.1 = p.1 -> (Rows h2 p'.2 G' /\ G'.Perm (nA gr l p'.1) /\ p8 od G') -> Rows h2 p.2 G' /\ G'.Perm (nA gr l p.1) /\ p8 od G' := λ p' G' h1 h2 h3 => by
         have e7 := Jb g.nodup h1 hp h2
         subst e7; exact h3
        exact tr _ _ h5 h6 h7
       have hN : ∀ k, k ∉ kk.map Prod.fst -> G k = [] /\ nA gr l k = [] := λ k hk => by
        refine ⟨dif_neg ?_, ?_⟩
        . rintro ⟨p, _, hp, e, _⟩
          exact hk (mH.2 ⟨p, hp, e⟩)
        . have h5 := (hg k).len
          rw [g.none_ k hk] at h5
          exact VY h5.symm
       obtain ⟨es, c, since, seen, c0, i1, i2, i3, i4, _⟩ := itz.ex
       refine ⟨λ b => if b = y then mz y else m b, h2, λ b o e => ?_, le2, λ b i v' e => ?_, hK y _ h2 kk G ny (λ b hb => if_neg hb) le2 ⟨⟨es, c, (if_pos rfl).trans i1, i2, i3, i4⟩, g.nodup, λ p hp => (hG p hp).1, λ k hk => (hN k hk).1, λ k => ?_, λ k => ?_⟩⟩
       . have e : (if b = y then mz y else m b) = some o := e
         split at e
         . rename_i e2; rw [e2]; exact e
         . exact oth b o (gsub g b o e) (notg b o (s4 b o e))
       . have e : (if B b then _ else hz b i) = some v' := e
         split at e
         . rename_i hb
           have h5 := hB b hb
           obtain ⟨p, hp, ea⟩ := hb
           obtain ⟨ps, h1, _⟩ := (half p hp).ex
           obtain ⟨cur, hm⟩ := h1.blk ea
           rw [hm] at e
           refine .inr ⟨cur, 74, (0, 0), hm, e, ?_⟩
           show (if b = y then mz y else m b) = none
           rw [if_neg h5.2.1]; exact h5.1
         . exact .inl e
       . by_cases hk : k ∈ kk.map Prod.fst
         . obtain ⟨p, hp, rfl⟩ := mH.1 hk
           exact (hG p hp).2.1
         . rw [(hN k hk).1, (hN k hk).2]
       . by_cases hk : k ∈ kk.map Prod.fst
         . obtain ⟨p, hp, rfl⟩ := mH.1 hk
           exact (hG p hp).2.2
         . rw [(hN k hk).1]; exact List.Pairwise.nil
     . refine ⟨y, _, _, x, ita, ?_⟩
       have hxl : x ∈ left := by rw [hlx]; simp
       obtain ⟨p0, hp0, rfl⟩ := mH.1 (kF.mem itz hxl)
       obtain ⟨ps, h1, h3, h4, h5⟩ := (half p0 hp0).ex
       have notg : ∀ b o, m4 b = some o -> ∀ p ∈ kk, ∀ i, p.2.a ≠ some ⟨b, i, none⟩ := λ b o e p hp i e2 => by rw [g.fresh p hp b i e2] at e; cases e
       have blkr : ∀ p ∈ kk, ∀ b i, p.2.a = some ⟨b, i, none⟩ -> b ≠ b3 := λ p hp b i e => (ne5 (hsome p hp b i e).choose_spec).2
       have hlen := h4.length_eq
       have hlen2 : (nA gr l p0.1).length <= l.length := Q5 _ _
       rw [mI] at hlen
       refine ⟨p0.2, b1, v, od, w, ps, rfl, ?_, λ i => notg b1 _ m4q p0 hp0 i, hod, dC.keep h1 λ b i e => hs6.other b (blkr p0 hp0 b i e), h3, λ q hq => ?_, aC, λ ps' m7 hperm hsort hrow' hoth => ?_⟩
       . rw [hs6.other b1 (ne5 mq).2]
         exact oth b1 _ mq (notg b1 _ m4q)
       . have : q.2 ∈ nA gr l p0.1 := h4.mem_iff.1 (List.mem_map_of_mem hq)
         exact hrel.wid _ (List.mem_filter.1 this).1
       . have ynot : ∀ i, p0.2.a ≠ some ⟨y, i, none⟩ := notg y _ m4y p0 hp0
         have rnot : ∀ i, p0.2.a ≠ some ⟨b3, i, none⟩ := λ i e => blkr p0 hp0 b3 i e rfl
         have it7 : kF m7 y b3 (kk.map λ p => (Value.string p.1, eA p.2)) (l1 ++ l2) := kF.keep ita.it (hoth y ynot) (hoth b3 rnot)
         refine ⟨(b1, b2, b3, m7, hz), ⟨rfl, rfl, rfl, rfl, λ b o e hb => ?_, _, it7, λ p hp => ?_⟩, ?_, rfl, rfl, rfl, rfl, rfl, trivial⟩
         . show m7 b = some o
           rw [hoth b (hb p0 hp0), hs6.other b (ne5 e).2]
           exact oth b o e hb
         . by_cases hpp : p = p0
           . subst hpp
             refine ⟨ps', hrow', λ q hq => h3 q (hperm.mem_iff.1 hq), (hperm.map _).trans h4, λ _ => ?_⟩
             rw [p8, List.pairwise_map]; exact hsort
           . have hne : p.1 ≠ p0.1 := λ e => hpp (Jb g.nodup hp hp0 e)
             obtain ⟨qs, g1, g3, g4, g5⟩ := (half p hp).ex
             refine ⟨qs, dC.keep g1 λ b i e => ?_, g3, g4, λ hn => g5 λ hl => hn ?_⟩
             . show m7 b = mz b
               rw [hoth b (λ j => g.apart p hp p0 hp0 hne b i j e), hs6.other b (blkr p hp b i e)]
             . rw [hlx] at hl
               rcases BZ.1 hl with h | h
               . exact List.mem_append_left _ h
               . rcases xA.1 h with h | h
                 . simp only [Ez, Value.string.injEq] at h
                   exact (hne h.1).elim
                 . exact List.mem_append_right _ h
         . show leftOf m7 b3 < leftOf mz b3
           rw [kF.left_ it7, kF.left_ itz, hlx]
           simp
noncomputable def WZ : Ctx := N2 [(191, Ot), (74, Zr)]
 [(3, { A := Nat × Sl × Nat × MH × PH, st := λ ⟨b, s, r, m, h⟩ => cH 29 31 [(2, vv (.pointer (some ⟨b, 0, none⟩))), (5, sv s), (13, vv (.pointer (some ⟨r, 0, none⟩)))] [] m h })] [(5, { A := Nat × Sl × Sl × Nat × MH × PH, st := λ ⟨b, s, g, r, m, h⟩ => cH 29 31 [(2, vv (.pointer (some ⟨b, 0, none⟩))), (5, sv s), (7, sv g), (13, vv (.pointer (some ⟨r, 0, none⟩)))] [] m h })] [200002, 1053, 0]
noncomputable abbrev A4 (a : QV) (b : Nat) : List CV := aX (aR a) (CV.val (xR b 0))
abbrev IG (a : Nat) (b : List (List VV)) (c : List Int) (d : MH) (e g : Nat -> Nat) (i : MH -> MH) (j : Nat -> MH -> PH -> (List (ByteArray × Sl)) -> (ByteArray -> List (List VV)) -> Prop) : Prop := aA (iC a b) (gC a c) (jY d /\ ∀ (x : Nat), dW (λ x1 x2 => ∀ (x3 : List (ByteArray × Sl)) (x4 : ByteArray -> List (List VV)), bK (Bp d (e x)) (∀ (x5 : Nat), jO (g x5 = e x) -> (i x1) (g x5) = d (g x5)) (j x x1 x2 x3 x4)))
noncomputable abbrev lU (a : Nat × Sl × Nat × MH × PH) : Nat × MH × PH := a.2.2
noncomputable abbrev yY (a : Nat × Sl × Sl × Nat × MH × PH) : Sl := a.2.2.1
noncomputable abbrev pZ (a : Nat × Sl × Sl × Nat × MH × PH) : Nat × MH × PH := a.2.2.2
noncomputable abbrev pE (a : Sl) (b : Int) : Int := ite (aG a < b) (aG a) b
attribute [push_cast] A4 IG lU yY pZ pE
def G9 (v : QV) (t : Sl) (m : MH) (h : PH) (K : CV -> MH -> PH -> Prop) : Prop :=
  ∀ (b : Nat) (m1 : MH), bK (cD m h b) (bG m m1 b v.enc 38) (∃ (y : QV), aL m1 h b 0 y.enc /\ aT (λ b1 o => aA (aU t.a b1 o) ((0 : Int) <= 0) (0 < aG t /\ ∃ (y1 : Nat), aL m1 h b1 (o + 0) (nS y1) /\ ∃ (v1 : QV) (u : Nat), GB (λ g o1 => ∃ (l : List (List VV)) (w : Nat), aA (A4 y y1 = A4 v1 u) (Ints h v1.group g) (aA (iE h v1.order o1) (Lh h u l) (IG w l g m1 (λ y2 => y2) (λ b2 => b2) (λ m2 => m2) (λ y2 m2 h1 k g1 => dG h h1 (tN m2 h1 y2 g o1 l k g1) (aA (aL m2 h1 b 0 y.enc) (aL m2 h1 b1 (o + 0) (nS y1)) (∃ (k1 : List (Value × Value)), jT (jS m2 y2 k1) (λ r => ∀ (m3 : MH), bK (cD m2 h1 r) (iF m2 m3 r) (kF m3 y2 r k1 k1 -> aA (aL m3 h1 b 0 y.enc) (aL m3 h1 b1 (o + 0) (nS y1)) (∃ (I : Nat × Sl × Nat × MH × PH -> Prop) (m4 : Nat × Sl × Nat × MH × PH -> Nat), (∃ (x : Nat × Sl ×
 Nat × MH × PH), aA (I x) (cY b x.1) (aA (sQn = Ya x.2.1) (cY r (lU x).1) (jG (bJ m3 (lU x).2) (cE h1 (lU x).2)))) /\ ∀ (x : Nat × Sl × Nat × MH × PH), I x -> ∃ (b2 : Nat), JU (λ k2 l1 => tH (kF (dD (lU x)) b2 (lU x).1 k2 l1) (l1 = [] -> ∃ (s : Sl) (u1 : List Sl) (l2 : List (List VV)), aA (fU x.2.1 = fU s) (nW (dD (lU x)) (cO (lU x)) s 1 (qK u1)) (aA (eF (cO (lU x)) u1 l2) (Eg l2.length) (lM (cO (lU x)) (Ag l2) K (dD (lU x))))) (λ l2 => ∀ (x1 : Value × Value) (l3 : List (Value × Value)), l1 = l2 ++ x1 :: l3 -> ∀ (m5 : MH), bK (iF (dD (lU x)) m5 (lU x).1) (DN m5 b2 (lU x).1 k2 (l2 ++ l3) x1) (∃ (I1 : Nat × Sl × Sl × Nat × MH × PH -> Prop), (∃ (b3 : Nat), JU (λ k3 l4 => ∃ (x2 : Value × Value), DN m5 b3 (lU x).1 k3 l4
 x2 /\ ∃ (x3 : Nat × Sl × Sl × Nat × MH × PH), aA (I1 x3) (cY x.1 x3.1) (aA (bD x.2.1 x3.2.1) (SV.at (At.val x2.2) = Ya (yY x3)) (bM (cY (lU x).1 (pZ x3).1) (bJ m5 (pZ x3).2) (cE (cO (lU x)) (pZ x3).2))))) /\ ∀ (x2 : Nat × Sl × Sl × Nat × MH × PH), I1 x2 -> ∃ (y3 : Int), aA (aL (dD (pZ x2)) (cO (pZ x2)) x2.1 19 (bZ y3)) (0 <= pE (yY x2) y3) (pE (yY x2) y3 <= (↑(yY x2).cap : Int) /\ ∃ (x3 : List (List Value)), A1 (dC (dD (pZ x2)) (dA x2.2.1) 74 1 x3) (λ y4 => aA (dY 1 y4) (nW (dD (pZ x2)) (cO (pZ x2)) (Sl.mk (yY x2).a (pE (yY x2) y3).toNat (yY x2).cap) 1 y4) (aA (rJ x3 y4 24) (rK x3 y4) (gO (λ s m6 => eC (dD (pZ x2)) m6 (dA x2.2.1) s 74 1 (x3 ++ y4) -> ∃ (x4 : Nat × Sl × Nat × MH ×
 PH), aA (I x4) (m4 x4 < m4 x) (aA (cY x2.1 x4.1) (bD s x4.2.1) (bM (cY (pZ x2).1 (lU x4).1) (bJ m6 (lU x4).2) (cE (cO (pZ x2)) (lU x4).2)))))))))))))))))))))))
theorem Hp {w : Nat} : ∀ {od : List (Int × Bool)} {a b : List VV}, F6 w od a b = 0 -> a = b
 | [], _, _, h => kT.1 h
 | (c, dn) :: r, a, b, h => by
  rw [F6] at h
  generalize (if dn then - jX (a.getD c.toNat zeroV) (b.getD c.toNat zeroV) else jX (a.getD c.toNat zeroV) (b.getD c.toNat zeroV)) = x at h
  split at h
  . split at h
    . rename_i h1; exact (h1 h).elim
    . exact Hp h
  . exact Hp h
theorem As {w : Nat} {od : List (Int × Bool)} {a b : List VV} (ha : a.length = w) (hb : b.length = w) : j6 od a b = - j6 od b a := by
 rw [zG ha hb, zG hb ha]; exact (F5 w od).anti a b
theorem VP {w : Nat} {a b : List VV} (ha : a.length = w) (hb : b.length = w) (h : j6 od a b = 0) : a = b := by
 rw [zG ha hb] at h; exact Hp h
theorem HD {w : Nat} {od : List (Int × Bool)} {x : List VV} : ∀ {G : List (List VV)} {n : Nat}, p8 od G -> (∀ r ∈ G, r.length = w) -> G.Nodup -> (x ∈ G.take n ↔ x ∈ G /\ (G.countP λ y => decide (j6 od y x < 0)) < n)
 | [], n, _, _, _ => by simp
 | a :: G, 0, _, _, _ => by simp
 | a :: G, n + 1, hs, hw, hn => by
  have hs := List.pairwise_cons.1 hs
  have hn := List.nodup_cons.1 hn
  have ih := HD (x := x) (G := G) (n := n) hs.2 (λ r hr => hw r (D3 _ hr)) hn.2
  have hwa := hw a (Gh ..)
  rw [List.take_succ_cons, xA, ih, xA, List.countP_cons]
  by_cases hx : x = a
  . subst hx
    have e1 : ¬ j6 od x x < 0 := by have := As (od := od) hwa hwa; omega
    have e2 : (G.countP λ y => decide (j6 od y x < 0)) = 0 := List.countP_eq_zero.2 λ y hy => by simpa using hs.1 y hy
    rw [e2, if_neg (by simpa using e1)]
    simp
  . by_cases hxG : x ∈ G
    . have hwx := hw x (D3 _ hxG)
      have e1 := hs.1 x hxG
      have e2 := As (od := od) hwa hwx
      have e3 : j6 od a x ≠ 0 := λ e => hx (VP hwa hwx e).symm
      rw [if_pos (by simp; omega)]
      simp [hx, hxG]
    . simp [hx, hxG]
theorem K8 {l : List (List VV)} (h : kA l) : l.Nodup := by
 rw [List.nodup_iff_pairwise_ne]
 exact h.imp fun {a b} hab e => by subst e; have := CF.anti a a; omega
def Ls (gr : List Int) (x y : List VV) : Bool := dV (pick x gr) (pick y gr) == 0
theorem UH {x y : List VV} : Ls gr x y = true ↔ pick x gr = pick y gr := by
 simp only [Ls, beq_iff_eq, kT]
def BA (gr : List Int) (od : List (Int × Bool)) (li : Int) (a b : List (List VV)) : List (List VV) := a.filter λ x => decide (((b.countP λ y => Ls gr x y && decide (j6 od y x < 0) : Nat) : Int) < li)
def O7 (q : Query) (ls : List (List (List VV))) : List (List VV) := match q with | .mk _ _ _ _ _ gr od li _ => BA gr od li (ls.getD 0 []) (ls.getD 0 [])
def JH (q : Query) (ls : List (List (List VV))) : Prop := match q with | .mk _ _ _ _ _ gr _ li _ => 1 <= ls.length /\ (∃ w, iC w (ls.getD 0 []) /\ gC w gr) /\ 0 <= li
theorem Wu {w : Nat} {l : List (List VV)} (hl : iC w l) (hc : gC w gr) {x y : List VV} (hx : OA x) (hw : x.length = w) (hy : y ∈ l) : cQ (pick y gr) = cQ (pick x gr) ↔ Ls gr x y = true := by
 rw [UH]
 have := Ek (a := pick y gr) (b := pick x gr) (by simp [pick]) (EX (hl.row y hy) (by rw [hl.wid y hy]; exact hc)) (EX hx (by rw [hw]; exact hc))
 rw [this]; exact eq_comm
theorem HV {w : Nat} {gr : List Int} {od : List (Int × Bool)} {l : List (List VV)} (hl : iC w l) (hc : gC w gr) {x : List VV} (hx : OA x) (hw : x.length = w) :
 ((nA gr l (cQ (pick x gr))).countP λ y => decide (j6 od y x < 0)) = l.countP λ y => Ls gr x y && decide (j6 od y x < 0) := by
 rw [nA, List.countP_filter]
 refine List.countP_congr λ y hy => ?_
 have h1 := Wu hl hc hx hw hy
 simp only [Gf, decide_eq_true_eq]
 rw [h1, and_comm]
theorem QE {α : Type} {p q : α -> Bool} : ∀ {l : List α}, (∀ x ∈ l, ¬ (p x = true /\ q x = true)) -> l.countP p + l.countP q = l.countP λ x => p x || q x
 | [], _ => rfl
 | a :: l, h => by
  have ih := QE (l := l) λ x hx => h x (D3 _ hx)
  have h1 := h a (Gh ..)
  rw [List.countP_cons, List.countP_cons, List.countP_cons]
  cases e1 : p a <;> cases e2 : q a <;> simp_all <;> omega
theorem UZ {y w : Nat} {l : List (List VV)} {kk : List (ByteArray × Sl)} {g : ByteArray -> List (List VV)} (hg : tN m h y gr od l kk g) (hrel : iC w l) (hcols : gC w gr) (hli : 0 <= li) (x : List VV) :
 x ∈ BA gr od li l l ↔ ∃ p ∈ kk, x ∈ (g p.1).take li.toNat := by
 have gw : ∀ k r, r ∈ g k -> r ∈ l /\ cQ (pick r gr) = k := λ k r hr => by
  have := (hg.perm k).mem_iff.1 hr
  simpa [nA] using this
 have gn : ∀ k, (g k).Nodup := λ k => (hg.perm k).nodup_iff.2 ((K8 hrel.srt).sublist List.filter_sublist)
 have gt : ∀ k, x ∈ (g k).take li.toNat ↔ x ∈ g k /\ ((g k).countP λ y => decide (j6 od y x < 0)) < li.toNat := λ k => HD (hg.sort k) (λ r hr => hrel.wid r (gw k r hr).1) (gn k)
 have gc : x ∈ l -> ((g (cQ (pick x gr))).countP λ y => decide (j6 od y x < 0)) = l.countP λ y => Ls gr x y && decide (j6 od y x < 0) := λ hx => by
  rw [(hg.perm _).countP_eq]
  exact HV hrel hcols (hrel.row x hx) (hrel.wid x hx)
 rw [BA, List.mem_filter]
 constructor
 . rintro ⟨hx, hc⟩
   have hc := of_decide_eq_true hc
   have hxg : x ∈ g (cQ (pick x gr)) := (hg.perm _).mem_iff.2 (by simp [nA, hx])
   have hk : cQ (pick x gr) ∈ kk.map Prod.fst := by
    by_cases hk : cQ (pick x gr) ∈ kk.map Prod.fst
    . exact hk
    . rw [hg.none_ _ hk] at hxg; cases hxg
   obtain ⟨p, hp, e⟩ := mH.1 hk
   refine ⟨p, hp, ?_⟩
   rw [e]
   exact (gt _).2 ⟨hxg, by rw [gc hx]; omega⟩
 . rintro ⟨p, hp, hx⟩
   obtain ⟨h1, h2⟩ := (gt _).1 hx
   obtain ⟨h3, h4⟩ := gw _ _ h1
   rw [<- h4, gc h3] at h2
   exact ⟨h3, decide_eq_true aC⟩
theorem R5 : Sound Tryz.prog 155 (OB JH O7) := by
 refine D1 Tryz.func155 ?_
 rintro cvs m h K ⟨v, t, q, bs, ls, rfl, hq, ha, hT, hok, hK⟩
 refine ⟨WZ, rfl, aD Km (aD GS aF), G9 v t m h (cZ h K), by kernel_rfl, ?_⟩
 show G9 v t m h (cZ h K)
 dsimp only [G9, push_cast]
 obtain ⟨op, ta, w, co, on, gr, od, li, args⟩ := q
 obtain ⟨hl1, ⟨wd, hrel, hcols⟩, hli⟩ := hok
 intro b m1 hb1 hu1
 obtain ⟨s1, n1⟩ := gE (Sub.refl m) hb1 hu1
 have m1b : m1 b = some (.cells ⟨v.enc⟩ 38 (0, 0)) := hu1.at_
 obtain ⟨b1, off, x, ea, hlt, rd, sq⟩ := ha.get (BV (i := 0) aC)
 simp only [O7] at hK
 generalize ls.getD 0 [] = l at hK hrel sq
 have hll := hrel.len
 refine ⟨v, .of_m m1b (Ig ..), b1, off, ea, aC, aC, x, .imm rd, v, x, gr, od, l, wd, rfl, hq.parts.group_, hq.parts.order_, sq, hrel, hcols, hT.sub s1, λ y m2 h2 kk g hy hoth le2 hg => ?_⟩
 have yb : b ≠ y := λ e => by rw [<- e, m1b] at hy; cases hy
 have m2b : m2 b = some (.cells ⟨v.enc⟩ 38 (0, 0)) := by rw [hoth b yb]; exact m1b
 have s2 : Sub m m2 := λ z o e => by rw [hoth z (λ e2 => by have := s1 z o e; rw [e2, hy] at this; cases this)]; exact s1 z o e
 refine ⟨.of_m m2b (Ig ..), .imm (rd.mono le2), _, hg.map_, λ r m3 hb3 hs3 it => ?_⟩
 have rb : b ≠ r := λ e => by have := hb3.m_; rw [<- e, m2b] at this; cases this
 have m3b : m3 b = some (.cells ⟨v.enc⟩ 38 (0, 0)) := by rw [hs3.other b rb]; exact m2b
 have s3 : Sub m m3 := λ z o e => by
  have := s2 z o e
  rw [hs3.other z (λ e2 => by rw [e2, hb3.m_] at this; cases this)]; exact this
 classical
 have m3y : ∃ o, m3 y = some o := by obtain ⟨es, c, since, seen, c0, i1, _⟩ := it.ex; exact ⟨_, i1⟩
 have m3r : ∃ o, m3 r = some o := by obtain ⟨es, c, since, seen, c0, i1, i2, i3, i4, i5, _⟩ := it.ex; exact ⟨_, i5⟩
 have yr : y ≠ r := λ e => by
  obtain ⟨es, c, i1, _⟩ := hg.map_
  rw [e, hb3.m_] at i1; cases i1
 have kvsnd : (kk.map λ p => (Value.string p.1, eA p.2)).Nodup := by
  have h5 := hg.nodup
  rw [List.nodup_iff_pairwise_ne, List.pairwise_map] at h5
  rw [List.nodup_iff_pairwise_ne, List.pairwise_map]
  exact h5.imp λ hne e => hne (by simp only [Ez, Value.string.injEq] at e; exact e.1)
 refine ⟨.of_m m3b (Ig ..), .imm (rd.mono le2), λ z => z.1 = b /\ z.2.2.1 = r /\ z.2.2.2.2 = h2 /\ (∀ x o, m3 x = some o -> x ≠ r -> z.2.2.2.1 x = some o) /\ ∃ left us acc, kF z.2.2.2.1 y r (kk.map λ p => (Value.string p.1, eA p.2)) left /\ dC z.2.2.2.1 z.2.1 74 1 (us.map eS) /\ (∀ x i, z.2.1.a = some ⟨x, i, none⟩ -> m3 x = none) /\ eF h2 us acc /\
  (∀ x, x ∈ acc ↔ ∃ p ∈ kk, (Value.string p.1, eA p.2) ∉ left /\ x ∈ (g p.1).take li.toNat) /\ acc.length + (l.countP λ z => decide (Value.string (cQ (pick z gr)) ∈ left.map Prod.fst)) <= l.length, λ z => leftOf z.2.2.2.1 z.2.2.1, ⟨(b, ⟨none, 0, 0⟩, r, m3, h2), ⟨rfl, rfl, rfl, λ x o e _ => e, _, [], [], it, ⟨Ai [], .inl ⟨rfl, rfl⟩⟩, (λ x i e => by cases e), eF.nil _, λ x => ?_, ?_⟩, MT⟩, ?_⟩
 . constructor
   . intro e; cases e
   . rintro ⟨p, hp, hn, _⟩
     exact (hn (List.mem_map_of_mem (f := λ p : ByteArray × Sl => (Value.string p.1, eA p.2)) hp)).elim
 . rw [List.length_nil, Ih]; exact List.countP_le_length
 . rintro ⟨b', s, r', mz, hz⟩ ⟨e1, e2, e3, oth, left, us, acc, itz, hrow, hfr, hus, hmem, hcnt⟩
   dsimp only at e1 e2 e3 oth itz hrow hfr hus hmem hcnt ⊢
   subst e1 e2 e3
   have hacc : acc.length <= l.length := by omega
   have hul := hus.len
   refine ⟨y, _, left, itz, λ hleft => ?_, λ l1 x1 l2 hlx m4 hs4 ita => ?_⟩
   . subst hleft
     refine ⟨s, us, acc, rfl, hrow.src, hus, aC, λ s' h' le' hr' => cZ.sub (λ z o e => oth z o (s3 z o e) (λ e2 => ?_)) (le2.trans le') (hK s' h' (le2.trans le') ?_)⟩
     . have := s2 z o e
       rw [e2, hb3.m_] at this; cases this
     . have e5 : BA gr od li l l = Ag acc := Tv (hrel.srt.sublist List.filter_sublist) λ x => by
        rw [UZ hg hrel hcols hli, hmem]
        simp
       rw [e5]; exact hr'
   . have hxl : x1 ∈ left := by rw [hlx]; simp
     obtain ⟨p0, hp0, rfl⟩ := mH.1 (kF.mem itz hxl)
     have hnd := kF.nodup itz kvsnd
     rw [hlx] at hnd
     have hnd' : (Value.string p0.1, eA p0.2) ∉ l1 ++ l2 := λ h => by
      have h5 := List.nodup_append.1 hnd
      have h6 := List.nodup_cons.1 h5.2.1
      rcases BZ.1 h with h | h
      . exact h5.2.2 _ h _ (Gh ..) rfl
      . exact h6.1 h
     have m3ne : ∀ {x}, (∃ o, m3 x = some o) -> ∀ i, s.a ≠ some ⟨x, i, none⟩ := fun {x} ⟨o, ho⟩ i e => by rw [hfr x i e] at ho; cases ho
     have m4b : m4 b' = some (.cells ⟨v.enc⟩ 38 (0, 0)) := by rw [hs4.other b' rb]; exact oth b' _ m3b rb
     have hrow4 : dC m4 s 74 1 (us.map eS) := dC.keep hrow λ x i e => hs4.other x λ e2 => m3ne m3r i (e2 ▸ e)
     obtain ⟨⟨us0, hri, hl0, hat⟩, _⟩ := hg.rows p0 hp0
     refine ⟨λ c => c = (b', s, p0.2, r', m4, hz), ⟨y, _, _, _, ita, ⟨(b', s, p0.2, r', m4, hz), rfl, rfl, rfl, rfl, rfl, rfl, rfl, trivial⟩⟩, ?_⟩
     rintro c rfl
     dsimp only
     have hlim : v.limit = li := hq.parts.limit_
     have hgl := (hg.perm p0.1).length_eq
     have hgl2 : (nA gr l p0.1).length <= l.length := Q5 _ _
     have hpl : p0.2.len = us0.length := by have := hri.len; simpa using this
     have hn : ((if (p0.2.len : Int) < v.limit then (p0.2.len : Int) else v.limit).toNat) = min us0.length li.toNat := by
      rw [hlim]; split <;> omega
     have hcap := hri.cap
     refine ⟨v.limit, .of_m m4b rfl, by rw [hlim]; split <;> omega, by rw [hlim]; split <;> omega, us.map eS, hrow4, (us0.take (min us0.length li.toNat)).map eS, Ai _, ?_, by simp; omega, by simp; omega, λ s' m5 hgr => ?_⟩
     . rw [hn, List.map_take]
       exact .imm (cN.cut hri _ (by simp; omega))
     . have hold : ∀ x o, m3 x = some o -> x ≠ r' -> m5 x = some o := λ x o e hne => hgr.other x o (by rw [hs4.other x hne]; exact oth x o e hne) (m3ne ⟨o, e⟩)
       have it5 : kF m5 y r' (kk.map λ p => (Value.string p.1, eA p.2)) (l1 ++ l2) := by
        obtain ⟨es, c, since, seen, c0, i1, i2, i3, i4, i5, _⟩ := ita.it.ex
        exact kF.keep ita.it (by rw [i1]; exact hgr.other y _ i1 (m3ne m3y)) (by rw [i5]; exact hgr.other r' _ i5 (m3ne m3r))
       have hu0 : eF hz (us0.take (min us0.length li.toNat)) ((g p0.1).take li.toNat) := by
        refine ⟨by simp [hl0]; omega, λ j x hx => ?_⟩
        rw [DT] at hx
        split at hx
        . obtain ⟨u, hu, hv⟩ := hat j x hx
          have := (mG.1 hu).1
          exact ⟨u, by rw [DT, if_pos aC]; exact hu, hv⟩
        . cases hx
       refine ⟨(b', s', r', m5, hz), ⟨rfl, rfl, rfl, hold, _, us ++ us0.take (min us0.length li.toNat), acc ++ (g p0.1).take li.toNat, it5, ?_, λ x i e => ?_, hus.app hu0, λ x => ?_, ?_⟩, ?_, rfl, rfl, rfl, rfl, rfl, trivial⟩
       . rw [xH]; exact hgr.row
       . rcases hgr.fresh x i e with h5 | ⟨j, h5⟩
         . cases e6 : m3 x with
           | none => rfl
           | some o =>
            by_cases hxr : x = r'
            . obtain ⟨es, c, since, seen, c0, i1, i2, i3, i4, i5, _⟩ := ita.it.ex
              rw [hxr, i5] at h5; cases h5
            . rw [hs4.other x hxr, oth x o e6 hxr] at h5; cases h5
         . exact hfr x j h5
       . rw [BZ, hmem]
         constructor
         . rintro (⟨p, hp, hn, hx⟩ | hx)
           . exact ⟨p, hp, λ h => hn (by rw [hlx]; rcases BZ.1 h with h | h; exact List.mem_append_left _ h; exact List.mem_append_right _ (D3 _ h)), hx⟩
           . exact ⟨p0, hp0, hnd', hx⟩
         . rintro ⟨p, hp, hn, hx⟩
           by_cases hpp : p = p0
           . subst hpp; exact .inr hx
           . refine .inl ⟨p, hp, λ h => ?_, hx⟩
             rw [hlx] at h
             rcases BZ.1 h with h | h
             . exact hn (List.mem_append_left _ h)
             . rcases xA.1 h with h | h
               . simp only [Ez, Value.string.injEq] at h
                 exact hpp (Jb hg.nodup hp hp0 h.1)
               . exact hn (List.mem_append_right _ h)
       . have hkn : Value.string p0.1 ∉ (l1 ++ l2).map Prod.fst := λ h => by
          obtain ⟨z, hz1, hz2⟩ := mH.1 h
          obtain ⟨p, hp, rfl⟩ := mH.1 (kF.mem it5 hz1)
          simp only [Value.string.injEq] at hz2
          have := Jb hg.nodup hp hp0 hz2
          subst this
          exact hnd' hz1
         have h5 := QE (l := l) (p := λ z => decide (Value.string (cQ (pick z gr)) ∈ (l1 ++ l2).map Prod.fst)) (q := λ z => decide (cQ (pick z gr) = p0.1)) (λ z _ ⟨h6, h7⟩ => by
          have h6 := of_decide_eq_true h6
          rw [of_decide_eq_true h7] at h6
          exact hkn h6)
         have h8 : (l.countP λ z => decide (Value.string (cQ (pick z gr)) ∈ (l1 ++ l2).map Prod.fst) || decide (cQ (pick z gr) = p0.1)) = l.countP λ z => decide (Value.string (cQ (pick z gr)) ∈ left.map Prod.fst) := by
          refine List.countP_congr λ z _ => ?_
          rw [hlx]
          simp only [Bool.or_eq_true, decide_eq_true_eq, xH, EB, BZ, xA, Value.string.injEq]
          constructor
          . rintro ((h | h) | h)
            . exact .inl h
            . exact .inr (.inr h)
            . exact .inr (.inl h)
          . rintro (h | h | h)
            . exact .inl (.inl h)
            . exact .inr h
            . exact .inl (.inr h)
         have h9 : (nA gr l p0.1).length = l.countP λ z => decide (cQ (pick z gr) = p0.1) := by rw [nA, List.countP_eq_length_filter]
         rw [BG, Hz]
         omega
       . show leftOf m5 r' < leftOf mz r'
         rw [kF.left_ it5, kF.left_ itz, hlx]
         simp
def Ub : Vc.Spec := λ cvs m h K => ∃ (n bq bg br : Nat) (v : QV) (od : List (Int × Bool)) (g s : Sl) (rs : List (List VV)) (r : List VV) (w : Nat), cvs = [cI n, .val (.func (.func 193) #[] #[.pointer (some ⟨bq, 0, none⟩), .pointer (some ⟨bg, 0, none⟩), .pointer (some ⟨br, 0, none⟩)])] /\
 m bq = some (.cells ⟨QV.enc v⟩ 38 (0, 0)) /\ m bg = some (.cells #[Sl.val g] 53 (0, 0)) /\ m br = some (.cells #[Sl.val s] 74 (0, 0)) /\ iE h v.order od /\ Rows h g rs /\ cJ h s r /\ rs.length = n /\ p8 od rs /\ (∀ x ∈ rs, x.length = w) /\ r.length = w /\
 K (cI ((rs.countP λ y => decide (j6 od y r < 0) : Nat) : Int)) m h
noncomputable def WY : Ctx := N2 [(191, Ot), (186, XO), (192, Ub)] [] [(2, { A := Sl × Nat × Nat × MH × PH, st := λ ⟨t, b, c, m, h⟩ => cH 38 40 [(1, sv t), (2, vv (.pointer (some ⟨b, 0, none⟩))), (5, vv (.pointer (some ⟨c, 0, none⟩)))] [] m h }),
 (6, { A := Nat × Nat × Nat × Nat × MH × PH, st := λ ⟨b, o, e, g, m, h⟩ => cH 38 40 [(2, vv (.pointer (some ⟨b, 0, none⟩))), (6, vv (.pointer (some ⟨o, 0, none⟩))), (7, vv (.pointer (some ⟨e, 0, none⟩))), (8, vv (.pointer (some ⟨g, 0, none⟩)))] [] m h })] [200002, 200005, 200006, 200007, 200008, 1053, 400000, 0]
noncomputable abbrev lV (a : Sl × Nat × Nat × MH × PH) : Nat × MH × PH := a.2.2
abbrev A5 (a : MH) (b : Nat) (c : Value) (d : MH -> (Nat × Nat × Nat × Nat × MH × PH) -> Prop) : Prop := gG (λ x x1 => aA (uT a b (eV x x1 0)) (fD 0 x) (∀ (x2 : MH), bG a x2 b (eU c 1 x) x1 -> ∃ (x3 : Nat × Nat × Nat × Nat × MH × PH), d x2 x3))
noncomputable abbrev iS (a : Nat × Nat × Nat × Nat × MH × PH) : Nat × MH × PH := a.2.2.2
abbrev Bc (a : Nat × Nat × Nat × Nat × MH × PH -> Prop) (b : Nat × Nat × Nat × Nat × MH × PH) (c : Sl × Nat × Nat × MH × PH) (d e g : Nat) (i : MH) (j : PH) : Prop := aA (a b) (cY c.2.1 b.1) (aA (cY d b.2.1) (cY e b.2.2.1) (bM (cY g (iS b).1) (bJ i (iS b).2) (cE j (iS b).2)))
attribute [push_cast] lV A5 iS Bc
def G8 (v : QV) (t : Sl) (m : MH) (h : PH) (K : CV -> MH -> PH -> Prop) : Prop :=
  ∀ (b : Nat) (m1 : MH), bK (cD m h b) (bG m m1 b v.enc 38) (∃ (I : Sl × Nat × Nat × MH × PH -> Prop), (∃ (y : QV), aL m1 h b 0 y.enc /\ aT (λ b1 o => aA (aU t.a b1 o) ((0 : Int) <= 1) (1 < aG t /\ ∃ (y1 : Nat), aA (aL m1 h b1 (o + 1) (nS y1)) (∃ (v1 : QV) (u : Nat), GB (λ g o1 => ∃ (l : List (List VV)) (w : Nat), aA (A4 y y1 = A4 v1 u) (Ints h v1.group g) (aA (iE h v1.order o1) (Lh h u l) (IG w l g m1 (λ y2 => y2) (λ b2 => b2) (λ m2 => m2) (λ y2 m2 h1 k g1 => dG h h1 (tN m2 h1 y2 g o1 l k g1) (aA (aL m2 h1 b 0 y.enc) (aL m2 h1 b1 (o + 1) (nS y1)) (∀ (b2 : Nat) (m3 : MH), bK (cD m2 h1 b2) (bG m2 m3 b2 (iK Eh) 207) (gG (λ c E => aA (uT m3 b2 (eV c E 0)) (fD 0 c) (∀ (m4 : MH), bG m3 m4 b2 (eU (BM y2) 1 c) E -> ∃ (x : Sl × Nat × Nat × MH × PH), aA (I x) (bD
 t x.1) (aA (cY b x.2.1) (cY b2 (lV x).1) (jG (bJ m4 (lV x).2) (cE h1 (lV x).2))))))))))))) (aA (aL m1 h b 0 y.enc) (aL m1 h b1 (o + 1) (nS y1)) (∀ (b2 : Nat) (m2 : MH), bK (cD m1 h b2) (bG m1 m2 b2 (iK Eh) 207) (∃ (v1 : QV) (u : Nat), GB (λ g o1 => ∃ (l : List (List VV)) (w : Nat), aA (A4 y y1 = A4 v1 u) (Ints h v1.group g) (aA (iE h v1.order o1) (Lh h u l) (IG w l g m2 (λ y2 => y2) (λ b3 => b3) (λ m3 => m3) (λ y2 m3 h1 k g1 => dG h h1 (tN m3 h1 y2 g o1 l k g1) (gG (λ c E => aA (uT m3 b2 (eV c E 0)) (fD 0 c) (∀ (m4 : MH), bG m3 m4 b2 (eU (BM y2) 1 c) E -> ∃ (x : Sl × Nat × Nat × MH × PH), aA (I x) (bD t x.1) (aA (cY b x.2.1) (cY b2 (lV x).1) (jG (bJ m4 (lV x).2) (cE h1 (lV x).2)))))))))))))))) /\ ∀ (x : Sl × Nat × Nat
 × MH × PH), I x -> A6 (dD (lV x)) (cO (lV x)) x.1 (λ b1 m2 y S => pW S (cO (lV x)) y m2 (λ x1 I1 k e => dW (λ m3 h1 => bK (tD x1 k e) (PH.le (cO (lV x)) h1) (I1 k m3 h1 -> ∀ (b2 : Nat) (m4 : MH), bK (cD m3 h1 b2) (bG m3 m4 b2 hU 74) (gG (λ c E => aA (uT m4 b2 (eV c E 0)) (fD 0 c) (∀ (m5 : MH), bG m4 m5 b2 (eU (eA e) 1 c) E -> ∃ (I2 : Nat × Nat × Nat × Nat × MH × PH -> Prop), (∃ (y1 : Nat), kW m5 h1 (lV x).1 y1 (hP m5 h1 b2 0 (λ y2 => ∃ (y3 : Sl), aA (aL m5 h1 x.2.1 17 (aM y3)) (kW m5 h1 (lV x).1 y1 (Ff y2 y3 h1 m5 (cG m5 h1 (lV x).1 y1) (λ r c1 => aA (aL m5 h1 b2 0 (aM y2)) (aL m5 h1 x.2.1 17 (aM y3)) (wD m5 y1 r c1 (aA (cG m5 h1 (lV x).1 y1) (aL m5 h1 b2 0 (aM y2)) (aL m5 h1 x.2.1 17 (aM y3) /\ ∀ (b3 : Nat) (m6 :
 MH), bK (cD m5 h1 b3) (bG m5 m6 b3 hU 53) (A5 m6 b3 sR (λ m7 x2 => Bc I2 x2 x b1 b2 b3 m7 h1)))) (λ y4 => aA (cG m5 h1 (lV x).1 y1) (aL m5 h1 b2 0 (aM y2)) (aL m5 h1 x.2.1 17 (aM y3) /\ ∀ (b3 : Nat) (m6 : MH), bK (cD m5 h1 b3) (bG m5 m6 b3 hU 53) (A5 m6 b3 (eA y4) (λ m7 x2 => Bc I2 x2 x b1 b2 b3 m7 h1)))))) (λ r c1 => aA (cG m5 h1 (lV x).1 y1) (aL m5 h1 b2 0 (aM y2)) (aL m5 h1 x.2.1 17 (aM y3) /\ ∀ (b3 : Nat) (m6 : MH), bK (cD m5 h1 b3) (bG m5 m6 b3 hU 53) (aA (aL m6 h1 b2 0 (aM y2)) (aL m6 h1 x.2.1 17 (aM y3)) (wD m6 y1 r c1 (A5 m6 b3 sR (λ m7 x2 => Bc I2 x2 x b1 b2 b3 m7 h1)) (λ y4 => A5 m6 b3 (eA y4) (λ m7 x2 => Bc I2 x2 x b1 b2 b3 m7 h1)))))))) (aA (cG m5 h1 (lV x).1 y1) (aL m5 h1 b2 0 (aM y2)) (aL m5 h1 x.2.1 17
 (aM y3) /\ ∀ (b3 : Nat) (m6 : MH), bK (cD m5 h1 b3) (bG m5 m6 b3 hU 53) (kW m6 h1 (lV x).1 y1 (Ff y2 y3 h1 m6 (cG m6 h1 (lV x).1 y1) (λ _ _ => aL m6 h1 b2 0 (aM y2)) (λ r c1 => aL m6 h1 x.2.1 17 (aM y3) /\ wD m6 y1 r c1 (A5 m6 b3 sR (λ m7 x2 => Bc I2 x2 x b1 b2 b3 m7 h1)) (λ y4 => A5 m6 b3 (eA y4) (λ m7 x2 => Bc I2 x2 x b1 b2 b3 m7 h1)))))))))) /\ ∀ (x2 : Nat × Nat × Nat × Nat × MH × PH), I2 x2 -> hP (dD (iS x2)) (cO (iS x2)) (iS x2).1 0 (λ y1 => aT (λ n b3 => aT (λ b4 b5 => ∃ (v1 : QV) (o : List (Int × Bool)), iW (λ g s => ∃ (r : List (List VV)) (r1 : List VV) (w : Nat), aA (aX (dH (aG y1)) (CV.val (Cm 193 (Array.mk (aJ (UC x2.1 0) (UC (iS x2).1 0) (iK (UC x2.2.2.1 0)))))) = aX (dH (↑n : Int)) (CV.val (Cm 193 (Array.mk (aJ (UC b3
 0) (UC b4 0) (iK (UC b5 0))))))) ((iS x2).2.1 b3 = Option.some (eV (Array.mk v1.enc) 38 0)) (aA ((iS x2).2.1 b4 = Option.some (eV (Array.mk (aM g)) 53 0)) ((iS x2).2.1 b5 = Option.some (eV (Array.mk (aM s)) 74 0)) (aA (iE (cO (iS x2)) v1.order o) (Rows (cO (iS x2)) g r) (aA (cJ (cO (iS x2)) s r1) (r.length = n) (aA (p8 o r) (Da r (λ x3 => x3.length = w)) (r1.length = w /\ tV (dD (iS x2)) (cO (iS x2)) x2.1 19 (λ y2 => bA (↑(List.countP (fun (y3 : List VV) => decide (j6 o y3 r1 < 0)) r) : Int) y2 (hP (dD (iS x2)) (cO (iS x2)) x2.2.1 0 (λ y3 => ∃ (y4 : Sl), aL (dD (iS x2)) (cO (iS x2)) x2.2.2.1 0 (aM y4) /\ ∃ (x3 : List (List Value)), aA (dC (dD (iS x2)) (dA y3) 74 1 x3) (gH ((x3.length + 1) * 24)) (iA x3 /\ gO (fun
 s1 m6 => eC (dD (iS x2)) m6 (dA y3) s1 74 1 (jB x3 y4) -> gG (λ c1 E1 => aA (uT m6 x2.2.1 (eV c1 E1 0)) (fD 0 c1) (∀ (m7 : MH), bG m6 m7 x2.2.1 (eU (eA s1) 1 c1) E1 -> I1 (k + 1) m7 (cO (iS x2)))))))) (I1 (k + 1) (dD (iS x2)) (cO (iS x2))))))))))))))))))) (λ m3 h1 => hP m3 h1 b1 0 (λ y1 => K (cK y1) m3 h1))))
theorem FM {w : World} {q : Nat} {os : Array Obj} (hb : b < w.heap.size) : (Sort.grow (w.drewN q) os).heap[b]? = w.heap[b]? := by
 show ((w.drewN q).heap ++ os)[b]? = _
 rw [Array.getElem?_append_left (show b < (w.drewN q).heap.size from hb)]; rfl
theorem QI {P : Program} {g : Nat} {cs : List Value} {m : MH} {h : PH} {S : Vc.Spec} {r : CV} {u : Value} (hs : Sound P g S) (hS : S (cs.map .val) m h λ r' m' h' => r' = r /\ m' = m /\ h' = h) (hr : ∀ w u', DS w r u' -> u' = u) {w : World}
 (hh : ∀ b o v, h b o = some v -> w.cell? ⟨b, o, none⟩ = some v) (hm : ∀ b o, m b = some o -> w.heap[b]? = some o) (hd : ∀ b o, m b = some o -> ∀ i, h b i = none) (mm : Nat) (os : Array Obj) :
 Calls P g cs.toArray (Sort.grow (w.drewN mm) os) λ e w' => e = .returned u /\ ∃ q os', w' = Sort.grow ((Sort.grow (w.drewN mm) os).drewN q) os' := by
 obtain ⟨W, hW⟩ : ∃ W, Sort.grow (w.drewN mm) os = W := ⟨_, rfl⟩
 rw [hW]
 have old : ∀ b, b < w.heap.size -> W.heap[b]? = w.heap[b]? := λ b hb => by rw [<- hW]; exact FM hb
 have hvals : ∀ (l : List Value) (w : World), Ac w (l.map .val) l := λ l w => by
  induction l with
  | nil => trivial
  | cons a l ih => exact ⟨rfl, ih⟩
 have nov : ∀ (l : List Value) (i : Nat) (c : CV) (u : Value) (b : Nat), (l.map CV.val)[i]? = some c -> fN c u = some b -> False := λ l i c u b hi hb => by
  rw [AD] at hi
  cases e : l[i]? with
  | none => rw [e] at hi; cases hi
  | some v => rw [e] at hi; simp at hi; subst hi; simp [fN] at hb
 have hpre : wZ W m h (cs.map .val) cs := by
  refine ⟨hvals _ _, ?_, ?_, hd, λ i j c d u v b hi _ _ _ hb _ => (nov _ i c u b hi hb).elim, λ i c u b hi _ hb => (nov _ i c u b hi hb).elim⟩
  . intro b o v hv
    have h1 := hh b o v hv
    rw [World.cell?_of_block (w := w) (w' := W) (a := ⟨b, o, none⟩) (old b (World.block_lt_of_cell? w ⟨b, o, none⟩ h1))]
    exact h1
  . intro b o hb
    have h1 := hm b o hb
    rw [old b (CP.1 h1).1]; exact h1
 refine (hs.2 _ _ m h W _ hS hpre).mono ?_
 rintro e w' ⟨r', u', m', h', rfl, ⟨rfl, rfl, rfl⟩, hok, hw, _⟩
 have hu := hr _ _ hok
 subst hu
 refine ⟨rfl, HA hw.tape hw.os hw.output hw.drawn hw.size (λ b hb => ?_)⟩
 cases e3 : m' b with
 | none =>
  refine hw.frame b hb ?_
  rintro (h1 | ⟨i, c, u, hi, _, hc⟩)
  . exact h1 e3
  . exact nov _ i c u b hi hc
 | some o => rw [hw.msat b o e3]; exact (hpre.msat b o e3).symm
theorem RV : Sound Tryz.prog 192 Ub := by
 refine ⟨⟨Tryz.f192, Tryz.func192, rfl, by decide⟩, ?_⟩
 rintro cvs vs m h w K ⟨n, bq, bg, br, v, od, g, s, rs, r, wd, rfl, hq, hg, hr, ho, hrs, hv, rfl, hso, hw, hrw, hK⟩ hp
 obtain ⟨v1, v2, rfl⟩ : ∃ v v2, vs = [v, v2] := by
  have := (mY hp.args).1
  match vs, this with
  | [v, v2], _ => exact ⟨v, v2, rfl⟩
 have h1 : v1 = .int .i64 rs.length := hp.args.1
 have h2 : v2 = .func (.func 193) #[] #[.pointer (some ⟨bq, 0, none⟩), .pointer (some ⟨bg, 0, none⟩), .pointer (some ⟨br, 0, none⟩)] := hp.args.2.1
 subst h1 h2
 have eg : ∀ args w, (callFunc 193 args).run Tryz.prog w = .ok (.enter 193 args) w := λ args w => by
  have hgf := Tryz.func193
  have hb : Tryz.f193.body.isSome = true := rfl
  have hn : (Tryz.f193.name == "runtime.NumGoroutine") = false := by decide
  have hbn : ¬ Tryz.f193.body = none := by intro e; rw [e] at hb; cases hb
  have hnm : ¬ Tryz.f193.name = "runtime.NumGoroutine" := by simpa using hn
  simp [callFunc, program, Sem.run, hgf, hnm, hbn]
 have hlen := hrs.len
 have hcall := Any.sort_Search Tryz.searchO 193 #[.pointer (some ⟨bq, 0, none⟩), .pointer (some ⟨bg, 0, none⟩), .pointer (some ⟨br, 0, none⟩)] rs.length (λ i => decide (j6 od (rs.toArray[i]!) r >= 0)) w eg aC
  (λ mm os i hi => QI (cs := [.int .i64 i, .pointer (some ⟨bq, 0, none⟩), .pointer (some ⟨bg, 0, none⟩), .pointer (some ⟨br, 0, none⟩)]) RU
   ⟨i, bq, bg, br, v, od, g, s, rs, r, rs.toArray[i]!, rfl, hq, hg, hr, ho, hrs, hv, by rw [getElem!_pos _ i (by simpa using hi)]; simp [hi], rfl, rfl, rfl⟩ (λ w u' hu => hu) hp.hsat hp.msat hp.disj mm os)
  (λ a b hab hb hpa => ?_)
 . refine Calls.mono hcall ?_
   rintro e w' ⟨rfl, q, os, rfl⟩
   have ecount : ((List.range rs.length).countP λ i => !decide (j6 od (rs.toArray[i]!) r >= 0)) = rs.countP λ y => decide (j6 od y r < 0) := by
    have := Go.Lib.countP_range rs.toArray (λ y => !decide (j6 od y r >= 0))
    rw [List.size_toArray] at this
    rw [this]
    refine List.countP_congr λ y _ => ?_
    simp
   rw [ecount]
   refine ⟨_, _, m, h, rfl, hK, rfl, ⟨rfl, rfl, rfl, Nat.le_add_right _ _, ?_, λ b hb _ => FM hb, λ b o v hv' => ?_, λ b o hb => ?_, hp.disj, λ _ _ _ e => e, λ _ _ _ => rfl, λ b o hb => .inr (.inl (by rw [show m b = some o from hb]; simp))⟩, λ b hb => by cases hb⟩
   . show w.heap.size <= ((w.drewN q).heap ++ os).size
     rw [Array.size_append]; exact Nat.le_add_right _ _
   . have h1 := hp.hsat b o v hv'
     rw [World.cell?_of_block (w := w) (a := ⟨b, o, none⟩) (FM (World.block_lt_of_cell? w ⟨b, o, none⟩ h1))]
     exact h1
   . have h1 := hp.msat b o hb
     rw [FM (CP.1 h1).1]; exact h1
 . have hpa := of_decide_eq_true hpa
   refine decide_eq_true ?_
   rcases Nat.lt_or_eq_of_le hab with hlt | rfl
   . have ha : a < rs.length := by omega
     rw [getElem!_pos _ a (by simpa using ha)] at hpa
     rw [getElem!_pos _ b (by simpa using hb)]
     simp only [List.getElem_toArray] at hpa ⊢
     have hwa := hw _ (Q8 ha)
     have hwb := hw _ (Q8 hb)
     have h5 := (List.pairwise_iff_getElem.1 hso) a b ha hb hlt
     have h6 := As (od := od) hwa hwb
     have h7 := As (od := od) hwa hrw
     have h8 := As (od := od) hwb hrw
     rw [zG hwa hwb] at h6
     have := (F5 wd od).trans r rs[a] rs[b] (by rw [<- zG hrw hwa]; omega) aC
     rw [<- zG hrw hwb] at this
     omega
   . exact hpa
theorem tN.get2 {y : Nat} {l : List (List VV)} {kk : List (ByteArray × Sl)} {G : ByteArray -> List (List VV)} {key : ByteArray} {K0 : Prop} {K : Sl -> Prop} (g : tN m h y gr od l kk G) (h0 : BT kk key ⟨none, 0, 0⟩ -> K0) (hK : ∀ s, BT kk key s -> K s) :
 ∃ (kvs : List (Value × Sl)) (Ok : Value -> Prop), zN m y (kvs.map λ p => (p.1, eA p.2)) /\ KeyLaw Tryz.prog 9 Ok /\ Ok (.string key) /\ (∀ e, List.Mem e kvs -> Ok e.1) /\ ((∀ e, List.Mem e kvs -> e.1 = Value.string key -> False) -> K0) /\ ∀ t, List.Mem (Value.string key, t) kvs -> K t := by
 obtain ⟨es, c, h1, h2, _, _⟩ := g.map_
 refine ⟨kk.map λ p => (.string p.1, p.2), _, ⟨es, c, h1, by rw [h2]; simp⟩, AJ, ⟨key, rfl⟩, λ e he => ?_, λ hn => h0 (.inl ⟨rfl, λ h => ?_⟩), λ t ht => hK t (.inr ?_)⟩
 . obtain ⟨k, _, rfl⟩ := mH.1 (show e ∈ _ from he)
   exact ⟨k.1, rfl⟩
 . obtain ⟨p, hp, e⟩ := mH.1 h
   subst e
   exact hn (.string p.1, p.2) (List.mem_map_of_mem (f := λ p : ByteArray × Sl => (Value.string p.1, p.2)) hp) rfl
 . obtain ⟨p, hp, e⟩ := mH.1 (show (Value.string key, t) ∈ _ from ht)
   simp only [Ez, Value.string.injEq] at e
   obtain ⟨e1, e2⟩ := e
   subst e1 e2; exact hp
theorem tN.keep {y : Nat} {l : List (List VV)} {kk : List (ByteArray × Sl)} {G : ByteArray -> List (List VV)} (g : tN m h y gr od l kk G) (hk : ∀ o, m y = some o -> m' y = some o) (le : PH.le h h') : tN m' h' y gr od l kk G := by
 obtain ⟨es, c, h1, h2, h3, h4⟩ := g.map_
 exact ⟨⟨es, c, hk _ h1, h2, h3, h4⟩, g.nodup, λ p hp => bW.mono (g.rows p hp) le (λ r t hv => cJ.mono hv le), g.none_, g.perm, g.sort⟩
theorem tN.at_ {y : Nat} {l : List (List VV)} {kk : List (ByteArray × Sl)} {G : ByteArray -> List (List VV)} {key : ByteArray} {s : Sl} (g : tN m h y gr od l kk G) (hs : BT kk key s) : Rows h s (G key) := by
 rcases hs with ⟨rfl, hn⟩ | hp
 . rw [g.none_ key hn]
   exact (eF.nil h).rows (cN.nil _ _) (by simp)
 . exact g.rows _ hp
structure ZJ (m5 : MH) (hh : PH) (bq b9 b2 : Nat) (e : Sl) (us2 : List Sl) (Gk : List (List VV)) (c : Nat × Nat × Nat × Nat × MH × PH) : Prop where
 q : c.1 = bq
 o : c.2.1 = b9
 b : c.2.2.1 = b2
 h : c.2.2.2.2.2 = hh
 sub : Ax m5 c.2.2.2.2.1 b9
 out : mE m5 c.2.2.2.2.1 b9 us2
 e_ : c.2.2.2.2.1 b2 = some (.cells #[eA e] 74 (0, 0))
 g_ : ∃ s, c.2.2.2.2.1 c.2.2.2.1 = some (.cells #[eA s] 53 (0, 0)) /\ Rows hh s Gk
def EV (q : Query) (ls : List (List (List VV))) : List (List VV) := match q with | .mk _ _ _ _ _ gr od li _ => BA gr od li (ls.getD 0 []) (ls.getD 1 [])
def Cc (q : Query) (ls : List (List (List VV))) : Prop := match q with | .mk _ _ _ _ _ gr _ _ _ => 2 <= ls.length /\ ∃ w, iC w (ls.getD 0 []) /\ iC w (ls.getD 1 []) /\ gC w gr
theorem R4 : Sound Tryz.prog 156 (OB Cc EV) := by
 refine D1 Tryz.func156 ?_
 rintro cvs m h K ⟨v, t, q, bs, ls, rfl, hq, ha, hT, hok, hK⟩
 refine ⟨WY, rfl, aD Km (aD BB (aD RV aF)), G8 v t m h (cZ h K), by kernel_rfl, ?_⟩
 show G8 v t m h (cZ h K)
 dsimp only [G8, push_cast]
 obtain ⟨op, ta, w, co, on, gr, od, li, args⟩ := q
 obtain ⟨hl2, wd, hrel, hrel', hcols⟩ := hok
 intro b m1 hb1 hu1
 obtain ⟨s1, n1⟩ := gE (Sub.refl m) hb1 hu1
 have m1b : m1 b = some (.cells ⟨v.enc⟩ 38 (0, 0)) := hu1.at_
 obtain ⟨b1, off, x, ea, hlt, rd, sq⟩ := ha.get (BV (i := 1) aC)
 obtain ⟨b6, off6, x6, ea6, hlt6, rd6, sq6⟩ := ha.get (BV (i := 0) aC)
 simp only [EV] at hK
 generalize ls.getD 1 [] = l' at hK hrel' sq
 generalize ls.getD 0 [] = l at hK hrel sq6
 have hll := hrel.len
 have hg_ := hq.parts.group_
 have ho_ := hq.parts.order_
 refine ⟨λ z => z.1 = t /\ z.2.1 = b /\ PH.le h z.2.2.2.2 /\ Sub m z.2.2.2.1 /\ z.2.2.2.1 b = some (.cells ⟨v.enc⟩ 38 (0, 0)) /\ ∃ y kk G, z.2.2.2.1 z.2.2.1 = some (.cells #[.map (some y)] 207 (0, 0)) /\ tN z.2.2.2.1 z.2.2.2.2 y gr od l' kk G,
  ⟨v, .of_m m1b (Ig ..), b1, off, ea, aC, aC, x, .imm rd, ⟨v, x, gr, od, l', wd, rfl, hg_, ho_, sq, hrel', hcols, hT.sub s1, λ y m2 h2 kk G hy hoth le2 hG => ?_⟩, .of_m m1b (Ig ..), .imm rd, λ bc m2 hb2 hu2 => ?_⟩, ?_⟩
 . have yb : b ≠ y := λ e => by rw [<- e, m1b] at hy; cases hy
   have m2b : m2 b = some (.cells ⟨v.enc⟩ 38 (0, 0)) := by rw [hoth b yb]; exact m1b
   have s2 : Sub m m2 := λ z o e => by rw [hoth z (λ e2 => by have := s1 z o e; rw [e2, hy] at this; cases this)]; exact s1 z o e
   refine ⟨.of_m m2b (Ig ..), .imm (rd.mono le2), λ bc m3 hb3 hu3 => ⟨_, _, ⟨hu3.at_⟩, by simp, λ m4 hu4 => ⟨(t, b, bc, m4, h2), ⟨rfl, rfl, le2, ?_, ?_, y, kk, G, hu4.at_, ?_⟩, MT⟩⟩⟩
   . obtain ⟨s3, n3⟩ := gE s2 hb3 hu3
     exact s3.upd n3 hu4.other
   . have : b ≠ bc := λ e => by have := hb3.m_; rw [<- e, m2b] at this; cases this
     show m4 b = _
     rw [hu4.other b this, hu3.other b this]; exact m2b
   . refine hG.keep (λ o e => ?_) (.refl _)
     have : y ≠ bc := λ e2 => by rw [e2, hb3.m_] at e; cases e
     show m4 y = _
     rw [hu4.other y this, hu3.other y this]; exact e
 . obtain ⟨s2, n2⟩ := gE s1 hb2 hu2
   have bbc : b ≠ bc := λ e => by have := hb2.m_; rw [<- e, m1b] at this; cases this
   have m2b : m2 b = some (.cells ⟨v.enc⟩ 38 (0, 0)) := by rw [hu2.other b bbc]; exact m1b
   refine ⟨v, x, gr, od, l', wd, rfl, hg_, ho_, sq, hrel', hcols, hT.sub s2, λ y m3 h2 kk G hy hoth le2 hG => ?_⟩
   have yb : b ≠ y := λ e => by rw [<- e, m2b] at hy; cases hy
   have yc : bc ≠ y := λ e => by rw [<- e, hu2.at_] at hy; cases hy
   have s3 : Sub m m3 := λ z o e => by rw [hoth z (λ e2 => by have := s2 z o e; rw [e2, hy] at this; cases this)]; exact s2 z o e
   refine ⟨#[.map none], 207, ⟨by rw [hoth bc yc]; exact hu2.at_⟩, by simp, λ m4 hu4 => ⟨(t, b, bc, m4, h2), ⟨rfl, rfl, le2, s3.upd n2 hu4.other, ?_, y, kk, G, hu4.at_, ?_⟩, MT⟩⟩
   . show m4 b = _
     rw [hu4.other b bbc, hoth b yb]; exact m2b
   . refine hG.keep (λ o e => ?_) (.refl _)
     show m4 y = _
     rw [hu4.other y (Ne.symm yc)]; exact e
 . rintro ⟨t', b', bc, m4, hh⟩ ⟨e1, e2, leh, s4, m4b, y, kk, G, m4c, hG⟩
   dsimp only at e1 e2 leh s4 m4b m4c hG ⊢
   subst e1 e2
   intro b9 m5 hb5 hu5
   obtain ⟨s5, n9⟩ := gE s4 hb5 hu5
   have up5 : ∀ {z o}, m4 z = some o -> m5 z = some o /\ z ≠ b9 := fun {z o} e2 => by
    have : z ≠ b9 := λ e3 => by rw [e3, hb5.m_] at e2; cases e2
    exact ⟨by rw [hu5.other z this]; exact e2, this⟩
   obtain ⟨us, hseq, hru⟩ := (sq6.mono leh).ex
   have hul := hru.len
   refine ⟨b6, off6, ea6, aC, aC, x6, .imm (rd6.mono leh), tM, us, λ k my hy => hy = hh /\ Ax m5 my b9 /\ ∃ us2, mE m5 my b9 us2 /\ us2.length <= k /\ eF hh us2 (BA gr od li (l.take k) l'), sL, ⟨x6, us, rfl, hseq, rfl⟩, ⟨rfl, λ z o e _ => e, [], mE.new hu5.at_, by simp, by simpa [BA] using eF.nil hh⟩, ?_, ?_⟩
   . rintro k e my hy hk - ⟨rfl, hs7, us2, hout, hlen2, hr2⟩ b2 m6 hb6 hu6
     obtain ⟨r, hr, hv⟩ := hru.at' hk
     have hkl := (mG.1 hk).1
     have hrl := lP hr
     have hrw := hrel.wid r hrl
     have hcr : gC r.length gr := by rw [hrw]; exact hcols
     refine ⟨_, _, ⟨hu6.at_⟩, by simp, λ m7 hu7 => ?_⟩
     have up7 : ∀ {z o}, my z = some o -> m7 z = some o /\ z ≠ b2 := fun {z o} e2 => by
      have : z ≠ b2 := λ e3 => by rw [e3, hb6.m_] at e2; cases e2
      exact ⟨by rw [hu7.other z this, hu6.other z this]; exact e2, this⟩
     have up : ∀ {z o}, m4 z = some o -> m7 z = some o := fun {z o} e2 => (up7 (hs7 z o (up5 e2).1 (up5 e2).2)).1
     have s7 : Ax m5 m7 b9 := λ z o e2 hne => (up7 (hs7 z o e2 hne)).1
     have out_keep : ∀ {ma mb : MH}, mE m5 ma b9 us2 -> (∀ z o, ma z = some o -> mb z = some o) -> mE m5 mb b9 us2 := fun {ma mb} ho hk => by
      obtain ⟨s, h1, h2, h3⟩ := ho.ex
      refine ⟨s, hk _ _ h1, dC.keep h2 λ z i e3 => ?_, h3⟩
      obtain ⟨cur, h4⟩ := h2.blk e3
      rw [h4]; exact hk _ _ h4
     have o7 : mE m5 m7 b9 us2 := out_keep hout λ z o e2 => (up7 e2).1
     have m7e : m7 b2 = some (.cells #[eA e] 74 (0, 0)) := hu7.at_
     have g7 := hG.keep (λ o e2 => up e2) (.refl _)
     have rc : aL m7 hy bc 0 [Value.map (some y)] := .of_m (up m4c) rfl
     have re : aL m7 hy b2 0 [eA e] := .of_m m7e rfl
     have rg : aL m7 hy b' 17 [eA v.group] := .of_m (up m4b) rfl
     have hgh : Ints hy v.group gr := hg_.mono leh
     have T7 : jY m7 := hT.sub λ z o e2 => up (s4 z o e2)
     have fin : ∀ s, BT kk (cQ (pick r gr)) s -> ∀ b3 m8, cD m7 hy b3 -> jH m7 m8 b3 (.cells #[sR] 53 (0, 0)) -> ∃ (cs : Array Value) (E : TypeId), uT m8 b3 (.cells cs E (0, 0)) /\ 0 < cs.size /\ ∀ m9, jH m8 m9 b3 (.cells (Array.mk (eA s :: cs.toList.drop 1)) E (0, 0)) ->
      ∃ c : Nat × Nat × Nat × Nat × MH × PH, ZJ m5 hy b' b9 b2 e us2 (G (cQ (pick r gr))) c /\ Wi b' 0 = Wi c.1 0 /\ Wi b9 0 = Wi c.2.1 0 /\ Wi b2 0 = Wi c.2.2.1 0 /\ Wi b3 0 = Wi c.2.2.2.1 0 /\ m9 = c.2.2.2.2.1 /\ hy = c.2.2.2.2.2 /\ True := λ s hs b3 m8 hb8 hu8 => by
      refine ⟨_, _, ⟨hu8.at_⟩, by simp, λ m9 hu9 => ⟨(b', b9, b2, b3, m9, hy), ?_, MT⟩⟩
      have up9 : ∀ z o, m7 z = some o -> m9 z = some o := λ z o e2 => by
       have : z ≠ b3 := λ e3 => by rw [e3, hb8.m_] at e2; cases e2
       rw [hu9.other z this, hu8.other z this]; exact e2
      exact ⟨rfl, rfl, rfl, rfl, λ z o e2 hne => up9 z o (s7 z o e2 hne), out_keep o7 up9, up9 _ _ m7e, s, hu9.at_, hG.at_ hs⟩
     have up8 : ∀ {b3 m8}, cD m7 hy b3 -> jH m7 m8 b3 (.cells #[sR] 53 (0, 0)) -> ∀ z o, m7 z = some o -> m8 z = some o := fun {b3 m8} hb8 hu8 z o e2 => by
      have : z ≠ b3 := λ e3 => by rw [e3, hb8.m_] at e2; cases e2
      rw [hu8.other z this]; exact e2
     refine ⟨ZJ m5 hy b' b9 b2 e us2 (G (cQ (pick r gr))), ⟨y, rc, e, re, v.group, rg, ⟨rc, e, v.group, r, gr, rfl, hv, hgh, hrel.row r hrl, hcr, T7, rc, ⟨re, rg, g7.get2 (λ hs => ⟨rc, re, rg, fin _ hs⟩) (λ s hs => ⟨rc, re, rg, fin _ hs⟩)⟩, rc, re, rg, λ b3 m8 hb8 hu8 => ?_⟩, rc, re, rg, λ b3 m8 hb8 hu8 => ?_⟩, ?_⟩
     . have u8 := up8 hb8 hu8
       exact ⟨.of_m (u8 _ _ m7e) rfl, .of_m (u8 _ _ (up m4b)) rfl, (g7.keep (u8 y) (.refl _)).get2 (λ hs => fin _ hs b3 m8 hb8 hu8) (λ s hs => fin _ hs b3 m8 hb8 hu8)⟩
     . have u8 := up8 hb8 hu8
       have rc8 : aL m8 hy bc 0 [Value.map (some y)] := .of_m (u8 _ _ (up m4c)) rfl
       exact ⟨rc8, e, v.group, r, gr, rfl, hv, hgh, hrel.row r hrl, hcr, T7.sub u8, rc8, .of_m (u8 _ _ m7e) rfl, .of_m (u8 _ _ (up m4b)) rfl, (g7.keep (u8 y) (.refl _)).get2 (λ hs => fin _ hs b3 m8 hb8 hu8) (λ s hs => fin _ hs b3 m8 hb8 hu8)⟩
     . rintro ⟨c1, c2, c3, b3, mz, hz⟩ ⟨e1, e2, e3, e4, hsz, hoz, mze, s, mzg, hrows⟩
       dsimp only at e1 e2 e3 e4 hsz hoz mze mzg ⊢
       subst e1 e2 e3 e4
       have upz : ∀ {z o}, m4 z = some o -> mz z = some o := fun {z o} e2 => hsz z o (up5 e2).1 (up5 e2).2
       have hcount := HV (od := od) hrel' hcols (hrel.row r hrl) hrw
       rw [<- (hG.perm _).countP_eq] at hcount
       refine ⟨s, .of_m mzg rfl, s.len, c1, b3, c3, v, od, s, e, G (cQ (pick r gr)), r, wd, rfl, upz m4b, mzg, mze, ho_.mono leh, hrows, hv, hrows.slen.symm, hG.sort _, λ z hz2 => ?_, hrw, v.limit, .of_m (upz m4b) rfl, ?_⟩
       . have := (hG.perm _).mem_iff.1 (show z ∈ _ from hz2)
         exact hrel'.wid z (List.mem_filter.1 this).1
       . rw [hcount]
         have hlim : v.limit = li := hq.parts.limit_
         rw [hlim]
         refine aE (λ h1 => ?_) (λ h1 => ?_)
         . obtain ⟨so, hbo, hrowo, hfro⟩ := hoz.ex
           refine ⟨so, .of_m hbo rfl, e, .of_m mze rfl, EY ⟨_, hu5.at_⟩ hsz hbo hrowo hfro aC λ m' hs' ho' => ⟨rfl, hs', us2 ++ [e], ho', by simp; omega, ?_⟩⟩
           rw [BA, iU _ hr, if_pos (decide_eq_true h1)]
           exact hr2.snoc hv
         . refine ⟨rfl, hsz, us2, hoz, aC, ?_⟩
           rw [BA, iU _ hr, if_neg (by simpa using h1), OE]
           exact hr2
   . rintro my hy - ⟨rfl, hs7, us2, hout, hlen2, hr2⟩
     rw [hul, Ig] at hr2
     obtain ⟨s, hb, hrow, hfr⟩ := hout.ex
     refine ⟨s, .of_m hb rfl, cZ.row (s5.x n9 hs7) leh hrow (λ j z e => ?_) (λ h' le hri => hK s h' (leh.trans le) ((hr2.mono le).rows hri (by have := hr2.len; omega)))⟩
     cases e2 : m z with
     | none => rfl
     | some o => have e1 := hfr j z e; rw [s5 z o e2] at e1; cases e1
def Z7 (op : Int) (q : Query) (ls : List (List (List VV))) : List (List VV) :=
 if op = 2 then FO q ls else if op = 3 then O9 q ls else if op = 4 then Pp q ls else if op = 5 then OY q ls else if op = 6 then Nf q ls else if op = 7 then NH q ls else if op = 8 then NQ q ls else if op = 9 then O7 q ls else EV q ls
def Z8 (op : Int) (q : Query) (ls : List (List (List VV))) : Prop :=
 if op = 2 then DV 1 q ls else if op = 3 then JI q ls else if op = 4 then JJ q ls else if op = 5 then JG q ls else if op = 6 then DV 2 q ls else if op = 7 then zS q ls else if op = 8 then zS q ls else if op = 9 then JH q ls else Cc q ls
mutual
def iY (ls : List (List (List VV))) : Query -> Nat -> List (List VV) × Nat
 | .mk op ta w co on gr od li args, k => if op = 1 then (ls.getD k [], k + 1) else (Z7 op (.mk op ta w co on gr od li args) (eN ls args k).1, (eN ls args k).2)
def eN (ls : List (List (List VV))) : List Query -> Nat -> List (List (List VV)) × Nat
 | [], k => ([], k)
 | q :: qs, k => ((iY ls q k).1 :: (eN ls qs (iY ls q k).2).1, (eN ls qs (iY ls q k).2).2)
end
mutual
def UK (ls : List (List (List VV))) : Query -> Nat -> Prop
 | .mk op ta w co on gr od li args, k => if op = 1 then k < ls.length else Z8 op (.mk op ta w co on gr od li args) (eN ls args k).1 /\ Pg ls args k
def Pg (ls : List (List (List VV))) : List Query -> Nat -> Prop
 | [], _ => True
 | q :: qs, k => UK ls q k /\ Pg ls qs (iY ls q k).2
end
def ZK : Vc.Spec := λ cvs m h K => ∃ op, cvs = [cI op] /\ (op = 2 -> K (.val (.agg #[.func (.func 148) #[] #[]])) m h) /\ (op = 3 -> K (.val (.agg #[.func (.func 149) #[] #[]])) m h) /\ (op = 4 -> K (.val (.agg #[.func (.func 150) #[] #[]])) m h) /\ (op = 5 -> K (.val (.agg #[.func (.func 151) #[] #[]])) m h) /\ (op = 6 -> K (.val (.agg #[.func (.func 152) #[] #[]])) m h) /\
 (op = 7 -> K (.val (.agg #[.func (.func 153) #[] #[]])) m h) /\ (op = 8 -> K (.val (.agg #[.func (.func 154) #[] #[]])) m h) /\ (op = 9 -> K (.val (.agg #[.func (.func 155) #[] #[]])) m h) /\ ((op ≠ 2 /\ op ≠ 3 /\ op ≠ 4 /\ op ≠ 5 /\ op ≠ 6 /\ op ≠ 7 /\ op ≠ 8 /\ op ≠ 9) -> K (.val (.agg #[.func (.func 156) #[] #[]])) m h)
def Leaves (h : PH) (s : Sl) (ls : List (List (List VV))) : Prop := bW h 1 eS (λ l t => Rows h t l) s ls
def Ov (N : Nat) : Vc.Spec := λ cvs m h K => ∃ be v q lv ls k, cvs = [cP be, aQ v] /\ cR h q v /\ SizeOf.sizeOf q < N /\ be ≠ 1 /\ m be = some (.cells #[Sl.val lv, .int .i64 (k : Nat)] 128 (0, 0)) /\ Leaves h lv ls /\ jY m /\ UK ls q k /\
 ∀ s' m' h', PH.le h h' -> Rows h' s' (iY ls q k).1 -> jH m m' be (.cells #[Sl.val lv, .int .i64 ((iY ls q k).2 : Nat)] 128 (0, 0)) -> K (cS s') m' h'
noncomputable def YB (N : Nat) (be : Nat) (v : QV) : Ctx := vO [(86, Ov N), (117, MX), (118, ZK), (148, OB (DV 1) FO), (149, OB JI O9), (150, OB JJ Pp), (151, OB JG OY), (152, OB (DV 2) Nf), (153, OB zS NH), (154, OB zS NQ), (155, OB JH O7), (156, OB Cc EV)]
 [(7, { A := Nat × List Value × MH × PH, st := λ ⟨i, l, m, h⟩ => cH 57 59 [(0, pv be), (3, .at (.ptr 3 0)), (6, .at (.lst 33)), (35, sv v.args), (36, iv v.args.len), (37, iv i)] [(3, .cells 38 (v.enc.map .val)), (33, .lst 158 1 (l.map λ x => [x]))] m h })] [] [] [] [] false
abbrev uG (a : CV -> MH -> PH -> Prop) (b : Nat) (c : MH) (d : PH) : Prop := a (CV.val (Value.agg (Array.mk (iK (kM b))))) c d
attribute [push_cast] uG
def VF (op : Int) (m : MH) (h : PH) (K : CV -> MH -> PH -> Prop) : Prop :=
  cW (op == 2) (uG K 148 m h) (op == 3) (uG K 149 m h) (cW (op == 4) (uG K 150 m h) (op == 5) (uG K 151 m h) (cW (op == 6) (uG K 152 m h) (op == 7) (uG K 153 m h) (cW (op == 8) (uG K 154 m h) (op == 9) (uG K 155 m h) (uG K 156 m h))))
noncomputable abbrev De (a : Nat × List Value × MH × PH) : List (List Value) := List.map (fun (x : Value) => iK x) a.2.1
noncomputable abbrev rI (a : Nat × List Value × MH × PH) : Nat -> Option Obj := a.2.2.1
abbrev GD (a : Sl -> (List (List (List VV))) -> Prop) : Prop := ∃ (x : Sl) (x1 : List (List (List VV))), a x x1
abbrev uI (a : Prop) (b : Nat × List Value × MH × PH) (c : Sl -> PH -> QV -> Sl -> Query -> (List Nat) -> (List (List (List VV))) -> Prop) : Prop := a -> bH b.2.2.2 1 (List.map (fun (x : Value) => iK x) b.2.1) (λ x x1 => ∃ (x2 : QV) (x3 : Sl) (x4 : Query), NG (λ x5 x6 => c x x1 x2 x3 x4 x5 x6))
abbrev uH (a : QV) (b : Sl) (c : QV) (d : Sl) (e : PH) (g : Query) (i : List Nat) (j : List (List (List VV))) (k : Nat × List Value × MH × PH) (l n : Prop) : Prop := aA (aX (aR a) (cK b) = aX (aR c) (cK d)) (cR e g c) (aA (CO e d i j) (jY (rI k)) (l /\ n))
attribute [push_cast] De rI GD uI uH
def PL (N : Nat) (be : Nat) (v : QV) (m : MH) (h : PH) (K : CV -> MH -> PH -> Prop) : Prop :=
  dN v.op 1 (hP m h be 0 (λ y => ∃ (y1 : Int), aL m h be 1 (bZ y1) /\ aT (λ b o => aA (aU y.a b o) (0 <= y1) (y1 < aG y /\ ∃ (y2 : Sl), aL m h b (fM o y1 1) (aM y2) /\ tV m h be 1 (λ y3 => oO m be 1 (bZ (dZ (y3 + 1))) (λ m1 => K (cK y2) m1 h)))))) (aA (cA (aG v.args)) (aG v.args <= aG v.args) (aA (qJ (aG v.args * 8)) (qJ (aG v.args)) (∃ (I : Nat × List Value × MH × PH -> Prop) (m1 : Nat × List Value × MH × PH -> Nat), (∃ (x : Nat × List Value × MH × PH), aA (I x) (dE be) (aA (eP 3) (eL 33) (aA (aI v.args) (bI v.args) (aA (bC x.1) (fC v) (bM (Option.some (Own.lst 158 1 (List.replicate (aG v.args).toNat IT)) = Option.some (Own.lst 158 1 (De x))) (bJ m x.2.2) (cE h x.2.2)))))) /\ ∀ (x : Nat × List Value × MH × PH), I x -> bA (↑x.1 : Int) (aG v.args)
 (aT (λ b o => aA (aU v.args.a b o) (0 <= (↑x.1 : Int)) ((↑x.1 : Int) < aG v.args /\ ∃ (y : QV), aL (rI x) x.2.2.2 b (bN o x.1 21) y.enc /\ ∃ (b1 : Nat), oF (λ v1 q => GD (λ l l1 => ∃ (k : Nat), aA (aX (iH be) (aR y) = aX (iH b1) (aR v1)) (cR x.2.2.2 q v1) (aA (qE q N) (jO (b1 = 1)) (aA (x.2.2.1 b1 = Option.some (eV (Array.mk (iD (eA l) (dQ (↑k : Int)))) 128 0)) (Leaves x.2.2.2 l l1) (aA (jY (rI x)) (UK l1 q k) (∀ (s : Sl), dW (λ m2 h1 => dG x.2.2.2 h1 (Rows h1 s (iY l1 q k).1) (bG (rI x) m2 b1 (iD (eA l) (dQ (↑(iY l1 q k).2 : Int))) 128 -> ∃ (s1 : Sl), jT (fU s = fU s1) (λ b2 => ∀ (h2 : PH), dG h1 h2 (aZ h2 b2 0 (aM s1)) (aA (cA (↑x.1 : Int)) ((↑x.1 : Int) < j3 (De x)) (∃ (e : List Value), aA (uO (De x) (rF x.1) e) (0 <
 e.length) (∃ (x1 : Nat × List Value × MH × PH), aA (I x1) (m1 x1 < m1 x) (aA (dE be) (eP 3) (aA (eL 33) (aI v.args) (aA (bI v.args) (fK (bE x.1 1) = bV x1.1) (lX (fC v) (Option.some (Own.lst 158 1 (List.set (De x) (rF x.1) (xR b2 0 :: List.drop 1 e))) = Option.some (Own.lst 158 1 (De x1))) (bJ m2 x1.2.2) (cE h2 x1.2.2)))))))))))))))))))) (∃ (o : Int), aA (mR (dH v.op) = mR (dH o)) (uI (o = 2) x (λ s h1 v1 t q b l => uH v s v1 t h1 q b l x (DV 1 q l) (lM h1 (FO q l) K (rI x)))) (aA (uI (o = 3) x (λ s h1 v1 t q b l => uH v s v1 t h1 q b l x (JI q l) (lM h1 (O9 q l) K (rI x)))) (uI (o = 4) x (λ s h1 v1 t q b l => uH v s v1 t h1 q b l x (JJ q l) (lM h1 (Pp q l) K (rI x)))) (aA (uI (o = 5) x (λ s h1 v1 t q b l => uH v s v1 t h1
 q b l x (JG q l) (lM h1 (OY q l) K (rI x)))) (uI (o = 6) x (λ s h1 v1 t q b l => uH v s v1 t h1 q b l x (DV 2 q l) (lM h1 (Nf q l) K (rI x)))) (aA (uI (o = 7) x (λ s h1 v1 t q b l => uH v s v1 t h1 q b l x (zS q l) (lM h1 (NH q l) K (rI x)))) (uI (o = 8) x (λ s h1 v1 t q b l => uH v s v1 t h1 q b l x (zS q l) (lM h1 (NQ q l) K (rI x)))) (uI (o = 9) x (λ s h1 v1 t q b l => uH v s v1 t h1 q b l x (JH q l) (lM h1 (O7 q l) K (rI x))) /\ uI (aA (jO (o = 2)) (jO (o = 3)) (aA (jO (o = 4)) (jO (o = 5)) (aA (jO (o = 6)) (jO (o = 7)) (jO (o = 8) /\ jO (o = 9))))) x (λ s h1 v1 t q b l => uH v s v1 t h1 q b l x (Cc q l) (lM h1 (EV q l) K (rI x)))))))))))
theorem SC : Sound Tryz.prog 118 ZK := by
 refine gX Tryz.func118 ?_
 rintro cvs m h K ⟨op, rfl, h2, h3, h4, h5, h6, h7, h8, h9, hK⟩
 refine ⟨dM [] [] [] [] false, rfl, aF, VF op m h K, by kernel_rfl, ?_⟩
 exact (aB (λ e => h2 (by simpa using e)) λ e2 => aB (λ e => h3 (by simpa using e)) λ e3 => aB (λ e => h4 (by simpa using e)) λ e4 => aB (λ e => h5 (by simpa using e)) λ e5 => aB (λ e => h6 (by simpa using e)) λ e6 => aB (λ e => h7 (by simpa using e)) λ e7 => aB (λ e => h8 (by simpa using e)) λ e8 => aB (λ e => h9 (by simpa using e)) λ e9 => hK ⟨by simpa using e2, by simpa using e3, by simpa using e4, by simpa using e5, by simpa using e6, by simpa using e7, by simpa using e8, by simpa using e9⟩)
theorem H0 {ls : List (List (List VV))} {q : Query} : ∀ {a : List Query} {k : Nat}, eN ls (a ++ [q]) k = ((eN ls a k).1 ++ [(iY ls q (eN ls a k).2).1], (iY ls q (eN ls a k).2).2)
 | [], k => by simp [eN]
 | p :: a, k => by
  rw [List.cons_append, eN, H0]
  simp [eN]
theorem TE {ls : List (List (List VV))} {q : Query} {b : List Query} : ∀ {a : List Query} {k : Nat}, Pg ls (a ++ q :: b) k -> UK ls q (eN ls a k).2
 | [], k, h => by rw [List.nil_append, Pg] at h; simpa [eN] using h.1
 | p :: a, k, h => by
  rw [List.cons_append, Pg] at h
  rw [eN]
  exact TE h.2
theorem Es {ls : List (List (List VV))} : ∀ {a : List Query} {k : Nat}, (eN ls a k).1.length = a.length
 | [], k => by simp [eN]
 | p :: a, k => by rw [eN]; simp [Es]
theorem TR : ∀ N, Sound Tryz.prog 86 (Ov N)
 | 0 => by
  refine eK (fn := Tryz.f86) (c := dK Tryz.f86) Tryz.func86 rfl (by decide) ?_
  rintro cvs m h K ⟨be, v, q, lv, ls, k, rfl, _, hN, _⟩
  omega
 | N + 1 => by
  refine gX Tryz.func86 ?_
  rintro cvs m h K ⟨be, v, q, lv, ls, k, rfl, hq, hN, hb1, hbe, hlv, hT, hok, hK⟩
  refine ⟨YB N be v, rfl, aD (TR N) (aD SD (aD SC (aD Sc (aD Sb (aD Sa (aD R9 (aD R8 (aD R7 (aD R6 (aD R5 (aD R4 aF))))))))))), PL N be v m h K, by kernel_rfl, ?_⟩
  dsimp only [PL, push_cast]
  obtain ⟨op, ta, w, co, on, gr, od, li, args⟩ := q
  have xq := hq.parts
  rw [iY] at hK
  rw [UK] at hok
  have hvop : v.op = op := xq.op_
  refine aB (λ e => ?_) (λ e => ?_)
  . have e : op = 1 := by rw [<- hvop]; simpa using e
    rw [if_pos e] at hok
    simp only [if_pos e] at hK
    have hlen := bW.slen hlv
    obtain ⟨b, o, s, ea, rd, hr⟩ := bW.at hlv (kP hok)
    have r0 : aL m h be 0 [eA lv] := .of_m hbe rfl
    have r1 : aL m h be 1 [dQ (k : Nat)] := .of_m hbe rfl
    have hl5 := hlv.len
    refine ⟨lv, r0, k, r1, b, o, ea, aC, aC, s, .imm rd, k, r1, _, _, ⟨hbe⟩, by simp, λ m' hu => hK s m' h (.refl _) ?_ ?_⟩
    . rw [Hy, kP hok]; exact hr
    . have e5 : IntKind.i64.wrap ((k : Int) + 1) = ((k + 1 : Nat) : Int) := by rw [kC aC]
      rw [e5] at hu
      exact hu
  . have e : op ≠ 1 := by rw [<- hvop]; simpa using e
    rw [if_neg e] at hok
    simp only [if_neg e] at hK
    obtain ⟨hop, hoks⟩ := hok
    have hargs := xq.args_
    have hal := bW.slen hargs
    have hal2 := bW.len hargs
    refine ⟨aC, aC, aC, aC, λ z => z.1 <= args.length /\ PH.le h z.2.2.2 /\ jH m z.2.2.1 be (.cells #[Sl.val lv, .int .i64 ((eN ls (args.take z.1) k).2 : Nat)] 128 (0, 0)) /\ ∃ bs : List Nat, bs.length = z.1 /\ z.2.1 = bs.map K9 ++ List.replicate (args.length - z.1) .nilFunc /\ ∀ j b l, bs[j]? = some b -> (eN ls (args.take z.1) k).1[j]? = some l -> Lh z.2.2.2 b l, λ z => args.length - z.1,
     ⟨(0, List.replicate args.length .nilFunc, m, h), ⟨by simp, .refl _, ⟨by dsimp only; rw [List.take_zero, eN]; exact hbe, λ _ _ => rfl⟩, [], rfl, by simp, λ j b l h1 _ => by rw [List.getElem?_nil] at h1; cases h1⟩, ?_⟩, ?_⟩
    . rw [show ((v.args.len : Int)).toNat = args.length by omega]
      dsimp only
      rw [List.map_replicate]
      exact MT
    . rintro ⟨i, l, zm, zh⟩ ⟨hi, lez, hu, bs, hbs, hl, hseq⟩
      dsimp only at hi lez hu hbs hl hseq ⊢
      have hTz : jY zm := by
       obtain ⟨T, fz, e1⟩ := hT
       exact ⟨T, fz, by rw [hu.other 1 (Ne.symm hb1)]; exact e1⟩
      refine aE (λ hlt => ?_) (λ hge => ?_)
      . obtain ⟨p, hp⟩ := fE hal hlt
        obtain ⟨b, o, u, ea, hrd, hru⟩ := bW.at (zL.mono hargs lez) hp
        have hpl := (mG.1 hp).1
        have hsz : SizeOf.sizeOf p < N := by
         have := List.sizeOf_lt_of_mem (lP hp)
         simp only [Query.mk.sizeOf_spec] at hN
         omega
        have hsplit : args = args.take i ++ p :: args.drop (i + 1) := by
         have h5 : args[i] = p := (mG.1 hp).2
         rw [<- h5, List.getElem_cons_drop hpl, List.take_append_drop]
        have hokp : UK ls p (eN ls (args.take i) k).2 := TE (b := args.drop (i + 1)) (by rw [<- hsplit]; exact hoks)
        have hsn : eN ls (args.take (i + 1)) k = ((eN ls (args.take i) k).1 ++ [(iY ls p (eN ls (args.take i) k).2).1], (iY ls p (eN ls (args.take i) k).2).2) := by
         rw [EA, hp, Option.toList_some, H0]
        refine ⟨b, o, ea, aC, aC, u, .imm hrd, be, u, p, lv, ls, (eN ls (args.take i) k).2, rfl, hru, hsz, hb1, hu.at_, bW.mono hlv lez (λ l s hr => bW.mono hr lez λ r t hv => cJ.mono hv lez), hTz, hokp, λ s' m' h' le' hr' hu' => ⟨s', rfl, λ b2 h2 le2 hrd2 => ?_⟩⟩
        have hll : l.length = args.length := by rw [hl, BG, mI, XZ]; omega
        have hev : l[i]? = some .nilFunc := by
         rw [hl, Ji (by simp; omega), List.getElem?_replicate, if_pos (by simp; omega)]
        refine ⟨aC, by simp; omega, [.nilFunc], by simp [hev], by simp, (i + 1, l.set i (K9 b2), m', h2), ⟨by dsimp only; omega, lez.trans (le'.trans le2), ?_, bs ++ [b2], by simp [hbs], ?_, ?_⟩, by dsimp only; omega, ?_⟩
        . dsimp only
          rw [hsn]
          exact ⟨hu'.at_, λ b5 hb5 => by rw [hu'.other b5 hb5, hu.other b5 hb5]⟩
        . dsimp only
          rw [hl, List.set_append, if_neg (by simp; omega), xH, Q3]
          congr 1
          rw [show args.length - i = (args.length - (i + 1)) + 1 by omega, List.replicate_succ]
          simp [hbs]
        . dsimp only
          rw [hsn]
          intro j b5 l5 h5 h6
          have hel : (eN ls (args.take i) k).1.length = bs.length := by rw [Es, Hz]; omega
          by_cases hj : j < bs.length
          . rw [Na hj] at h5
            rw [Na aC] at h6
            exact (hseq j b5 l5 h5 h6).mono (le'.trans le2)
          . rw [Ji aC] at h5
            rw [Ji aC] at h6
            have : j - bs.length = 0 := by have := (mG.1 h5).1; simp at this; omega
            rw [this] at h5
            rw [hel, this] at h6
            simp at h5 h6
            subst h5 h6
            obtain ⟨us, h7, h8⟩ := (show ∃ us, cN h' s' 1 (us.map eS) /\ eF h' us _ from by
             obtain ⟨us, h7, h8, h9⟩ := hr'.ex
             exact ⟨us, h7, h8.symm, h9⟩)
            exact ⟨us, ⟨s', hrd2, h7.mono le2, by have h9 := hr'.len; rw [h8.len]; exact h9⟩, h8.mono le2⟩
        . dsimp only
          rw [kC aC]
          have e9 : ((l.map λ x => [x]).set ((i : Int)).toNat (K9 b2 :: List.drop 1 [.nilFunc])) = (l.set i (K9 b2)).map λ x => [x] := by
           rw [List.map_set]; rfl
          exact ⟨MT, rfl, rfl, rfl, rfl, rfl, rfl, by rw [<- e9]; rfl, rfl, rfl, trivial⟩
      . have hi2 : i = args.length := by omega
        subst hi2
        rw [Ig] at hu hseq
        rw [Nat.sub_self, List.replicate_zero, OE] at hl
        have fin : ∀ {okF : Query -> List (List (List VV)) -> Prop} {f : Query -> List (List (List VV)) -> List (List VV)}, okF (.mk op ta w co on gr od li args) (eN ls args k).1 -> Z7 op (.mk op ta w co on gr od li args) (eN ls args k).1 = f (.mk op ta w co on gr od li args) (eN ls args k).1 -> ∀ (s : Sl) (h' : PH), zh.le h' -> cN h' s 1 (l.map λ x => [x]) ->
         ∃ (v1 : QV) (t : Sl) (q : Query) (bs : List Nat) (ls : List (List (List VV))), [aQ v, cS s] = [aQ v1, cS t] /\ cR h' q v1 /\ CO h' t bs ls /\ jY zm /\ okF q ls /\ ∀ (s' : Sl) (h'_1 : PH), h'.le h'_1 -> Rows h'_1 s' (f q ls) -> K (cS s') zm h'_1 := fun {okF f} h1 h2 s h' le' hri => by
         refine ⟨v, s, _, bs, _, rfl, hq.mono (lez.trans le'), ⟨?_, by rw [Es]; exact hbs, λ j b l5 h5 h6 => (hseq j b l5 h5 h6).mono le'⟩, hTz, h1, λ s' h'' le'' hr => hK s' zm h'' (lez.trans (le'.trans le'')) (by rw [h2]; exact hr) hu⟩
         rw [hl, List.map_map] at hri
         exact hri
        have hop2 := hop
        refine ⟨op, by rw [hvop], λ e2 => fin (okF := DV 1) ?_ ?_, λ e2 => fin (okF := JI) ?_ ?_, λ e2 => fin (okF := JJ) ?_ ?_, λ e2 => fin (okF := JG) ?_ ?_, λ e2 => fin (okF := DV 2) ?_ ?_, λ e2 => fin (okF := zS) ?_ ?_, λ e2 => fin (okF := zS) ?_ ?_, λ e2 => fin (okF := JH) ?_ ?_, λ e2 => fin (okF := Cc) ?_ ?_⟩
        all_goals first
         | (subst e2; exact hop)
         | (subst e2; rfl)
         | (obtain ⟨h2, h3, h4, h5, h6, h7, h8, h9⟩ := e2; first | (rw [Z8, if_neg h2, if_neg h3, if_neg h4, if_neg h5, if_neg h6, if_neg h7, if_neg h8, if_neg h9] at hop; exact hop) | (rw [Z7, if_neg h2, if_neg h3, if_neg h4, if_neg h5, if_neg h6, if_neg h7, if_neg h8, if_neg h9]))
def Uu : Vc.Spec := λ cvs m h K => ∃ s r, cvs = [cS s] /\ cJ h s r /\ r.length <= 1000 /\ ∀ s' h', PH.le h h' -> cJ h' s' r -> K (cS s') m h'
def Ud : Vc.Spec := λ cvs m h K => ∃ lv v ls q, cvs = [cS lv, aQ v] /\ Leaves h lv ls /\ cR h q v /\ UK ls q 0 /\ jY m /\ (iY ls q 0).1.length <= 1000000 /\ (∀ r ∈ (iY ls q 0).1, r.length <= 1000) /\ ∀ s' h', PH.le h h' -> Rows h' s' (iY ls q 0).1 -> K (cS s') m h'
noncomputable def f58_ctx (N : Nat) : Ctx := vO [(86, Ov N), (87, Uu)] [(5, { A := Nat × List Sl × Sl × MH × PH, st := λ ⟨i, us, s, m, h⟩ => cH 31 33 [(7, .at (.lst 16)), (17, sv s), (18, iv s.len), (19, iv i)] [(16, .lst 74 1 (us.map eS))] m h })] [] [] [200005] [] false
def PK (a : Addr) (n c : Nat) (m : MH) (h : PH) (K : CV -> MH -> PH -> Prop) : Prop :=
  ∃ (y : List (List Value)), aA (dY 3 y) (cN h (Sl.mk (Option.some a) n c) 3 y) (aA (gH (A7 y * 32)) (gH (A7 y)) (bH h 3 ([] ++ y) (λ s h1 => K (cK s) m h1)))
theorem aaJ (a : Addr) (n c : Nat) (m : MH) (h : PH) (K : CV -> MH -> PH -> Prop) : PK a n c m h K = (Ap (dM [] [] [] [] false) Tryz.f87 (dK Tryz.f87) (entry Tryz.f87.ntmps [.val (.slice (some a) n c)] m h) K) := by kernel_rfl
def LO (n c : Nat) (m : MH) (h : PH) (K : CV -> MH -> PH -> Prop) : Prop :=
  K jZ m h
theorem YA (n c : Nat) (m : MH) (h : PH) (K : CV -> MH -> PH -> Prop) : LO n c m h K = (Ap (dM [] [] [] [] false) Tryz.f87 (dK Tryz.f87) (entry Tryz.f87.ntmps [.val (.slice none n c)] m h) K) := by kernel_rfl
abbrev Fi (a : List CV) (b : Nat -> Nat -> Option Value) (c : Sl -> PH -> Prop) : Prop := nN (λ x x1 => aA (a = fU x) (cJ b x x1) (oC x1.length /\ qT (λ x2 x3 => dG b x3 (cJ x3 x2 x1) (c x2 x3))))
attribute [push_cast] Fi
def f58_nice (N : Nat) (lv : Sl) (v : QV) (m : MH) (h : PH) (K : CV -> MH -> PH -> Prop) : Prop :=
  ∀ (b : Nat) (m1 : MH), bK (cD m h b) (bG m m1 b (iD sR bO) 128) (gG (λ c E => aA (uT m1 b (eV c E 0)) (2 <= c.size) (∀ (m2 : MH), bG m1 m2 b (aJ (eA lv) bO (List.drop 2 c.toList)) E -> ∃ (b1 : Nat), oF (λ v1 q => GD (λ l l1 => ∃ (k : Nat), aA (aX (iH b) (aR v) = aX (iH b1) (aR v1)) (cR h q v1) (aA (qE q N) (jO (b1 = 1)) (aA (m2 b1 = Option.some (eV (Array.mk (iD (eA l) (dQ (↑k : Int)))) 128 0)) (Leaves h l l1) (aA (jY m2) (UK l1 q k) (∀ (s : Sl), dW (λ m3 h1 => dG h h1 (Rows h1 s (iY l1 q k).1) (bG m2 m3 b1 (iD (eA l) (dQ (↑(iY l1 q k).2 : Int))) 128 -> aA (cA (aG s)) (aG s <= aG s) (aA (qJ (aG s * 24)) (qJ (aG s)) (IJ (λ I x => aA (I x) (eL 16) (aA (bD s (dR x)) (cM s (dR x)) (aA (bC x.1) (Option.some
 (Own.lst 74 1 (List.replicate (aG s).toNat hU)) = Option.some (Own.lst 74 1 (jA x))) (aA (bJ m3 (mD x).2) (cE h1 (mD x).2) True)))) (λ I m4 x => I x -> bA (↑x.1 : Int) (aG (dR x)) (aT (λ b2 o => aA (aU (dR x).a b2 o) (0 <= (↑x.1 : Int)) ((↑x.1 : Int) < aG (dR x) /\ ∃ (y : Sl), aL (mV x) (oB x) b2 (bN o x.1 1) (aM y) /\ Fi (fU y) (oB x) (λ s1 h2 => aA (cA (↑x.1 : Int)) ((↑x.1 : Int) < j3 (jA x)) (∃ (e : List Value), JV (uO (jA x) (rF x.1) e) (0 < e.length) (λ x1 => aA (I x1) (m4 x1 < m4 x) (aA (eL 16) (bD (dR x) (dR x1)) (aA (cM (dR x) (dR x1)) (fK (bE x.1 1) = bV x1.1) (aA (pX (List.set (jA x) (rF x.1) (eA s1 :: List.drop 1 e)) (jA x1)) (bJ (mV x) (mD x1).2) (lF h2 (mD x1).2))))))))))
 (bH (oB x) 1 (jA x) (λ s1 h2 => K (cK s1) (mV x) h2))))))))))))))))
theorem U5 : Sound Tryz.prog 87 Uu := by
 refine eK (fn := Tryz.f87) (c := dK Tryz.f87) Tryz.func87 rfl (by decide) ?_
 rintro cvs m h K ⟨⟨a, n, c⟩, r, rfl, hs, hl, hK⟩
 refine ⟨dM [] [] [] [] false, rfl, aF, ?_⟩
 cases a with
 | none =>
  show Ap _ Tryz.f87 (dK Tryz.f87) (entry Tryz.f87.ntmps [.val (.slice none n c)] m h) K
  rw [<- YA n c m h K]
  dsimp only [LO, push_cast]
  refine hK ⟨none, 0, 0⟩ h (.refl _) ?_
  cases r with
  | nil => exact ⟨⟨[], cN.nil _ _, rfl, λ i x hx => by simp at hx⟩, by simp⟩
  | cons x r =>
   obtain ⟨b, o, v, e, _⟩ := bW.at hs (i := 0) (x := x) rfl
   cases e
 | some a =>
  show Ap _ Tryz.f87 (dK Tryz.f87) (entry Tryz.f87.ntmps [.val (.slice (some a) n c)] m h) K
  rw [<- aaJ a n c m h K]
  dsimp only [PK, push_cast]
  obtain ⟨⟨vs, h1, h2, h3⟩, h4⟩ := hs
  refine ⟨vs.map VV.enc, ?_, h1, by rw [mI]; omega, by rw [mI]; omega, λ s h' le hri => hK s h' le ⟨⟨vs, by simpa using hri, h2, h3⟩, h4⟩⟩
  constructor
  . intro e he; obtain ⟨x, _, rfl⟩ := mH.1 he; rfl
  . intro e he u hu
    obtain ⟨x, _, rfl⟩ := mH.1 he
    simp [VV.enc] at hu
    rcases hu with rfl | rfl | rfl <;> rfl
theorem f58_sound : Sound Tryz.prog 58 Ud := by
 refine FN Tryz.func58 ?_
 rintro cvs m h K ⟨lv, v, ls, q, rfl, hlv, hq, hok, hT, hl, hw, hK⟩
 refine ⟨f58_ctx (SizeOf.sizeOf q + 1), rfl, aD (TR _) (aD U5 aF), f58_nice (SizeOf.sizeOf q + 1) lv v m h (kB h K), by kernel_rfl, ?_⟩
 dsimp only [f58_nice, push_cast]
 intro b m1 hb1 hu1
 obtain ⟨s1, n1⟩ := gE (Sub.refl m) hb1 hu1
 refine ⟨_, _, ⟨hu1.at_⟩, by simp, λ m2 hu2 => ?_⟩
 have s2 : Sub m m2 := s1.upd n1 hu2.other
 have hb1' : b ≠ 1 := λ e => by
  obtain ⟨T, fz, e1⟩ := hT
  rw [<- e, n1] at e1; cases e1
 refine ⟨b, v, q, lv, ls, 0, rfl, hq, aC, hb1', hu2.at_, hlv, hT.sub s2, hok, λ s m3 h3 le3 hr hu3 => ?_⟩
 have s3 : Sub m m3 := s2.upd n1 hu3.other
 generalize (iY ls q 0).1 = rs at hl hw hK hr
 have hsl := bW.slen hr
 refine ⟨aC, aC, aC, aC, λ z => z.1 <= rs.length /\ z.2.2.1 = s /\ z.2.2.2.1 = m3 /\ PH.le h3 z.2.2.2.2 /\ ∃ us, z.2.1 = us ++ List.replicate (rs.length - z.1) ⟨none, 0, 0⟩ /\ eF z.2.2.2.2 us (rs.take z.1), λ z => rs.length - z.1, ⟨(0, List.replicate rs.length ⟨none, 0, 0⟩, s, m3, h3), ⟨by simp, rfl, rfl, .refl _, [], by simp, by simpa using eF.nil h3⟩, ?_⟩, ?_⟩
 . rw [show ((s.len : Int)).toNat = rs.length by omega]
   dsimp only
   rw [List.map_replicate]
   exact MT
 . rintro ⟨i, us', s', m', hz⟩ ⟨hi, e1, e2, le4, us, hus, hru⟩
   dsimp only at hi e1 e2 le4 hus hru ⊢
   subst e1 e2
   have hul := hru.len
   rw [Hz] at hul
   refine aE (λ hlt => ?_) (λ hge => ?_)
   . have hil : i < rs.length := by omega
     obtain ⟨b2, o, u, ea, rd, hv⟩ := bW.at hr (kP hil)
     have hlen : us'.length = rs.length := by rw [hus, BG, XZ]; omega
     have hev : us'[i]? = some ⟨none, 0, 0⟩ := by
      rw [hus, Ji aC, List.getElem?_replicate, if_pos aC]
     refine ⟨b2, o, ea, aC, aC, u, .imm ((rd.mono le4)), u, rs[i], rfl, cJ.mono hv le4, hw _ (Q8 _), λ sc h5 le5 hvc => ⟨aC, by rw [mI]; omega, [sR], by rw [AD, show ((i : Int)).toNat = i from rfl, hev]; rfl, by simp, (i + 1, us'.set i sc, s', m', h5), ⟨by dsimp only; omega, rfl, rfl, le4.trans le5, us ++ [sc], ?_, ?_⟩, by dsimp only; omega, ?_⟩⟩
     . dsimp only
       rw [hus, List.set_append, if_neg aC, Q3]
       congr 1
       rw [show rs.length - i = (rs.length - (i + 1)) + 1 by omega, List.replicate_succ, show i - us.length = 0 by omega]
       rfl
     . dsimp only
       rw [EA, kP hil]
       exact (hru.mono le5).snoc hvc
     . dsimp only
       have e9 : ((us'.map eS).set ((i : Int)).toNat (eA sc :: List.drop 1 [sR])) = (us'.set i sc).map eS := by
        rw [List.map_set]; rfl
       exact ⟨MT, rfl, rfl, by rw [kC aC], by rw [<- e9], rfl, rfl, trivial⟩
   . have : i = rs.length := by omega
     subst this
     rw [Nat.sub_self, List.replicate_zero, OE] at hus
     subst hus
     rw [Ig] at hru
     intro s6 h6 le6 hri
     exact ⟨m, h6, s3, le3.trans (le4.trans le6), .refl _, hK s6 h6 (le3.trans (le4.trans le6)) ((hru.mono le6).rows hri aC)⟩
mutual
def qW (h : PH) : Query -> QV -> Nat -> List (Nat × QV) -> Prop
 | .mk _ _ _ _ _ _ _ _ args, v, d, es => ∃ vs ess, cN h v.args 21 (vs.map QV.enc) /\ gT h args vs (d + 1) ess /\ es = (d, v) :: ess
def gT (h : PH) : List Query -> List QV -> Nat -> List (Nat × QV) -> Prop
 | [], vs, _, es => vs = [] /\ es = []
 | q :: qs, vs, d, es => ∃ v vs' e1 e2, vs = v :: vs' /\ cR h q v /\ qW h q v d e1 /\ gT h qs vs' d e2 /\ es = e1 ++ e2
end
def Zm (e : Nat × QV) : List Value := [.int .i64 (e.1 : Nat), .agg e.2.enc.toArray]
def Of (N : Nat) : Vc.Spec := λ cvs m h K => ∃ (v : QV) (q : Query) (d l k0 : Nat) (es xs : List (Nat × QV)) (J : Nat -> MH -> PH -> Prop), cvs = [aQ v, cI d, .val (.func (.yield l) #[] #[])] /\ qW h q v d es /\ SizeOf.sizeOf q < N /\ d + u6 q <= 1000000 /\ (∀ j e, es[j]? = some e -> xs[k0 + j]? = some e) /\ J k0 m h /\
 (∀ k e m' h', xs[k]? = some e -> PH.le h h' -> J k m' h' -> YDo Tryz.prog l (Zm e) m' h' (λ r m2 h2 => r = true /\ PH.le h' h2 /\ J (k + 1) m2 h2)) /\
 ∀ m' h', PH.le h h' -> J (k0 + es.length) m' h' -> K (cB true) m' h'
noncomputable def VG (N : Nat) (v : QV) (d l : Nat) : Ctx :=
 { dM [(115, Of N)] [(4, { A := Nat × MH × PH, st := λ ⟨i, m, h⟩ => cH 28 31 [(1, iv d), (2, vv (.func (.yield l) #[] #[])), (15, sv v.args), (16, iv v.args.len), (17, iv i)] [] m h })] [] [] false with yield := some (Xv Tryz.prog) }
def Je : PH -> List Value -> List (List Value) -> Prop := λ h caps xs => ∃ b v q es, caps = [.pointer (some ⟨b, 0, none⟩)] /\ aZ h b 0 (QV.enc v) /\ qW h q v 1 es /\ u6 q <= 900000 /\ xs = es.map Zm
def Oe : Vc.Spec := λ cvs m h K => ∃ v, cvs = [aQ v] /\ ∀ b h', PH.le h h' -> aZ h' b 0 (QV.enc v) -> K (.val (.func (.func 114) #[] #[.pointer (some ⟨b, 0, none⟩)])) m h'
abbrev JQ (a : Nat -> (Nat × QV) -> Prop) : Prop := ∀ (x : Nat) (x1 : Nat × QV), a x x1
abbrev Bs (a : List (Nat × QV)) (b : Nat) (c : Nat × QV) : Prop := a[b]? = Option.some c
attribute [push_cast] JQ Bs
def Kv (N : Nat) (v : QV) (d l : Nat) (m : MH) (h : PH) (K : CV -> MH -> PH -> Prop) : Prop :=
  Od Proofs.Tryz.prog (Xv Proofs.Tryz.prog) /\ ∃ (l1 : Nat) (v1 : List Value) (R : Bool -> MH -> PH -> Prop), aA (wL l :: aX (dH (↑d : Int)) (aR v) = wL l1 :: List.map CV.val v1) (YDo Proofs.Tryz.prog l1 v1 m h R) (∀ (u : Bool), dW (λ m1 h1 => fP (R u m1 h1) (!u) (K aW m1 h1) (∃ (I : Nat × MH × PH -> Prop) (m2 : Nat × MH × PH -> Nat), (∃ (x : Nat × MH × PH), aA (I x) (eQ (bV d)) (aA (Fu l) (aI v.args) (aA (bI v.args) (bC x.1) (aA (bJ m1 x.2) (cE h1 x.2) True)))) /\ ∀ (x : Nat × MH × PH), I x -> bA (↑x.1 : Int) (aG v.args) (aT (λ b o => aA (aU v.args.a b o) (0 <= (↑x.1 : Int)) ((↑x.1 : Int) < aG v.args /\ ∃ (y : QV), aL (dD x) (cO x) b (bN o x.1 21) y.enc /\ oF (λ v2 q => aT (λ d1 l2 => ∃ (k : Nat) (e x1 : List (Nat × QV)) (J : Nat -> MH -> PH -> Prop), aA (aR y :: aX (dH (bE
 d 1)) (wL l) = aR v2 :: aX (dH (↑d1 : Int)) (wL l2)) (qW (cO x) q v2 d1 e) (aA (qE q N) (d1 + u6 q <= 1000000) (aA (JQ (λ j e1 => Bs e j e1 -> Bs x1 (k + j) e1)) (J k (dD x) (cO x)) (JQ (λ k1 e1 => dW (λ m3 h2 => bK (Bs x1 k1 e1) (PH.le (cO x) h2) (J k1 m3 h2 -> YDo Proofs.Tryz.prog l2 (iD (dQ (↑e1.1 : Int)) (Value.agg (Array.mk e1.2.enc))) m3 h2 (fun (r : Bool) => fun (m4 : MH) => fun (h3 : PH) => aA (dX r) (PH.le h2 h3) (J (k1 + 1) m4 h3))))) /\ dW (λ m3 h2 => dG (cO x) h2 (J (k + e.length) m3 h2) (∃ (x2 : Nat × MH × PH), aA (I x2) (m2 x2 < m2 x) (aA (eQ (bV d)) (Fu l) (aA (aI v.args) (bI v.args) (aA (fK (bE x.1 1) = bV x2.1) (bJ m3 x2.2) (lF h2 x2.2)))))))))))))) (K fJ (dD x) (cO x)))))
def SF (N : Nat) (l bq : Nat) (m : MH) (h : PH) (K : CV -> MH -> PH -> Prop) : Prop :=
  ∃ (y : QV), aL m h bq 0 y.enc /\ oF (λ v q => aT (λ d l1 => ∃ (k : Nat) (e x : List (Nat × QV)) (J : Nat -> MH -> PH -> Prop), aA (aR y :: aX (dH 1) (wL l) = aR v :: aX (dH (↑d : Int)) (wL l1)) (qW h q v d e) (aA (qE q N) (d + u6 q <= 1000000) (aA (JQ (λ j e1 => Bs e j e1 -> Bs x (k + j) e1)) (J k m h) (JQ (λ k1 e1 => dW (λ m1 h1 => bK (Bs x k1 e1) (PH.le h h1) (J k1 m1 h1 -> YDo Proofs.Tryz.prog l1 (iD (dQ (↑e1.1 : Int)) (Value.agg (Array.mk e1.2.enc))) m1 h1 (fun (r : Bool) => fun (m2 : MH) => fun (h2 : PH) => aA (dX r) (PH.le h1 h2) (J (k1 + 1) m2 h2))))) /\ dW (λ m1 h1 => dG h h1 (J (k + e.length) m1 h1) (K (CV.tup []) m1 h1)))))))
def f57_nice (v : QV) (m : MH) (h : PH) (K : CV -> MH -> PH -> Prop) : Prop :=
  ∀ (b : Nat) (m1 : MH), bK (cD m h b) (bG m m1 b hU 33) (∃ (v1 : QV), jT (qA v = qA v1) (λ b1 => ∀ (h1 : PH), dG h h1 (aZ h1 b1 0 v1.enc) (∃ (S : PH -> List Value -> List (List Value) -> Prop) (x : List (Int × QV)) (I : Nat -> MH -> PH -> Prop), aA (CM Proofs.Tryz.prog 114 S) (S h1 (iK (UC b1 0)) (List.map (fun (x1 : Int × QV) => iD (dQ x1.1) (Value.agg (Array.mk x1.2.enc))) x)) (aA (I 0 m1 h1) (∀ (k : Nat) (e : Int) (e1 : QV), dW (λ m2 h2 => bK (x[k]? = Option.some (e, e1)) (PH.le h1 h2) (I k m2 h2 -> ∀ (b2 : Nat) (m3 : MH), bK (cD m2 h2 b2) (bG m2 m3 b2 zV 38) (gG (λ c E => aA (uT m3 b2 (eV c E 0)) (21 <= c.size) (∀ (m4 : MH), bG m3 m4 b2 (aJ (dQ e1.op) (mA e1) (aJ (lY e1) (dQ (mC e1)) (aJ (jI (fZ e1)) (rH (fZ e1)) (aJ (dQ (mZ (fZ e1))) (mS (fZ e1)) (aJ (lJ
 (fZ e1)) (jI (eZ e1)) (aJ (rH (eZ e1)) (dQ (mZ (eZ e1))) (aJ (mS (eZ e1)) (lJ (eZ e1)) (aJ (nL e1) (nM e1) (aJ (eA e1.on) (qL e1) (aJ (qM e1) (dQ e1.limit) (eU (tG e1) 21 c))))))))))) E -> tV m4 h2 b2 0 (λ y => dN y 1 (hP m4 h2 b 0 (λ y1 => ∃ (y2 : Int), aL m4 h2 b2 1 (bZ y2) /\ ∃ (x1 : List (List Value)), aA (dC m4 (dA y1) 3 1 x1) (gH ((x1.length + 1) * 8)) (iA x1 /\ gO (λ s m5 => eC m4 m5 (dA y1) s 3 1 (x1 ++ cT (bZ y2)) -> gG (λ c1 E1 => aA (uT m5 b (eV c1 E1 0)) (fD 0 c1) (∀ (m6 : MH), bG m5 m6 b (eU (eA s) 1 c1) E1 -> I (k + 1) m6 h2)))))) (I (k + 1) m4 h2)))))))) (dW (λ m2 h2 => dG h1 h2 (I x.length m2 h2) (hP m2 h2 b 0 (λ y => K (cK y) m2 h2))))))))
mutual
theorem qW.mono {h h' : PH} (le : PH.le h h') : ∀ {q : Query} {v : QV} {d : Nat} {es : List (Nat × QV)}, qW h q v d es -> qW h' q v d es
 | .mk _ _ _ _ _ _ _ _ args, v, d, es, w => by
  rw [qW] at w ⊢
  obtain ⟨vs, ess, h1, h2, h3⟩ := w
  exact ⟨vs, ess, h1.mono le, gT.mono le h2, h3⟩
theorem gT.mono {h h' : PH} (le : PH.le h h') : ∀ {qs : List Query} {vs : List QV} {d : Nat} {es : List (Nat × QV)}, gT h qs vs d es -> gT h' qs vs d es
 | [], vs, d, es, w => by rw [gT] at w ⊢; exact w
 | q :: qs, vs, d, es, w => by
  rw [gT] at w ⊢
  obtain ⟨v, vs', e1, e2, h1, h2, h3, h4, h5⟩ := w
  exact ⟨v, vs', e1, e2, h1, h2.mono le, qW.mono le h3, gT.mono le h4, h5⟩
end
theorem gT.len {h : PH} : ∀ {qs : List Query} {vs : List QV} {d : Nat} {es : List (Nat × QV)}, gT h qs vs d es -> vs.length = qs.length
 | [], vs, d, es, w => by rw [gT] at w; obtain ⟨rfl, _⟩ := w; rfl
 | q :: qs, vs, d, es, w => by
  rw [gT] at w
  obtain ⟨v, vs', e1, e2, h1, h2, h3, h4, h5⟩ := w
  rw [h1, Gi, Gi, gT.len h4]
mutual
theorem qW.of {h : PH} : ∀ {q : Query} {v : QV}, cR h q v -> ∀ d, ∃ es, qW h q v d es
 | .mk _ _ _ _ _ _ _ _ args, v, hq, d => by
  obtain ⟨_, _, _, _, _, _, _, _, _, vs, h10, h11⟩ := hq
  obtain ⟨es, he⟩ := gT.of h11 (d + 1)
  exact ⟨(d, v) :: es, by rw [qW]; exact ⟨vs, es, h10, he, rfl⟩⟩
theorem gT.of {h : PH} : ∀ {qs : List Query} {vs : List QV}, u9 h qs vs -> ∀ d, ∃ es, gT h qs vs d es
 | [], vs, hq, d => ⟨[], by rw [gT]; exact ⟨hq, rfl⟩⟩
 | q :: qs, vs, hq, d => by
  obtain ⟨v, vs', rfl, h1, h2⟩ := hq
  obtain ⟨e1, h3⟩ := qW.of h1 d
  obtain ⟨e2, h4⟩ := gT.of h2 d
  exact ⟨e1 ++ e2, by rw [gT]; exact ⟨v, vs', e1, e2, rfl, h1, h3, h4, rfl⟩⟩
end
mutual
def iZ : Query -> List Int
 | .mk op ta _ _ _ _ _ _ args => (if op = 1 then [ta] else []) ++ gU args
def gU : List Query -> List Int
 | [] => []
 | q :: qs => iZ q ++ gU qs
end
def xJ (es : List (Nat × QV)) : List Int := (es.filter λ e => e.2.op == 1).map λ e => e.2.table
theorem Gs {a b : List (Nat × QV)} : xJ (a ++ b) = xJ a ++ xJ b := by simp [xJ]
mutual
theorem qW.scans {h : PH} : ∀ {q : Query} {v : QV} {d : Nat} {es : List (Nat × QV)}, cR h q v -> qW h q v d es -> xJ es = iZ q
 | .mk op ta _ _ _ _ _ _ args, v, d, es, hq, w => by
  rw [qW] at w
  obtain ⟨vs, ess, h1, h2, rfl⟩ := w
  obtain ⟨h3, h4, _⟩ := hq
  rw [iZ, <- gT.scans h2, show ((d, v) :: ess) = [(d, v)] ++ ess from rfl, Gs]
  congr 1
  simp only [xJ, List.filter_cons, List.filter_nil, h3]
  by_cases e : op = 1
  . simp [e, h4]
  . simp [e]
theorem gT.scans {h : PH} : ∀ {qs : List Query} {vs : List QV} {d : Nat} {es : List (Nat × QV)}, gT h qs vs d es -> xJ es = gU qs
 | [], vs, d, es, w => by rw [gT] at w; rw [w.2]; rfl
 | q :: qs, vs, d, es, w => by
  rw [gT] at w
  obtain ⟨v, vs', e1, e2, h1, h2, h3, h4, rfl⟩ := w
  rw [Gs, gU, qW.scans h2 h3, gT.scans h4]
end
mutual
theorem qW.small {h : PH} : ∀ {q : Query} {v : QV} {d : Nat} {es : List (Nat × QV)}, qW h q v d es -> es.length <= u6 q
 | .mk op ta _ _ _ _ _ _ args, v, d, es, w => by
  rw [qW] at w
  obtain ⟨vs, ess, h1, h2, rfl⟩ := w
  have := gT.small h2
  simp only [Gi, u6]
  omega
theorem gT.small {h : PH} : ∀ {qs : List Query} {vs : List QV} {d : Nat} {es : List (Nat × QV)}, gT h qs vs d es -> es.length <= qU qs
 | [], vs, d, es, w => by rw [gT] at w; rw [w.2]; simp
 | q :: qs, vs, d, es, w => by
  rw [gT] at w
  obtain ⟨v, vs', e1, e2, h1, h2, h3, h4, rfl⟩ := w
  have h5 := qW.small h3
  have h6 := gT.small h4
  simp only [BG, qU]
  omega
end
theorem Zn : ∀ q : Query, 1 <= u6 q
 | .mk _ _ _ _ _ _ _ _ _ => by rw [u6]; omega
theorem TF : ∀ l : List Query, l.length <= qU l
 | [] => by simp
 | a :: l => by have := TF l; have := Zn a; simp only [Gi, qU]; omega
theorem T8 : ∀ {l : List Query} {a : Query}, a ∈ l -> u6 a <= qU l
 | b :: l, a, h => by
  rw [qU]
  rcases xA.1 h with rfl | h
  . omega
  . have := T8 h; omega
theorem MF : ∀ N, Sound Tryz.prog 115 (Of N)
 | 0 => by
  refine eK (fn := Tryz.f115) (c := dK Tryz.f115) Tryz.func115 rfl (by decide) ?_
  rintro cvs m h K ⟨v, q, d, l, k0, es, xs, J, rfl, _, hN, _⟩
  omega
 | N + 1 => by
  refine gX Tryz.func115 ?_
  rintro cvs m h K ⟨v, q, d, l, k0, es, xs, J, rfl, hw, hN, hd, hx, h0, hround, hend⟩
  refine ⟨VG N v d l, rfl, aD (MF N) aF, Kv N v d l m h K, by kernel_rfl, ?_⟩
  dsimp only [Kv, push_cast]
  obtain ⟨op, ta, w, co, on, gr, od, li, args⟩ := q
  rw [qW] at hw
  obtain ⟨vs, ess, hrow, hws, rfl⟩ := hw
  simp only [Query.mk.sizeOf_spec] at hN
  rw [u6] at hd
  have hvl := hws.len
  have hal := hrow.len
  have hls := TF args
  rw [mI] at hal
  refine ⟨Jk _, l, Zm (d, v), _, rfl, hround k0 (d, v) m h (hx 0 _ rfl) (.refl _) h0, ?_⟩
  rintro u m' h' ⟨rfl, le', hJ⟩
  refine aB (λ e => by cases e) (λ _ => ?_)
  refine ⟨λ z => z.1 <= args.length /\ PH.le h z.2.2 /\ ∃ e1 e2, ess = e1 ++ e2 /\ gT z.2.2 (args.drop z.1) (vs.drop z.1) (d + 1) e2 /\ J (k0 + 1 + e1.length) z.2.1 z.2.2, λ z => args.length - z.1, ⟨(0, m', h'), ⟨by simp, le', [], ess, rfl, hws.mono le', hJ⟩, MT⟩, ?_⟩
  rintro ⟨i, mz, hz⟩ ⟨hi, lez, e1, e2, hes, hwz, hJz⟩
  dsimp only at hi lez hwz hJz ⊢
  refine aE (λ hlt => ?_) (λ hge => ?_)
  . have hil : i < args.length := by omega
    rw [X2 hil, gT] at hwz
    obtain ⟨v1, vs', e11, e22, hvd, hq1, hw1, hws1, rfl⟩ := hwz
    have hvi : vs[i]? = some v1 := by
     have : (vs.drop i)[0]? = some v1 := by rw [hvd]; rfl
     simpa using this
    have hvd' : vs' = vs.drop (i + 1) := by
     have : (vs.drop i).drop 1 = vs' := by rw [hvd]; rfl
     rw [<- this, List.drop_drop]
    obtain ⟨b, o, ea, rd⟩ := hrow.get (i := i) (e := v1.enc) (by rw [AD, hvi]; rfl)
    have hsz := List.sizeOf_lt_of_mem (Q8 hil)
    have hcn := T8 (Q8 hil)
    refine ⟨b, o, ea, aC, aC, v1, .imm (rd.mono lez), v1, args[i], d + 1, l, k0 + 1 + e1.length, e11, xs, J, by rw [kC aC], hw1, aC, aC, λ j e hj => ?_, hJz, λ k e m2 h2 hk le2 hJ2 => hround k e m2 h2 hk (lez.trans le2) hJ2, λ m2 h2 le2 hJ2 => ⟨(i + 1, m2, h2), ⟨by dsimp only; omega, lez.trans le2, e1 ++ e11, e22, by rw [hes, Q3], ?_, ?_⟩, by dsimp only; omega, ?_⟩⟩
    . have h5 := (mG.1 hj).1
      have := hx (1 + e1.length + j) e (by
       rw [hes, show 1 + e1.length + j = (e1.length + j) + 1 by omega, Tm, Ji aC, show e1.length + j - e1.length = j by omega, Na h5]; exact hj)
      rw [show k0 + 1 + e1.length + j = k0 + (1 + e1.length + j) by omega]; exact this
    . dsimp only
      rw [<- hvd']; exact hws1.mono le2
    . dsimp only
      rw [BG, show k0 + 1 + (e1.length + e11.length) = k0 + 1 + e1.length + e11.length by omega]; exact hJ2
    . dsimp only
      rw [kC aC]; exact MT
  . have : i = args.length := by omega
    subst this
    rw [List.drop_of_length_le (BH _), gT] at hwz
    obtain ⟨_, rfl⟩ := hwz
    rw [OE] at hes
    subst hes
    exact hend mz hz lez (by rw [Gi, show k0 + (ess.length + 1) = k0 + 1 + ess.length by omega]; exact hJz)
theorem Qu : Sound Tryz.prog 114 (XQ Tryz.prog Je) := by
 refine gX Tryz.func114 ?_
 rintro cvs m h K ⟨l, caps, xs, J, rfl, ⟨b, v, q, es, rfl, hb, hw, hs, rfl⟩, h0, hround, hend⟩
 refine ⟨dM [(115, Of (SizeOf.sizeOf q + 1))] [] [] [] false, rfl, aD (MF _) aF, SF (SizeOf.sizeOf q + 1) l b m h K, by kernel_rfl, ?_⟩
 exact ⟨v, .imm hb, v, q, 1, l, 0, es, es, J, rfl, hw, aC, aC, λ j e hj => by rw [Ih]; exact hj, h0, λ k e m' h' hk le hJ => hround k (Zm e) m' h' (by rw [AD, hk]; rfl) le hJ, λ m' h' le hJ => hend _ m' h' le (by rw [mI]; rw [Ih] at hJ; exact hJ)⟩
theorem TH : CM Tryz.prog 114 Je := ⟨Qu⟩
theorem Kg : Sound Tryz.prog 80 Oe := by
 refine Yp Tryz.func80 ?_
 rintro cvs m h K ⟨v, rfl, hK⟩
 refine ⟨dM [] [] [] [] false, rfl, aF, PS v m h (cZ h K), by kernel_rfl, ?_⟩
 dsimp only [PS, push_cast]
 intro b m' hun hu _
 have sub : Sub m m' := (gE (Sub.refl m) hun hu).1
 refine ⟨m, kY h b (QV.enc v), sub, zC hun.h_, λ b' i v' e => ?_, hK b _ (zC hun.h_) TJ⟩
 by_cases hb : b' = b
 . subst hb
   simp only [kY, if_true] at e
   exact .inr ⟨_, _, _, hu.at_, by rw [<- BU]; exact e, hun.m_⟩
 . simp only [kY, if_neg hb] at e
   exact .inl e
structure VW (T E : TypeId) (m mx : MH) (b : Nat) (vs : List Value) : Prop where
 ex : ∃ s : Sl, mx b = some (.cells #[.slice s.a s.len s.cap] T (0, 0)) /\ dC mx s E 1 (vs.map λ v => [v]) /\ ∀ i x, s.a = some ⟨x, i, none⟩ -> m x = none
theorem VW.new {T E : TypeId} (hb : m' b = some (.cells #[sR] T (0, 0))) : VW T E m m' b [] := ⟨⟨none, 0, 0⟩, hb, ⟨⟨λ e he => by simp at he, λ e he => by simp at he⟩, .inl ⟨rfl, rfl⟩⟩, λ i x e => by cases e⟩
theorem Wm {T E : TypeId} {mx : MH} {s : Sl} {vs : List Value} {e : Value} {Q : MH -> Prop} (hmb : ∃ o, m b = some o) (hs : Ax m mx b) (hb : mx b = some (.cells #[.slice s.a s.len s.cap] T (0, 0))) (hrow : dC mx s E 1 (vs.map λ v => [v])) (hfr : ∀ i x, s.a = some ⟨x, i, none⟩ -> m x = none) (hQ : ∀ m', Ax m m' b -> VW T E m m' b (vs ++ [e]) -> Q m') :
 ∀ (s' : Sl) (m' : MH), eC mx m' (Sl.mk s.a s.len s.cap) s' E 1 ((vs.map λ v => [v]) ++ [[e]]) ->
  ∃ (cs : Array Value) (E : TypeId), uT m' b (.cells cs E (0, 0)) /\ 0 < cs.size /\ ∀ m2 : MH, jH m' m2 b (.cells (Array.mk (eA s' :: cs.toList.drop 1)) E (0, 0)) -> Q m2 := by
 obtain ⟨ob, hmb⟩ := hmb
 have hnb : ∀ i, s.a ≠ some ⟨b, i, none⟩ := λ i e2 => by rw [hfr i b e2] at hmb; cases hmb
 refine λ s' m' hg => ⟨_, _, ⟨hg.other b _ hb hnb⟩, by simp, λ m2 hu => hQ m2 ?_ ⟨s', hu.at_, ?_, ?_⟩⟩
 . intro x o hx hne
   rw [hu.other x hne]
   exact hg.other x o (hs x o hx hne) (λ i e2 => by have e2 : s.a = some ⟨x, i, none⟩ := e2; rw [hfr i x e2] at hx; cases hx)
 . have e1 : (vs ++ [e]).map (λ v => [v]) = vs.map (λ v => [v]) ++ [[e]] := by simp
   rw [e1]
   refine dC.keep hg.row (λ x i e2 => hu.other x (λ e3 => ?_))
   subst e3
   rcases hg.fresh x i e2 with h1 | ⟨j, h1⟩
   . rw [hb] at h1; cases h1
   . exact hnb j h1
 . intro i x e2
   rcases hg.fresh x i e2 with h1 | ⟨j, h1⟩
   . cases e4 : m x with
     | none => rfl
     | some o =>
      by_cases e5 : x = b
      . subst e5; rw [hb] at h1; cases h1
      . rw [hs x o e4 e5] at h1; cases h1
   . exact hfr j x h1
theorem cZ.rowG {E : TypeId} {hx : PH} {s : Sl} {vs : List Value} (sub : Sub m m') (le : PH.le h hx) (hr : dC m' s E 1 (vs.map λ v => [v])) (hf : ∀ i b, s.a = some ⟨b, i, none⟩ -> m b = none) (hK : ∀ h', PH.le hx h' -> cN h' s 1 (vs.map λ v => [v]) -> K (cS s) m h') : cZ h K (cS s) m' hx := by
 intro hd
 rcases hr.ex with ⟨rfl, hx0⟩ | ⟨b, cap, cur, rfl, hm, h1, h2, h3, h4⟩
 . refine ⟨m, hx, sub, le, λ b i v e => .inl e, hK hx (.refl _) ?_⟩
   rw [hx0]; exact cN.nil _ _
 . have hn : ∀ i, hx b i = none := hd b _ hm
   refine ⟨m, kY hx b cur.toList, sub, le.trans (zC hn), λ b' i v e => ?_, hK _ (zC hn) ⟨?_, ?_, ?_⟩⟩
   . by_cases hb : b' = b
     . subst hb
       simp only [kY, if_true] at e
       exact .inr ⟨cur, E, (0, 0), hm, by rw [<- BU]; exact e, hf 0 b' rfl⟩
     . simp only [kY, if_neg hb] at e
       exact .inl e
   . simp
   . by_cases hu : vs.map (λ v => [v]) = []
     . exact .inl hu
     . refine .inr ⟨b, 0, rfl, λ i e hi => ⟨λ j v hv => ?_⟩⟩
       rw [AD] at hi
       cases hu2 : vs[i]? with
       | none => rw [hu2] at hi; cases hi
       | some u =>
        rw [hu2] at hi
        simp at hi
        subst hi
        have hj : j = 0 := by have := (mG.1 hv).1; simp at this; omega
        subst hj
        have hv : u = v := by simpa using hv
        subst hv
        have hlt := (mG.1 hu2).1
        have hfl : ∀ l : List Value, (l.map λ v => [v]).flatten = l := λ l => by
         induction l with
         | nil => rfl
         | cons a l ih => simp only [EB, Jj, ih]; rfl
        rw [hfl] at h4
        rw [<- h4, DT, mI, if_pos aC] at hu2
        simp only [kY, if_true]
        rw [show 0 + i * 1 + 0 = i by omega]
        exact hu2
   . simpa using h1
def XD : Vc.Spec := λ cvs m h K => ∃ v q, cvs = [aQ v] /\ cR h q v /\ u6 q <= 900000 /\ ∀ s' h', PH.le h h' -> Ints h' s' (iZ q) -> K (cS s') m h'
theorem f57_sound : Sound Tryz.prog 57 XD := by
 refine D1 Tryz.func57 ?_
 rintro cvs m h K ⟨v, q, rfl, hq, hs, hK⟩
 refine ⟨{ vO [(80, Oe)] [] [] [] [200003, 200005, 1033, 0] [] false with elemT := [3, 38] }, rfl, aD Kg aF, f57_nice v m h (cZ h K), by kernel_rfl, ?_⟩
 show f57_nice v m h (cZ h K)
 dsimp only [f57_nice, push_cast]
 intro b m1 hb1 hu1
 obtain ⟨s1, n1⟩ := gE (Sub.refl m) hb1 hu1
 refine ⟨v, rfl, λ bw h1 le1 hbw => ?_⟩
 obtain ⟨es, hw⟩ := qW.of (hq.mono le1) 1
 have hes := hw.small
 have hsc := qW.scans (hq.mono le1) hw
 refine ⟨Je, es.map λ e => ((e.1 : Int), e.2), λ k mx hx => hx = h1 /\ Ax m1 mx b /\ VW 33 3 m1 mx b ((xJ (es.take k)).map λ n => .int .i64 n), TH, ⟨bw, v, q, es, rfl, hbw, hw, hs, ?_⟩, ⟨rfl, λ x o e _ => e, VW.new hu1.at_⟩, ?_, ?_⟩
 . rw [List.map_map]; rfl
 . rintro k d e' mx hx hk - ⟨rfl, hsx, hout⟩ b2 m2 hb2 hu2
   rw [AD] at hk
   cases hek : es[k]? with
   | none => rw [hek] at hk; cases hk
   | some e =>
    rw [hek] at hk
    simp only [Option.map_some, sW, Ez] at hk
    obtain ⟨rfl, rfl⟩ := hk
    refine ⟨_, _, ⟨hu2.at_⟩, by simp, λ m3 hu3 => ?_⟩
    have up : ∀ {z o}, mx z = some o -> m3 z = some o /\ z ≠ b2 := fun {z o} e2 => by
     have : z ≠ b2 := λ e3 => by rw [e3, hb2.m_] at e2; cases e2
     exact ⟨by rw [hu3.other z this, hu2.other z this]; exact e2, this⟩
    have m3b : m3 b2 = some (.cells ⟨e.2.enc⟩ 38 (0, 0)) := hu3.at_
    have hs3 : Ax m1 m3 b := λ x o e2 hne => (up (hsx x o e2 hne)).1
    have hout3 : VW 33 3 m1 m3 b ((xJ (es.take k)).map λ n => .int .i64 n) := by
     obtain ⟨s, h5, h6, h7⟩ := hout.ex
     refine ⟨s, (up h5).1, dC.keep h6 λ z i e3 => ?_, h7⟩
     obtain ⟨cur, h8⟩ := h6.blk e3
     rw [h8]; exact (up h8).1
    have hsn : xJ (es.take (k + 1)) = xJ (es.take k) ++ (if e.2.op == 1 then [e.2.table] else []) := by
     rw [EA, hek, Option.toList_some, Gs]
     congr 1
     simp only [xJ, List.filter_cons, List.filter_nil]
     split <;> rfl
    refine ⟨e.2.op, .of_m m3b rfl, aB (λ h5 => ?_) (λ h5 => ⟨rfl, hs3, by rw [hsn, h5]; simpa using hout3⟩)⟩
    obtain ⟨s, hb5, hrow, hfr⟩ := hout3.ex
    have hlen : (xJ (es.take k)).length <= es.length := by
     simp only [xJ, mI]
     exact Ae (Q5 _ _) (by rw [Hz]; omega)
    refine ⟨s, .of_m hb5 rfl, e.2.table, .of_m m3b rfl, _, hrow, by simp; omega, by simp; omega, Wm ⟨_, hu1.at_⟩ hs3 hb5 hrow hfr λ m' hs' ho' => ⟨rfl, hs', ?_⟩⟩
    rw [hsn, h5]; simpa using ho'
 . rintro mx hx - ⟨rfl, hsx, hout⟩
   rw [mI, Ig, hsc] at hout
   obtain ⟨s, hb5, hrow, hfr⟩ := hout.ex
   have hlen : (iZ q).length <= es.length := by
    rw [<- hsc]
    simp only [xJ, mI]
    exact Q5 _ _
   refine ⟨s, .of_m hb5 rfl, cZ.rowG (s1.x n1 hsx) le1 hrow (λ j z e => ?_) (λ h' le hri => hK s h' (le1.trans le) ⟨by rw [List.map_map] at hri; exact hri, aC⟩)⟩
   cases e2 : m z with
   | none => rfl
   | some o => have e1 := hfr j z e; rw [s1 z o e2] at e1; cases e1
end Go.Ps
