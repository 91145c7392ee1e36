/-
  Part 4 of a proof that a law of the given program returns true: a condition generator that is proved sound, and contracts of functions. No condition of its own. Own work, joined by a program (pack2.py).
-/
import Derived.Test.YtileehgdfcknkaaGreatDoorMc
namespace Go.Ps
open Go Go.Vc Go.Proofs
variable {K : CV -> MH -> PH -> Prop} {m : MH} {h : PH} {s : nX} {ps : List Int} {cb : Nat} {sc : bL} {v : QV} {q : Query} {p : Pred} {l : List Int} {i : Nat} {N : Nat} {m' : MH} {h' : PH} {co : List Int} {gr : List Int} {od : List (Int × Bool)} {w : Pred} {ta : Int} {li : Int} {xs : List (List Value)} {sz : Nat} {k : Nat} {ks : List (List Int)} {rs : List Int} {r : Sl} {a : List Int} {b : Nat}
def fv (f : Nat) : CV := .val (.func (.func f) #[] #[])
def M3 : Vc.Spec := λ cvs m h K => ∃ op, cvs = [cI op] /\
 branch (op == 1) (K (fv 139) m h) (branch (op == 2) (K (fv 140) m h) (branch (op == 3) (K (fv 141) m h) (branch (op == 4) (K (fv 142) m h) (branch (op == 5) (K (fv 143) m h) (branch (op == 6) (K (fv 144) m h) (branch (op == 7) (K (fv 144) m h) (branch (op == 8) (K (fv 144) m h) (branch (op == 9) (K (fv 145) m h) (branch (op == 10) (K (fv 146) m h) (K (.val .nilFunc) m h))))))))))
noncomputable def YE (N : Nat) (sc : bL) (p : Sl) (v : QV) (m : MH) : Ctx :=
 dM [(81, BF N), (116, M3), (139, vV (· = 1)), (140, vV (· = 2)), (141, vV (· = 3)), (142, vV (· = 4)), (143, vV (· = 5)), (144, vV (λ op => op = 6 \/ op = 7 \/ op = 8)), (145, vV (· = 9)), (146, vV (· = 10))] [(3, { A := Nat × List Sl × PH, st := λ ⟨i, ss, h⟩ => cH 62 65 [(1, sv p), (3, .at (.ptr 3 0)), (5, .at (.ptr 5 0)), (8, .at (.ptr 8 0)), (21, sv v.args), (22, iv v.args.len), (23, iv i)] [(3, .cells 43 (sc.enc.map .val)), (5, .cells 38 (v.enc.map .val)), (8, .cells 152 ((sc.enc ++ eS p ++ v.enc).map .val ++ [.lst 41])), (41, .lst 33 1 (ss.map eS))] m h })] [] [] false
noncomputable abbrev IT  : List Value := iK Value.nilFunc
attribute [push_cast] IT
def Hi (op : Int) (m : MH) (h : PH) (K : CV -> MH -> PH -> Prop) : Prop :=
  ∀ (b : Nat) (m1 : MH), bK (cD m h b) (bG m m1 b (aJ Value.nilFunc Value.nilFunc (aJ Value.nilFunc Value.nilFunc (aJ Value.nilFunc Value.nilFunc (aJ Value.nilFunc Value.nilFunc (aJ Value.nilFunc Value.nilFunc IT))))) 183) (gG (λ c E => aA (uT m1 b (eV c E 0)) (11 <= c.size) (∀ (m2 : MH), bG m1 m2 b (aJ Value.nilFunc (kM 139) (aJ (kM 140) (kM 141) (aJ (kM 142) (kM 143) (aJ (kM 144) (kM 144) (aJ (kM 144) (kM 145) (eU (kM 146) 11 c)))))) E -> bA op 0 (K (CV.val Value.nilFunc) m2 h) (fQ op 11 (K (CV.val Value.nilFunc) m2 h) (aA (cA op) (op < 11) (∃ (y : Option Nat), aL m2 h b (fM 0 op 1) (iK (Xm y)) /\ K (CV.val (Xm y)) m2 h))))))
abbrev rU (a : Nat × List Sl × PH) (b : bL) (c : Sl) (d : QV) (e : Sl -> List Value) (g : NV -> List CV) (i : Query -> Prop) (j : PH -> (List Int × Int) -> Prop) : Prop := bH (kK a) 1 (rN a) (λ x x1 => ∃ (x2 : NV), AX (λ x3 x4 x5 x6 => aA (mR (kE (aJ (pP b) (pO b) (aJ (eA c) (dQ d.op) (aJ (mA d) (lY d) (aJ (dQ (mC d)) (jI (fZ d)) (e x)))))) = g x2) (qO x1 x3 x4 x5 x6 x2) (aA (pB x3) (i x5) (∀ (x7 : List Int × Int), fin x7 = vU x3 x4 x5 x6 -> j x1 x7))))
noncomputable abbrev rY (a : QV) (b : List Value) : List Value := aJ (rH (fZ a)) (dQ (mZ (fZ a))) (aJ (mS (fZ a)) (lJ (fZ a)) (aJ (jI (eZ a)) (rH (eZ a)) (aJ (dQ (mZ (eZ a))) (mS (eZ a)) b)))
abbrev rO (a : PH) (b : List Int × Int) (c : CV -> MH -> PH -> Prop) (d : MH) : Prop := AS a b (λ x x1 => cW (b.2 != 0) (c (CV.tup (bB jZ b.2)) d x1) (decide (aG x > 12)) (c (CV.tup (bB jZ 2)) d x1) (c (CV.tup (bB (cK x) 0)) d x1))
attribute [push_cast] rU rY rO
def PR (N : Nat) (sc : bL) (p : Sl) (v : QV) (m : MH) (h : PH) (K : CV -> MH -> PH -> Prop) : Prop :=
  ∃ (I : Nat × List Sl × PH -> Prop) (m1 : Nat × List Sl × PH -> Nat), (∃ (x : Nat × List Sl × PH), aA (I x) (aI p) (aA (eP 3) (eP 5) (aA (eP 8) (aI v.args) (aA (bI v.args) (bC x.1) (aA (bT sc) (fC v) (aA (IQ sc (Aa p) v v.on (yJ (At.lst 41))) (Option.some (Own.lst 33 1 []) = Option.some (Own.lst 33 1 (rN x))) (dT m m h (kK x)))))))) /\ ∀ (x : Nat × List Sl × PH), I x -> bA (↑x.1 : Int) (aG v.args) (aT (λ b o => aA (aU v.args.a b o) (0 <= (↑x.1 : Int)) ((↑x.1 : Int) < aG v.args /\ ∃ (y : QV), aL m (kK x) b (bN o x.1 21) y.enc /\ Fh sc p y (kK x) (λ v1 s p1 q => aA (cR (kK x) q v1) (qE q N) (AS (kK x) (bP s p1 q) (λ s1 h1 => eE (bP s p1 q).2 0 (K (CV.tup (aX jZ (CV.val (dQ (bP s p1 q).2)))) m h1) (nT (rN x) 24 (∃ (x1 : Nat × List Sl × PH), aA (I
 x1) (m1 x1 < m1 x) (aA (aI p) (eP 3) (aA gJ (eP 8) (aA (aI v.args) (bI v.args) (aA (fK (bE x.1 1) = bV x1.1) (bT sc) (aA (fC v) (IQ sc (Aa p) v v.on (yJ (At.lst 41))) (bM (Option.some (Own.lst 33 1 (jB (rN x) s1)) = Option.some (Own.lst 33 1 (rN x1))) (m = m) (h1 = kK x1))))))))))))))) (jL v.op (λ o => cW (o == 1) (rU x sc p v (λ s => rY v (aJ (lJ (eZ v)) (nL v) (aJ (nM v) (eA v.on) (aJ (qL v) (qM v) (aJ (dQ v.limit) (tG v) (aM s)))))) (λ n => iB n (fB n (fA n))) (λ q => q.op = 1) (λ h1 r => rO h1 r K m)) (o == 2) (rU x sc p v (λ s => rY v (aJ (lJ (eZ v)) (nL v) (aJ (nM v) (eA v.on) (aJ (qL v) (qM v) (aJ (dQ v.limit) (tG v) (aM s)))))) (λ n => iB n (fB n (fA n))) (λ q =>
 q.op = 2) (λ h1 r => rO h1 r K m)) (cW (o == 3) (rU x sc p v (λ s => rY v (aJ (lJ (eZ v)) (nL v) (aJ (nM v) (eA v.on) (aJ (qL v) (qM v) (aJ (dQ v.limit) (tG v) (aM s)))))) (λ n => iB n (fB n (fA n))) (λ q => q.op = 3) (λ h1 r => rO h1 r K m)) (o == 4) (rU x sc p v (λ s => rY v (aJ (lJ (eZ v)) (nL v) (aJ (nM v) (eA v.on) (aJ (qL v) (qM v) (aJ (dQ v.limit) (tG v) (aM s)))))) (λ n => iB n (fB n (fA n))) (λ q => q.op = 4) (λ h1 r => rO h1 r K m)) (cW (o == 5) (rU x sc p v (λ s => rY v (aJ (lJ (eZ v)) (nL v) (aJ (nM v) (eA v.on) (aJ (qL v) (qM v) (aJ (dQ v.limit) (tG v) (aM s)))))) (λ n => iB n (fB n (fA n))) (λ q => q.op = 5) (λ h1 r => rO h1 r K m)) (o ==
 6) (rU x sc p v (λ s => rY v (aJ (lJ (eZ v)) (nL v) (aJ (nM v) (eA v.on) (aJ (qL v) (qM v) (aJ (dQ v.limit) (tG v) (aM s)))))) (λ n => iB n (fB n (fA n))) (λ q => q.op = 6 \/ q.op = 7 \/ q.op = 8) (λ h1 r => rO h1 r K m)) (cW (o == 7) (rU x sc p v (λ s => rY v (aJ (lJ (eZ v)) (nL v) (aJ (nM v) (eA v.on) (aJ (qL v) (qM v) (aJ (dQ v.limit) (tG v) (aM s)))))) (λ n => iB n (fB n (fA n))) (λ q => q.op = 6 \/ q.op = 7 \/ q.op = 8) (λ h1 r => rO h1 r K m)) (o == 8) (rU x sc p v (λ s => rY v (aJ (lJ (eZ v)) (nL v) (aJ (nM v) (eA v.on) (aJ (qL v) (qM v) (aJ (dQ v.limit) (tG v) (aM s)))))) (λ n => iB n (fB n (fA n))) (λ q => q.op = 6 \/ q.op = 7 \/ q.op = 8) (λ h1 r => rO h1 r K
 m)) (cW (o == 9) (rU x sc p v (λ s => rY v (aJ (lJ (eZ v)) (nL v) (aJ (nM v) (eA v.on) (aJ (qL v) (qM v) (aJ (dQ v.limit) (tG v) (aM s)))))) (λ n => iB n (fB n (fA n))) (λ q => q.op = 9) (λ h1 r => rO h1 r K m)) (o == 10) (rU x sc p v (λ s => rY v (aJ (lJ (eZ v)) (nL v) (aJ (nM v) (eA v.on) (aJ (qL v) (qM v) (aJ (dQ v.limit) (tG v) (aM s)))))) (λ n => iB n (fB n (fA n))) (λ q => q.op = 10) (λ h1 r => rO h1 r K m)) (K (CV.tup (bB jZ 100)) m (kK x))))))))
theorem SE : Sound Tryz.prog 116 M3 := by
 refine FN Tryz.func116 ?_
 rintro cvs m h K ⟨op, rfl, hK⟩
 refine ⟨vO [] [] [] [] [183] [] false, rfl, aF, Hi op m h (kB h K), by kernel_rfl, ?_⟩
 show Hi op m h (kB h K)
 dsimp only [Hi, push_cast]
 intro b m1 hb hm1
 refine ⟨_, _, ⟨hm1.at_⟩, by decide, λ m2 hm2 => ?_⟩
 have hsub : Sub m m2 := ((Sub.refl m).upd hb.m_ hm1.other).upd hb.m_ hm2.other
 have e := hm2.at_
 have none_ : ∀ k, ¬ (1 <= op /\ op <= 10) -> op = k -> K (.val .nilFunc) m h := λ k hn _ => by
  have : (op == 1) = false /\ (op == 2) = false /\ (op == 3) = false /\ (op == 4) = false /\ (op == 5) = false /\ (op == 6) = false /\ (op == 7) = false /\ (op == 8) = false /\ (op == 9) = false /\ (op == 10) = false := by
   simp only [beq_eq_false_iff_ne]; omega
  obtain ⟨e1, e2, e3, e4, e5, e6, e7, e8, e9, e10⟩ := this
  rw [e1, e2, e3, e4, e5, e6, e7, e8, e9, e10] at hK
  exact hK
 refine aE (λ h1 => .sub hsub (none_ _ aC rfl)) (λ h1 => aE (λ h2 => .sub hsub (none_ _ aC rfl)) (λ h2 => ⟨aC, aC, ?_⟩))
 have : op = 0 \/ op = 1 \/ op = 2 \/ op = 3 \/ op = 4 \/ op = 5 \/ op = 6 \/ op = 7 \/ op = 8 \/ op = 9 \/ op = 10 := by omega
 rcases this with rfl | rfl | rfl | rfl | rfl | rfl | rfl | rfl | rfl | rfl | rfl
 . exact ⟨none, .lent _ _ _ e rfl, .sub hsub (none_ 0 aC rfl)⟩
 . exact ⟨some 139, .lent _ _ _ e rfl, .sub hsub hK⟩
 . exact ⟨some 140, .lent _ _ _ e rfl, .sub hsub hK⟩
 . exact ⟨some 141, .lent _ _ _ e rfl, .sub hsub hK⟩
 . exact ⟨some 142, .lent _ _ _ e rfl, .sub hsub hK⟩
 . exact ⟨some 143, .lent _ _ _ e rfl, .sub hsub hK⟩
 . exact ⟨some 144, .lent _ _ _ e rfl, .sub hsub hK⟩
 . exact ⟨some 144, .lent _ _ _ e rfl, .sub hsub hK⟩
 . exact ⟨some 144, .lent _ _ _ e rfl, .sub hsub hK⟩
 . exact ⟨some 145, .lent _ _ _ e rfl, .sub hsub hK⟩
 . exact ⟨some 146, .lent _ _ _ e rfl, .sub hsub hK⟩
theorem Sm : Sound Tryz.prog 139 (vV (· = 1)) := by
 refine gX Tryz.func139 ?_
 rintro cvs m h K ⟨n, s, ps, q, ks, rfl, hn, h8, hop, hT⟩
 obtain ⟨op, ta, w, co, on, gr, od, li, args⟩ := q
 refine ⟨dM [(177, zM), (72, vA)] [] [] [] false, rfl, (aD qN (aD LQ aF)), DE n m h K, by kernel_rfl, ?_⟩
 dsimp only [DE, push_cast]
 cases (show op = 1 from hop)
 exact Zg hn h8 ⟨hT⟩
theorem Sk : Sound Tryz.prog 140 (vV (· = 2)) := by
 refine gX Tryz.func140 ?_
 rintro cvs m h K ⟨n, s, ps, q, ks, rfl, hn, h8, hop, hT⟩
 obtain ⟨op, ta, w, co, on, gr, od, li, args⟩ := q
 refine ⟨dM [(177, zM), (113, qP)] [] [] [] false, rfl, (aD qN (aD Kw aF)), DD n m h K, by kernel_rfl, ?_⟩
 dsimp only [DD, push_cast]
 cases (show op = 2 from hop)
 exact Ze hn ⟨hT⟩
theorem Sj : Sound Tryz.prog 141 (vV (· = 3)) := by
 refine gX Tryz.func141 ?_
 rintro cvs m h K ⟨n, s, ps, q, ks, rfl, hn, h8, hop, hT⟩
 obtain ⟨op, ta, w, co, on, gr, od, li, args⟩ := q
 refine ⟨W4 n m h, rfl, (aD qN aF), DC n m h K, by kernel_rfl, ?_⟩
 dsimp only [DC, push_cast]
 cases (show op = 3 from hop)
 exact Zd hn ⟨hT⟩
theorem Si (h101 : Sound Tryz.prog 179 Jh) : Sound Tryz.prog 142 (vV (· = 4)) := by
 refine gX Tryz.func142 ?_
 rintro cvs m h K ⟨n, s, ps, q, ks, rfl, hn, h8, hop, hT⟩
 obtain ⟨op, ta, w, co, on, gr, od, li, args⟩ := q
 refine ⟨dM [(178, KV), (179, Jh)] [] [] [] false, rfl, (aD Ks (aD h101 aF)), DB n m h K, by kernel_rfl, ?_⟩
 dsimp only [DB, push_cast]
 cases (show op = 4 from hop)
 exact Zc hn ⟨hT⟩
theorem Sh : Sound Tryz.prog 143 (vV (· = 5)) := by
 refine gX Tryz.func143 ?_
 rintro cvs m h K ⟨n, s, ps, q, ks, rfl, hn, h8, hop, hT⟩
 obtain ⟨op, ta, w, co, on, gr, od, li, args⟩ := q
 refine ⟨dM [(178, KV)] [] [] [] false, rfl, (aD Ks aF), DA n m h K, by kernel_rfl, ?_⟩
 dsimp only [DA, push_cast]
 cases (show op = 5 from hop)
 exact Zb hn ⟨hT⟩
theorem Sg : Sound Tryz.prog 144 (vV (λ op => op = 6 \/ op = 7 \/ op = 8)) := by
 refine gX Tryz.func144 ?_
 rintro cvs m h K ⟨n, s, ps, q, ks, rfl, hn, h8, hop, hT⟩
 obtain ⟨op, ta, w, co, on, gr, od, li, args⟩ := q
 refine ⟨dM [(177, zM), (180, Az)] [] [] [] false, rfl, (aD qN (aD Eo aF)), Hf n m h K, by kernel_rfl, ?_⟩
 exact Za hop hn ⟨hT⟩
theorem Sf : Sound Tryz.prog 145 (vV (· = 9)) := by
 refine gX Tryz.func145 ?_
 rintro cvs m h K ⟨n, s, ps, q, ks, rfl, hn, h8, hop, hT⟩
 obtain ⟨op, ta, w, co, on, gr, od, li, args⟩ := q
 refine ⟨dM [(177, zM), (181, KO), (182, KS)] [] [] [] false, rfl, (aD qN (aD Kr (aD Kq aF))), Dz n m h K, by kernel_rfl, ?_⟩
 dsimp only [Dz, push_cast]
 cases (show op = 9 from hop)
 exact Y9 hn ⟨hT⟩
theorem Se : Sound Tryz.prog 146 (vV (· = 10)) := by
 refine gX Tryz.func146 ?_
 rintro cvs m h K ⟨n, s, ps, q, ks, rfl, hn, h8, hop, hT⟩
 obtain ⟨op, ta, w, co, on, gr, od, li, args⟩ := q
 refine ⟨dM [(177, zM), (180, Az), (181, KO), (182, KS)] [] [] [] false, rfl, (aD qN (aD Eo (aD Kr (aD Kq aF)))), Dy n m h K, by kernel_rfl, ?_⟩
 dsimp only [Dy, push_cast]
 cases (show op = 10 from hop)
 exact Y8 hn ⟨hT⟩
theorem TS (h101 : Sound Tryz.prog 179 Jh) : ∀ N, Sound Tryz.prog 81 (BF N)
 | 0 => by
  refine eK (fn := Tryz.f81) (c := dK Tryz.f81) Tryz.func81 rfl (by decide) ?_
  rintro cvs m h K ⟨sc, p, v, s, ps, q, rfl, _, _, _, _, hN, _⟩
  omega
 | N + 1 => by
  refine gX Tryz.func81 ?_
  rintro cvs m h K ⟨sc, p, v, s, ps, q, rfl, hs, h8, hp, hq, hN, hK⟩
  refine ⟨YE N sc p v m, rfl, (aD (TS h101 N) (aD SE (aD Sm (aD Sk (aD Sj (aD (Si h101) (aD Sh (aD Sg (aD Sf (aD Se aF)))))))))), PR N sc p v m h K, by kernel_rfl, ?_⟩
  dsimp only [PR, push_cast]
  have hlt := @Ca q
  have hqr := hq
  obtain ⟨op, ta, w, co, on, gr, od, li, args⟩ := q
  have x := hq.parts
  have e0 := x.op_
  have hl := x.args_.slen
  have hlen := x.args_.len
  simp only [Query.args] at hlt
  simp only [bP] at hK
  refine ⟨λ ⟨i, ss, hx⟩ => i <= args.length /\ PH.le h hx /\ ∃ ks, Slices hx ss ks /\ (args.take i).map (bP s ps) = ks.map (λ k => (k, 0)), λ ⟨i, _, _⟩ => args.length - i, ⟨(0, [], h), ⟨aC, .refl _, [], ⟨rfl, λ j s k h1 => by simp at h1⟩, by simp⟩, MT⟩, ?_⟩
  rintro ⟨i, ss, hx⟩ ⟨hi, hle, ks, hS, hks⟩
  have hkl : ks.length = i := by have := congrArg List.length hks; simp at this; omega
  have hsl : ss.length = i := by rw [hS.1, hkl]
  dsimp only
  refine aE (λ hlt2 => ?_) (λ hge => ?_)
  . obtain ⟨q', hq'⟩ := fE hl hlt2
    obtain ⟨b1, o1, u, ea1, r1, hru⟩ := (x.args_.mono hle).at hq'
    refine ⟨b1, o1, ea1, aC, hlt2, u, .imm r1, sc, p, u, s, ps, q', rfl, hs.mono hle, h8, hp.mono hle, hru, ?_, λ sl h' hle' hi' => aB (λ h1 => ?_) (λ h1 => ?_)⟩
    . have := hlt (lP hq'); omega
    . have he : (bP s ps q').2 ≠ 0 := by simpa using h1
      rw [Cr he hks hq' rfl] at hK
      exact hK.err (hle.trans hle') (if_neg he)
    . have he : (bP s ps q').2 = 0 := by simpa using h1
      refine ⟨by simp; omega, by simp; omega, (i + 1, ss ++ [sl], h'), ⟨aC, hle.trans hle', ks ++ [(bP s ps q').1], (hS.mono hle').snoc hi', ?_⟩, by show args.length - (i + 1) < args.length - i; omega, ?_⟩
      . rw [fL hq', hks, xH]
        simp only [EB, List.map_nil]
        rw [<- he]
      . rw [xH]; exact MT
  . rw [EC aC] at hks
    rw [xU hks] at hK
    simp only [if_true] at hK
    have hK : KR K m h (vU s ps (.mk op ta w co on gr od li args) ks) := hK
    have hrep : ∀ (sl : Sl) (h' : PH), PH.le hx h' -> cN h' sl 1 (ss.map eS) -> qO h' s ps (.mk op ta w co on gr od li args) ks ⟨sc, p, v, sl⟩ := λ sl h' hle' hrow => by
     refine ⟨(hs.mono hle).mono hle', (hp.mono hle).mono hle', (hqr.mono hle).mono hle', ⟨⟨ss, hrow, hS.1.symm, λ j k hk => ?_⟩, aC⟩, λ k hk => ?_⟩
     . have hj : j < ss.length := by rw [hS.1]; exact (mG.1 hk).1
       exact ⟨ss[j], kP hj, (hS.2 j _ _ (kP hj) hk).mono hle'⟩
     . obtain ⟨j, hj⟩ := List.mem_iff_getElem?.1 hk
       have := GK hks j
       rwa [Hy, hj] at this
    have tail : ∀ (h' : PH), PH.le hx h' -> ∀ r, fin r = vU s ps (.mk op ta w co on gr od li args) ks -> ∀ (sl : Sl) (h'' : PH), PH.le h' h'' -> Ints h'' sl r.1 ->
     branch (r.2 != 0) (K (.tup [.val (.slice none 0 0), .val (.int .i64 r.2)]) m h'') (branch (decide ((sl.len : Int) > 12)) (K (.tup [.val (.slice none 0 0), .val (.int .i64 2)]) m h'') (K (.tup [.val (.slice sl.a sl.len sl.cap), .val (.int .i64 0)]) m h'')) := by
     intro h' hle' r hr sl h'' hle2 hi'
     have hl3 : PH.le h h'' := (hle.trans hle').trans hle2
     rw [<- hr] at hK
     have hsl := hi'.slen
     refine aB (λ d1 => ?_) (λ d1 => aE (λ d2 => ?_) (λ d2 => ?_))
     . have d1 : r.2 ≠ 0 := by simpa using d1
       exact hK.err hl3 (by unfold fin; rw [if_neg d1])
     . have d1 : r.2 = 0 := by simpa using d1
       exact hK.big (l := r.1) hl3 (by unfold fin; rw [if_pos d1]) aC
     . have d1 : r.2 = 0 := by simpa using d1
       exact hK.ok (l := r.1) hl3 (by unfold fin; rw [if_pos d1]) aC hi'.row
    refine ⟨v.op, rfl, ?_⟩
    rw [e0]
    refine aB (λ c1 sl h' hle' hrow => ⟨⟨sc, p, v, sl⟩, s, ps, _, ks, by rw [<- e0], hrep sl h' hle' hrow, h8, beq_iff_eq.1 c1, tail h' hle'⟩) (λ c1 => ?_)
    refine aB (λ c2 sl h' hle' hrow => ⟨⟨sc, p, v, sl⟩, s, ps, _, ks, by rw [<- e0], hrep sl h' hle' hrow, h8, beq_iff_eq.1 c2, tail h' hle'⟩) (λ c2 => ?_)
    refine aB (λ c3 sl h' hle' hrow => ⟨⟨sc, p, v, sl⟩, s, ps, _, ks, by rw [<- e0], hrep sl h' hle' hrow, h8, beq_iff_eq.1 c3, tail h' hle'⟩) (λ c3 => ?_)
    refine aB (λ c4 sl h' hle' hrow => ⟨⟨sc, p, v, sl⟩, s, ps, _, ks, by rw [<- e0], hrep sl h' hle' hrow, h8, beq_iff_eq.1 c4, tail h' hle'⟩) (λ c4 => ?_)
    refine aB (λ c5 sl h' hle' hrow => ⟨⟨sc, p, v, sl⟩, s, ps, _, ks, by rw [<- e0], hrep sl h' hle' hrow, h8, beq_iff_eq.1 c5, tail h' hle'⟩) (λ c5 => ?_)
    refine aB (λ c6 sl h' hle' hrow => ⟨⟨sc, p, v, sl⟩, s, ps, _, ks, by rw [<- e0], hrep sl h' hle' hrow, h8, .inl (beq_iff_eq.1 c6), tail h' hle'⟩) (λ c6 => ?_)
    refine aB (λ c7 sl h' hle' hrow => ⟨⟨sc, p, v, sl⟩, s, ps, _, ks, by rw [<- e0], hrep sl h' hle' hrow, h8, .inr (.inl (beq_iff_eq.1 c7)), tail h' hle'⟩) (λ c7 => ?_)
    refine aB (λ c8 sl h' hle' hrow => ⟨⟨sc, p, v, sl⟩, s, ps, _, ks, by rw [<- e0], hrep sl h' hle' hrow, h8, .inr (.inr (beq_iff_eq.1 c8)), tail h' hle'⟩) (λ c8 => ?_)
    refine aB (λ c9 sl h' hle' hrow => ⟨⟨sc, p, v, sl⟩, s, ps, _, ks, by rw [<- e0], hrep sl h' hle' hrow, h8, beq_iff_eq.1 c9, tail h' hle'⟩) (λ c9 => ?_)
    refine aB (λ c10 sl h' hle' hrow => ⟨⟨sc, p, v, sl⟩, s, ps, _, ks, by rw [<- e0], hrep sl h' hle' hrow, h8, beq_iff_eq.1 c10, tail h' hle'⟩) (λ c10 => hK.err hle ?_)
    refine sM λ e => ?_
    have : arity op = -1 := by simp only [arity]; simp only [*, VX, Bool.false_or, Bool.or_true, Bool.true_or, Bool.and_true, Q6, XY, Tk, V4, X3, Tl, if_true, if_false, ↓reduceIte]
    have := e.1
    simp only [Query.op] at this
    omega
def fS : PV := ⟨0, 0, dL, dL, ⟨none, 0, 0⟩⟩
def cJ (h : PH) (s : Sl) (l : List VV) : Prop := bW h 3 VV.enc Eq s l
theorem cJ.mono {s : Sl} {l : List VV} (x : cJ h s l) (le : PH.le h h') : cJ h' s l := bW.mono x le λ _ _ e => e
def zO : QV := ⟨0, 0, fS, ⟨none, 0, 0⟩, ⟨none, 0, 0⟩, ⟨none, 0, 0⟩, ⟨none, 0, 0⟩, 0, ⟨none, 0, 0⟩⟩
theorem Wj (l : List QV) : dY 21 (l.map QV.enc) := by
 constructor
 . intro e he; obtain ⟨x, _, rfl⟩ := mH.1 he; rfl
 . intro e he u hu; obtain ⟨x, _, rfl⟩ := mH.1 he; simp [QV.enc] at hu; rcases hu with rfl | rfl | rfl | rfl | rfl | rfl | rfl | rfl | rfl | rfl | rfl | rfl | rfl | rfl | rfl | rfl | rfl | rfl | rfl | rfl | rfl <;> rfl
mutual
def VN : Pred -> Nat
 | .mk _ _ _ _ args => 1 + F4 args
def F4 : List Pred -> Nat
 | [] => 0
 | p :: ps => VN p + F4 ps
end
mutual
def SQ : Pred -> Nat
 | .mk _ _ _ _ args => 1 + H3 args
def H3 : List Pred -> Nat
 | [] => 0
 | p :: ps => max (SQ p) (H3 ps)
end
mutual
theorem JN : ∀ (p : Pred) (n : Int), lS p n <= n + VN p
 | .mk _ _ _ _ args, n => by
  have := HO args (n + 1)
  simp only [lS, VN]
  omega
theorem HO : ∀ (ps : List Pred) (n : Int), iV ps n <= n + F4 ps
 | [], n => by simp [iV, F4]
 | p :: ps, n => by
  have h1 := JN p n
  have h2 := HO ps (lS p n)
  simp only [iV, F4]
  split <;> omega
end
mutual
theorem H6 : ∀ (p : Pred) (n : Nat), SQ p <= n -> j9 p n = false
 | .mk _ _ _ _ args, 0, h => by simp only [SQ] at h; omega
 | .mk _ _ _ _ args, n + 1, h => by
  simp only [SQ] at h
  simp only [j9]
  exact F1 args n aC
theorem F1 : ∀ (ps : List Pred) (n : Nat), H3 ps <= n -> pV ps n = false
 | [], _, _ => rfl
 | p :: ps, n, h => by
  simp only [H3] at h
  simp only [pV, H6 p n aC, F1 ps n aC, VX]
end
def gF : Nat -> Nat
 | 0 => 1
 | d + 1 => 1 + 3 * gF d
structure KN (d : Nat) (p : Pred) : Prop where
 n : VN p <= gF d
 d : SQ p <= d + 1
theorem aaQ : ∀ d, 1 <= gF d
 | 0 => BH _
 | d + 1 => by rw [gF]; omega
theorem KN.leaf (d : Nat) {op cmp : Int} {a b : OV} : KN d (.mk op cmp a b []) := ⟨by simp [VN, F4, aaQ], by simp [SQ, H3]⟩
theorem KN.node {d : Nat} {op cmp : Int} {a b : OV} {ps : List Pred} (h : ∀ p ∈ ps, KN d p) (hl : ps.length <= 3) : KN (d + 1) (.mk op cmp a b ps) := by
 have h1 : ∀ l : List Pred, (∀ p ∈ l, KN d p) -> F4 l <= l.length * gF d /\ H3 l <= d + 1 := λ l => by
  induction l with
  | nil => intro _; simp [F4, H3]
  | cons p l ih =>
   intro hp
   have h2 := ih λ x hx => hp x (D3 _ hx)
   have h3 := hp p (Gh ..)
   have := h3.n
   have := h3.d
   simp only [F4, H3, Gi, Nat.add_mul, Nat.one_mul]
   omega
 have h2 := h1 ps h
 have h3 : ps.length * gF d <= 3 * gF d := X1 _ hl
 exact ⟨by simp only [VN, gF]; omega, by simp only [SQ]; omega⟩
mutual
def u6 : Query -> Nat
 | .mk _ _ _ _ _ _ _ _ args => 1 + qU args
def qU : List Query -> Nat
 | [] => 0
 | q :: qs => u6 q + qU qs
end
mutual
def DQ : Query -> Nat
 | .mk _ _ _ _ _ _ _ _ args => 1 + zF args
def zF : List Query -> Nat
 | [] => 0
 | q :: qs => max (DQ q) (zF qs)
end
mutual
def mX (c : Nat) : Query -> Nat
 | .mk op _ _ _ _ _ _ _ args => if op = 1 then c else if op = 4 then vC c args else yF c args
def yF (c : Nat) : List Query -> Nat
 | [] => 0
 | q :: qs => mX c q + yF c qs
def vC (c : Nat) : List Query -> Nat
 | [] => 1
 | q :: qs => mX c q * vC c qs
end
mutual
theorem Ec : ∀ (p : Query) (n : Int), nY p n <= n + u6 p /\ (nY p n <= 24 -> nY p n = n + u6 p)
 | .mk _ _ _ _ _ _ _ _ args, n => by
  have := HN args (n + 1)
  simp only [nY, u6]
  omega
theorem HN : ∀ (ps : List Query) (n : Int), kV ps n <= n + qU ps /\ (kV ps n <= 24 -> kV ps n = n + qU ps)
 | [], n => by simp [kV, qU]
 | p :: ps, n => by
  have h1 := Ec p n
  have h2 := HN ps (nY p n)
  simp only [kV, qU]
  split <;> omega
end
mutual
theorem H5 : ∀ (p : Query) (n : Nat), DQ p <= n -> lO p n = false
 | .mk _ _ _ _ _ _ _ _ args, 0, h => by simp only [DQ] at h; omega
 | .mk _ _ _ _ _ _ _ _ args, n + 1, h => by
  simp only [DQ] at h
  simp only [lO]
  exact FZ args n aC
theorem FZ : ∀ (ps : List Query) (n : Nat), zF ps <= n -> sN ps n = false
 | [], _, _ => rfl
 | p :: ps, n, h => by
  simp only [zF] at h
  simp only [sN, H5 p n aC, FZ ps n aC, VX]
end
theorem We (h1 : u6 q <= 24) (h2 : DQ q <= 8) : kG q = true := by
 have := (Ec q 0).1
 simp only [kG, Gf, decide_eq_true_eq, H5 q 8 h2, X3, and_true]
 omega
theorem Lp (h : kG q = true) : u6 q <= 24 := by
 simp only [kG, Gf, decide_eq_true_eq] at h
 have := (Ec q 0).2 h.1
 omega
def gN : Nat -> Nat
 | 0 => 3
 | d + 1 => 2 + 2 * gN d
def gD : Nat -> Nat
 | 0 => 3
 | d + 1 => 2 + gD d
def gB : Nat -> Nat
 | 0 => 4
 | d + 1 => gB d * gB d
structure nP (n d b : Nat) (q : Query) : Prop where
 n : u6 q <= n
 d : DQ q <= d
 b : mX 4 q <= b
def Lk (d : Nat) (q : Query) : Prop := nP (gN d) (gD d) (gB d) q
def yB : Nat -> Query -> Prop
 | 0, q => nP 1 1 4 q
 | d + 1, q => nP (1 + 2 * gN d) (1 + gD d) (gB d * gB d) q
theorem nP.mono {n d n' d' b' : Nat} (x : nP n d b q) (h1 : n <= n') (h2 : d <= d') (h3 : b <= b') : nP n' d' b' q := ⟨Ae x.n h1, Ae x.d h2, Ae x.b h3⟩
theorem zD : ∀ d, 3 <= gN d /\ 3 <= gD d /\ 4 <= gB d
 | 0 => by decide
 | d + 1 => by
  obtain ⟨h1, h2, h3⟩ := zD d
  have : 4 * 4 <= gB d * gB d := Nat.mul_le_mul h3 h3
  simp only [gN, gD, gB]
  omega
theorem yB.arg : ∀ {d : Nat} {q : Query}, yB d q -> Lk d q
 | 0, _, x => nP.mono x (by decide) (by decide) (by decide)
 | d + 1, _, x => nP.mono x (by simp only [gN]; omega) (by simp only [gD]; omega) (by simp only [gB]; omega)
theorem nP.one {n d : Nat} (x : nP n d b q) (hb : 4 <= b) {op : Int} {on : List (Int × Int)} : nP (n + 1) (d + 1) b (.mk op ta w co on gr od li [q]) := by
 obtain ⟨h1, h2, h3⟩ := x
 refine ⟨by simp only [u6, qU]; omega, by simp only [DQ, zF]; omega, ?_⟩
 simp only [mX, vC, yF]
 split
 . exact hb
 . split <;> omega
theorem nP.two {n d n' d' b' : Nat} {p : Query} (x : nP n d b q) (y : nP n' d' b' p) (hb : 4 <= b) (hb' : 4 <= b') {op : Int} {on : List (Int × Int)} : nP (1 + n + n') (1 + max d d') (b * b') (.mk op ta w co on gr od li [q, p]) := by
 obtain ⟨h1, h2, h3⟩ := x
 obtain ⟨h4, h5, h6⟩ := y
 have e1 : b * 4 <= b * b' := Nat.mul_le_mul_left _ hb'
 have e2 : 4 * b' <= b * b' := X1 _ hb
 have e3 : mX 4 q * mX 4 p <= b * b' := Nat.mul_le_mul h3 h6
 refine ⟨by simp only [u6, qU]; omega, by simp only [DQ, zF]; omega, ?_⟩
 simp only [mX, vC, yF]
 split
 . omega
 . split
   . simpa using e3
   . omega
theorem nP.scan {on : List (Int × Int)} : nP 1 1 4 (.mk 1 ta w co on gr od li []) := ⟨by simp [u6, qU], by simp [DQ, zF], by simp [mX]⟩
theorem yB.node {d : Nat} {op : Int} {on : List (Int × Int)} {args : List Query} (h : ∀ a ∈ args, Lk d a) (hl : args.length <= 2) : yB (d + 1) (.mk op ta w co on gr od li args) := by
 have h4 := (zD d).2.2
 have e1 : gB d * 4 <= gB d * gB d := Nat.mul_le_mul_left _ h4
 match args, h, hl with
 | [], _, _ => exact ⟨by simp only [u6, qU]; omega, by simp only [DQ, zF]; omega, by simp only [mX, vC, yF]; split; omega; split <;> omega⟩
 | [q], h, _ => exact nP.mono (nP.one (h q (by simp)) h4) (by have := (zD d).1; omega) aC aC
 | [q, p], h, _ => exact nP.mono (nP.two (h q (by simp)) (h p (by simp)) h4 h4) aC aC (BH _)
theorem yB.filter {d : Nat} (x : yB d q) {op : Int} {on : List (Int × Int)} : Lk d (.mk op ta w co on gr od li [q]) := by
 cases d with
 | zero => exact nP.mono (nP.one x (by decide)) (by decide) (by decide) (by decide)
 | succ d =>
  have h4 := (zD d).2.2
  have e1 : gB d * 4 <= gB d * gB d := Nat.mul_le_mul_left _ h4
  exact nP.mono (nP.one x aC) (by simp only [gN]; omega) (by simp only [gD]; omega) (by simp only [gB]; omega)
theorem Lk.three (d : Nat) (x : nP 3 3 4 q) : Lk d q := nP.mono x (zD d).1 (zD d).2.1 (zD d).2.2
theorem yB.mono {q : Query} : ∀ {d e : Nat}, yB d q -> d <= e -> yB e q
 | d, 0, x, h => by have : d = 0 := by omega
                    subst this; exact x
 | d, e + 1, x, h => by
  by_cases h1 : d = e + 1
  . subst h1; exact x
  . have y := yB.arg (x.mono (e := e) aC)
    have h4 := (zD e).2.2
    have e1 : gB e * 1 <= gB e * gB e := Nat.mul_le_mul_left _ aC
    exact nP.mono y aC aC aC
abbrev hP (a : MH) (b : PH) (c d : Nat) (e : Sl -> Prop) : Prop := ∃ (x : Sl), aL a b c d (aM x) /\ e x
noncomputable abbrev BK (a : Int) : Value := Value.int IntKind.u8 a
abbrev jO (a : Prop) : Prop := a -> False
attribute [push_cast] hP BK jO
def Qp (cb : Nat) (n : Int) (m : MH) (h : PH) (K : CV -> MH -> PH -> Prop) : Prop :=
  tV m h cb 1 (λ y => hP m h cb 0 (λ y1 => fQ y (aG y1) (K (dH 0) m h) (bA n 1 (K (dH 0) m h) (tV m h cb 1 (λ y2 => oO m cb 1 (bZ (dZ (y2 + 1))) (λ m1 => hP m1 h cb 0 (λ y3 => ∃ (y4 : Int), aL m1 h cb 1 (bZ y4) /\ aT (λ b o => aA (aU y3.a b o) (0 <= dZ (y4 - 1)) (dZ (y4 - 1) < aG y3 /\ ∃ (y5 : UInt8), aA (aL m1 h b (fM o (dZ (y4 - 1)) 1) (iK (BK (xL y5)))) (jO (n = 0)) (K (dH (Int.tmod (dZ (xL y5)) n)) m1 h))))))))))
theorem acQ (cb : Nat) (n : Int) (m : MH) (h : PH) (K : CV -> MH -> PH -> Prop) : Qp cb n m h K = (Ap (ctx [] [] [] [] false) Tryz.f15 (dK Tryz.f15) (entry 40 [.val (.pointer (some ⟨cb, 0, none⟩)), .val (.int .i64 n)] m h) K) := by kernel_rfl
def Zu : Vc.Spec := λ cvs m h K => ∃ (cb : Nat) (n : Int) (r : List UInt8), cvs = [.val (.pointer (some ⟨cb, 0, none⟩)), .val (.int .i64 n)] /\ Th m h cb r /\
 ∀ m', aY m m' cb -> Th m' h cb (QJ n r).2 -> K (.val (.int .i64 (QJ n r).1)) m' h
theorem LH : Sound Tryz.prog 15 Zu := by
 refine eK (fn := Tryz.f15) (c := dK Tryz.f15) Tryz.func15 rfl (by decide) ?_
 rintro cvs m h K ⟨cb, n, r, rfl, ⟨s, cs, k, hm, hrow, hk, hlen, rfl⟩, hK⟩
 refine ⟨ctx [] [] [] [] false, rfl, aF, ?_⟩
 show Ap (ctx [] [] [] [] false) Tryz.f15 (dK Tryz.f15) (entry 40 [.val (.pointer (some ⟨cb, 0, none⟩)), .val (.int .i64 n)] m h) K
 rw [<- acQ]
 dsimp only [Qp, push_cast]
 have hsl : s.len = cs.length := by have := hrow.len; simpa [bF] using this
 refine ⟨k, .of_m hm rfl, s, .of_m hm rfl, aE (λ hge => ?_) (λ hlt => aE (λ hn => ?_) (λ hn => ?_))⟩
 . have hd : cs.drop k = [] := by simp; omega
   rw [hd] at hK
   exact hK m ⟨λ _ _ => rfl⟩ ⟨s, cs, k, hm, hrow, hk, hlen, by rw [hd]; rfl⟩
 . have hk' : k < cs.length := by omega
   have hd : cs.drop k = cs[k] :: cs.drop (k + 1) := X2 hk'
   rw [hd] at hK
   simp only [QJ, if_pos hn] at hK
   refine hK m ⟨λ _ _ => rfl⟩ ⟨s, cs, k, hm, hrow, hk, hlen, hd.symm⟩
 . have hk' : k < cs.length := by omega
   have hd : cs.drop k = cs[k] :: cs.drop (k + 1) := X2 hk'
   rw [hd] at hK
   simp only [QJ, if_neg hn] at hK
   have hw : IntKind.i64.wrap ((k : Int) + 1) = ((k + 1 : Nat) : Int) := by rw [eG] <;> omega
   have hw2 : IntKind.i64.wrap (((k + 1 : Nat) : Int) - 1) = (k : Int) := by rw [eG] <;> omega
   refine ⟨k, .of_m hm rfl, _, _, ⟨hm⟩, by simp, λ m' hu => ?_⟩
   have hm' := hu.at_
   rw [hw] at hm'
   simp only [splice] at hm'
   obtain hnil | ⟨b, o, ha, hrd⟩ := hrow.row
   . exfalso
     have := congrArg List.length hnil
     simp [bF] at this
     subst this
     simp at hk'
   refine ⟨s, .of_m hm' rfl, ((k + 1 : Nat) : Int), .of_m hm' rfl, b, o, ha, ?_⟩
   rw [hw2]
   refine ⟨aC, aC, cs[k], .imm ?_, aC, ?_⟩
   . have := hrd k [.int .u8 cs[k].toNat] (by simp [bF, hk'])
     simpa using this
   . have hlt : cs[k].toNat < 256 := cs[k].toNat_lt
     rw [eG aC aC, Int.tmod_eq_emod_of_nonneg aC]
     refine hK m' ⟨hu.other⟩ ⟨s, cs, k + 1, hm', hrow, aC, hlen, rfl⟩
def aK (m : MH) (h : PH) (cb : Nat) : Prop := ∃ r, Th m h cb r
theorem aK.mono (x : aK m h cb) (le : PH.le h h') : aK m h' cb := by
 obtain ⟨r, s, cs, k, h1, h2, h3⟩ := x
 exact ⟨r, s, cs, k, h1, h2.mono le, h3⟩
theorem aY.refl (m : MH) (cb : Nat) : aY m m cb := ⟨λ _ _ => rfl⟩
theorem aY.trans {m'' : MH} (a : aY m m' cb) (b : aY m' m'' cb) : aY m m'' cb := ⟨λ c hc => (b.other c hc).trans (a.other c hc)⟩
def Oq (n : Int) : Prop := -9223372036854775808 <= n /\ n <= 9223372036854775807
structure Im (v : VV) : Prop where
 int_ : Oq v.int
 text_ : v.text.size <= 64
def Zt (k : Int) : Prop := k = 3 \/ k = 4 \/ k = 5
def Un (k : Int) (v : VV) : Prop := Zt k -> jK v = true /\ v.kind = k
def Gc : Vc.Spec := λ cvs m h K => ∃ cb n, cvs = [cP cb, cI n] /\ aK m h cb /\ ∀ k m', 0 <= k -> (k < n \/ k = 0) -> aY m m' cb -> aK m' h cb -> K (cI k) m' h
def K3 : Vc.Spec := λ cvs m h K => ∃ cb n, cvs = [cP cb, cI n] /\ 0 <= n /\ n <= 1000 /\ aK m h cb /\ ∀ r m', aY m m' cb -> aK m' h cb -> K (cB r) m' h
def Ui : Vc.Spec := λ cvs m h K => ∃ cb, cvs = [cP cb] /\ aK m h cb /\ ∀ k m', Oq k -> aY m m' cb -> aK m' h cb -> K (cI k) m' h
def ZF : Vc.Spec := λ cvs m h K => ∃ cb, cvs = [cP cb] /\ aK m h cb /\ ∀ t m', t.size <= 64 -> aY m m' cb -> aK m' h cb -> K (N6 t) m' h
def Og : Vc.Spec := λ cvs m h K => ∃ cb kind, cvs = [cP cb, cI kind] /\ aK m h cb /\ ∀ v m', Im v -> Un kind v -> aY m m' cb -> aK m' h cb -> K (aV v) m' h
theorem GN : Sound Tryz.prog 15 Gc := by
 refine ⟨LH.1, λ cvs vs m h w K hS hp => LH.2 cvs vs m h w K ?_ hp⟩
 obtain ⟨cb, n, rfl, ⟨r, hr⟩, hK⟩ := hS
 refine ⟨cb, n, r, rfl, hr, λ m' ho hc => hK _ m' ?_ ?_ ho ⟨_, hc⟩⟩
 . cases r with
   | nil => simp [QJ]
   | cons b r =>
    simp only [QJ]
    split
    . simp
    . exact Int.emod_nonneg _ aC
 . cases r with
   | nil => simp [QJ]
   | cons b r =>
    simp only [QJ]
    split
    . simp
    . exact .inl (Int.emod_lt_of_pos _ aC)
noncomputable def Xg (h : PH) : Ctx :=
 dM [(15, Gc)] [(18, { A := Nat × ByteArray × MH, st := λ ⟨i, t, m⟩ => cH 37 38 [(3, vv (.string t)), (4, iv i)] [] m h }), (23, { A := Nat × ByteArray × MH, st := λ ⟨i, t, m⟩ => cH 37 38 [(3, vv (.string t)), (5, iv i)] [] m h })] [] [] false
abbrev fX (a : Nat) (b : Int) (c : Nat -> Option Obj) (d : Nat -> Nat -> Option Value) (e : Int -> MH -> Prop) : Prop := ∃ (x : Nat) (x1 : Int), aA (bB (DR a 0) b = bB (DR x 0) x1) (aK c d x) (∀ (x2 : Int) (x3 : MH), bK (cA x2) (x2 < x1 \/ x2 = 0) (bK (aY c x3 x) (aK x3 d x) (e x2 x3)))
attribute [push_cast] fX
def Qn (cb : Nat) (n : Int) (m : MH) (h : PH) (K : CV -> MH -> PH -> Prop) : Prop :=
  fX cb n m h (λ k m1 => K (AE (k == dZ (n - 1))) m1 h)
def MJ (cb : Nat) (m : MH) (h : PH) (K : CV -> MH -> PH -> Prop) : Prop :=
  fX cb 12 m h (λ k m1 => cW (k == 9) (K (dH (Int.negSucc 0)) m1 h) (k == 10) (K (dH 9223372036854775807) m1 h) (dN k 11 (K (dH (Int.negSucc 9223372036854775807)) m1 h) (jO ((4 : Int) = 0) /\ K (dH (Int.tmod k 4)) m1 h)))
noncomputable abbrev fG (a : Nat) (b : List UInt8) : List UInt8 := OfNat.ofNat a :: b
noncomputable abbrev qI (a : Nat) : List UInt8 := fG a []
attribute [push_cast] fG qI
def MI (cb : Nat) (m : MH) (h : PH) (K : CV -> MH -> PH -> Prop) : Prop :=
  fX cb 10 m h (λ k m1 => cW (k == 0) (K (iR (ByteArray.mk (Array.mk (qI 97)))) m1 h) (k == 1) (K (iR (ByteArray.mk (Array.mk (qI 97)))) m1 h) (cW (k == 2) (K (iR (ByteArray.mk (Array.mk (qI 97)))) m1 h) (k == 3) (K (iR (ByteArray.mk (Array.mk (qI 98)))) m1 h) (cW (k == 4) (K (iR (ByteArray.mk (Array.mk (qI 98)))) m1 h) (k == 5) (K (CV.val Tq) m1 h) (cW (k == 6) (K (iR (ByteArray.mk (Array.mk (fG 97 (fG 0 []))))) m1 h) (k == 7) (K (iR (ByteArray.mk (Array.mk (qI 255)))) m1 h) (dN k 8 (∃ (I : Nat × ByteArray × MH -> Prop) (m2 : Nat × ByteArray × MH -> Nat), (∃ (x : Nat × ByteArray × MH), aA (I x) (SV.at QR = SV.at (Oc x.2.1)) (aA (bC x.1) (m1 = x.2.2) (cV h h))) /\ ∀ (x : Nat × ByteArray × MH), I x -> bA (↑x.1 : Int) 64 (x.2.1.size < 9223372036854775807 /\ ∃ (x1 : Nat × ByteArray × MH), aA (I
 x1) (m2 x1 < m2 x) (aA (SV.at (Oc (x.2.1 ++ ByteArray.mk (Array.mk (qI 255)))) = SV.at (Oc x1.2.1)) (fK (bE x.1 1) = bV x1.1) (dT x.2.2 x1.2.2 h h))) (K (iR x.2.1) x.2.2 h)) (∃ (I : Nat × ByteArray × MH -> Prop) (m2 : Nat × ByteArray × MH -> Nat), (∃ (x : Nat × ByteArray × MH), aA (I x) (SV.at QR = SV.at (Oc x.2.1)) (aA (bC x.1) (m1 = x.2.2) (cV h h))) /\ ∀ (x : Nat × ByteArray × MH), I x -> bA (↑x.1 : Int) 64 (x.2.1.size < 9223372036854775807 /\ ∃ (x1 : Nat × ByteArray × MH), aA (I x1) (m2 x1 < m2 x) (aA (SV.at (Oc (x.2.1 ++ ByteArray.mk (Array.mk (qI 98)))) = SV.at (Oc x1.2.1)) (fK (bE x.1 1) = bV x1.1) (dT x.2.2 x1.2.2 h h))) (K (iR x.2.1) x.2.2 h)))))))
abbrev fY (a : MH) (b : PH) (c : Nat) (d : Prop) : Prop := aK a b c -> d
attribute [push_cast] fY
def PT (cb : Nat) (kind : Int) (m : MH) (h : PH) (K : CV -> MH -> PH -> Prop) : Prop :=
  cW (kind == 3) (fX cb 2 m h (λ k m1 => K (kE (aJ (dQ kind) (dQ k) xP)) m1 h)) (kind == 4) (∃ (c : Nat), aA (mR (iH cb) = mR (iH c)) (aK m h c) (∀ (k : Int) (m1 : MH), bK (Oq k) (aY m m1 c) (fY m1 h c (K (kE (aJ (dQ kind) (dQ k) xP)) m1 h)))) (∃ (c : Nat), aA (mR (iH cb) = mR (iH c)) (aK m h c) (∀ (t : ByteArray) (m1 : MH), bK (t.size <= 64) (aY m m1 c) (fY m1 h c (K (kE (aJ (dQ 5) bO (iK (Value.string t)))) m1 h))))
theorem abJ {n : Int} (hc : aK m h cb) (hK : ∀ r m', aY m m' cb -> aK m' h cb -> K (cB r) m' h) : Qn cb n m h K :=
 ⟨cb, n, rfl, hc, λ _ m' _ _ ho hc' => hK _ m' ho hc'⟩
theorem Ed : Ce ⟨#[]⟩ = true := by simp [Ce, ByteArray.toList_eq]
theorem ZZ {k : Int} (h0 : 0 <= k) (h1 : k < 2 \/ k = 0) : jK ⟨3, k, ⟨#[]⟩⟩ = true := by
 have : k = 0 \/ k = 1 := by omega
 rcases this with rfl | rfl <;> simp [jK, Ed]
theorem V9 (k : Int) : jK ⟨4, k, ⟨#[]⟩⟩ = true := by simp [jK, Ed]
theorem ZY {t : ByteArray} (h : t.size <= 64) : jK ⟨5, 0, t⟩ = true := by
 simp [jK]; omega
theorem xC : Sound Tryz.prog 16 K3 := by
 refine gX Tryz.func16 ?_
 rintro cvs m h K ⟨cb, n, rfl, _, _, hc, hK⟩
 refine ⟨dM [(15, Gc)] [] [] [] false, rfl, aD GN aF, Qn cb n m h K, by kernel_rfl, ?_⟩
 exact abJ hc hK
theorem SJ : Sound Tryz.prog 108 Ui := by
 refine gX Tryz.func108 ?_
 rintro cvs m h K ⟨cb, rfl, hc, hK⟩
 refine ⟨dM [(15, Gc)] [] [] [] false, rfl, aD GN aF, MJ cb m h K, by kernel_rfl, ?_⟩
 dsimp only [MJ, push_cast]
 refine ⟨cb, 12, rfl, hc, λ k m' h0 h1 ho hc' => aB (λ _ => hK _ m' ⟨aC, aC⟩ ho hc') (λ _ => aB (λ _ => hK _ m' ⟨aC, aC⟩ ho hc') (λ _ => aB (λ _ => hK _ m' ⟨aC, aC⟩ ho hc') (λ _ => ⟨aC, hK _ m' ?_ ho hc'⟩)))⟩
 rw [Int.tmod_eq_emod_of_nonneg h0]
 exact ⟨aC, aC⟩
theorem SI : Sound Tryz.prog 109 ZF := by
 refine gX Tryz.func109 ?_
 rintro cvs m h K ⟨cb, rfl, hc, hK⟩
 refine ⟨Xg h, rfl, aD GN aF, MI cb m h K, by kernel_rfl, ?_⟩
 dsimp only [MI, push_cast]
 refine ⟨cb, 10, rfl, hc, λ k m' h0 h1 ho hc' => ?_⟩
 refine aB (λ _ => hK _ m' (by decide) ho hc') (λ _ => aB (λ _ => hK _ m' (by decide) ho hc') (λ _ => aB (λ _ => hK _ m' (by decide) ho hc') (λ _ => aB (λ _ => hK _ m' (by decide) ho hc') (λ _ => aB (λ _ => hK _ m' (by decide) ho hc') (λ _ => aB (λ _ => hK _ m' (by decide) ho hc') (λ _ => aB (λ _ => hK _ m' (by decide) ho hc') (λ _ => aB (λ _ => hK _ m' (by decide) ho hc') (λ _ => aB (λ _ => ?_) (λ _ => ?_)))))))))
 all_goals
  refine ⟨λ ⟨i, t, mx⟩ => mx = m' /\ i <= 64 /\ t.size = i, λ ⟨i, _, _⟩ => 64 - i, ⟨(0, ⟨#[]⟩, m'), ⟨rfl, aC, rfl⟩, MT⟩, ?_⟩
  rintro ⟨i, t, m'⟩ ⟨rfl, hi, ht⟩
  dsimp only
  refine aE (λ hlt => ⟨?_, (i + 1, _, m'), ⟨rfl, aC, ?_⟩, by show 64 - (i + 1) < 64 - i; omega, MT⟩) (λ hge => hK t m' aC ho hc')
  . rw [ht]; show i + 1 <= _; omega
  . rw [ByteArray.size_append, ht]; rfl
theorem GR : Sound Tryz.prog 77 Og := by
 refine gX Tryz.func77 ?_
 rintro cvs m h K ⟨cb, kind, rfl, hc, hK⟩
 refine ⟨dM [(15, Gc), (108, Ui), (109, ZF)] [] [] [] false, rfl, aD GN (aD SJ (aD SI aF)), PT cb kind m h K, by kernel_rfl, ?_⟩
 dsimp only [PT, push_cast]
 refine aB (λ e => ⟨cb, 2, rfl, hc, λ k m' h0 h1 ho hc' => hK ⟨kind, k, ⟨#[]⟩⟩ m' ⟨⟨by show -9223372036854775808 <= k; omega, by show k <= 9223372036854775807; omega⟩, by show (ByteArray.mk #[]).size <= 64; decide⟩ (λ _ => ?_) ho hc'⟩) (λ e1 => aB (λ e => ⟨cb, rfl, hc, λ k m' hk ho hc' => hK ⟨kind, k, ⟨#[]⟩⟩ m' ⟨hk, by show (ByteArray.mk #[]).size <= 64; decide⟩ (λ _ => ?_) ho hc'⟩) (λ e2 => ⟨cb, rfl, hc, λ t m' ht ho hc' => hK ⟨5, 0, t⟩ m' ⟨⟨by simp, by simp⟩, ht⟩ (λ hk => ?_) ho hc'⟩))
 . have e : kind = 3 := by simpa using e
   subst e; exact ⟨ZZ h0 h1, rfl⟩
 . have e : kind = 4 := by simpa using e
   subst e; exact ⟨V9 k, rfl⟩
 . have e1 : kind ≠ 3 := by simpa using e1
   have e2 : kind ≠ 4 := by simpa using e2
   exact ⟨ZY ht, by rcases hk with hk | hk | hk; exact absurd hk e1; exact absurd hk e2; exact hk.symm⟩
mutual
def Gb : Pred -> Prop
 | .mk _ _ l r args => Im l.value /\ Im r.value /\ KU args
def KU : List Pred -> Prop
 | [] => True
 | p :: ps => Gb p /\ KU ps
end
theorem KT : ∀ {l : List Pred}, KU l ↔ ∀ p ∈ l, Gb p
 | [] => by simp [KU]
 | p :: ps => by simp [KU, KT (l := ps)]
theorem nE : Im zeroV := ⟨⟨by decide, by decide⟩, by decide⟩
structure QU (cols params : List Int) (kind : Int) (o : OV) : Prop where
 val : Im o.value
 kind : Zt kind -> kindOf cols params o = kind
def Ge (l : List Int) : Prop := ∀ k ∈ l, Zt k
structure PW (cols params : List Int) (d : Nat) (p : Pred) : Prop where
 vals : Gb p
 valid : Ge cols -> iP cols params p = true
 siz : KN d p
def QT : Vc.Spec := λ cvs m h K => ∃ cb s t kind cols params, cvs = [cP cb, cS s, cS t, cI kind] /\ aK m h cb /\ Ints h s cols /\ Ints h t params /\ cols.length <= 1000 /\ params.length <= 1000 /\ ∀ o m', QU cols params kind o -> aY m m' cb -> aK m' h cb -> K (aO o) m' h
def KP (K : CV -> MH -> PH -> Prop) (m : MH) (h : PH) (cb : Nat) (R : Pred -> Prop) : Prop := ∀ v p m' h', PH.le h h' -> eD h' p v -> R p -> aY m m' cb -> aK m' h' cb -> K (aP v) m' h'
def Xw (N : Nat) : Vc.Spec := λ cvs m h K => ∃ cb s t cols params, ∃ deep : Nat, cvs = [cP cb, cS s, cS t, cI deep] /\ aK m h cb /\ Ints h s cols /\ Ints h t params /\ cols.length <= 1000 /\ params.length <= 1000 /\ deep < N /\ deep <= 1000 /\ KP K m h cb (PW cols params deep)
structure vR (cols params : List Int) (d : Nat) (p : Pred) : Prop where
 vals : Gb p
 valid : d <= 2 -> Ge cols -> Ge params -> gY cols params p = 0
def yA : Vc.Spec := λ cvs m h K => ∃ cb s t cols params, ∃ deep : Nat, cvs = [cP cb, cS s, cS t, cI deep] /\ aK m h cb /\ Ints h s cols /\ Ints h t params /\ cols.length <= 1000 /\ params.length <= 1000 /\ deep <= 1000 /\ KP K m h cb (vR cols params deep)
def pv (b : Nat) : SV := vv (.pointer (some ⟨b, 0, none⟩))
noncomputable def Yw (cb : Nat) (s t : Sl) (kind : Int) (m : MH) (h : PH) : Ctx :=
 dM [(15, Gc), (77, Og)] [(3, { A := Nat × List OV, st := λ ⟨i, os⟩ => cH 64 68 [(0, pv cb), (2, sv t), (3, iv kind), (8, .at (.ptr 8 0)), (9, .at (.lst 29)), (15, sv s), (16, iv s.len), (17, iv i)] [(8, .cells 29 (dL.enc.map .val)), (29, .lst 29 5 (os.map OV.enc))] m h }),
  (9, { A := Nat × List OV, st := λ ⟨i, os⟩ => cH 64 68 [(0, pv cb), (3, iv kind), (8, .at (.ptr 8 0)), (9, .at (.lst 29)), (31, sv t), (32, iv t.len), (33, iv i)] [(8, .cells 29 (dL.enc.map .val)), (29, .lst 29 5 (os.map OV.enc))] m h })] [] [] false
noncomputable def YJ (N : Nat) (cb : Nat) (s t : Sl) (deep : Nat) (h0 : PH) : Ctx :=
 dM [(15, Gc), (16, K3), (96, QT), (77, Og), (68, Xw N)] [(18, { A := Int × Int × List PV × MH × PH, st := λ ⟨op, n, us, m, h⟩ => cH 107 111 [(0, pv cb), (1, sv s), (2, sv t), (3, iv deep), (8, .at (.ptr 8 0)), (12, .at (.ptr 12 0)), (13, iv n)] [(8, .cells 32 (fS.enc.map .val)), (12, .cells 32 (((⟨op, 0, dL, dL, ⟨none, 0, 0⟩⟩ : PV).enc.take 12).map .val ++ [.lst 104])), (104, .lst 32 13 (us.map PV.enc))] m h })] [(3, { A := Int × Bool × MH, st := λ ⟨k, b, m⟩ => cH 107 111 [(0, pv cb), (1, sv s), (2, sv t), (3, iv deep), (8, .at (.ptr 8 0)), (9, iv k), (16, bv b)] [(8, .cells 32 (fS.enc.map .val))] m h0 }),
  (5, { A := Int × Bool × MH, st := λ ⟨k, b, m⟩ => cH 107 111 [(0, pv cb), (1, sv s), (2, sv t), (3, iv deep), (8, .at (.ptr 8 0)), (9, iv k), (27, bv b)] [(8, .cells 32 (fS.enc.map .val))] m h0 }),
  (8, { A := Int × MH, st := λ ⟨k, m⟩ => cH 107 111 [(0, pv cb), (1, sv s), (2, sv t), (8, .at (.ptr 8 0)), (10, iv k)] [(8, .cells 32 (fS.enc.map .val))] m h0 }),
  (9, { A := PV × Int × MH, st := λ ⟨p, k, m⟩ => cH 107 111 [(0, pv cb), (1, sv s), (2, sv t), (8, .at (.ptr 8 0)), (10, iv k), (11, .at (.ptr 11 0))] [(8, .cells 32 (fS.enc.map .val)), (11, .cells 32 (p.enc.map .val))] m h0 }),
  (11, { A := PV × MH, st := λ ⟨p, m⟩ => cH 107 111 [(0, pv cb), (8, .at (.ptr 8 0)), (11, .at (.ptr 11 0))] [(8, .cells 32 (fS.enc.map .val)), (11, .cells 32 (p.enc.map .val))] m h0 }),
  (13, { A := PV × MH, st := λ ⟨p, m⟩ => cH 107 111 [(8, .at (.ptr 8 0)), (11, .at (.ptr 11 0))] [(8, .cells 32 (fS.enc.map .val)), (11, .cells 32 (p.enc.map .val))] m h0 })] [] false
noncomputable abbrev dU (a b : Int) (c : List At) : List At := mJ (mK a) (mK b) c
abbrev A3  : Prop := eQ (oQ 29 (dU 0 0 (dU 0 0 (yJ QR))))
noncomputable abbrev nJ (a : Nat × List OV) : List (List Value) := List.map OV.enc a.2
abbrev Fs (a b : Nat × List OV) : Prop := fK (bE a.1 1) = bV b.1
abbrev Bd (a : Nat) (b : Int) (c : Nat -> Option Obj) (d : Nat -> Nat -> Option Value) (e : VV -> MH -> Prop) : Prop := ∃ (x : Nat) (x1 : Int), aA (bB (DR a 0) b = bB (DR x 0) x1) (aK c d x) (∀ (x2 : VV) (x3 : MH), bK (Im x2) (Un x1 x2) (bK (aY c x3 x) (aK x3 d x) (e x2 x3)))
attribute [push_cast] dU A3 nJ Fs Bd
def PE (cb : Nat) (s t : Sl) (kind : Int) (m : MH) (h : PH) (K : CV -> MH -> PH -> Prop) : Prop :=
  ∃ (I : Nat × List OV -> Prop) (m1 : Nat × List OV -> Nat), (∃ (x : Nat × List OV), aA (I x) (dE cb) (aA (aI t) (eQ (fK kind)) (aA (eP 8) (eL 29) (aA (aI s) (bI s) (aA (bC x.1) A3 (aA (Option.some (Own.lst 29 5 []) = Option.some (Own.lst 29 5 (nJ x))) (m = m) (cV h h))))))) /\ ∀ (x : Nat × List OV), I x -> bA (↑x.1 : Int) (aG s) (aT (λ b o => aA (aU s.a b o) (0 <= (↑x.1 : Int)) ((↑x.1 : Int) < aG s /\ ∃ (y : Int), aL m h b (bN o x.1 1) (bZ y) /\ dN y kind (nT (nJ x) 48 (∃ (x1 : Nat × List OV), aA (I x1) (m1 x1 < m1 x) (aA (dE cb) (aI t) (aA (eQ (fK kind)) (eP 8) (aA (eL 29) (aI s) (aA (bI s) (Fs x x1) (aA A3 (Option.some (Own.lst 29 5 (nJ x ++ cT (aJ (dQ 1) (dQ (↑x.1 : Int)) (aJ bO bO xP)))) = Option.some (Own.lst 29 5 (nJ x1))) (dT m m h
 h)))))))) (∃ (x1 : Nat × List OV), aA (I x1) (m1 x1 < m1 x) (aA (dE cb) (aI t) (aA (eQ (fK kind)) (eP 8) (aA (eL 29) (aI s) (aA (bI s) (Fs x x1) (aA A3 (Option.some (Own.lst 29 5 (nJ x)) = Option.some (Own.lst 29 5 (nJ x1))) (dT m m h h)))))))))) (∃ (I1 : Nat × List OV -> Prop) (m2 : Nat × List OV -> Nat), (∃ (x1 : Nat × List OV), aA (I1 x1) (dE cb) (aA (eQ (fK kind)) (eP 8) (aA (eL 29) (aI t) (aA (bI t) (bC x1.1) (lX A3 (Option.some (Own.lst 29 5 (nJ x)) = Option.some (Own.lst 29 5 (nJ x1))) (m = m) (h = h)))))) /\ ∀ (x1 : Nat × List OV), I1 x1 -> bA (↑x1.1 : Int) (aG t) (aT (λ b o => aA (aU t.a b o) (0 <= (↑x1.1 : Int)) ((↑x1.1 : Int) < aG t /\ ∃ (y : Int), aL m h b (bN o x1.1 1) (bZ y) /\ dN y kind (nT (nJ x1) 48 (∃ (x2 : Nat × List OV), aA (I1 x2) (m2 x2 <
 m2 x1) (aA (dE cb) (eQ (fK kind)) (aA (eP 8) (eL 29) (aA (aI t) (bI t) (aA (Fs x1 x2) A3 (aA (Option.some (Own.lst 29 5 (nJ x1 ++ cT (aJ (dQ 2) (dQ (↑x1.1 : Int)) (aJ bO bO xP)))) = Option.some (Own.lst 29 5 (nJ x2))) (m = m) (cV h h)))))))) (∃ (x2 : Nat × List OV), aA (I1 x2) (m2 x2 < m2 x1) (aA (dE cb) (eQ (fK kind)) (aA (eP 8) (eL 29) (aA (aI t) (bI t) (aA (Fs x1 x2) A3 (aA (Option.some (Own.lst 29 5 (nJ x1)) = Option.some (Own.lst 29 5 (nJ x2))) (m = m) (cV h h)))))))))) (fX cb (bE (nJ x1).length 1) m h (λ k m3 => bA k (j3 (nJ x1)) (aA (cA k) (k < j3 (nJ x1)) (∃ (e : List Value), uO (nJ x1) k.toNat e /\ ∃ (y : OV), List.take 5 (List.drop 0 e) = y.enc /\ K (kE y.enc) m3 h)) (Bd cb kind m3 h (λ v m4 => K (kE (aJ (dQ 3)
 bO (aJ (dQ v.kind) (dQ v.int) (iK (Value.string v.text))))) m4 h)))))
abbrev j7 (a : Nat) (b : Int) (c : Nat -> Option Obj) (d : Nat -> Nat -> Option Value) (e : Nat -> Bool -> Prop) : Prop := ∃ (x : Nat) (x1 : Int), aA (bB (DR a 0) b = bB (DR x 0) x1) (cA x1) (aA (x1 <= 1000) (aK c d x) (∀ (x2 : Bool), e x x2))
abbrev sD  : Prop := eQ (oQ 32 zP)
abbrev E9 (a : Int × Bool × MH -> Prop) (b : Nat) (c d : Sl) (e : Nat) (g : Int) (i : (Int × Bool × MH) -> Prop) (j : Nat -> Option Obj) (k : PH) : Prop := ∃ (x : Int × Bool × MH), aA (a x) (dE b) (aA (aI c) (aI d) (aA (eQ (bV e)) (eP 8) (aA (cL g x.1) (i x) (bM sD (j = x.2.2) (k = k)))))
abbrev oC (a : Nat) : Prop := a <= 1000
abbrev fW (a : List Int) : Prop := oC a.length
noncomputable abbrev Dm (a : OV) : At := Oc a.value.text
abbrev wS (a : Sl -> Sl -> (List Int) -> (List Int) -> Nat -> Prop) : Prop := iW (λ x x1 => qS (λ x2 x3 => ∃ (x4 : Nat), a x x1 x2 x3 x4))
abbrev AZ (a : PV -> Pred -> Prop) : Prop := ∀ (x : PV) (x1 : Pred), a x x1
abbrev Fa (a : List CV) (b : MH) (c : PH) (d : Nat) (e : Nat -> (List Int) -> (List Int) -> Nat -> PV -> Pred -> Prop) : Prop := ∃ (x : Nat), wS (λ x1 x2 x3 x4 x5 => aA (a = DR x 0 :: cK x1 :: fF x2 (↑x5 : Int)) (aK b c x) (aA (Ints c x1 x3) (Ints c x2 x4) (aA (fW x3) (fW x4) (aA (x5 < d) (oC x5) (AZ (λ x6 x7 => e x x3 x4 x5 x6 x7))))))
abbrev dW (a : MH -> PH -> Prop) : Prop := ∀ (x : MH) (x1 : PH), a x x1
noncomputable abbrev Dl (a : Int × Int × List PV × MH × PH) : List (List Value) := List.map PV.enc a.2.2.1
abbrev bJ (a : Nat -> Option Obj) (b : MH × PH) : Prop := a = b.1
noncomputable abbrev sF (a : Int × Int × List PV × MH × PH) : MH × PH := a.2.2.2
abbrev cE (a : PH) (b : MH × PH) : Prop := a = b.2
abbrev lF (a : Nat -> Nat -> Option Value) (b : MH × PH) : Prop := cE a b /\ True
attribute [push_cast] j7 sD E9 oC fW Dm wS AZ Fa dW Dl bJ sF cE lF
def PZ (N : Nat) (cb : Nat) (s t : Sl) (deep : Nat) (m : MH) (h : PH) (K : CV -> MH -> PH -> Prop) : Prop :=
  fX cb 9 m h (λ k m1 => ∃ (I : Int × Bool × MH -> Prop), dN k 0 (j7 cb 2 m1 h (λ c r => ∀ (m2 : MH), bK (aY m1 m2 c) (aK m2 h c) (E9 I cb s t deep k (λ x => gM r x.2.1) m2 h))) (E9 I cb s t deep k (λ x => AV x.2.1) m1 h) /\ ∀ (x : Int × Bool × MH), fP (I x) x.2.1 (fX cb 2 x.2.2 h (λ k1 m2 => K (kE (aJ (dQ (dZ (1 + k1))) bO (aJ bO bO (aJ bO bO (aJ Tq bO (aJ bO bO (aJ bO Tq hU))))))) m2 h)) (∃ (I1 : Int × Bool × MH -> Prop), bA x.1 6 (E9 I1 cb s t deep x.1 (λ x1 => vH x1.2.1) x.2.2 h) (E9 I1 cb s t deep x.1 (λ x1 => gM (decide ((↑deep : Int) < 1)) x1.2.1) x.2.2 h) /\ ∀ (x1 : Int × Bool × MH), I1 x1 -> cW x1.2.1 (∃ (I2 : Int × MH -> Prop), eJ (aG s) 0 (fX cb (aG s) x1.2.2 h (λ k1 m2 => aT (λ b o => aA (aU s.a b o) (0 <= k1) (k1 <
 aG s /\ ∃ (y : Int), aL m2 h b (fM o k1 1) (bZ y) /\ ∃ (x2 : Int × MH), aA (I2 x2) (dE cb) (aA (aI s) (aI t) (aA (eP 8) (cL y x2.1) (aA sD (m2 = x2.2) (cV h h)))))))) (∃ (x2 : Int × MH), aA (I2 x2) (dE cb) (aA (aI s) (aI t) (aA (eP 8) (cL 4 x2.1) (aA sD (x1.2.2 = x2.2) (cV h h))))) /\ ∀ (x2 : Int × MH), I2 x2 -> ∃ (I3 : PV × Int × MH -> Prop), fX cb 6 x2.2 h (λ k1 m2 => ∃ (c : Nat), iW (λ s1 t1 => ∃ (k2 : Int), qS (λ c1 p => aA (DR cb 0 :: cK s :: fF t x2.1 = DR c 0 :: cK s1 :: fF t1 k2) (aK m2 h c) (aA (Ints h s1 c1) (Ints h t1 p) (aA (fW c1) (fW p) (∀ (o : OV) (m3 : MH), bK (QU c1 p k2 o) (aY m2 m3 c) (fY m3 h c (Bd cb x2.1 m3 h (λ v m4 => ∃ (x3 : PV × Int × MH), aA (I3 x3) (dE cb) (aA (aI s) (aI t) (aA (eP 8) (cL x2.1 x3.2.1)
 (aA (eP 11) sD (bM (oQ 32 (dU 3 (dZ (1 + k1)) (dU o.kind o.index (dU (mZ o) o.value.int (mJ (Dm o) (mK 3) (dU 0 v.kind (mJ (mK v.int) (Oc v.text) (yJ KJ))))))) = oZ 32 x3.1.enc) (m4 = x3.2.2) (h = h)))))))))))))) /\ ∀ (x3 : PV × Int × MH), I3 x3 -> ∃ (I4 : PV × MH -> Prop), j7 cb 3 x3.2.2 h (λ c r => ∀ (m2 : MH), bK (aY x3.2.2 m2 c) (aK m2 h c) (branch r (∃ (c1 : Nat), iW (λ s1 t1 => ∃ (k1 : Int), qS (λ c2 p => aA (DR cb 0 :: cK s :: fF t x3.2.1 = DR c1 0 :: cK s1 :: fF t1 k1) (aK m2 h c1) (aA (Ints h s1 c2) (Ints h t1 p) (aA (fW c2) (fW p) (∀ (o : OV) (m3 : MH), bK (QU c2 p k1 o) (aY m2 m3 c1) (fY m3 h c1 (∃ (x4 : PV × MH), aA (I4 x4) (dE cb) (aA (eP 8) (eP 11) (aA sD (oQ 32 (dU x3.1.op x3.1.cmp (dU x3.1.left.kind x3.1.left.index (dU (mZ
 x3.1.left) x3.1.left.value.int (mJ (Dm x3.1.left) (mK o.kind) (dU o.index (mZ o) (mJ (mK o.value.int) (Dm o) (qF x3.1.args))))))) = oZ 32 x4.1.enc) (aA (m3 = x4.2) (h = h) True))))))))))) (∃ (x4 : PV × MH), aA (I4 x4) (dE cb) (aA (eP 8) (eP 11) (aA sD (oZ 32 x3.1.enc = oZ 32 x4.1.enc) (aA (m2 = x4.2) (h = h) True)))))) /\ ∀ (x4 : PV × MH), I4 x4 -> ∃ (I5 : PV × MH -> Prop), j7 cb 6 x4.2 h (λ c r => ∀ (m2 : MH), bK (aY x4.2 m2 c) (aK m2 h c) (branch r (∃ (x5 : PV × MH), aA (I5 x5) (eP 8) (aA (eP 11) sD (bM (oQ 32 (dU x4.1.op x4.1.cmp (dU x4.1.right.kind x4.1.right.index (dU (mZ x4.1.right) x4.1.right.value.int (mJ (Dm x4.1.right) (mK x4.1.left.kind) (dU x4.1.left.index (mZ x4.1.left) (mJ (mK x4.1.left.value.int) (Dm x4.1.left) (qF x4.1.args))))))) = oZ 32
 x5.1.enc) (m2 = x5.2) (h = h)))) (∃ (x5 : PV × MH), aA (I5 x5) (eP 8) (aA (eP 11) sD (bM (oZ 32 x4.1.enc = oZ 32 x5.1.enc) (m2 = x5.2) (h = h)))))) /\ ∀ (x5 : PV × MH), I5 x5 -> K (cX x5.1) x5.2 h) (x1.1 == 6) (Fa (DR cb 0 :: cK s :: fF t (dZ ((↑deep : Int) - 1))) x1.2.2 h N (λ c c1 p d v p1 => dW (λ m2 h1 => dG h h1 (eD h1 p1 v) (bK (PW c1 p d p1) (aY x1.2.2 m2 c) (fY m2 h1 c (bH h1 13 (cT v.enc) (λ s1 h2 => K (kE (aJ (dQ 6) bO (aJ bO bO (aJ bO bO (aJ Tq bO (aJ bO bO (aJ bO Tq (aM s1)))))))) m2 h2))))))) (fX cb 3 x1.2.2 h (λ k1 m2 => ∃ (I2 : Int × Int × List PV × MH × PH -> Prop) (m3 : Int × Int × List PV × MH × PH -> Nat), (∃ (x2 : Int × Int × List PV × MH × PH), aA (I2 x2) (dE cb) (aA (aI s) (aI t) (aA (eQ (bV deep)) (eP 8) (aA (eP 12) (cL k1
 x2.2.1) (aA sD (oQ 32 (dU (dZ (dZ (4 + x1.1) - 7)) 0 (dU 0 0 (dU 0 0 (mJ QR (mK 0) (dU 0 0 (mJ (mK 0) QR (yJ (At.lst 104)))))))) = oQ 32 (dU x2.1 0 (dU 0 0 (dU 0 0 (mJ QR (mK 0) (dU 0 0 (mJ (mK 0) QR (yJ (At.lst 104))))))))) (aA (Option.some (Own.lst 32 13 []) = Option.some (Own.lst 32 13 (Dl x2))) (bJ m2 (sF x2)) (lF h (sF x2)))))))) /\ ∀ (x2 : Int × Int × List PV × MH × PH), I2 x2 -> fQ x2.2.1 0 (Fa (DR cb 0 :: cK s :: fF t (dZ ((↑deep : Int) - 1))) (sF x2).1 (sF x2).2 N (λ c c1 p d v p1 => dW (λ m4 h1 => dG (sF x2).2 h1 (eD h1 p1 v) (bK (PW c1 p d p1) (aY (sF x2).1 m4 c) (fY m4 h1 c (nT (Dl x2) 136 (∃ (x3 : Int × Int × List PV × MH × PH), aA (I2 x3) (m3 x3 < m3 x2) (aA (dE cb) (aI s) (aA (aI t) (eQ (bV
 deep)) (aA (eP 8) (eP 12) (aA (cL (dZ (x2.2.1 - 1)) x3.2.1) sD (aA (oQ 32 (dU x2.1 0 (dU 0 0 (dU 0 0 (mJ QR (mK 0) (dU 0 0 (mJ (mK 0) QR (yJ (At.lst 104)))))))) = oQ 32 (dU x3.1 0 (dU 0 0 (dU 0 0 (mJ QR (mK 0) (dU 0 0 (mJ (mK 0) QR (yJ (At.lst 104))))))))) (Option.some (Own.lst 32 13 (Dl x2 ++ cT v.enc)) = Option.some (Own.lst 32 13 (Dl x3))) (jG (bJ m4 (sF x3)) (cE h1 (sF x3))))))))))))))) (bH (sF x2).2 13 (Dl x2) (λ s1 h1 => K (kE (aJ (dQ x2.1) bO (aJ bO bO (aJ bO bO (aJ Tq bO (aJ bO bO (aJ bO Tq (aM s1)))))))) (sF x2).1 h1))))))
def Qd (N : Nat) (cb : Nat) (s t : Sl) (deep : Nat) (m : MH) (h : PH) (K : CV -> MH -> PH -> Prop) : Prop :=
  Fa (DR cb 0 :: cK s :: fF t (↑deep : Int)) m h N (λ c c1 p d v p1 => dW (λ m1 h1 => dG h h1 (eD h1 p1 v) (bK (PW c1 p d p1) (aY m m1 c) (fY m1 h1 c (C3 (cK s :: aX (cK t) (cX v)) h1 (λ c2 p2 p3 => dN (gY c2 p2 p3) 2 (Fa (DR cb 0 :: cK s :: fF t 1) m1 h1 N (λ c3 c4 p4 d1 v1 p5 => dW (λ m2 h2 => dG h1 h2 (eD h2 p5 v1) (bK (PW c4 p4 d1 p5) (aY m1 m2 c3) (fY m2 h2 c3 (K (cX v1) m2 h2)))))) (K (cX v) m1 h1)))))))
theorem Qy : VI zeroV zeroV = true := by simp [VI]
theorem yI : Nv 0 dL dL = true := by simp [Nv, VJ, VI]
theorem Rs {cols params : List Int} {x : Int} (h : cols[i]? = some x) : kindOf cols params ⟨1, i, zeroV⟩ = x := by
 have hl := (mG.1 h).1
 have e : kindOf cols params ⟨1, i, zeroV⟩ = pL cols ⟨1, i, zeroV⟩ := rfl
 have e2 := Qy
 rw [e]
 simp only [pL, e2, V4, VX]
 rw [if_neg (by simp; omega)]
 simp [Hy, h]
theorem Rr {cols params : List Int} {x : Int} (h : params[i]? = some x) : kindOf cols params ⟨2, i, zeroV⟩ = x := by
 have hl := (mG.1 h).1
 have e : kindOf cols params ⟨2, i, zeroV⟩ = pL params ⟨2, i, zeroV⟩ := rfl
 have e2 := Qy
 rw [e]
 simp only [pL, e2, V4, VX]
 rw [if_neg (by simp; omega)]
 simp [Hy, h]
theorem Pe {cols params : List Int} {kind : Int} {v : VV} (hv : Im v) (hk : Un kind v) : QU cols params kind ⟨3, 0, v⟩ := ⟨hv, λ h => by
 obtain ⟨h1, h2⟩ := hk h
 have e : kindOf cols params ⟨3, 0, v⟩ = if ((0 : Int) != 0 || !lI v) then 0 else v.kind := rfl
 rw [e, if_neg, h2]
 simp only [lI, h1, h2]
 rcases h with rfl | rfl | rfl <;> decide⟩
theorem U0 : Sound Tryz.prog 96 QT := by
 refine gX Tryz.func96 ?_
 rintro cvs m h K ⟨cb, s, t, kind, cols, params, rfl, hc, hs, ht, l1, l2, hK⟩
 refine ⟨Yw cb s t kind m h, rfl, aD GN (aD GR aF), PE cb s t kind m h K, by kernel_rfl, ?_⟩
 dsimp only [PE, push_cast]
 have hsl := hs.slen
 have htl := ht.slen
 refine ⟨λ ⟨i, os⟩ => i <= cols.length /\ os.length <= i /\ ∀ o ∈ os, QU cols params kind o, λ ⟨i, _⟩ => cols.length - i, ⟨(0, []), ⟨aC, by simp, by simp⟩, MT⟩, ?_⟩
 rintro ⟨i, os⟩ ⟨hi, hol, hos⟩
 dsimp only
 refine aE (λ hlt => ?_) (λ hge => ?_)
 . obtain ⟨x, hx⟩ := fE hsl hlt
   obtain ⟨b1, o1, e1, r1⟩ := hs.at' hx
   refine ⟨b1, o1, e1, aC, hlt, x, .imm r1, aB (λ ek => ⟨by simp; omega, by simp; omega, (i + 1, os ++ [⟨1, i, zeroV⟩]), ⟨aC, by simp; omega, ?_⟩, by show cols.length - (i + 1) < cols.length - i; omega, ?_⟩) (λ _ => ⟨(i + 1, os), ⟨aC, by show os.length <= i + 1; omega, hos⟩, by show cols.length - (i + 1) < cols.length - i; omega, MT⟩)⟩
   . intro o ho
     rcases BZ.1 ho with h1 | h1
     . exact hos o h1
     . simp at h1; subst h1; exact ⟨nE, λ _ => by rw [Rs (by simpa using hx)]; simpa using ek⟩
   . rw [xH]; exact MT
 refine ⟨λ ⟨i, os⟩ => i <= params.length /\ os.length <= 1000 + i /\ ∀ o ∈ os, QU cols params kind o, λ ⟨i, _⟩ => params.length - i, ⟨(0, os), ⟨aC, aC, hos⟩, MT⟩, ?_⟩
 clear hi hol hos hge
 rintro ⟨i, os⟩ ⟨hi, hol, hos⟩
 dsimp only
 refine aE (λ hlt => ?_) (λ hge => ?_)
 . obtain ⟨x, hx⟩ := fE htl hlt
   obtain ⟨b1, o1, e1, r1⟩ := ht.at' hx
   refine ⟨b1, o1, e1, aC, hlt, x, .imm r1, aB (λ ek => ⟨by simp; omega, by simp; omega, (i + 1, os ++ [⟨2, i, zeroV⟩]), ⟨aC, by simp; omega, ?_⟩, by show params.length - (i + 1) < params.length - i; omega, ?_⟩) (λ _ => ⟨(i + 1, os), ⟨aC, by show os.length <= 1000 + (i + 1); omega, hos⟩, by show params.length - (i + 1) < params.length - i; omega, MT⟩)⟩
   . intro o ho
     rcases BZ.1 ho with h1 | h1
     . exact hos o h1
     . simp at h1; subst h1; exact ⟨nE, λ _ => by rw [Rr (by simpa using hx)]; simpa using ek⟩
   . rw [xH]; exact MT
 . refine ⟨cb, _, rfl, hc, λ k m' h0 h1 ho hc' => aE (λ hk => ?_) (λ hk => ⟨cb, kind, rfl, hc', λ v m'' hv hkw ho' hc'' => hK ⟨3, 0, v⟩ m'' (Pe hv hkw) (ho.trans ho') hc''⟩)⟩
   have hk' : k.toNat < os.length := by simp at hk; omega
   exact ⟨h0, hk, _, by rw [AD, kP hk']; rfl, os[k.toNat], rfl, hK _ m' (hos _ (Q8 hk')) ho hc'⟩
theorem J3 {h : PH} {v : PV} (ha : v.args = ⟨none, 0, 0⟩) : eD h (.mk v.op v.cmp v.left v.right []) v := eD.mk (by rw [ha]; exact .nil _ _ _ _)
structure XU (cols params : List Int) (kd : Int) (p : PV) : Prop where
 args_ : p.args = ⟨none, 0, 0⟩
 op_ : p.op = 3
 cmp_ : 1 <= p.cmp /\ p.cmp <= 6
 left_ : QU cols params kd p.left
 right_ : QU cols params kd p.right
 kind_ : Ge cols -> Zt kd
theorem Yj {k : Int} (h : Zt k) : k ≠ 0 := by rcases h with rfl | rfl | rfl <;> decide
theorem XU.pw {cols params : List Int} {kd : Int} {p : PV} (x : XU cols params kd p) (d : Nat) : PW cols params d (.mk p.op p.cmp p.left p.right []) := by
 refine ⟨⟨x.left_.val, x.right_.val, trivial⟩, λ hc => ?_, KN.leaf d⟩
 have hk := x.kind_ hc
 have h1 := x.left_.kind hk
 have h2 := x.right_.kind hk
 have h3 := Yj hk
 have h4 := x.cmp_
 rw [x.op_]
 simp [iP, h1, h2, h3, h4.1, h4.2]
theorem Z4 {cols params : List Int} {d : Nat} (x : PW cols params d p) : PW cols params (d + 1) (.mk 6 0 dL dL [p]) :=
 ⟨⟨nE, nE, x.vals, trivial⟩, λ hc => by
  have e := yI
  simp [iP, AF, e, x.valid hc], KN.node (λ q hq => by simp at hq; subst hq; exact x.siz) (by simp)⟩
theorem Z5 {cols params : List Int} {d : Nat} {op : Int} {ps : List Pred} (ho : op = 4 \/ op = 5) (x : ∀ p ∈ ps, PW cols params d p) (hl : ps.length <= 3) : PW cols params (d + 1) (.mk op 0 dL dL ps) :=
 ⟨⟨nE, nE, KT.2 λ p hp => (x p hp).vals⟩, λ hc => by
  have e := yI
  have e2 : AF cols params ps = true := by rw [B4, Tn]; exact λ p hp => (x p hp).valid hc
  rcases ho with rfl | rfl <;> simp [iP, e, e2], KN.node (λ q hq => (x q hq).siz) hl⟩
theorem TT : ∀ N, Sound Tryz.prog 68 (Xw N)
 | 0 => by
  refine eK (fn := Tryz.f68) (c := dK Tryz.f68) Tryz.func68 rfl (by decide) ?_
  rintro cvs m h K ⟨cb, s, t, cols, params, deep, rfl, _, _, _, _, _, hN, _⟩
  omega
 | N + 1 => by
  refine gX Tryz.func68 ?_
  rintro cvs m h K ⟨cb, s, t, cols, params, deep, rfl, hc, hs, ht, l1, l2, hN, hd, hK⟩
  refine ⟨YJ N cb s t deep h, rfl, aD GN (aD xC (aD U0 (aD GR (aD (TT N) aF)))), PZ N cb s t deep m h K, by kernel_rfl, ?_⟩
  dsimp only [PZ, push_cast]
  have hsl := hs.slen
  refine ⟨cb, 9, rfl, hc, λ k m1 k0 k1 o1 c1 => ?_⟩
  refine ⟨λ ⟨k, _, mx⟩ => 0 <= k /\ k <= 8 /\ aY m mx cb /\ aK mx h cb, aB (λ _ => ⟨cb, 2, rfl, aC, aC, c1, λ r m2 o2 c2 => ⟨(k, r, m2), ⟨k0, aC, o1.trans o2, c2⟩, MT⟩⟩) (λ _ => ⟨(k, false, m1), ⟨k0, aC, o1, c1⟩, MT⟩), ?_⟩
  clear k0 k1 o1 c1 k m1
  rintro ⟨k, b, m1⟩ ⟨k0, k1, o1, c1⟩
  dsimp only
  refine aB (λ _ => ⟨cb, 2, rfl, c1, λ j m2 j0 j1 o2 c2 => ?_⟩) (λ _ => ?_)
  . refine hK ⟨IntKind.i64.wrap (1 + j), 0, dL, dL, ⟨none, 0, 0⟩⟩ _ m2 h (.refl _) (J3 rfl) ⟨⟨nE, nE, trivial⟩, λ _ => ?_, KN.leaf _⟩ (o1.trans o2) c2
    have hj : j = 0 \/ j = 1 := by omega
    have e1 : IntKind.i64.wrap 1 = 1 := by decide
    have e2 : IntKind.i64.wrap 2 = 2 := by decide
    rcases hj with rfl | rfl
    . simp [iP, e1, yI]
    . simp [iP, e2, yI]
  refine ⟨λ ⟨k, b, mx⟩ => 0 <= k /\ k <= 8 /\ (b = false -> 6 <= k /\ 1 <= deep) /\ aY m mx cb /\ aK mx h cb, aE (λ _ => ⟨(k, true, m1), ⟨k0, k1, λ e => (by cases e), o1, c1⟩, MT⟩) (λ hk => ⟨(k, _, m1), ⟨k0, k1, λ e => ?_, o1, c1⟩, MT⟩), ?_⟩
  . simp at e; exact ⟨aC, aC⟩
  clear k0 k1 o1 c1 k m1
  rintro ⟨k, b, m1⟩ ⟨k0, k1, kb, o1, c1⟩
  dsimp only
  refine aB (λ _ => ?_) (λ hb => ?_)
  . refine ⟨λ ⟨kd, mx⟩ => (Ge cols -> Zt kd) /\ aY m mx cb /\ aK mx h cb, aE (λ hpos => ⟨cb, s.len, rfl, c1, λ j m2 j0 j1 o2 c2 => ?_⟩) (λ _ => ⟨(4, m1), ⟨λ _ => .inr (.inl rfl), o1, c1⟩, MT⟩), ?_⟩
    . obtain ⟨b1, off, e1, r1⟩ := hs.inb (n := j) j0 aC
      have hm : cols.getD j.toNat 0 ∈ cols := by
       have : j.toNat < cols.length := by omega
       rw [Hy, kP this]
       exact Q8 this
      exact ⟨b1, off, e1, j0, aC, _, .imm r1, (_, m2), ⟨λ hcol => hcol _ hm, o1.trans o2, c2⟩, MT⟩
    clear o1 c1 m1
    rintro ⟨kd, m1⟩ ⟨hkd, o1, c1⟩
    dsimp only
    refine ⟨λ ⟨p, kd, mx⟩ => XU cols params kd p /\ aY m mx cb /\ aK mx h cb, ⟨cb, 6, rfl, c1, λ j m2 j0 j1 o2 c2 => ⟨cb, s, t, kd, cols, params, rfl, c2, hs, ht, l1, l2, λ o m3 ho o3 c3 => ⟨cb, kd, rfl, c3, λ v m4 hv hkw o4 c4 => ⟨(⟨3, IntKind.i64.wrap (1 + j), o, ⟨3, 0, v⟩, ⟨none, 0, 0⟩⟩, kd, m4), ⟨⟨rfl, rfl, ?_, ho, Pe hv hkw, hkd⟩, ((o1.trans o2).trans o3).trans o4, c4⟩, MT⟩⟩⟩⟩, ?_⟩
    . show 1 <= IntKind.i64.wrap (1 + j) /\ IntKind.i64.wrap (1 + j) <= 6
      rw [eG aC aC]; omega
    clear o1 c1 m1 hkd kd
    rintro ⟨p, kd, m1⟩ ⟨pw, o1, c1⟩
    dsimp only
    refine ⟨λ ⟨p, mx⟩ => XU cols params kd p /\ aY m mx cb /\ aK mx h cb, ⟨cb, 3, rfl, aC, aC, c1, λ r m2 o2 c2 => aB (λ _ => ⟨cb, s, t, kd, cols, params, rfl, c2, hs, ht, l1, l2, λ o m3 ho o3 c3 => ⟨(⟨p.op, p.cmp, p.left, o, p.args⟩, m3), ⟨⟨pw.args_, pw.op_, pw.cmp_, pw.left_, ho, pw.kind_⟩, (o1.trans o2).trans o3, c3⟩, MT⟩⟩) (λ _ => ⟨(p, m2), ⟨pw, o1.trans o2, c2⟩, MT⟩)⟩, ?_⟩
    clear pw o1 c1 m1 p
    rintro ⟨p, m1⟩ ⟨pw, o1, c1⟩
    dsimp only
    refine ⟨λ ⟨p, mx⟩ => XU cols params kd p /\ aY m mx cb /\ aK mx h cb, ⟨cb, 6, rfl, aC, aC, c1, λ r m2 o2 c2 => aB (λ _ => ⟨(⟨p.op, p.cmp, p.right, p.left, p.args⟩, m2), ⟨⟨pw.args_, pw.op_, pw.cmp_, pw.right_, pw.left_, pw.kind_⟩, o1.trans o2, c2⟩, MT⟩) (λ _ => ⟨(p, m2), ⟨pw, o1.trans o2, c2⟩, MT⟩)⟩, ?_⟩
    clear pw o1 c1 m1 p
    rintro ⟨p, m1⟩ ⟨pw, o1, c1⟩
    exact hK p _ m1 h (.refl _) (J3 pw.args_) (pw.pw deep) o1 c1
  have hdeep := kb hb
  have hw : IntKind.i64.wrap ((deep : Int) - 1) = ((deep - 1 : Nat) : Int) := by rw [eG aC aC]; omega
  rw [hw]
  have hdd : deep = deep - 1 + 1 := by omega
  refine aB (λ _ => ⟨cb, s, t, cols, params, deep - 1, rfl, c1, hs, ht, l1, l2, aC, aC, λ v p m2 h2 hle hr hp o2 c2 sl h3 hle2 hrow => ?_⟩) (λ hk6 => ⟨cb, 3, rfl, c1, λ j m2 j0 j1 o2 c2 => ?_⟩)
  . refine hK ⟨6, 0, dL, dL, sl⟩ (.mk 6 0 dL dL [p]) m2 h3 (hle.trans hle2) (eD.mk (v := ⟨6, 0, dL, dL, sl⟩) ⟨⟨[v], hrow, rfl, λ i x hx => ?_⟩, by simp⟩) (by rw [hdd]; exact Z4 hp) (o1.trans o2) (c2.mono hle2)
    match i, hx with
    | 0, hx => simp at hx; subst hx; exact ⟨v, rfl, hr.mono hle2⟩
    | _ + 1, hx => simp at hx
  refine ⟨λ ⟨op, n, us, mx, hx⟩ => (op = 4 \/ op = 5) /\ -1 <= n /\ n <= 2 /\ (us.length : Int) <= 2 - n /\ PH.le h hx /\ aY m mx cb /\ aK mx hx cb /\ ∃ ps : List Pred, ps.length = us.length /\ (∀ q ∈ ps, PW cols params (deep - 1) q) /\ ∀ (i : Nat) q, ps[i]? = some q -> ∃ u, us[i]? = some u /\ eD hx q u, λ ⟨_, n, _, _, _⟩ => (n + 1).toNat, ⟨(_, j, [], m2, h), ⟨?_, aC, aC, by simp; omega, .refl _, o1.trans o2, c2, [], rfl, by simp, λ i q hq => by simp at hq⟩, MT⟩, ?_⟩
  . have hk6 : k ≠ 6 := by simpa using hk6
    have hk7 : k = 7 \/ k = 8 := by omega
    rcases hk7 with rfl | rfl
    . exact .inl (by decide)
    . exact .inr (by decide)
  rintro ⟨op, n, us, mx, hx⟩ ⟨hop, n0, n1, ul, hle, ox, cx, ps, pl, pw, hps⟩
  dsimp only
  refine aE (λ hn => ⟨cb, s, t, cols, params, deep - 1, rfl, cx, hs.mono hle, ht.mono hle, l1, l2, aC, aC, λ v p m3 h3 hle3 hr hp o3 c3 => ⟨by simp; omega, by simp; omega, (op, n - 1, us ++ [v], m3, h3), ⟨hop, by show -1 <= n - 1; omega, by show n - 1 <= 2; omega, by simp; omega, hle.trans hle3, ox.trans o3, c3, ps ++ [p], by simp [pl], ?_, ?_⟩, ?_, ?_⟩⟩) (λ hn sl h3 hle3 hrow => ?_)
  . intro q hq
    rcases BZ.1 hq with h1 | h1
    . exact pw q h1
    . simp at h1; subst h1; exact hp
  . intro i q hq
    by_cases hi : i < ps.length
    . rw [Na hi] at hq
      obtain ⟨u, h1, h2⟩ := hps i q hq
      exact ⟨u, by rw [Na aC]; exact h1, h2.mono hle3⟩
    . rw [Ji aC] at hq
      have hl := (mG.1 hq).1
      simp at hl
      have : i = ps.length := by omega
      subst this
      simp at hq
      subst hq
      exact ⟨v, by rw [Ji aC, pl]; simp, hr⟩
  . show (n - 1 + 1).toNat < (n + 1).toNat; omega
  . rw [xH, eG aC aC]; exact MT
  . exact hK ⟨op, 0, dL, dL, sl⟩ (.mk op 0 dL dL ps) mx h3 (hle.trans hle3) (eD.mk (v := ⟨op, 0, dL, dL, sl⟩) ⟨⟨us, hrow, pl, λ i q hq => (hps i q hq).imp λ u hu => ⟨hu.1, hu.2.mono hle3⟩⟩, aC⟩) (by rw [hdd]; exact Z5 hop pw aC) ox (cx.mono hle3)
theorem QF (h : Ge l) : l.all dO = true := Tn.2 λ k hk => by
 rcases h k hk with e | e | e <;> subst e <;> rfl
theorem TA {cols params : List Int} {d : Nat} (x : PW cols params d p) (hd : d <= 2) (hc : Ge cols) (hp : Ge params) : gY cols params p = 0 := by
 have h1 := JN p 0
 have h2 := x.siz.n
 have h3 := H6 p 8 (by have := x.siz.d; omega)
 have h4 : gF d <= 13 := by match d, hd with
  | 0, _ => decide
  | 1, _ => decide
  | 2, _ => decide
 unfold gY
 rw [QF hc, QF hp, if_neg (by simp), h3, if_neg (by simp; omega), x.valid hc]
 rfl
theorem Dv : Sound Tryz.prog 30 yA := by
 refine gX Tryz.func30 ?_
 rintro cvs m h K ⟨cb, s, t, cols, params, deep, rfl, hc, hs, ht, l1, l2, hd, hK⟩
 refine ⟨dM [(68, Xw 1001), (69, qP)] [] [] [] false, rfl, aD (TT 1001) (aD GV aF), Qd 1001 cb s t deep m h K, by kernel_rfl, ?_⟩
 dsimp only [Qd, push_cast]
 refine ⟨cb, s, t, cols, params, deep, rfl, hc, hs, ht, l1, l2, aC, hd, λ v p m2 h2 hle hr hp o2 c2 => ⟨s, t, v, cols, params, p, rfl, hs.mono hle, ht.mono hle, hr, aB (λ _ => ⟨cb, s, t, cols, params, 1, rfl, c2, hs.mono hle, ht.mono hle, l1, l2, aC, aC, λ v3 p3 m3 h3 hle3 hr3 hp3 o3 c3 => hK v3 p3 m3 h3 (hle.trans hle3) hr3 ⟨hp3.vals, λ _ k1 k2 => TA hp3 (by decide) k1 k2⟩ (o2.trans o3) c3⟩) (λ _ => hK v p m2 h2 hle hr ⟨hp.vals, λ k0 k1 k2 => TA hp k0 k1 k2⟩ o2 c2)⟩⟩
def bX : Sl := ⟨none, 0, 0⟩
def Us : Vc.Spec := λ cvs m h K => ∃ n k, cvs = [N6 n, cI k] /\ K (.val (.agg ⟨(mF.mk n k).enc⟩)) m h
def XE : Vc.Spec := λ cvs m h K => ∃ t, cvs = [cI t] /\ K (aQ ⟨1, t, fS, bX, bX, bX, bX, 0, bX⟩) m h
def ZB (v : QV) (g o : Sl) (k : Int) : QV := ⟨v.op, v.table, v.where_, v.columns, v.on, g, o, k, v.args⟩
def ZI : Vc.Spec := λ cvs m h K => ∃ cb v s kinds, cvs = [cP cb, aQ (ZB v bX bX v.limit), cS s] /\ aK m h cb /\ Ints h s kinds /\ kinds.length <= 1000 /\
 ∀ g o k gr od m' h', PH.le h h' -> Ints h' g gr -> iE h' o od -> gr.length <= kinds.length -> od.length <= kinds.length -> 0 <= k -> k <= 3 -> aY m m' cb -> aK m' h' cb -> K (aQ (ZB v g o k)) m' h'
noncomputable def YU (cb : Nat) (v : QV) (s : Sl) (h : PH) : Ctx :=
 dM [(15, Gc), (16, K3)] [(2, { A := Nat × List Int × List (Int × Bool) × MH, st := λ ⟨i, gr, od, m⟩ => cH 37 40 [(0, pv cb), (4, .at (.ptr 4 0)), (6, .at (.ptr 6 0)), (9, iv s.len), (10, iv i)] [(4, .cells 38 ((v.enc.take 17).map .val ++ [.lst 19, .lst 30, .val (.int .i64 v.limit), .val (.slice v.args.a v.args.len v.args.cap)])), (6, .cells 38 (zO.enc.map .val)), (19, .lst 3 1 (gr.map eI)), (30, .lst 72 2 (od.map CR))] m h })] [] [] false
def Wz (n : ByteArray) (k : Int) (m : MH) (h : PH) (K : CV -> MH -> PH -> Prop) : Prop :=
  K (kE (iD (Value.string n) (dQ k))) m h
def WD (t : Int) (m : MH) (h : PH) (K : CV -> MH -> PH -> Prop) : Prop :=
  K (kE (wP (dQ 1) (dQ t))) m h
abbrev C4 (a : QV) : Prop := eQ (oQ 38 (dU a.op a.table (pQ a.where_ (mJ (Ck a) (Aa a.on) (mJ (At.lst 19) (At.lst 30) (pR (mK a.limit) (Aa a.args)))))))
abbrev gV  : Prop := eQ (oQ 38 zQ)
noncomputable abbrev oV (a : Nat × List Int × List (Int × Bool) × MH) : List (List Value) := List.map CR a.2.2.1
abbrev Fb (a : Nat × List Int × List (Int × Bool) × MH -> Prop) (b : Nat × List Int × List (Int × Bool) × MH -> Nat) (c : Nat × List Int × List (Int × Bool) × MH) (d : Nat) (e : Sl) (g : Prop) (i j : (Nat × List Int × List (Int × Bool) × MH) -> Prop) (k : MH) (l : PH) : Prop := ∃ (x : Nat × List Int × List (Int × Bool) × MH), aA (a x) (b x < b c) (aA (dE d) (eP 4) (aA (eP 6) (bI e) (aA (fK (bE c.1 1) = bV x.1) g (aA gV (i x) (aA (j x) (k = x.2.2.2) (cV l l))))))
abbrev CZ (a b : List Int) : Prop := Option.some (Own.lst 3 1 (iI a)) = Option.some (Own.lst 3 1 (List.map eI b))
attribute [push_cast] C4 gV oV Fb CZ
def P9 (cb : Nat) (v : QV) (s : Sl) (m : MH) (h : PH) (K : CV -> MH -> PH -> Prop) : Prop :=
  ∃ (I : Nat × List Int × List (Int × Bool) × MH -> Prop) (m1 : Nat × List Int × List (Int × Bool) × MH -> Nat), (∃ (x : Nat × List Int × List (Int × Bool) × MH), aA (I x) (dE cb) (aA (eP 4) (eP 6) (aA (bI s) (bC x.1) (aA (C4 v) gV (lX (rQ x.2.1) (Option.some (Own.lst 72 2 []) = Option.some (Own.lst 72 2 (oV x))) (m = x.2.2.2) (h = h)))))) /\ ∀ (x : Nat × List Int × List (Int × Bool) × MH), I x -> bA (↑x.1 : Int) (aG s) (j7 cb 3 x.2.2.2 h (λ c r => ∀ (m2 : MH), bK (aY x.2.2.2 m2 c) (aK m2 h c) (branch r (nT (iI x.2.1) 8 (j7 cb 3 m2 h (λ c1 r1 => ∀ (m3 : MH), bK (aY m2 m3 c1) (aK m3 h c1) (branch r1 (j7 cb 2 m3 h (λ c2 r2 => ∀ (m4 : MH), bK (aY m3 m4 c2) (aK m4 h c2) (nT (oV x) 16 (Fb I m1 x cb s (C4 v) (λ x1 => rT x.2.1 (↑x.1 : Int) x1.2.1) (λ x1 =>
 Option.some (Own.lst 72 2 (oV x ++ cT (iD (dQ (↑x.1 : Int)) (Value.bool r2)))) = Option.some (Own.lst 72 2 (oV x1))) m4 h)))) (Fb I m1 x cb s (C4 v) (λ x1 => rT x.2.1 (↑x.1 : Int) x1.2.1) (λ x1 => Option.some (Own.lst 72 2 (oV x)) = Option.some (Own.lst 72 2 (oV x1))) m3 h))))) (j7 cb 3 m2 h (λ c1 r1 => ∀ (m3 : MH), bK (aY m2 m3 c1) (aK m3 h c1) (branch r1 (j7 cb 2 m3 h (λ c2 r2 => ∀ (m4 : MH), bK (aY m3 m4 c2) (aK m4 h c2) (nT (oV x) 16 (Fb I m1 x cb s (C4 v) (λ x1 => CZ x.2.1 x1.2.1) (λ x1 => Option.some (Own.lst 72 2 (oV x ++ cT (iD (dQ (↑x.1 : Int)) (Value.bool r2)))) = Option.some (Own.lst 72 2 (oV x1))) m4 h)))) (Fb I m1 x cb s (C4 v) (λ x1 => CZ x.2.1 x1.2.1) (λ x1 => Option.some (Own.lst 72 2 (oV x)) = Option.some (Own.lst 72 2
 (oV x1))) m3 h))))))) (fX cb 4 x.2.2.2 h (λ k m2 => bH h 1 (iI x.2.1) (λ s1 h1 => bH h1 2 (oV x) (λ s2 h2 => K (Fg v v (aJ (lJ (fZ v)) (jI (eZ v)) (aJ (rH (eZ v)) (dQ (mZ (eZ v))) (aJ (mS (eZ v)) (lJ (eZ v)) (aJ (nL v) (nM v) (aJ (eA v.on) (eA s1) (aJ (eA s2) (dQ k) (aM v.args)))))))) m2 h2))))
theorem Vb : Sound Tryz.prog 76 Us := by
 refine gX Tryz.func76 ?_
 rintro cvs m h K ⟨n, k, rfl, hK⟩
 refine ⟨dM [] [] [] [] false, rfl, aF, Wz n k m h K, by kernel_rfl, ?_⟩
 exact hK
theorem LV : Sound Tryz.prog 40 XE := by
 refine gX Tryz.func40 ?_
 rintro cvs m h K ⟨t, rfl, hK⟩
 refine ⟨dM [] [] [] [] false, rfl, aF, WD t m h K, by kernel_rfl, ?_⟩
 exact hK
theorem Vh : Sound Tryz.prog 42 ZI := by
 refine gX Tryz.func42 ?_
 rintro cvs m h K ⟨cb, v, s, kinds, rfl, hc, hs, hl, hK⟩
 refine ⟨YU cb v s h, rfl, aD GN (aD xC aF), P9 cb v s m h K, by kernel_rfl, ?_⟩
 dsimp only [P9, push_cast]
 have hsl := hs.slen
 refine ⟨λ ⟨i, gr, od, mx⟩ => i <= kinds.length /\ gr.length <= i /\ od.length <= i /\ aY m mx cb /\ aK mx h cb, λ ⟨i, _, _, _⟩ => kinds.length - i, ⟨(0, [], [], m), ⟨aC, by simp, by simp, .refl _ _, hc⟩, MT⟩, ?_⟩
 rintro ⟨i, gr, od, m1⟩ ⟨hi, hg, ho, o1, c1⟩
 dsimp only
 refine aE (λ hlt => ?_) (λ hge => ?_)
 . have fin : ∀ (gr' : List Int) (od' : List (Int × Bool)) m', gr'.length <= i + 1 -> od'.length <= i + 1 -> aY m m' cb -> aK m' h cb -> (i + 1 <= kinds.length /\ gr'.length <= i + 1 /\ od'.length <= i + 1 /\ aY m m' cb /\ aK m' h cb) := λ gr' od' m' h1 h2 h3 h4 => ⟨aC, h1, h2, h3, h4⟩
   refine ⟨cb, 3, rfl, aC, aC, c1, λ r m2 o2 c2 => aB (λ _ => ⟨by simp; omega, by simp; omega, cb, 3, rfl, aC, aC, c2, λ r2 m3 o3 c3 => aB (λ _ => ⟨cb, 2, rfl, aC, aC, c3, λ r3 m4 o4 c4 => ⟨by simp; omega, by simp; omega, (i + 1, gr ++ [(i : Int)], od ++ [((i : Int), r3)], m4), fin (gr ++ [(i : Int)]) (od ++ [((i : Int), r3)]) m4 (by simp; omega) (by simp; omega) (((o1.trans o2).trans o3).trans o4) c4, by show kinds.length - (i + 1) < kinds.length - i; omega, ?_⟩⟩) (λ _ => ⟨(i + 1, gr ++ [(i : Int)], od, m3), fin (gr ++ [(i : Int)]) od m3 (by simp; omega) aC ((o1.trans o2).trans o3) c3, by show kinds.length - (i + 1) < kinds.length - i; omega, ?_⟩)⟩)
    (λ _ => ⟨cb, 3, rfl, aC, aC, c2, λ r2 m3 o3 c3 => aB (λ _ => ⟨cb, 2, rfl, aC, aC, c3, λ r3 m4 o4 c4 => ⟨by simp; omega, by simp; omega, (i + 1, gr, od ++ [((i : Int), r3)], m4), fin gr (od ++ [((i : Int), r3)]) m4 aC (by simp; omega) (((o1.trans o2).trans o3).trans o4) c4, by show kinds.length - (i + 1) < kinds.length - i; omega, ?_⟩⟩) (λ _ => ⟨(i + 1, gr, od, m3), fin gr od m3 aC aC ((o1.trans o2).trans o3) c3, by show kinds.length - (i + 1) < kinds.length - i; omega, MT⟩)⟩)⟩
   . simp only [xH]; exact MT
   . simp only [xH]; exact MT
   . simp only [xH]; exact MT
 . refine ⟨cb, 4, rfl, c1, λ k m2 k0 k1 o2 c2 s1 h1 hle1 r1 s2 h2 hle2 r2 => ?_⟩
   exact hK s1 s2 k gr od m2 h2 (hle1.trans hle2) ⟨r1.mono hle2, aC⟩ ⟨r2, aC⟩ aC aC k0 aC (o1.trans o2) (c2.mono (hle1.trans hle2))
def XK : Vc.Spec := λ cvs m h K => ∃ cb s t a b, cvs = [cP cb, cS s, cS t] /\ aK m h cb /\ Ints h s a /\ Ints h t b /\ a.length <= 1000 /\ b.length <= 1000 /\
 ∀ o on m' h', PH.le h h' -> lK h' o on -> on.length <= 10 -> aY m m' cb -> aK m' h' cb -> K (cS o) m' h'
noncomputable def YV (cb : Nat) (s t : Sl) (h : PH) : Ctx :=
 dM [(15, Gc)] [(3, { A := Int × List (Int × Int) × MH, st := λ ⟨n, on, m⟩ => cH 77 80 [(0, pv cb), (1, sv s), (2, sv t), (7, .at (.lst 75)), (8, iv n)] [(75, .lst 69 2 (on.map tR))] m h }),
  (8, { A := Int × Nat × List (Int × Int) × (Int × Int) × Bool × MH, st := λ ⟨n, i, on, p, f, m⟩ => cH 77 80 [(0, pv cb), (1, sv s), (2, sv t), (7, .at (.lst 75)), (8, iv n), (9, .at (.ptr 9 0)), (10, bv f), (49, .at (.lst 75)), (50, iv on.length), (51, iv i)] [(9, .cells 69 [.val (.int .i64 p.1), .val (.int .i64 p.2)]), (75, .lst 69 2 (on.map tR))] m h })] [] [] false
noncomputable abbrev wH (a : Int × List (Int × Int) × MH) : List (List Value) := List.map tR a.2.1
noncomputable abbrev Bj (a : Int × Nat × List (Int × Int) × (Int × Int) × Bool × MH) : Bool := a.2.2.2.2.1
noncomputable abbrev wG (a : Int × Nat × List (Int × Int) × (Int × Int) × Bool × MH) : Nat := a.2.2.1.length
noncomputable abbrev xM (a : Int × Nat × List (Int × Int) × (Int × Int) × Bool × MH) : Int × Int := a.2.2.2.1
noncomputable abbrev oU (a : Int × Nat × List (Int × Int) × (Int × Int) × Bool × MH) : List (List Value) := List.map tR a.2.2.1
noncomputable abbrev uC (a : Int × Nat × List (Int × Int) × (Int × Int) × Bool × MH) : Nat -> Option Obj := a.2.2.2.2.2
abbrev IE (a : (Int × Nat × List (Int × Int) × (Int × Int) × Bool × MH) -> Prop) (b : (Int × Nat × List (Int × Int) × (Int × Int) × Bool × MH) -> Nat) (c d : Nat) (e g : Sl) (i : Int × Nat × List (Int × Int) × (Int × Int) × Bool × MH) (j : (Int × Nat × List (Int × Int) × (Int × Int) × Bool × MH) -> Int × Nat × List (Int × Int) × (Int × Int) × Bool × MH) (k : (Int × Nat × List (Int × Int) × (Int × Int) × Bool × MH) -> Prop) : Prop := ∃ (x : Int × Nat × List (Int × Int) × (Int × Int) × Bool × MH), aA (a x) (b x < c) (aA (dE d) (aI e) (aA (aI g) (eL 75) (aA (cL i.1 (j x).1) (eP 9) (k x))))
attribute [push_cast] wH Bj wG xM oU uC IE
def Qa (cb : Nat) (s t : Sl) (m : MH) (h : PH) (K : CV -> MH -> PH -> Prop) : Prop :=
  fX cb 3 m h (λ k m1 => ∃ (I : Int × List (Int × Int) × MH -> Prop) (m2 : Int × List (Int × Int) × MH -> Nat), (∃ (x : Int × List (Int × Int) × MH), aA (I x) (dE cb) (aA (aI s) (aI t) (aA (eL 75) (cL k x.1) (aA (Option.some (Own.lst 69 2 []) = Option.some (Own.lst 69 2 (wH x))) (m1 = x.2.2) (cV h h))))) /\ ∀ (x : Int × List (Int × Int) × MH), I x -> eJ x.1 0 (eJ (aG s) 0 (eJ (aG t) 0 (fX cb (aG s) x.2.2 h (λ k1 m3 => fX cb (aG t) m3 h (λ k2 m4 => aA (cA 0) ((0 : Int) < 2) (aT (λ b o => aA (aU s.a b o) (0 <= k1) (k1 < aG s /\ ∃ (y : Int), aA (aL m4 h b (fM o k1 1) (bZ y)) ((0 : Int) <= 1) ((1 : Int) < 2 /\ aT (λ b1 o1 => aA (aU t.a b1 o1) (0 <= k2) (k2 < aG t /\ ∃ (y1 : Int), aL m4 h b1 (fM o1 k2 1) (bZ y1) /\ ∃ (I1 : Int × Nat × List (Int × Int) × (Int × Int) ×
 Bool × MH -> Prop) (m5 : Int × Nat × List (Int × Int) × (Int × Int) × Bool × MH -> Nat), (∃ (x1 : Int × Nat × List (Int × Int) × (Int × Int) × Bool × MH), aA (I1 x1) (dE cb) (aA (aI s) (aI t) (aA (eL 75) (cL x.1 x1.1) (aA (eP 9) (gM (y == y1) (Bj x1)) (aA (eL 75) (cC (wH x).length (wG x1)) (aA (bC x1.2.1) (Ba (pR (mK k1) (mK k2)) (pY (xM x1))) (bM (Option.some (Own.lst 69 2 (wH x)) = Option.some (Own.lst 69 2 (oU x1))) (m4 = uC x1) (h = h)))))))) /\ ∀ (x1 : Int × Nat × List (Int × Int) × (Int × Int) × Bool × MH), I1 x1 -> bA (↑x1.2.1 : Int) (↑(wG x1) : Int) (aA (cA (↑x1.2.1 : Int)) ((↑x1.2.1 : Int) < j3 (oU x1)) (∃ (e : List Value), uO (oU x1) (rF x1.2.1) e /\ ∃ (y2 : Int × Int), List.take 2 (List.drop 0 e) = uD y2 /\ branch (Bj x1) (aA (cA 0) ((0
 : Int) < 2) (aA (cA 0) ((0 : Int) < 2) (eE y2.1 (xM x1).1 (aA (cA 1) ((1 : Int) < 2) (aA (cA 1) ((1 : Int) < 2) (IE (λ x2 => I1 x2) (λ x2 => m5 x2) (m5 x1) cb s t x1 (λ x2 => x2) (λ x2 => aA (gM (y2.2 != (xM x1).2) (Bj x2)) (eL 75) (aA (cC (wG x1) (wG x2)) (fK (bE x1.2.1 1) = bV x2.2.1) (aA (Ba (pY (xM x1)) (pY (xM x2))) (Option.some (Own.lst 69 2 (oU x1)) = Option.some (Own.lst 69 2 (oU x2))) (aA (uC x1 = uC x2) (h = h) True))))))) (IE (λ x2 => I1 x2) (λ x2 => m5 x2) (m5 x1) cb s t x1 (λ x2 => x2) (λ x2 => aA (AV (Bj x2)) (eL 75) (aA (cC (wG x1) (wG x2)) (fK (bE x1.2.1 1) = bV x2.2.1) (aA (Ba (pY (xM x1)) (pY (xM x2))) (Option.some (Own.lst 69 2 (oU x1)) = Option.some (Own.lst 69 2 (oU
 x2))) (aA (uC x1 = uC x2) (h = h) True)))))))) (IE (λ x2 => I1 x2) (λ x2 => m5 x2) (m5 x1) cb s t x1 (λ x2 => x2) (λ x2 => aA (AV (Bj x2)) (eL 75) (aA (cC (wG x1) (wG x2)) (fK (bE x1.2.1 1) = bV x2.2.1) (aA (Ba (pY (xM x1)) (pY (xM x2))) (Option.some (Own.lst 69 2 (oU x1)) = Option.some (Own.lst 69 2 (oU x2))) (aA (uC x1 = uC x2) (h = h) True))))))) (branch (Bj x1) (nT (oU x1) 16 (∃ (x2 : Int × List (Int × Int) × MH), aA (I x2) (m2 x2 < m2 x) (aA (dE cb) (aI s) (aA (aI t) (eL 75) (aA (cL (dZ (x1.1 - 1)) x2.1) (Option.some (Own.lst 69 2 (oU x1 ++ cT (uD (xM x1)))) = Option.some (Own.lst 69 2 (wH x2))) (dT (uC x1) x2.2.2 h h)))))) (∃ (x2 : Int × List (Int × Int) × MH), aA (I x2) (m2 x2 < m2 x) (aA (dE cb)
 (aI s) (aA (aI t) (eL 75) (aA (cL (dZ (x1.1 - 1)) x2.1) (Option.some (Own.lst 69 2 (oU x1)) = Option.some (Own.lst 69 2 (wH x2))) (dT (uC x1) x2.2.2 h h))))))))))))))) (bH h 2 (wH x) (λ s1 h1 => K (cK s1) x.2.2 h1))) (bH h 2 (wH x) (λ s1 h1 => K (cK s1) x.2.2 h1))) (bH h 2 (wH x) (λ s1 h1 => K (cK s1) x.2.2 h1)))
theorem Vi : Sound Tryz.prog 41 XK := by
 refine gX Tryz.func41 ?_
 rintro cvs m h K ⟨cb, s, t, a, b, rfl, hc, hs, ht, l1, l2, hK⟩
 refine ⟨YV cb s t h, rfl, aD GN aF, Qa cb s t m h K, by kernel_rfl, ?_⟩
 dsimp only [Qa, push_cast]
 have hsl := hs.slen
 have htl := ht.slen
 refine ⟨cb, 3, rfl, hc, λ k m1 k0 k1 o1 c1 => ⟨λ ⟨n, on, mx⟩ => 0 <= n /\ n <= 2 /\ (on.length : Int) <= 2 - n /\ aY m mx cb /\ aK mx h cb, λ ⟨n, _, _⟩ => n.toNat, ⟨(k, [], m1), ⟨k0, by show k <= 2; omega, by simp; omega, o1, c1⟩, MT⟩, ?_⟩⟩
 clear k0 k1 o1 c1 m1
 rintro ⟨n, on, m1⟩ ⟨n0, n1, hon, o1, c1⟩
 dsimp only
 have out : ∀ (sl : Sl) (h' : PH), PH.le h h' -> cN h' sl 2 (on.map tR) -> K (.val (.slice sl.a sl.len sl.cap)) m1 h' := λ sl h' hle hrow => hK sl on m1 h' hle ⟨hrow, aC⟩ aC o1 (c1.mono hle)
 refine aE (λ hn => aE (λ hp => aE (λ hq => ?_) (λ _ => out)) (λ _ => out)) (λ _ => out)
 refine ⟨cb, s.len, rfl, c1, λ x m2 x0 x1 o2 c2 => ⟨cb, t.len, rfl, c2, λ y m3 y0 y1 o3 c3 => ?_⟩⟩
 obtain ⟨b1, f1, e1, r1⟩ := hs.inb (n := x) x0 aC
 obtain ⟨b2, f2, e2, r2⟩ := ht.inb (n := y) y0 aC
 refine ⟨aC, aC, b1, f1, e1, x0, aC, _, .imm r1, aC, aC, b2, f2, e2, y0, aC, _, .imm r2, ?_⟩
 refine ⟨λ ⟨n', i, on', p, f, mx⟩ => n' = n /\ on' = on /\ mx = m3 /\ i <= on.length, λ ⟨_, i, _, _, _, _⟩ => on.length - i, ⟨(n, 0, on, (x, y), a.getD x.toNat 0 == b.getD y.toNat 0, m3), ⟨rfl, rfl, rfl, aC⟩, ?_⟩, ?_⟩
 . rw [mI]; exact MT
 rintro ⟨n, i, on, p, f, m3⟩ ⟨rfl, rfl, rfl, hi⟩
 dsimp only
 refine aE (λ hlt => ?_) (λ hge => ?_)
 . have hl : i < on.length := by omega
   have hget : (on.map tR)[i]? = some (tR on[i]) := by rw [AD, kP hl]; rfl
   refine ⟨aC, by rw [mI]; omega, _, hget, on[i], rfl, aB (λ _ => ⟨aC, aC, aC, aC, aB (λ _ => ⟨aC, aC, aC, aC, (n, i + 1, on, p, _, m3), ⟨rfl, rfl, rfl, by show i + 1 <= on.length; omega⟩, by show on.length - (i + 1) < on.length - i; omega, MT⟩) (λ _ => ⟨(n, i + 1, on, p, _, m3), ⟨rfl, rfl, rfl, by show i + 1 <= on.length; omega⟩, by show on.length - (i + 1) < on.length - i; omega, MT⟩)⟩) (λ _ => ⟨(n, i + 1, on, p, _, m3), ⟨rfl, rfl, rfl, by show i + 1 <= on.length; omega⟩, by show on.length - (i + 1) < on.length - i; omega, MT⟩)⟩
 . have hw : IntKind.i64.wrap (n - 1) = n - 1 := eG aC aC
   rw [hw]
   refine aB (λ _ => ⟨by rw [mI]; omega, by rw [mI]; omega, (n - 1, on ++ [p], m3), ⟨by show 0 <= n - 1; omega, by show n - 1 <= 2; omega, by simp; omega, (o1.trans o2).trans o3, c3⟩, by show (n - 1).toNat < n.toNat; omega, ?_⟩) (λ _ => ⟨(n - 1, on, m3), ⟨by show 0 <= n - 1; omega, by show n - 1 <= 2; omega, by show (on.length : Int) <= 2 - (n - 1); omega, (o1.trans o2).trans o3, c3⟩, by show (n - 1).toNat < n.toNat; omega, MT⟩)
   rw [xH]; exact MT
def agZ : Vc.Spec := λ cvs m h K => ∃ s cs, ∃ most : Nat, cvs = [cS s, cI most] /\ cN h s 1 (bF cs) /\ s.len <= s.cap /\ most <= 1000 /\ ∀ cb m' h', PH.le h h' -> m cb = none -> aY m m' cb -> aK m' h' cb -> K (cP cb) m' h'
abbrev zX (a b : Prop) (c : (List (List Value)) -> Prop) : Prop := aA a b (∃ (x : List (List Value)), c x)
attribute [push_cast] zX
def Qt (s : Sl) (most : Nat) (m : MH) (h : PH) (K : CV -> MH -> PH -> Prop) : Prop :=
  zX (cA (ite ((↑most : Int) < aG s) (↑most : Int) (aG s))) (ite ((↑most : Int) < aG s) (↑most : Int) (aG s) <= (↑s.cap : Int)) (λ y => aA (dY 1 y) (nW m h (Sl.mk s.a (ite ((↑most : Int) < aG s) (↑most : Int) (aG s)).toNat s.cap) 1 y) (aA (gH (y.length * 1)) (gH y.length) (bH h 1 y (λ s1 h1 => ∀ (b : Nat) (m1 : MH), bK (cD m h1 b) (bG m m1 b (iD (eA s1) bO) 82) (K (iH b) m1 h1)))))
theorem EP (l : List UInt8) : dY 1 (bF l) := by
 constructor
 . intro e he; obtain ⟨x, _, rfl⟩ := mH.1 he; rfl
 . intro e he u hu; obtain ⟨x, _, rfl⟩ := mH.1 he; simp at hu; subst hu; rfl
theorem cN.cut {s : Sl} (r : cN h s sz xs) (n : Nat) (hn : n <= xs.length) : cN h ⟨s.a, n, s.cap⟩ sz (xs.take n) := by
 refine ⟨by simp; omega, ?_, by have h1 := r.len; have h2 := r.cap; show n <= s.cap; omega⟩
 rcases r.row with e | ⟨b, o, ha, k⟩
 . left; rw [e]; simp
 . right
   refine ⟨b, o, ha, λ i e hi => ?_⟩
   rw [DT] at hi
   split at hi
   . exact k i e hi
   . cases hi
theorem VE : Sound Tryz.prog 11 agZ := by
 refine gX Tryz.func11 ?_
 rintro cvs m h K ⟨s, cs, most, rfl, hr, hc, hm, hK⟩
 refine ⟨vO [] [] [] [] [82] [] false, rfl, aF, Qt s most m h K, by kernel_rfl, ?_⟩
 have hl : s.len = cs.length := by have := hr.len; simpa [bF] using this
 dsimp only [Qt, push_cast]
 have hmin : (if (most : Int) < (s.len : Int) then (most : Int) else (s.len : Int)) = ((min most s.len : Nat) : Int) := by split <;> omega
 rw [hmin]
 have hcut := cN.cut hr (min most s.len) (by simp [bF]; omega)
 refine ⟨aC, aC, bF (cs.take (min most s.len)), EP _, .imm ?_, by simp [bF]; omega, by simp [bF]; omega, λ s' h' hle hrow b m' hb hu => ?_⟩
 . rw [show bF (cs.take (min most s.len)) = (bF cs).take (min most s.len) by simp [bF, List.map_take]]
   exact hcut
 . exact hK b m' h' hle hb.m_ ⟨hu.other⟩ ⟨_, ⟨⟨s', _, 0, hu.at_, hrow, aC, by simp; omega, rfl⟩⟩⟩
def ZO : Vc.Spec := λ cvs m h K => ∃ n : Nat, cvs = [.val (.slice none 0 0), cI n] /\ n <= 1000 /\ K (.lst 3 1 []) m h
noncomputable def WV (ss : Sl) (m : MH) (h : PH) : Ctx :=
 dM [(205, ZO)] [(3, { A := Nat × Nat, st := λ ⟨i, n⟩ => cH 36 37 [(0, sv ss), (3, iv n), (9, sv ss), (10, iv ss.len), (11, iv i)] [] m h }),
  (11, { A := Nat × List Int, st := λ ⟨i, l⟩ => cH 36 37 [(6, .at (.lst 24)), (25, sv ss), (26, iv ss.len), (27, iv i)] [(24, .lst 3 1 (l.map eI))] m h })] [] [] false
abbrev JP (a : Int) : Prop := a <= 140737488355328
attribute [push_cast] JP
def Mi (n : Nat) (m : MH) (h : PH) (K : CV -> MH -> PH -> Prop) : Prop :=
  eJ (dZ ((↑n : Int) - dZ ((0 : Int) - 0))) 0 (aA (cA 0) (cA 0) (aA (0 < dZ ((↑n : Int) - 0)) (JP (dZ ((↑n : Int) - 0) * 8)) (aA (JP (dZ ((↑n : Int) - 0))) ((0 : Int) <= 0) (cA (j3 (List.replicate (dZ ((↑n : Int) - 0)).toNat (iK bO))) /\ K (CV.lst 3 1 []) m h)))) (K (CV.lst 3 1 []) m h)
def Ms (ss : Sl) (m : MH) (h : PH) (K : CV -> MH -> PH -> Prop) : Prop :=
  ∃ (I : Nat × Nat -> Prop) (m1 : Nat × Nat -> Nat), (∃ (x : Nat × Nat), aA (I x) (aI ss) (aA (bC x.2) (aI ss) (aA (bI ss) (bC x.1) (aA (m = m) (h = h) True)))) /\ ∀ (x : Nat × Nat), I x -> bA (↑x.1 : Int) (aG ss) (aT (λ b o => aA (aU ss.a b o) (0 <= (↑x.1 : Int)) ((↑x.1 : Int) < aG ss /\ ∃ (y : Sl), aL m h b (bN o x.1 1) (aM y) /\ bA (bE x.2 (aG y)) 0 False (∃ (x1 : Nat × Nat), aA (I x1) (m1 x1 < m1 x) (aA (aI ss) (fK (bE x.2 (aG y)) = bV x1.2) (aA (aI ss) (bI ss) (aA (fK (bE x.1 1) = bV x1.1) (m = m) (cV h h)))))))) (∃ (n : Nat), aA (bB jZ (↑x.2 : Int) = bB jZ (↑n : Int)) (oC n) (∃ (I1 : Nat × List Int -> Prop) (m2 : Nat × List Int -> Nat), (∃ (x1 : Nat × List Int), aA (I1 x1) (eL 24) (aA (aI ss) (bI ss) (aA (bC x1.1) (rQ x1.2) (aA (m = m) (h = h) True)))) /\
 ∀ (x1 : Nat × List Int), I1 x1 -> bA (↑x1.1 : Int) (aG ss) (aT (λ b o => aA (aU ss.a b o) (0 <= (↑x1.1 : Int)) ((↑x1.1 : Int) < aG ss /\ ∃ (y : Sl), aL m h b (bN o x1.1 1) (aM y) /\ ∃ (y1 : List (List Value)), aA (dY 1 y1) (cN h (dA y) 1 y1) (aA (rJ (iI x1.2) y1 8) (rK (iI x1.2) y1) (∃ (x2 : Nat × List Int), aA (I1 x2) (m2 x2 < m2 x1) (aA (eL 24) (aI ss) (aA (bI ss) (fK (bE x1.1 1) = bV x2.1) (aA (Option.some (Own.lst 3 1 (iI x1.2 ++ y1)) = Option.some (Own.lst 3 1 (List.map eI x2.2))) (m = m) (cV h h))))))))) (bH h 1 (iI x1.2) (λ s h1 => K (cK s) m h1))))
theorem RS : Sound Tryz.prog 205 ZO := by
 refine gX Tryz.func205 ?_
 rintro cvs m h K ⟨n, rfl, hn, hK⟩
 refine ⟨dM [] [] [] [] true, rfl, aF, Mi n m h K, by kernel_rfl, ?_⟩
 dsimp only [Mi, push_cast]
 have h0 : IntKind.i64.wrap ((n : Int) - 0) = n := by rw [eG aC aC]; omega
 have h1 : IntKind.i64.wrap ((n : Int) - IntKind.i64.wrap (0 - 0)) = n := by rw [show IntKind.i64.wrap (0 - 0) = 0 from by rw [eG aC aC]; rfl, h0]
 exact aE (λ hp => ⟨aC, aC, aC, aC, aC, aC, aC, hK⟩) (λ _ => hK)
def sX (ks : List (List Int)) : Nat := (ks.map List.length).sum
theorem HF {k : List Int} (hk : ks[i]? = some k) : sX (ks.take (i + 1)) = sX (ks.take i) + k.length := by
 unfold sX; rw [EA, hk]; simp
theorem Gm {ks : List (List Int)} (h : ∀ k ∈ ks, k.length <= 12) : ∀ i, sX (ks.take i) <= 12 * i
 | 0 => by simp [sX]
 | i + 1 => by
  have ih := Gm h i
  cases e : ks[i]? with
  | none => rw [EA, e]; simp [sX] at ih ⊢; omega
  | some k => rw [HF e]; have := h k (lP e); omega
theorem R0 : Sound Tryz.prog 179 Jh := by
 refine gX Tryz.func179 ?_
 rintro cvs m h K ⟨ss, ks, rfl, hs, hl, h12, hK⟩
 refine ⟨WV ss m h, rfl, aD RS aF, Ms ss m h K, by kernel_rfl, ?_⟩
 dsimp only [Ms, push_cast]
 have hsl := bW.slen hs
 refine ⟨λ ⟨i, n⟩ => i <= ks.length /\ n = sX (ks.take i), λ ⟨i, _⟩ => ks.length - i, ⟨(0, 0), ⟨aC, by simp [sX]⟩, MT⟩, ?_⟩
 rintro ⟨i, n⟩ ⟨hi, rfl⟩
 dsimp only
 have hb := Gm h12 i
 refine aE (λ hlt => ?_) (λ hge => ?_)
 . obtain ⟨k, hk⟩ := fE hsl hlt
   obtain ⟨b, o, sl, ea, r, hki⟩ := bW.at hs hk
   have hkl := hki.slen
   have hk12 := h12 k (lP hk)
   have hw : IntKind.i64.wrap ((sX (ks.take i) : Int) + (sl.len : Int)) = ((sX (ks.take (i + 1)) : Nat) : Int) := by
    rw [HF hk, eG aC aC]; omega
   refine ⟨b, o, ea, aC, hlt, sl, .imm r, ?_⟩
   rw [hw]
   exact aE (λ hneg => by omega) (λ _ => ⟨(i + 1, sX (ks.take (i + 1))), ⟨aC, rfl⟩, by show ks.length - (i + 1) < ks.length - i; omega, MT⟩)
 . refine ⟨sX (ks.take i), rfl, aC, ?_⟩
   refine ⟨λ ⟨i, l⟩ => i <= ks.length /\ l = (ks.take i).flatten, λ ⟨i, _⟩ => ks.length - i, ⟨(0, []), ⟨aC, by simp⟩, MT⟩, ?_⟩
   clear hb hge hi
   rintro ⟨i, l⟩ ⟨hi, rfl⟩
   dsimp only
   have hfl : (ks.take i).flatten.length <= 12 * i := by have := Gm h12 i; simpa [sX, List.length_flatten] using this
   refine aE (λ hlt => ?_) (λ hge sl h' hle hrow => hK sl h' hle ⟨?_, ?_⟩)
   . obtain ⟨k, hk⟩ := fE hsl hlt
     obtain ⟨b, o, sl, ea, r, hki⟩ := bW.at hs hk
     have hk12 := h12 k (lP hk)
     refine ⟨b, o, ea, aC, hlt, sl, .imm r, k.map eI, B9 k, hki.row, ?_, ?_, (i + 1, (ks.take (i + 1)).flatten), ⟨aC, rfl⟩, by show ks.length - (i + 1) < ks.length - i; omega, ?_⟩
     . rw [mI, mI]; omega
     . rw [mI, mI]; omega
     . rw [EA, hk, Option.toList_some, List.flatten_append, xH, Jj, List.flatten_nil, OE]
       exact MT
   . rw [EC aC] at hrow; exact hrow
   . rw [EC aC] at hfl; omega
theorem Va : ∀ N, Sound Tryz.prog 81 (BF N) := TS R0
def PS (v : QV) (m : MH) (h : PH) (K : CV -> MH -> PH -> Prop) : Prop :=
  ∀ (b : Nat) (m1 : MH), bK (cD m h b) (bG m m1 b v.enc 38) (K (CV.val (Cm 114 (Array.mk (iK (UC b 0))))) m1 h)
end Go.Ps
