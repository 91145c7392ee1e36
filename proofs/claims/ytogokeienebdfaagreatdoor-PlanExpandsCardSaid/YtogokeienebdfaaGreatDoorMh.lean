/-
  Part 8 of a proof that a law of the given program returns true: a condition generator that is proved sound, and contracts of functions. No condition of its own. Own work, joined by a program (pack2.py).
-/
import Derived.Test.YtogokeienebdfaaGreatDoorMg
namespace Go.Ps
open Go Go.Vc Go.Proofs
variable {K : CV -> MH -> PH -> Prop} {m : MH} {h : PH} {s : oC} {ps : List Int} {ts : List Step} {cb : Nat} {sc : bH} {v : QV} {q : Query} {t : Step} {p : Pred} {l : List Int} {i : Nat} {N : Nat} {m' : MH} {h' : PH} {co : List Int} {gr : List Int} {od : List (Int × Bool)} {w : Pred} {ta : Int} {li : Int} {xs : List (List Value)} {sz : Nat} {k : Nat} {ks : List (List Int)} {rs : List Int} {r : Sl} {a : List Int} {b : Nat}
theorem Nd {id : Int} (h : id = 4 \/ id = 5) : Good AZ (mE id) := by
 have hk : dR id = true := by rcases h with rfl | rfl <;> rfl
 refine By ⟨⟨?_, ?_, ?_, ?_, By ⟨⟨?_, ?_, ?_⟩, ⟨?_, ?_, ?_⟩, trivial⟩⟩, ⟨?_, ?_, ?_, ?_, By ⟨⟨?_, ?_, ?_⟩, ⟨?_, ?_, ?_⟩, ⟨?_, ?_, ?_⟩, ⟨?_, ?_, ?_⟩, trivial⟩⟩, ⟨?_, ?_, ?_, ?_, By ⟨⟨?_, ?_, ?_⟩, ⟨?_, ?_, ?_⟩, trivial⟩⟩, ⟨?_, ?_, ?_, ?_, By ⟨⟨?_, ?_, ?_⟩, trivial⟩⟩, trivial⟩
 all_goals first | exact hk | rfl | (simp; done) | decide
theorem R0 (h : HU s) : cN s = 0 /\ s.tables ≠ [] := by
 obtain ⟨ver, n, id, v0, v1, n2, n4, hid, rfl⟩ := h.ex
 refine ⟨RT (by simp [mE]; omega) (λ t ht => ?_) v0 (by show ver <= 1000; omega) (QG (Nd hid) n), λ e => ?_⟩
 . have ht := List.mem_of_mem_take ht
   simp only [mE, List.mem_cons, List.not_mem_nil, or_false] at ht
   rcases ht with rfl | rfl | rfl | rfl <;> exact ⟨by simp, rfl, rfl⟩
 . have := congrArg List.length e
   simp [mE] at this
   omega
def bS : oC := ⟨0, [⟨⟨⟨[116]⟩⟩, [⟨⟨⟨[105, 100]⟩⟩, 4⟩], 1, [], []⟩]⟩
def xO : Query := .mk 1 0 gD [] [] [] [] 0 []
def MO : Pred := .mk 1 0 cR cR []
def bF : Query := .mk 2 0 MO [] [] [] [] 0 [xO]
def bU : Query := .mk 6 0 gD [] [] [] [] 0 [bF, bF]
theorem Sr : cN bS = 0 := RT (by decide) (λ t ht => by simp [bS] at ht; subst ht; exact ⟨by simp, rfl, rfl⟩) (by decide) (by decide) (by
 refine By ⟨⟨?_, ?_, ?_, ?_, By ⟨⟨?_, ?_, ?_⟩, trivial⟩⟩, trivial⟩
 all_goals first | rfl | (simp; done) | decide)
theorem Qq {op : Int} (ho : op = 6 \/ op = 7 \/ op = 8) (h : (dH s ps q).2 = 0) : (dH s ps (.mk op 0 gD [] [] [] [] 0 [q, q])).2 = 0 := by
 have hl := zC s ps q
 have e : dH s ps q = ((dH s ps q).1, 0) := Prod.ext rfl h
 have e2 : jE s ps [q, q] = ([(dH s ps q).1, (dH s ps q).1], 0) := zB (by simp; exact e)
 simp only [dH, e2, if_true]
 have e3 : ((2 : Nat) : Int) = arity op := by rcases ho with rfl | rfl | rfl <;> decide
 simp only [List.length_cons, List.length_nil]
 rw [if_pos e3]
 unfold fF
 dsimp only
 rw [if_neg (by rw [<- e3]; simp [dM])]
 rw [if_neg (by omega), if_neg (by omega), if_neg (by omega), if_neg (by omega), if_neg (by omega), if_neg (by omega), if_neg (by omega), if_pos (by simp)]
 simp only [List.getD_cons_zero]
 unfold lH
 rw [if_pos hl]
theorem WE : (dV bS [] bU).2 = 0 := by
 have h1 : (dV bS [] xO).2 = 0 := Ge Sr (by decide) (by decide) (by decide)
 have h2 := (zY h1).2.2.2
 have h3 : (dH bS [] bF).2 = 0 := by
  have hl := zC bS [] xO
  have e : dH bS [] xO = ((dH bS [] xO).1, 0) := Prod.ext rfl h2
  have e2 : jE bS [] [xO] = ([(dH bS [] xO).1], 0) := zB (by simp; exact e)
  have e4 : dH bS [] bF = fF bS [] bF (dH bS [] xO).1 [] := by
   show dH bS [] (.mk 2 0 MO [] [] [] [] 0 [xO]) = _
   simp only [dH, e2, if_true]
   rw [if_pos (by decide)]
   rfl
  have e5 : (dH bS [] xO).1 = [4] := by
   have e6 : dH bS [] xO = fF bS [] xO [] [] := by
    show dH bS [] (.mk 1 0 gD [] [] [] [] 0 []) = _
    simp only [dH, jE, if_true]
    rfl
   rw [e6]
   unfold fF xO
   dsimp only
   rw [if_neg (by simp [dM, arity]), if_pos rfl, if_pos (by decide)]
   rfl
  have e7 : fE [4] [] MO = 0 := by
   have e8 : i6 [4] [] MO = true := by
    have : N3 cR cR = true := mA.2 rfl
    simp [MO, i6, Dp, this]
   unfold fE
   rw [e8, if_neg (by decide), if_neg (by decide)]
   rfl
  rw [e4, e5]
  unfold fF bF
  dsimp only
  rw [if_neg (by simp [dM, arity]), if_neg (by decide), if_pos rfl, if_pos e7]
  rfl
 have h4 := Qq (.inl rfl) h3
 have e2 : lK bU = true := by rfl
 unfold dV
 rw [if_pos Sr, if_pos (by decide), if_pos e2]
 exact h4
theorem Up {ks : List Nat} (h : uP [bU] [] ts ks) : ks = [2] /\ ts.length = 3 /\ ∃ t, ts[2]? = some t /\ t.left = 1 /\ t.right = 1 := by
 obtain ⟨t1, k1, _, h1, ⟨rfl, rfl⟩, rfl⟩ := h
 unfold bU at h1
 rw [rA] at h1
 obtain ⟨u1, l, u2, r, g1, g2, g3⟩ := h1
 have n0 : (([] : List Step).map keyOf).Nodup := by simp
 have g1 : xI bF [] u1 l := g1
 have n1 := (sC bF n0 g1).1
 obtain ⟨rfl, rfl⟩ := again bF n0 g1 (List.prefix_refl _) n1 g2
 unfold bF at g1
 rw [rA] at g1
 obtain ⟨v1, l1, v2, r1, f1, ⟨rfl, rfl⟩, f3⟩ := g1
 have f1 : xI xO [] v2 l1 := f1
 unfold xO at f1
 rw [rA] at f1
 obtain ⟨w1, l2, w2, r2, ⟨rfl, rfl⟩, ⟨rfl, rfl⟩, f5⟩ := f1
 rcases f5 with ⟨x, hx, _⟩ | ⟨_, rfl, rfl⟩
 . simp at hx
 rcases f3 with ⟨x, hx, e, _⟩ | ⟨_, rfl, rfl⟩
 . exfalso
   have := (IB e).1
   cases r with
   | zero => simp at hx; subst hx; simp at this
   | succ i => simp at hx
 rcases g3 with ⟨x, hx, e, _⟩ | ⟨_, rfl, rfl⟩
 . exfalso
   have := (IB e).1
   match k1, hx with
   | 0, hx => simp at hx; subst hx; simp at this
   | 1, hx => simp at hx; subst hx; simp at this
   | i + 2, hx => simp at hx
 exact ⟨rfl, rfl, _, rfl, rfl, rfl⟩
theorem PW {qs : List Query} (hl : qs.length <= 32) (hs : cN s = 0) : lJ s qs = iS (qs.map λ q => (dV s [] q).2) := by
 unfold lJ
 rw [if_neg (by omega), if_neg (by simp [hs])]
theorem Qt {h : PH} {s : Sl} {v : QV} {q : Query} (r : cW h s 21 [QV.enc v, QV.enc v]) (hq : cC h q v) : sM h s [q, q] := ⟨⟨[v, v], r, rfl, λ i x e => by
 match i, e with
 | 0, e => simp at e; subst e; exact ⟨v, rfl, hq⟩
 | 1, e => simp at e; subst e; exact ⟨v, rfl, hq⟩
 | i + 2, e => simp at e⟩, by simp⟩
theorem Steps.at {p : Sl} {vs : List eO} (r : cW h p 22 (vs.map eO.enc)) (s : Steps h vs ts) (hi : ts[i]? = some t) : ∃ b o v, p.a = some ⟨b, o, none⟩ /\ cL h b (o + i * 22) (eO.enc v) /\ hU h t v := by
 obtain ⟨v, h1, h2⟩ := s.2 i t hi
 obtain ⟨b, o, e, k⟩ := r.get (i := i) (e := eO.enc v) (by simp [h1])
 exact ⟨b, o, v, e, k, h2⟩
theorem Steps.slen {p : Sl} {vs : List eO} (r : cW h p 22 (vs.map eO.enc)) (s : Steps h vs ts) : p.len = ts.length := by
 have := r.len
 simp at this
 rw [this, s.1]
theorem Rx : Sound Tryz.prog 16 SY := by
 refine gC (fn := Tryz.f16) (c := aE Tryz.f16) Tryz.func16 rfl (by decide) ?_
 rintro cvs m h K ⟨rfl, ht, hK⟩
 refine ⟨cO [(14, H0)] [] [] [] false, rfl, aD Rz aH, ?_⟩
 rw [<- Wf m h _]
 show HC m h (lZ h K)
 dsimp only [HC, push_cast]
 intro s1 h1 le1 r1 s2 h2 le2 r2 s3 h3 le3 r3 s4 h4 le4 r4 s5 h5 le5 r5
 have rs : cC h5 xO ⟨1, 0, fV, cA, cA, cA, cA, 0, cA⟩ := AL h5 0
 have rf : cC h5 bF ⟨2, 0, ⟨1, 0, cR, cR, cA⟩, cA, cA, cA, cA, 0, s2⟩ := BB (AP rfl) (uX (v := ⟨1, 0, fV, cA, cA, cA, cA, 0, cA⟩) (r2.mono ((le3.trans le4).trans le5)) rs)
 have ru : cC h5 bU ⟨6, 0, fV, cA, cA, cA, cA, 0, s3⟩ := iU.rep ⟨rfl, rfl, yN h5, jH h5, nK h5, jH h5, pJ h5, rfl, Qt (v := ⟨2, 0, ⟨1, 0, cR, cR, cA⟩, cA, cA, cA, cA, 0, s2⟩) (r3.mono (le4.trans le5)) rf⟩
 have rt : Fs h5 ⟨⟨⟨[116]⟩⟩, [⟨⟨⟨[105, 100]⟩⟩, 4⟩], 1, [], []⟩ ⟨⟨⟨[116]⟩⟩, s1, 1, cA, cA⟩ := ⟨rfl, Eo (l := [⟨_, _⟩]) (r1.mono (((le2.trans le3).trans le4).trans le5)) (by simp), rfl, iT.nil _ _ _ _, iT.nil _ _ _ _⟩
 have rS : eW h5 bS ⟨0, s4⟩ := ⟨rfl, ⟨⟨[⟨⟨⟨[116]⟩⟩, s1, 1, cA, cA⟩], r4.mono le5, rfl, λ i x e => by
  match i, e with
  | 0, e => simp [bS] at e; subst e; exact ⟨_, rfl, rt⟩
  | i + 1, e => simp [bS] at e⟩, by simp [bS]⟩⟩
 have hce : lJ bS [bU] = 0 := by
  rw [PW (by decide) Sr]
  simp [iS, WE]
 refine ⟨⟨0, s4⟩, s5, bS, [bU], rfl, rS, uX (v := ⟨6, 0, fV, cA, cA, cA, cA, 0, s3⟩) r5 ru, ht, λ q _ hq => Qv hq, λ hn => (hn hce).elim, λ _ p r ts ks h6 le6 hadd hp => ?_⟩
 obtain ⟨rfl, htl, t, h2t, tl, tr⟩ := Up hadd
 obtain ⟨vs, hrow, hst⟩ := hp.steps
 have hpl := Steps.slen hrow hst
 have hrl := hp.roots.slen
 obtain ⟨b1, o1, e1, q1⟩ := hp.roots.at (i := 0) (x := 2) rfl
 obtain ⟨b2, o2, v, e2, q2, rv⟩ := Steps.at hrow hst h2t
 have hle := ((((le1.trans le2).trans le3).trans le4).trans le5).trans le6
 have hrl : r.len = 1 := by simpa using hrl
 rw [hpl, htl, hrl]
 refine aB (λ _ => aB (λ _ => ⟨b1, o1, e1, by omega, by omega, 2, .imm q1, aB (λ _ => ⟨b2, o2, e2, by omega, by omega, v.left, .imm (cL.part q2 20 1), aB (λ _ => ⟨b2, o2, e2, by omega, by omega, v.right, .imm (cL.part q2 21 1), ?_⟩) (λ e => ?_)⟩) (λ e => ?_)⟩) (λ e => ?_)) (λ e => ?_)
 . rw [rv.right_, tr]; exact .out (Sub.refl m) hle hK
 . rw [rv.left_, tl] at e; cases e
 . cases e
 . cases e
 . cases e
theorem jV.new (ht : jV m) (hc : m cb = none) (o : bP m m' cb) : jV m' := by
 obtain ⟨T, fz, h1, h2, e⟩ := ht
 refine ⟨T, fz, h1, h2, ?_⟩
 rw [o.other 0 (λ e2 => by rw [<- e2, e] at hc; cases hc)]; exact e
def Ic (h : PH) (xs : List QV) (qs : List Query) : Prop := qs.length = xs.length /\ ∀ (i : Nat) q, qs[i]? = some q -> ∃ v, xs[i]? = some v /\ cC h q v
def Uq (s : oC) (ps : List Int) (qs : List Query) : Prop := ∀ q ∈ qs, QW q /\ (dV s ps q).2 = 0
def MX : Vc.Spec := λ cvs m h K => ∃ cb sc p s ps most deep, cvs = [cP cb, aS sc, cS p, cI most, cI deep] /\ aM m h cb /\ eW h s sc /\ cN s = 0 /\ s.tables ≠ [] /\ aU h p ps /\ ps.length <= 1000 /\ ps.all dR = true /\ 0 <= most /\ most <= 30 /\ 0 <= deep /\ deep <= 900 /\
 ∀ xs qs m' h', PH.le h h' -> Ic h' xs qs -> Uq s ps qs -> (qs.length : Int) <= most -> bP m m' cb -> aM m' h' cb -> K (.lst 43 21 (xs.map QV.enc)) m' h'
noncomputable def Sd (cb : Nat) (sc : bH) (p : Sl) (deep : Int) : Ctx :=
 cO [(12, zL), (18, Oc 1000), (10, Ez), (26, sN), (27, zJ)]
  [(3, { A := Int × List QV × MH × PH, st := λ ⟨n, xs, m, h⟩ => cD 73 78 [(0, pv cb), (2, sv p), (4, iv deep), (6, .at (.ptr 6 0)), (11, .at (.lst 71)), (12, iv n)] [(6, .cells 28 (sc.enc.map .val)), (71, .lst 43 21 (xs.map QV.enc))] m h })]
  [(7, { A := Int × List QV × QV × Bool × MH × PH, st := λ ⟨n, xs, q, b, m, h⟩ => cD 73 78 [(0, pv cb), (2, sv p), (4, iv deep), (6, .at (.ptr 6 0)), (11, .at (.lst 71)), (12, iv n), (13, .at (.ptr 13 0)), (37, bv b)] [(6, .cells 28 (sc.enc.map .val)), (13, .cells 43 (q.enc.map .val)), (71, .lst 43 21 (xs.map QV.enc))] m h }),
   (12, { A := Int × List QV × QV × MH × PH, st := λ ⟨n, xs, q, m, h⟩ => cD 73 78 [(0, pv cb), (2, sv p), (4, iv deep), (6, .at (.ptr 6 0)), (11, .at (.lst 71)), (12, iv n), (13, .at (.ptr 13 0))] [(6, .cells 28 (sc.enc.map .val)), (13, .cells 43 (q.enc.map .val)), (71, .lst 43 21 (xs.map QV.enc))] m h })] [] true
noncomputable abbrev Ao (a : Int × List QV × MH × PH) : Nat -> Nat -> Option Value := a.2.2.2
noncomputable abbrev nP (a : Int × List QV × QV × Bool × MH × PH) : List (List Value) := nA a.2.1
noncomputable abbrev rO (a : Int × List QV × QV × Bool × MH × PH) : MH × PH := a.2.2.2.2
noncomputable abbrev Aq (a : Int × List QV × QV × MH × PH) : List (List Value) := nA a.2.1
noncomputable abbrev u0 (a : Int × List QV × QV × MH × PH) : MH × PH := a.2.2.2
attribute [push_cast] Ao nP rO Aq u0
def OC (cb : Nat) (sc : bH) (p : Sl) (most deep : Int) (m : MH) (h : PH) (K : CV -> MH -> PH -> Prop) : Prop :=
  eV cb (eR most 1) m h (λ c n k m1 => aW k -> k < n \/ k = 0 -> eC m m1 c h (∃ (I : Int × List QV × MH × PH -> Prop) (m2 : Int × List QV × MH × PH -> Nat), (∃ (x : Int × List QV × MH × PH), aA (I x) (cH cb) (aA (aK p) (eA deep) (aA dZ (eL 71) (aA (bJ k x.1) (bR sc) (aG (rY 43 21 (nA x.2.1)) (bV m1 x.2.2) (h = Ao x) True))))) /\ ∀ (x : Int × List QV × MH × PH), I x -> fB x.1 0 (∃ (c1 : Nat), xA (λ s p1 => Da (λ s1 p2 => ∃ (d : Int), aA (fG (zN cb 0) (bK sc) (gG p deep) = fG (zN c1 0) (bK s) (gG p1 d)) (aM x.2.2.1 (Ao x) c1) (aA (eW (Ao x) s1 s) (cN s1 = 0) (aA (tI (CC s1)) (aU (Ao x) p1 p2) (aA (dX p2) (qU (wZ p2)) (aG (Int.negSucc 0 <= d) (d <= 1000) ((d + 1).toNat < 1000) (EN (λ w q => kD (λ m3 h1 => eU (Ao
 x) h1 (cC h1 q w) (QW q -> rX s1 p2 q = 0 -> eC x.2.2.1 m3 c1 h1 (∃ (I1 : Int × List QV × QV × MH × PH -> Prop), (∃ (I2 : Int × List QV × QV × Bool × MH × PH -> Prop), fB (kE (nA x.2.1)) 0 (mS cb 4 m3 h1 (λ c2 r m4 => eC m3 m4 c2 h1 (∃ (x1 : Int × List QV × QV × Bool × MH × PH), aA (I2 x1) (cH cb) (aA (aK p) (eA deep) (aA dZ (eL 71) (aA (bJ x.1 x1.1) jZ (aA (gQ r x1.2.2.2.1) (bR sc) (aA (fC w x1.2.2.1) (vR (nA x.2.1) (nP x1)) (cQ (bV m4 (rO x1)) h1 (rO x1).2))))))))) (∃ (x1 : Int × List QV × QV × Bool × MH × PH), aA (I2 x1) (cH cb) (aA (aK p) (eA deep) (aA dZ (eL 71) (aA (bJ x.1 x1.1) jZ (aA (Bg x1.2.2.2.1) (bR sc) (aA (fC w x1.2.2.1) (vR (nA x.2.1) (nP x1)) (cQ (bV m3 (rO x1)) h1 (rO x1).2))))))) /\ ∀ (x1 : Int
 × List QV × QV × Bool × MH × PH), eJ (I2 x1) x1.2.2.2.1 (lC 0 (nP x1) (λ e => AH (nP x1) 0 e /\ ∃ (y : QV), iO 21 0 e y.enc /\ rZ (λ s2 p3 v => sA (λ s3 p4 q1 => aA (bK sc :: bX (dO p) y.enc = bK s2 :: bX (dO p3) v.enc) (eW (rO x1).2 s3 s2) (aA (aU (rO x1).2 p3 p4) (cC (rO x1).2 q1 v) (fM (rO x1).2 (dV s3 p4 q1).1 (λ s4 h2 => lC 0 (nP x1) (λ e1 => AH (nP x1) 0 e1 /\ ∃ (y1 : QV), aG (iO 21 0 e1 y1.enc) ((∃ (e2 : List Value), AH (nP x1) 0 e2 /\ iO 21 0 e2 y1.enc) /\ tA (λ c2 s5 t c3 p5 d1 => aA (fG (zN cb 0) (dO s4) (gG p 1) = mZ c2 s5 t d1) (aM (rO x1).1 h2 c2) (aA (aU h2 s5 c3) (aU h2 t p5) (aG (dX c3) (dX p5) (nS d1) (nD h2 (rO x1).1 c2 (λ v1 m4 h3 => bQ h3 21 (jG y1.enc) (λ s6 h4 => rZ
 (λ s7 p6 v2 => sA (λ s8 p7 q2 => aA (bK sc :: bX (dO p) (aL (cZ 2) aX (aL (cZ v1.op) (cZ v1.cmp) (aL (tC v1) (tD v1) (aL (cZ (kP v1)) (tE v1) (An v1 j7 j7 j7 j7 aX s6))))) = bK s7 :: bX (dO p6) v2.enc) (eW h4 s8 s7) (aA (aU h4 p6 p7) (cC h4 q2 v2) (fM h4 (dV s8 p7 q2).1 (λ _ h5 => dE (rX s8 p7 q2) 0 (lC 0 (nP x1) (λ e2 => AH (nP x1) 0 e2 /\ ∃ (y2 : QV), iO 21 0 e2 y2.enc /\ ∃ (x2 : Int × List QV × QV × MH × PH), aA (I1 x2) (cH cb) (aA (aK p) (eA deep) (aA dZ (eL 71) (aA (bJ x1.1 x2.1) jZ (aA (bR sc) (fC y2 x2.2.2.1) (aA (vR (nP x1) (Aq x2)) (bV m4 (u0 x2)) (bG h5 (u0 x2).2)))))))) (∃ (x2 : Int × List QV × QV × MH × PH), aA (I1 x2) (cH cb) (aA (aK p) (eA deep) (aA dZ (eL 71) (aA
 (bJ x1.1 x2.1) jZ (aA (bR sc) (nE (bB (bL 2) mF (pQ v1 (bB uQ uQ (bB uQ uQ (kJ mF (gI s6)))))) x2.2.2.1) (aA (vR (nP x1) (Aq x2)) (bV m4 (u0 x2)) (bG h5 (u0 x2).2))))))))))))))))))) (∃ (e2 : List Value), AH (nP x1) 0 e2 /\ iO 21 0 e2 y1.enc) (tA (λ c2 s5 t c3 p5 d1 => aA (fG (zN cb 0) (dO s4) (gG p 1) = mZ c2 s5 t d1) (aM (rO x1).1 h2 c2) (aA (aU h2 s5 c3) (aU h2 t p5) (aG (dX c3) (dX p5) (nS d1) (nD h2 (rO x1).1 c2 (λ v1 m4 h3 => bQ h3 21 (jG y1.enc) (λ s6 h4 => rZ (λ s7 p6 v2 => sA (λ s8 p7 q2 => aA (bK sc :: bX (dO p) (aL (cZ 2) aX (aL (cZ v1.op) (cZ v1.cmp) (aL (tC v1) (tD v1) (aL (cZ (kP v1)) (tE v1) (An v1 j7 j7 j7 j7 aX s6))))) = bK s7 :: bX (dO p6)
 v2.enc) (eW h4 s8 s7) (aA (aU h4 p6 p7) (cC h4 q2 v2) (fM h4 (dV s8 p7 q2).1 (λ _ h5 => dE (rX s8 p7 q2) 0 (lC 0 (nP x1) (λ e2 => AH (nP x1) 0 e2 /\ ∃ (y2 : QV), iO 21 0 e2 y2.enc /\ ∃ (x2 : Int × List QV × QV × MH × PH), aA (I1 x2) (cH cb) (aA (aK p) (eA deep) (aA dZ (eL 71) (aA (bJ x1.1 x2.1) jZ (aA (bR sc) (fC y2 x2.2.2.1) (aA (vR (nP x1) (Aq x2)) (bV m4 (u0 x2)) (bG h5 (u0 x2).2)))))))) (∃ (x2 : Int × List QV × QV × MH × PH), aA (I1 x2) (cH cb) (aA (aK p) (eA deep) (aA dZ (eL 71) (aA (bJ x1.1 x2.1) jZ (aA (bR sc) (nE (bB (bL 2) mF (pQ v1 (bB uQ uQ (bB uQ uQ (kJ mF (gI s6)))))) x2.2.2.1) (aA (vR (nP x1) (Aq x2)) (bV m4 (u0 x2)) (bG h5 (u0 x2).2)))))))))))))))))))))))))))
 (∃ (x2 : Int × List QV × QV × MH × PH), aA (I1 x2) (cH cb) (aA (aK p) (eA deep) (aA dZ (eL 71) (aA (bJ x1.1 x2.1) jZ (aA (bR sc) (fC x1.2.2.1 x2.2.2.1) (aA (vR (nP x1) (Aq x2)) (bV (rO x1).1 (u0 x2)) (bG (rO x1).2 (u0 x2).2)))))))) /\ ∀ (x1 : Int × List QV × QV × MH × PH), I1 x1 -> oO (Aq x1) 280 (∃ (x2 : Int × List QV × MH × PH), aA (I x2) (m2 x2 < m2 x) (aA (cH cb) (aK p) (aA (eA deep) dZ (aA (eL 71) (bJ (jY x1.1) x2.1) (kN (bR sc) (cM 43 21 (iK (Aq x1) x1.2.2.1.enc) = cM 43 21 (nA x2.2.1)) (bV (u0 x1).1 x2.2.2) (u0 x1).2 (Ao x2)))))))))))))))))) (K (CV.lst 43 21 (nA x.2.1)) x.2.2.1 (Ao x))))
theorem WB (cb : Nat) (sc : bH) (p : Sl) (most deep : Int) (m : MH) (h : PH) (K : CV -> MH -> PH -> Prop) : OC cb sc p most deep m h K = (cG (Sd cb sc p deep) Tryz.f9 (aE Tryz.f9) (entry Tryz.f9.ntmps [cP cb, aS sc, cS p, cI most, cI deep] m h) K) := by kernel_rfl
theorem Ic.mono {xs : List QV} {qs : List Query} (r : Ic h xs qs) (le : PH.le h h') : Ic h' xs qs := ⟨r.1, λ i q e => let ⟨v, e1, e2⟩ := r.2 i q e; ⟨v, e1, e2.mono le⟩⟩
theorem Ic.snoc {xs : List QV} {qs : List Query} (r : Ic h xs qs) (hq : cC h q v) : Ic h (xs ++ [v]) (qs ++ [q]) := by
 refine ⟨by simp [r.1], λ i x e => ?_⟩
 have hl := r.1
 by_cases hi : i < qs.length
 . rw [List.getElem?_append_left hi] at e
   obtain ⟨u, e1, e2⟩ := r.2 i x e
   exact ⟨u, by rw [List.getElem?_append_left (by omega)]; exact e1, e2⟩
 . rw [List.getElem?_append_right (by omega)] at e
   have hil := (List.getElem?_eq_some_iff.1 e).1
   simp at hil
   have : i = qs.length := by omega
   subst this
   simp at e
   subst e
   exact ⟨v, by rw [List.getElem?_append_right (by omega), hl]; simp, hq⟩
theorem Sc : Sound Tryz.prog 9 MX := by
 refine aI (fn := Tryz.f9) (c := aE Tryz.f9) Tryz.func9 rfl (by decide) ?_
 rintro cvs m h K ⟨cb, sc, p, s, ps, most, deep, rfl, hc, hs, he, hne, hp, hpl, hpk, m0, m1, d0, d1, hK⟩
 refine ⟨Sd cb sc p deep, rfl, aD Cg (aD (PI 1000) (aD sJ (aD E6 (aD CM aH)))), ?_⟩
 rw [<- WB cb sc p most deep m h K]
 have hw : IntKind.i64.wrap (most + 1) = most + 1 := dP (by omega) (by omega)
 dsimp only [OC, push_cast]
 rw [hw]
 refine ⟨cb, _, rfl, hc, λ k m1' k0 k1 o1 c1 => ?_⟩
 refine ⟨λ ⟨n, xs, mx, hx⟩ => 0 <= n /\ n <= most /\ PH.le h hx /\ bP m mx cb /\ aM mx hx cb /\ ∃ qs, Ic hx xs qs /\ Uq s ps qs /\ (qs.length : Int) <= most - n, λ ⟨n, _, _, _⟩ => n.toNat, ⟨(k, [], m1', h), ⟨k0, by show k <= most; omega, .refl _, o1, c1, [], ⟨rfl, λ i q e => by simp at e⟩, λ q hq => by simp at hq, by simp; omega⟩, MT⟩, ?_⟩
 clear o1 c1 k0 k1 m1' hw
 rintro ⟨n, xs, mx, hx⟩ ⟨n0, n1, hle, ox, cx, qs, rp, qall, hql⟩
 dsimp only
 have hxl : xs.length = qs.length := rp.1.symm
 refine aC (λ hn => ?_) (λ hn => hK xs qs mx hx hle rp qall (by omega) ox cx)
 refine ⟨cb, sc, p, s, ps, deep, rfl, cx, hs.mono hle, he, hne, hp.mono hle, hpl, hpk, by show -1 <= deep; omega, by omega, by omega, λ w q m2 h2 le2 rq qw qok o2 c2 => ?_⟩
 refine ⟨λ ⟨n', xs', q', my, hy⟩ => n' = n /\ xs' = xs /\ PH.le h2 hy /\ bP mx my cb /\ aM my hy cb /\ ∃ q, cC hy q q' /\ QW q /\ (dV s ps q).2 = 0, ?_, ?_⟩
 . refine ⟨λ ⟨n', xs', q', b, my, hy⟩ => n' = n /\ xs' = xs /\ q' = w /\ hy = h2 /\ (b = true -> 0 < xs.length) /\ bP mx my cb /\ aM my h2 cb, aC (λ hl => ⟨cb, 4, rfl, by omega, by omega, c2, λ r m3 o3 c3 => ⟨(n, xs, w, r, m3, h2), ⟨rfl, rfl, rfl, rfl, λ _ => by simpa using hl, o2.trans o3, c3⟩, MT⟩⟩) (λ _ => ⟨(n, xs, w, false, m2, h2), ⟨rfl, rfl, rfl, rfl, (λ e => (by cases e)), o2, c2⟩, MT⟩), ?_⟩
   rintro ⟨n, xs, w, b, my, h2⟩ ⟨rfl, rfl, rfl, rfl, hb, oy, cy⟩
   dsimp only
   refine aB (λ e => ?_) (λ _ => ⟨(n, xs, w, my, h2), ⟨rfl, rfl, .refl _, oy, cy, q, rq, qw, qok⟩, MT⟩)
   have hpos := hb e
   have hq0 : qs[0]? = some (qs[0]'(by omega)) := List.getElem?_eq_getElem _
   obtain ⟨v0, hv0, rv0⟩ := rp.2 0 _ hq0
   obtain ⟨qw0, qok0⟩ := qall _ (List.mem_of_getElem? hq0)
   have hget : (xs.map QV.enc)[0]? = some (QV.enc v0) := by rw [List.getElem?_map, hv0]; rfl
   have hlen : (0 : Int) < ((xs.map QV.enc).length : Int) := by simp; omega
   have fin : ∀ (pv : PV) (pp : Pred) (s1 : Sl) (m5 : MH) (h5 : PH), PH.le h2 h5 -> cX h5 pp pv -> pI pp -> cW h5 s1 21 [QV.enc v0] -> cC h5 (.mk 2 0 pp [] [] [] [] 0 [qs[0]'(by omega)]) ⟨2, 0, pv, cA, cA, cA, cA, 0, s1⟩ /\ QW (.mk 2 0 pp [] [] [] [] 0 [qs[0]'(by omega)]) := λ pv pp s1 m5 h5 l1 l2 l3 l4 => ⟨BB l2 (uX l4 (rv0.mono (le2.trans l1))), GQ l3 qw0⟩
   refine ⟨by omega, hlen, _, hget, v0, rfl, sc, p, v0, s, ps, _, rfl, hs.mono (hle.trans le2), hp.mono (hle.trans le2), rv0.mono le2, λ kk h3 le3 ik => ?_⟩
   have hkl := Dm s ps (qs[0]'(by omega))
   generalize (dV s ps (qs[0]'(by omega))).fst = ks at ik hkl
   have tail : ∀ (pv : PV) (pp : Pred) (m5 : MH) (h5 : PH), PH.le h3 h5 -> cX h5 pp pv -> pI pp -> bP my m5 cb -> aM m5 h5 cb -> True := λ _ _ _ _ _ _ _ _ _ => trivial
   refine ⟨by omega, hlen, _, hget, v0, rfl, ⟨⟨_, hget, rfl⟩, cb, kk, p, ks, ps, 1, rfl, cy.mono le3, ik, hp.mono ((hle.trans le2).trans le3), by omega, hpl, by omega, λ pv pp m5 h5 le5 rpp wpp o5 c5 s1 h6 le6 r6 => ?_⟩, ⟨_, hget, rfl⟩, cb, kk, p, ks, ps, 1, rfl, cy.mono le3, ik, hp.mono ((hle.trans le2).trans le3), by omega, hpl, by omega, λ pv pp m5 h5 le5 rpp wpp o5 c5 s1 h6 le6 r6 => ?_⟩
   all_goals
    have l6 := (le3.trans le5).trans le6
    obtain ⟨f1, f2⟩ := fin pv pp s1 m5 h6 l6 (rpp.mono le6) wpp r6
    refine ⟨sc, p, ⟨2, 0, pv, cA, cA, cA, cA, 0, s1⟩, s, ps, _, rfl, hs.mono ((hle.trans le2).trans l6), hp.mono ((hle.trans le2).trans l6), f1, λ sl h7 le7 _ => aB (λ e2 => ?_) (λ e2 => ?_)⟩
    . exact ⟨by omega, hlen, _, hget, v0, rfl, (n, xs, v0, m5, h7), ⟨rfl, rfl, l6.trans le7, oy.trans o5, c5.mono (le6.trans le7), _, rv0.mono ((le2.trans l6).trans le7), qw0, qok0⟩, MT⟩
    . exact ⟨(n, xs, ⟨2, 0, pv, cA, cA, cA, cA, 0, s1⟩, m5, h7), ⟨rfl, rfl, l6.trans le7, oy.trans o5, c5.mono (le6.trans le7), _, f1.mono le7, f2, by simpa using e2⟩, MT⟩
 . rintro ⟨n, xs, q', my, hy⟩ ⟨rfl, rfl, ley, oy, cy, q2, rq2, qw2, qok2⟩
   dsimp only
   have hw : IntKind.i64.wrap (n - 1) = n - 1 := dP (by omega) (by omega)
   rw [hw]
   refine ⟨by simp; omega, by simp; omega, (n - 1, xs ++ [q'], my, hy), ⟨by show 0 <= n - 1; omega, by show n - 1 <= most; omega, (hle.trans le2).trans ley, ox.trans oy, cy, qs ++ [q2], (rp.mono (le2.trans ley)).snoc rq2, λ x hx => ?_, by simp; omega⟩, by show (n - 1).toNat < n.toNat; omega, ?_⟩
   . rcases List.mem_append.1 hx with h1 | h1
     . exact qall x h1
     . simp at h1; subst h1; exact ⟨qw2, qok2⟩
   . rw [List.map_append]; exact MT
def SQ : Vc.Spec := λ cvs m h K => ∃ s cs step, cvs = [cS s, cI step] /\ cW h s 1 (bA cs) /\ s.len <= s.cap /\ jV m /\ ∀ m' h', Sub m m' -> K (cB true) m' h'
noncomputable def f5_ctx (step : Int) : Ctx :=
 zD [(7, WJ), (8, SH), (9, MX), (10, Ez), (12, zL), (15, F6), (16, SY), (21, P0), (22, BH), (23, BH), (24, Oe)]
  [(5, { A := Int × Nat × bH × Sl × Sl × MH × PH, st := λ ⟨n, cb, v, p, r, m, h⟩ => cD 99 101 [(1, iv step), (5, pv cb), (6, .at (.ptr 6 0)), (7, .at (.ptr 7 0)), (9, iv n)] [(6, .cells 28 (v.enc.map .val)), (7, .cells 49 [.val (.slice p.a p.len p.cap), .val (.slice r.a r.len r.cap)])] m h }),
   (12, { A := Nat × bH × Sl × Sl × List Int × MH × PH, st := λ ⟨i, v, p, r, l, m, h⟩ => cD 99 101 [(6, .at (.ptr 6 0)), (7, .at (.ptr 7 0)), (68, .at (.lst 68)), (69, iv 3), (70, iv i)] [(6, .cells 28 (v.enc.map .val)), (7, .cells 49 [.val (.slice p.a p.len p.cap), .val (.slice r.a r.len r.cap)]), (68, .lst 3 1 (l.map eI))] m h })]
  [(4, { A := Nat × bH × Sl × Sl × MH × PH, st := λ ⟨cb, v, p, r, m, h⟩ => cD 99 101 [(1, iv step), (5, pv cb), (6, .at (.ptr 6 0)), (7, .at (.ptr 7 0))] [(6, .cells 28 (v.enc.map .val)), (7, .cells 49 [.val (.slice p.a p.len p.cap), .val (.slice r.a r.len r.cap)])] m h }),
   (9, { A := Nat × bH × Sl × Sl × MH × PH, frz := true, st := λ ⟨cb, v, p, r, m, h⟩ => cD 99 101 [(1, iv step), (5, pv cb), (6, .at (.ptr 6 0)), (7, .at (.ptr 7 0))] [(6, .cells 28 (v.enc.map .val)), (7, .cells 49 [.val (.slice p.a p.len p.cap), .val (.slice r.a r.len r.cap)])] m h }),
   (11, { A := Nat × bH × Sl × Sl × MH × PH, st := λ ⟨cb, v, p, r, m, h⟩ => cD 99 101 [(1, iv step), (5, pv cb), (6, .at (.ptr 6 0)), (7, .at (.ptr 7 0))] [(6, .cells 28 (v.enc.map .val)), (7, .cells 49 [.val (.slice p.a p.len p.cap), .val (.slice r.a r.len r.cap)])] m h }),
   (15, { A := Nat × bH × Sl × Sl × List Int × Int × QV × Int × MH × PH, st := λ ⟨i, v, p, r, l, x, a, e, m, h⟩ => cD 99 101 [(6, .at (.ptr 6 0)), (7, .at (.ptr 7 0)), (12, iv x), (13, .at (.ptr 13 0)), (14, iv e), (68, .at (.lst 68)), (69, iv 3), (70, iv i)] [(6, .cells 28 (v.enc.map .val)), (7, .cells 49 [.val (.slice p.a p.len p.cap), .val (.slice r.a r.len r.cap)]), (13, .cells 43 (a.enc.map .val)), (68, .lst 3 1 (l.map eI))] m h }),
   (16, { A := Nat × bH × Sl × Sl × List Int × QV × Int × QV × Int × MH × PH, st := λ ⟨i, v, p, r, l, a, e, b, f, m, h⟩ => cD 99 101 [(6, .at (.ptr 6 0)), (7, .at (.ptr 7 0)), (13, .at (.ptr 13 0)), (14, iv e), (15, .at (.ptr 15 0)), (16, iv f), (68, .at (.lst 68)), (69, iv 3), (70, iv i)] [(6, .cells 28 (v.enc.map .val)), (7, .cells 49 [.val (.slice p.a p.len p.cap), .val (.slice r.a r.len r.cap)]), (13, .cells 43 (a.enc.map .val)), (15, .cells 43 (b.enc.map .val)), (68, .lst 3 1 (l.map eI))] m h })] [] [1047] [] false
abbrev J5 (a : Prop) (b : (Nat × bH × Sl × Sl × MH × PH) -> Prop) : Prop := a /\ ∀ (x : Nat × bH × Sl × Sl × MH × PH), b x
abbrev J6 (a b : Prop) (c : (Nat × bH × Sl × Sl × MH × PH) -> Prop) : Prop := a -> b -> ∃ (x : Nat × bH × Sl × Sl × MH × PH), c x
noncomputable abbrev o9 (a : Nat × bH × Sl × Sl × MH × PH) : bH := a.2.1
abbrev l9 (a b c d : Sl) : Prop := oQ 49 (kJ (gI a) (gI b)) = oQ 49 (kJ (gI c) (gI d))
noncomputable abbrev kO (a : Nat × bH × Sl × Sl × MH × PH) : Sl := a.2.2.1
noncomputable abbrev yZ (a : Nat × bH × Sl × Sl × MH × PH) : Sl × MH × PH := a.2.2.2
noncomputable abbrev oP (a : Nat × bH × Sl × Sl × MH × PH) : Sl := (yZ a).1
noncomputable abbrev jJ (a : Nat × bH × Sl × Sl × MH × PH) : Nat -> Nat -> Option Value := (yZ a).2.2
noncomputable abbrev rP (a : Nat × bH × Sl × Sl × MH × PH) : Nat -> Option Obj := (yZ a).2.1
noncomputable abbrev tJ (a : Nat × bH × Sl × Sl × List Int × MH × PH) : List Int × MH × PH := a.2.2.2.2
noncomputable abbrev Ap (a : Nat × bH × Sl × Sl × List Int × MH × PH) : Nat -> Nat -> Option Value := (tJ a).2.2
noncomputable abbrev Bh (a : Nat × bH × Sl × Sl × List Int × Int × QV × Int × MH × PH) : Int × QV × Int × MH × PH := a.2.2.2.2.2
noncomputable abbrev rQ (a : Nat × bH × Sl × Sl × List Int × Int × QV × Int × MH × PH) : Int × MH × PH := (Bh a).2.2
noncomputable abbrev B2 (a : Nat × bH × Sl × Sl × List Int × QV × Int × QV × Int × MH × PH) : Int × QV × Int × MH × PH := a.2.2.2.2.2.2
noncomputable abbrev qK (a : Nat × bH × Sl × Sl × List Int × QV × Int × QV × Int × MH × PH) : Int × MH × PH := (B2 a).2.2
attribute [push_cast] J5 J6 o9 l9 kO yZ oP jJ rP tJ Ap Bh rQ B2 qK
def f5_nice (s : Sl) (step : Int) (m : MH) (h : PH) (K : CV -> MH -> PH -> Prop) : Prop :=
  ∃ (s1 : Sl) (c : List UInt8) (m1 : Nat), aA (gG s 220 = gG s1 (↑m1 : Int)) (cW h s1 1 (bA c)) (aA (s1.len <= s1.cap) (nS m1) (∀ (c1 : Nat), kD (λ m2 h1 => eU h h1 (m c1 = Option.none) (eC m m2 c1 h1 (∃ (c2 : Nat), aA (cK (eH c1) (eH c2)) (aM m2 h1 c2) (∀ (s2 : oC) (v : bH), kD (λ m3 h2 => HU s2 -> eW h2 s2 v -> eU h1 h2 (bP m2 m3 c2) (lU m3 h2 c2 (∃ (I : Nat × bH × Sl × Sl × MH × PH -> Prop), J5 ((∃ (c3 : Nat), xA (λ s3 p => Da (λ s4 p1 => ∃ (m4 d : Int), aA (fG (zN c1 0) (bK v) (Fj :: cV (fS 3) 2) = fG (zN c3 0) (bK s3) (dO p :: cV (fS m4) d)) (aM m3 h2 c3) (aA (eW h2 s4 s3) (cN s4 = 0) (aA (tI (CC s4)) (aU h2 p p1) (aA (dX p1) (qU (wZ p1)) (aA (aW m4) (m4 <= 30) (aA (aW d) (d <= 900) (∀ (x : List QV) (q :
 List Query), kD (λ m5 h3 => eU h2 h3 (Ic h3 x q) (Uq s4 p1 q -> (↑q.length : Int) <= m4 -> eC m3 m5 c3 h3 (bQ h3 21 (nA x) (λ s5 h4 => xA (λ s6 s7 => G7 (λ s8 q1 => aA (dL (bK v) s5 = dL (bK s6) s7) (eW h4 s8 s6) (aA (sM h4 s7 q1) (∀ (q2 : Query), List.Mem q2 q1 -> rX s8 [] q2 = 0 -> QI q2) (lJ s8 q1 = 0 /\ ∀ (p2 : Sl), G6 (λ r t k => kD (λ m6 h5 => eU h4 h5 (Sub m5 m6) (J6 (uP q1 [] t k) (Qb m5 m6 h5 p2 r t k) (λ x1 => aA (I x1) (eA step) (aA (i7 c1 x1.1) dZ (aA (eP 7) (jP v (o9 x1)) (aA (l9 p2 r (kO x1) (oP x1)) (bV m6 (yZ x1).2) (bG h5 (jJ x1)))))))))))))) /\ bQ h3 21 (nA x) (λ s5 h4 => xA (λ s6 s7 => G7 (λ s8 q1 => aA (dL (bK v) s5 = dL (bK s6) s7) (eW h4 s8 s6) (aA (sM h4 s7 q1) (∀
 (q2 : Query), List.Mem q2 q1 -> rX s8 [] q2 = 0 -> QI q2) (lJ s8 q1 = 0 /\ ∀ (p2 : Sl), G6 (λ r t k => kD (λ m6 h5 => eU h4 h5 (Sub m5 m6) (J6 (uP q1 [] t k) (Qb m5 m6 h5 p2 r t k) (λ x1 => aA (I x1) (eA step) (aA (i7 c1 x1.1) dZ (aA (eP 7) (jP v (o9 x1)) (aA (l9 p2 r (kO x1) (oP x1)) (bV m6 (yZ x1).2) (bG h5 (jJ x1)))))))))))))))))))))))))) /\ ∃ (c3 : Nat), xA (λ s3 p => Da (λ s4 p1 => ∃ (m4 d : Int), aA (fG (zN c1 0) (bK v) (Fj :: cV (fS 3) 2) = fG (zN c3 0) (bK s3) (dO p :: cV (fS m4) d)) (aM m3 h2 c3) (aA (eW h2 s4 s3) (cN s4 = 0) (aA (tI (CC s4)) (aU h2 p p1) (aA (dX p1) (qU (wZ p1)) (aA (aW m4) (m4 <= 30) (aA (aW d) (d <= 900) (∀ (x : List QV) (q : List Query), kD (λ m5 h3 => eU h2 h3 (Ic
 h3 x q) (Uq s4 p1 q -> (↑q.length : Int) <= m4 -> eC m3 m5 c3 h3 (bQ h3 21 (nA x) (λ s5 h4 => xA (λ s6 s7 => G7 (λ s8 q1 => aA (dL (bK v) s5 = dL (bK s6) s7) (eW h4 s8 s6) (aA (sM h4 s7 q1) (∀ (q2 : Query), List.Mem q2 q1 -> rX s8 [] q2 = 0 -> QI q2) (lJ s8 q1 = 0 /\ ∀ (p2 : Sl), G6 (λ r t k => kD (λ m6 h5 => eU h4 h5 (Sub m5 m6) (J6 (uP q1 [] t k) (Qb m5 m6 h5 p2 r t k) (λ x1 => aA (I x1) (eA step) (aA (i7 c1 x1.1) dZ (aA (eP 7) (jP v (o9 x1)) (aA (l9 p2 r (kO x1) (oP x1)) (bV m6 (yZ x1).2) (bG h5 (jJ x1)))))))))))))))))))))))))) (λ x => I x -> ∃ (I1 : Nat × bH × Sl × Sl × MH × PH -> Prop), J5 (eV x.1 10 (rP x) (jJ x) (λ c3 n k m4 => aW k -> k < n \/ k = 0 -> eC (rP x) m4 c3 (jJ x) (∃ (I2 : Int × Nat × bH ×
 Sl × Sl × MH × PH -> Prop) (m5 : Int × Nat × bH × Sl × Sl × MH × PH -> Nat), (∃ (x1 : Int × Nat × bH × Sl × Sl × MH × PH), aA (I2 x1) (eA step) (aA (i7 x.1 x1.2.1) dZ (aA (eP 7) (bJ k x1.1) (aA (jP (o9 x) (o9 x1.2)) (l9 (kO x) (oP x) (kO x1.2) (oP x1.2)) (cQ (bV m4 (yZ x1.2).2) (jJ x) (jJ x1.2)))))) /\ ∀ (x1 : Int × Nat × bH × Sl × Sl × MH × PH), I2 x1 -> fB x1.1 0 (fB (aF (kO x1.2)) 0 (∃ (x2 : List (List Value)), aG (fD (rP x1.2) (fK (kO x1.2)) 60 22 x2) (fR (iV x2 1 * 272)) (kR x2) (mK (λ s3 m6 => jU (rP x1.2) m6 (fK (kO x1.2)) s3 60 22 (iK x2 (qJ (cZ 8) aX j7 (kY (cZ (jY (aF (kO x1.2)))) (cZ (jY (aF (kO x1.2))))))) -> ∃ (x3 : Int × Nat × bH × Sl × Sl × MH × PH), aA (I2 x3) (m5 x3 < m5 x1) (aA
 (eA step) (i7 x1.2.1 x3.2.1) (aA dZ (eP 7) (aA (bJ (jY x1.1) x3.1) (jP (o9 x1.2) (o9 x3.2)) (aG (l9 s3 (oP x1.2) (kO x3.2) (oP x3.2)) (bV m6 (yZ x3.2).2) (jJ x1.2 = jJ x3.2) True))))))) (Gd (rP x1.2) (jJ x1.2) -> ∃ (x2 : Nat × bH × Sl × Sl × MH × PH), aA (I1 x2) (eA step) (aA (i7 x1.2.1 x2.1) dZ (aA (eP 7) (jP (o9 x1.2) (o9 x2)) (aA (l9 (kO x1.2) (oP x1.2) (kO x2) (oP x2)) (A2 (rP x1.2) (jJ x1.2) (rP x2) (jJ x2)) True))))) (Gd (rP x1.2) (jJ x1.2) -> ∃ (x2 : Nat × bH × Sl × Sl × MH × PH), aA (I1 x2) (eA step) (aA (i7 x1.2.1 x2.1) dZ (aA (eP 7) (jP (o9 x1.2) (o9 x2)) (aA (l9 (kO x1.2) (oP x1.2) (kO x2) (oP x2)) (A2 (rP x1.2) (jJ x1.2) (rP x2) (jJ x2))
 True))))))) (λ x1 => I1 x1 -> ∃ (I2 : Nat × bH × Sl × Sl × MH × PH -> Prop), J5 (mS x1.1 6 (rP x1) (jJ x1) (λ c3 r m4 => eC (rP x1) m4 c3 (jJ x1) (branch r (∃ (c4 : Nat), gW (λ p r1 => yX (λ t r2 => aA (lY (eH x1.1) (gP (kO x1) (oP x1)) = lY (eH c4) (gP p r1)) (aM m4 (jJ x1) c4) (aA (gA (jJ x1) p r1 t r2) (t.length <= 1000000) (aA (xC r2 1000000) (∀ (t1 : Step), List.Mem t1 t -> MW t1) (∀ (p1 r3 : Sl) (t1 : List Step) (r4 : List Int), kD (λ m5 h3 => eU (jJ x1) h3 (gA h3 p1 r3 t1 r4) (eC m4 m5 c4 h3 (∃ (x2 : Nat × bH × Sl × Sl × MH × PH), aA (I2 x2) (eA step) (aA (i7 x1.1 x2.1) dZ (aA (eP 7) (jP (o9 x1) (o9 x2)) (aA (l9 p1 r3 (kO x2) (oP x2)) (bV m5 (yZ x2).2) (bG h3 (jJ x2)))))))))))))) (∃ (x2 : Nat ×
 bH × Sl × Sl × MH × PH), aA (I2 x2) (eA step) (aA (i7 x1.1 x2.1) dZ (aA (eP 7) (jP (o9 x1) (o9 x2)) (aA (l9 (kO x1) (oP x1) (kO x2) (oP x2)) (bV m4 (yZ x2).2) (bG (jJ x1) (jJ x2))))))))) (λ x2 => I2 x2 -> eV x2.1 (aF (kO x2)) (rP x2) (jJ x2) (λ c3 n k m4 => aW k -> k < n \/ k = 0 -> eC (rP x2) m4 c3 (jJ x2) (∃ (I3 : Nat × bH × Sl × Sl × List Int × MH × PH -> Prop) (m5 : Nat × bH × Sl × Sl × List Int × MH × PH -> Nat), (∃ (x3 : Nat × bH × Sl × Sl × List Int × MH × PH), aA (I3 x3) dZ (aA (eP 7) (eL 68) (aA (eA 3) (bO x3.1) (aA (jP (o9 x2) x3.2.1) (l9 (kO x2) (oP x2) x3.2.2.1 x3.2.2.2.1) (aG (mT (bT step :: mI (bT k) (bT (jY (aF (kO x2))))) (tJ x3).1) (bV m4 (tJ x3).2) (jJ x2 = Ap x3)
 True))))) /\ ∀ (x3 : Nat × bH × Sl × Sl × List Int × MH × PH), I3 x3 -> bE (↑x3.1 : Int) 3 (lC (↑x3.1 : Int) (bY (tJ x3).1) (λ e => pB (fO (bY (tJ x3).1) (↑x3.1 : Int) e) (λ y => iO 1 0 e (bT y) /\ ∃ (I4 : Nat × bH × Sl × Sl × List Int × Int × QV × Int × MH × PH -> Prop), (∃ (s3 : bH), gW (λ p r => ∃ (s4 : oC), yX (λ t r1 => ∃ (i : Int), aA (bK x3.2.1 :: cV (gP x3.2.2.1 x3.2.2.2.1) y = bK s3 :: cV (gP p r) i) (eW (Ap x3) s4 s3) (aA (gA (Ap x3) p r t r1) (tI (jL s4 t r1 i = 0) -> ∃ (x4 : Nat × bH × Sl × Sl × List Int × Int × QV × Int × MH × PH), aA (I4 x4) dZ (aA (eP 7) (bJ y (Bh x4).1) (aA jZ (bJ (jL s4 t r1 i) (rQ x4).1) (aA (eL 68) (eA 3) (aA (dG x3.1 x4.1) (jP x3.2.1 x4.2.1) (aA (l9 x3.2.2.1 x3.2.2.2.1 x4.2.2.1
 x4.2.2.2.1) (nE zQ (Bh x4).2.1) (aG (jK (tJ x3).1 x4.2.2.2.2.1) (bV (tJ x3).2.1 (rQ x4).2) (Ap x3 = iI (rQ x4)) True))))))) (jL s4 t r1 i = 0 -> ∀ (v1 : QV) (h3 : PH), eU (Ap x3) h3 (cC h3 (dC t i.toNat) v1) (∃ (x4 : Nat × bH × Sl × Sl × List Int × Int × QV × Int × MH × PH), aA (I4 x4) dZ (aA (eP 7) (bJ y (Bh x4).1) (aA jZ (bJ 0 (rQ x4).1) (aA (eL 68) (eA 3) (aA (dG x3.1 x4.1) (jP x3.2.1 x4.2.1) (aA (l9 x3.2.2.1 x3.2.2.2.1 x4.2.2.1 x4.2.2.2.1) (fC v1 (Bh x4).2.1) (aG (jK (tJ x3).1 x4.2.2.2.2.1) (bV (tJ x3).2.1 (rQ x4).2) (h3 = iI (rQ x4)) True)))))))))))) /\ ∀ (x4 : Nat × bH × Sl × Sl × List Int × Int × QV × Int × MH × PH), I4 x4 -> ∃ (I5 : Nat × bH × Sl × Sl × List Int × QV × Int × QV × Int × MH × PH -> Prop), (∃ (s3 : bH),
 gW (λ p r => ∃ (s4 : oC), yX (λ t r1 => ∃ (i : Int), aA (bK x4.2.1 :: cV (gP x4.2.2.1 x4.2.2.2.1) (Bh x4).1 = bK s3 :: cV (gP p r) i) (eW (iI (rQ x4)) s4 s3) (aA (gA (iI (rQ x4)) p r t r1) (tI (jL s4 t r1 i = 0) -> ∃ (x5 : Nat × bH × Sl × Sl × List Int × QV × Int × QV × Int × MH × PH), aA (I5 x5) dZ (aA (eP 7) (eP 13) (aA (bJ (rQ x4).1 (B2 x5).1) (eP 15) (aA (bJ (jL s4 t r1 i) (qK x5).1) (eL 68) (aA (eA 3) (dG x4.1 x5.1) (aA (jP x4.2.1 x5.2.1) (l9 x4.2.2.1 x4.2.2.2.1 x5.2.2.1 x5.2.2.2.1) (aA (fC (Bh x4).2.1 x5.2.2.2.2.2.1) (nE zQ (B2 x5).2.1) (aA (jK x4.2.2.2.2.1 x5.2.2.2.2.1) (bV (rR (rQ x4)) (qK x5).2) (bG (iI (rQ x4)) (iI (qK x5))))))))))) (jL s4 t r1 i = 0 -> ∀ (v1 : QV) (h3 : PH), eU
 (iI (rQ x4)) h3 (cC h3 (dC t i.toNat) v1) (∃ (x5 : Nat × bH × Sl × Sl × List Int × QV × Int × QV × Int × MH × PH), aA (I5 x5) dZ (aA (eP 7) (eP 13) (aA (bJ (rQ x4).1 (B2 x5).1) (eP 15) (aA (bJ 0 (qK x5).1) (eL 68) (aA (eA 3) (dG x4.1 x5.1) (aA (jP x4.2.1 x5.2.1) (l9 x4.2.2.1 x4.2.2.2.1 x5.2.2.1 x5.2.2.2.1) (aA (fC (Bh x4).2.1 x5.2.2.2.2.2.1) (fC v1 (B2 x5).2.1) (aA (jK x4.2.2.2.2.1 x5.2.2.2.2.1) (bV (rR (rQ x4)) (qK x5).2) (bG h3 (iI (qK x5)))))))))))))))) /\ ∀ (x5 : Nat × bH × Sl × Sl × List Int × QV × Int × QV × Int × MH × PH), eJ (I5 x5) ((B2 x5).1 != (qK x5).1) (K aR (rR (qK x5)) (iI (qK x5))) (∃ (v1 : QV), kS (λ w p => ∃ (q : Query), aG (wD x5.2.2.2.2.2.1 (B2 x5).2.1 = wD v1 w) (cC (iI (qK x5)) p
 v1) (cC (iI (qK x5)) q w) (∀ (r : Bool), eJ (dQ r (p = q)) (!r) (K aR (rR (qK x5)) (iI (qK x5))) (∃ (x6 : Nat × bH × Sl × Sl × List Int × MH × PH), aA (I3 x6) (m5 x6 < m5 x3) (aA (eP 6) (eP 7) (aA (eL 68) (eA 3) (aA (aZ x5.1 1 x6.1) (jP x5.2.1 x6.2.1) (kN (l9 x5.2.2.1 x5.2.2.2.1 x6.2.2.1 x6.2.2.2.1) (jK x5.2.2.2.2.1 (tJ x6).1) (bV (rR (qK x5)) (tJ x6).2) (iI (qK x5)) (Ap x6)))))))))))) (aA (([] : List CV) = []) (jV (tJ x3).2.1) (K gV (tJ x3).2.1 (Ap x3)))))))))))))))))
theorem f5_vc (s : Sl) (step : Int) (m : MH) (h : PH) (K : CV -> MH -> PH -> Prop) : f5_nice s step m h K = (cG (f5_ctx step) Tryz.f5 (aE Tryz.f5) (entry Tryz.f5.ntmps [cS s, cI step] m h) K) := by kernel_rfl
theorem Qz {op : Int} {on : List (Int × Int)} {args : List Query} {b : List Int} (h : (fF s ps (.mk op ta w co on gr od li args) a b).2 = 0) : co.length <= 12 := by
 unfold fF at h
 dsimp only at h
 split at h
 . simp [eX] at h
 . rename_i h0
   rw [not_or] at h0
   obtain ⟨_, _, u3, _, _⟩ := Classical.not_not.1 h0.2
   rcases u3 with rfl | rfl
   . rw [if_neg (by decide), if_neg (by decide), if_pos rfl] at h
     split at h
     . unfold lH at h
       split at h
       . rename_i h1; simpa using h1
       . simp at h
     . simp [eX] at h
   . simp
theorem RR (v : Inv s ts) : ∀ t ∈ ts, MW t := λ t ht => by
 obtain ⟨i, hi⟩ := List.mem_iff_getElem?.1 ht
 have hl := (List.getElem?_eq_some_iff.1 hi).1
 have g := (v.good i hl).kinds
 rw [kU v.ok hi] at g
 obtain ⟨_, _, a, b, _, _, h3⟩ := uI g
 exact ⟨(KZ v hi).wher, by have := Qz h3; omega⟩
theorem Ii (h : PH) : cC h KH iP := iU.rep ⟨rfl, rfl, yN h, jH h, nK h, jH h, pJ h, rfl, iT.nil _ _ _ _⟩
theorem Nc : wV gD := by
 have z : MZ cR := ⟨⟨by decide, by decide⟩, ⟨by decide, by decide⟩, ⟨by decide, by decide⟩, ⟨by decide, by decide⟩, by decide⟩
 exact ⟨⟨by decide, by decide⟩, ⟨by decide, by decide⟩, z, z, by decide, trivial⟩
structure Us (M : MH) (sc : oC) (cb : Nat) (v : bH) (p r : Sl) (m : MH) (h : PH) (ts : List Step) (ks : List Nat) : Prop where
 rs : eW h sc v
 case_ : aM m h cb
 steps : ∃ vs, oD M m p 60 22 (vs.map eO.enc) /\ Steps h vs ts
 roots : oD M m r 3 1 (ks.map fun (k : Nat) => eI k)
 kept : Kept M m cb
 wf : ∀ t ∈ ts, MW t
theorem Us.on {M : MH} {sc : oC} {v : bH} {p : Sl} {ks : List Nat} (x : Us M sc cb v p r m h ts ks) (o : bP m m' cb) (c : aM m' h cb) : Us M sc cb v p r m' h ts ks := by
 obtain ⟨vs, a, b⟩ := x.steps
 exact ⟨x.rs, c, ⟨vs, a.on o x.case_ (by decide), b⟩, x.roots.on o x.case_ (by decide), x.kept.on o, x.wf⟩
theorem Us.len {M : MH} {sc : oC} {v : bH} {p : Sl} {ks : List Nat} (x : Us M sc cb v p r m h ts ks) : p.len = ts.length := by
 obtain ⟨vs, a, b⟩ := x.steps
 have := fD.slen a.row
 rw [List.length_map, b.1] at this
 exact this
structure W3 (m0 : MH) (sc : oC) (cb : Nat) (v : bH) (p r : Sl) (m : MH) (h : PH) : Prop where
 oth : bP m0 m cb
 case_ : aM m h cb
 rs : eW h sc v
 plan : ∃ ts rs, gA h p r ts rs /\ ts.length <= 1000 /\ rs.length <= 1000 /\ ∀ t ∈ ts, MW t
theorem Us.ice {m0 M : MH} {sc : oC} {v : bH} {p : Sl} {ks : List Nat} (x : Us M sc cb v p r m h ts ks) (o : bP m0 M cb) (hc : M cb ≠ none) (tl : ts.length <= 1000) (kl : ks.length <= 1000) (d : Gd m h) : W3 m0 sc cb v p r (sI M m) (zR M m h) := by
 obtain ⟨vs, a, b⟩ := x.steps
 exact ⟨o.trans (keep_other x.kept), ID x.case_ hc d, x.rs.mono (EV d), ts, ks.map fun (k : Nat) => (k : Int), ⟨⟨vs, a.ice, b.mono (EV d)⟩, ⟨by rw [List.map_map]; exact x.roots.ice, by simp; omega⟩, by omega⟩, tl, by simpa using kl, x.wf⟩
theorem f5_sound : Sound Tryz.prog 5 SQ := by
 refine aI (fn := Tryz.f5) (c := aE Tryz.f5) Tryz.func5 rfl (by decide) ?_
 rintro cvs m h K ⟨s, cs, step, rfl, hr, hcap, ht, hK⟩
 refine ⟨f5_ctx step, rfl, aD Sh (aD Sf (aD Sc (aD sJ (aD Cg (aD Ry (aD Rx (aD Ru (aD Rt (aD Rs (aD I0 aH)))))))))), ?_⟩
 rw [<- f5_vc s step m h K]
 dsimp only [f5_nice, push_cast]
 refine ⟨s, cs, 220, rfl, hr, hcap, by omega, λ cb m1 h1 le1 hcb o1 c1 => ⟨cb, rfl, c1, λ sc v m2 h2 hpl rS le2 o2 c2 => ?_⟩⟩
 obtain ⟨hse, hne⟩ := R0 hpl
 refine ⟨λ ⟨cb', v', p, r, mx, hx⟩ => cb' = cb /\ v' = v /\ ∃ M ts ks, bP m M cb /\ M cb ≠ none /\ Us M sc cb v p r mx hx ts ks /\ ts.length <= 100 /\ ks.length <= 100, ⟨⟨cb, v, cA, sc, [], 3, 2, rfl, c2, rS, hse, hne, jH _, by simp, by simp, by omega, by omega, by omega, by omega, λ xs qs m3 h3 le3 rp qall ql o3 c3 => ⟨?_, ?_⟩⟩, cb, v, cA, sc, [], 3, 2, rfl, c2, rS, hse, hne, jH _, by simp, by simp, by omega, by omega, by omega, by omega, λ xs qs m3 h3 le3 rp qall ql o3 c3 => ?_⟩, ?_⟩
 rotate_left 3
 . rintro ⟨cb', v', p, r, m4, h4⟩ ⟨rfl, rfl, M, ts, ks, oM, hM, E, tl, kl⟩
   refine ⟨λ ⟨cb2, w, p, r, mx, hx⟩ => cb2 = cb' /\ w = v' /\ W3 m sc cb' v' p r mx hx, ⟨cb', 10, rfl, E.case_, λ n m5 n0 n1 o5 c5 => ?_⟩, ?_⟩
   . refine ⟨λ ⟨n, cb2, v2, p, r, mx, hx⟩ => cb2 = cb' /\ v2 = v' /\ 0 <= n /\ ∃ ts, Us M sc cb' v' p r mx hx ts ks /\ ts.length + n <= 200, λ ⟨n, _⟩ => n.toNat, ⟨(n, cb', v', p, r, m5, h4), ⟨rfl, rfl, n0, ts, E.on o5 c5, by show (ts.length : Int) + n <= 200; omega⟩, MT⟩, ?_⟩
     clear E tl o5 c5 n1 n0 n m5 ts p r
     rintro ⟨n, cb2, v2, p, r, mx, hx⟩ ⟨rfl, rfl, n0, ts, E, tl⟩
     have pl := E.len
     dsimp only
     refine aC (λ hn => aC (λ hp => ?_) (λ hp d => ⟨(cb2, v2, p, r, sI M mx, zR M mx hx), ⟨rfl, rfl, E.ice oM hM (by omega) (by omega) d⟩, FT⟩)) (λ hn d => ?_)
     . obtain ⟨vs, a, b⟩ := E.steps
       refine ⟨_, a.row, by rw [List.length_map, b.1]; omega, by rw [List.length_map, b.1]; omega, λ s' m6 g => ?_⟩
       rw [show IntKind.i64.wrap ((p.len : Int) - 1) = (p.len : Int) - 1 from dP (by omega) (by omega)] at g
       rw [show IntKind.i64.wrap (n - 1) = n - 1 from dP (by omega) (by omega)]
       have hcbk := jU.at_cb g a E.case_ (by decide)
       refine ⟨(n - 1, cb2, v2, s', r, m6, hx), ⟨rfl, rfl, by show 0 <= n - 1; omega, ts ++ [⟨8, 0, gD, [], [], [], [], 0, (p.len : Int) - 1, (p.len : Int) - 1⟩], ⟨E.rs, E.case_.keep hcbk (.refl _), ⟨vs ++ [⟨8, 0, fV, cA, cA, cA, cA, 0, (p.len : Int) - 1, (p.len : Int) - 1⟩], ?_, b.snoc ⟨rfl, rfl, yN _, jH _, nK _, jH _, pJ _, rfl, rfl, rfl⟩⟩, E.roots.apart a g (by decide), λ c o e hc => ?_, λ t ht => ?_⟩, by show ((ts ++ _).length : Int) + (n - 1) <= 200; simp; omega⟩, by show (n - 1).toNat < n.toNat; omega, MT⟩
       . rw [List.map_append]; exact a.grown g E.kept E.case_
       . exact g.other c o (E.kept c o e hc) λ j e2 => by rw [a.fresh c j e2] at e; cases e
       . rcases List.mem_append.1 ht with h6 | h6
         . exact E.wf t h6
         . simp at h6; subst h6; exact ⟨Nc, by simp⟩
     . exact ⟨(cb2, v2, p, r, sI M mx, zR M mx hx), ⟨rfl, rfl, E.ice oM hM (by omega) (by omega) d⟩, FT⟩
   clear E tl kl oM hM ts M p r m4 h4 ks
   rintro ⟨cb2, v, p, r, m6, h6⟩ ⟨rfl, rfl, F⟩
   dsimp only
   refine ⟨λ ⟨cb3, w, p, r, mx, hx⟩ => cb3 = cb2 /\ w = v /\ bP m mx cb2 /\ aM mx hx cb2 /\ eW hx sc v /\ ∃ ts rs, gA hx p r ts rs, ⟨cb2, 6, rfl, by decide, by decide, F.case_, λ b m7 o7 c7 => aB (λ _ => ?_) (λ _ => ⟨(cb2, v, p, r, m7, h6), ⟨rfl, rfl, F.oth.trans o7, c7, F.rs, let ⟨ts, rs, P, _⟩ := F.plan; ⟨ts, rs, P⟩⟩, MT⟩)⟩, ?_⟩
   . obtain ⟨ts, rs, P, tl, rl, wf⟩ := F.plan
     exact ⟨cb2, p, r, ts, rs, rfl, c7, P, by omega, by omega, wf, λ p' r' ts' rs' m8 h8 le8 P' o8 c8 => ⟨(cb2, v, p', r', m8, h8), ⟨rfl, rfl, (F.oth.trans o7).trans o8, c8, F.rs.mono le8, ts', rs', P'⟩, MT⟩⟩
   clear F p r m6 h6
   rintro ⟨cb3, w, p, r, m7, h7⟩ ⟨rfl, rfl, o7, c7, rs7, ts, rs, P⟩
   dsimp only
   refine ⟨cb3, p.len, rfl, c7, λ k m8 k0 k1 o8 c8 => ⟨λ ⟨i, v', p', r', l, mx, hx⟩ => v' = w /\ p' = p /\ r' = r /\ l.length = 3 /\ i <= 3 /\ mx = m8 /\ eW hx sc w /\ gA hx p r ts rs, λ ⟨i, _⟩ => 3 - i, ⟨(0, w, p, r, [step, k, IntKind.i64.wrap ((p.len : Int) - 1)], m8, h7), ⟨rfl, rfl, rfl, rfl, by omega, rfl, rs7, P⟩, MT⟩, ?_⟩⟩
   have oE := o7.trans o8
   clear P rs7
   rintro ⟨i, v', p', r', l, mx, hx⟩ ⟨rfl, rfl, rfl, hl, hi, rfl, rsx, P⟩
   dsimp only
   refine aC (λ hlt => ?_) (λ _ => ⟨rfl, ht.new hcb oE, hK _ _ λ b o e => by rw [oE.other b (λ e2 => by rw [e2, hcb] at e; cases e)]; exact e⟩)
   have hil : i < 3 := by omega
   obtain ⟨y, hy⟩ : ∃ y, l[i]? = some y := ⟨_, List.getElem?_eq_getElem (by omega)⟩
   refine ⟨by omega, by simp; omega, eI y, Ci hy, y, rfl, λ ⟨i', v2, p2, r2, l2, x, a, e, m2, h2⟩ => i' = i /\ v2 = v' /\ p2 = p' /\ r2 = r' /\ l2 = l /\ x = y /\ m2 = mx /\ eW h2 sc v' /\ gA h2 p' r' ts rs /\ e = jL sc ts rs y /\ cC h2 (if jL sc ts rs y = 0 then dC ts y.toNat else KH) a, ⟨v', p', r', sc, ts, rs, y, rfl, rsx, P, λ he => ⟨(i, v', p', r', l, y, iP, jL sc ts rs y, mx, hx), ⟨rfl, rfl, rfl, rfl, rfl, rfl, rfl, rsx, P, rfl, by rw [if_neg he]; exact Ii _⟩, MT⟩, λ he a h' le' ra => ⟨(i, v', p', r', l, y, a, 0, mx, h'), ⟨rfl, rfl, rfl, rfl, rfl, rfl, rfl, rsx.mono le', P.mono le', he.symm, by rw [if_pos he]; exact ra⟩, MT⟩⟩, ?_⟩
   rintro ⟨i', v2, p2, r2, l2, x, a, e, m2, h2⟩ ⟨rfl, rfl, rfl, rfl, rfl, rfl, rfl, rs2, P2, rfl, ra⟩
   dsimp only
   refine ⟨λ ⟨i3, v3, p3, r3, l3, a3, e3, b, f, m3, h3⟩ => i3 = i' /\ v3 = v2 /\ p3 = p2 /\ r3 = r2 /\ l3 = l2 /\ m3 = m2 /\ e3 = f /\ eW h3 sc v2 /\ gA h3 p2 r2 ts rs /\ ∃ Q, cC h3 Q a3 /\ cC h3 Q b, ⟨v2, p2, r2, sc, ts, rs, x, rfl, rs2, P2, λ he => ⟨(i', v2, p2, r2, l2, a, jL sc ts rs x, iP, jL sc ts rs x, m2, h2), ⟨rfl, rfl, rfl, rfl, rfl, rfl, rfl, rs2, P2, KH, by rw [if_neg he] at ra; exact ra, Ii _⟩, MT⟩, λ he b h' le' rb => ⟨(i', v2, p2, r2, l2, a, jL sc ts rs x, b, 0, m2, h'), ⟨rfl, rfl, rfl, rfl, rfl, rfl, he, rs2.mono le', P2.mono le', dC ts x.toNat, by rw [if_pos he] at ra; exact ra.mono le', rb⟩, MT⟩⟩, ?_⟩
   rintro ⟨i3, v3, p3, r3, l3, a3, e3, b, f, m3, h3⟩ ⟨rfl, rfl, rfl, rfl, rfl, rfl, rfl, rs3, P3, Q, rQa, rQb⟩
   refine aB (λ h8 => by simp at h8) (λ _ => ⟨a3, b, Q, Q, rfl, rQa, rQb, λ z hz => aB (λ h8 => by rw [hz.2 rfl] at h8; cases h8) (λ _ => ⟨(i3 + 1, v3, p3, r3, l3, m3, h3), ⟨rfl, rfl, rfl, hl, by show i3 + 1 <= 3; omega, rfl, rs3, P3⟩, by show 3 - (i3 + 1) < 3 - i3; omega, ?_⟩)⟩)
   dsimp only
   rw [dP (by omega) (by omega)]
   exact MT
 all_goals
  intro sl h4 le4 r4
  have rl : sM h4 sl qs := ⟨⟨xs, r4, rp.1, λ i x e => let ⟨v, e1, e2⟩ := rp.2 i x e; ⟨v, e1, e2.mono le4⟩⟩, by omega⟩
  have hgood : ∀ q ∈ qs, Ex sc q := λ q hq => Nb (qall q hq).2 (qall q hq).1
  have hce : lJ sc qs = 0 := by
   rw [PW (by omega) hse]
   refine qX _ λ e he => ?_
   obtain ⟨q, hq, rfl⟩ := List.mem_map.1 he
   exact (qall q hq).2
  refine ⟨v, sl, sc, qs, rfl, rS.mono (le3.trans le4), rl, λ q hq _ => (hgood q hq).ints, hce, λ p r ts ks m4 h5 le5 sub4 hadd hp => ?_⟩
  obtain ⟨hinv, _, hkl, hroot⟩ := Oy hgood (Tg sc) hadd
  have htl := HP hadd (λ q hq => (pK.1 (hgood q hq).small).1)
  simp only [List.length_nil, Nat.zero_add] at htl
  have hM : m3 cb ≠ none := λ e => by obtain ⟨c, e2⟩ := c3.blk; rw [e2] at e; cases e
  have c4 : aM m4 h5 cb := c3.keep (by obtain ⟨c, e2⟩ := c3.blk; rw [e2]; exact sub4 cb _ e2) (le4.trans le5)
  exact ⟨(cb, v, p, r, m4, h5), ⟨rfl, rfl, m3, ts, ks, (o1.trans o2).trans o3, hM, ⟨rS.mono ((le3.trans le4).trans le5), c4, hp.steps, hp.roots, λ b o e _ => sub4 b o e, RR hinv⟩, by omega, by omega⟩, MT⟩
end Go.Ps
