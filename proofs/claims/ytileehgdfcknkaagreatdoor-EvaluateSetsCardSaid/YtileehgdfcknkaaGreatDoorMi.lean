/-
  Part 9 of a proof that a law of the given program returns true: a condition generator that is proved sound, and contracts of functions. No condition of its own. Own work, joined by a program (pack2.py).
-/
import Derived.Test.YtileehgdfcknkaaGreatDoorMh
namespace Go.Ps
open Go Go.Vc Go.Proofs
variable {K : CV -> MH -> PH -> Prop} {m : MH} {h : PH} {s : nX} {ps : List Int} {cb : Nat} {sc : bL} {v : QV} {q : Query} {p : Pred} {l : List Int} {i : Nat} {N : Nat} {m' : MH} {h' : PH} {co : List Int} {gr : List Int} {od : List (Int × Bool)} {w : Pred} {ta : Int} {li : Int} {xs : List (List Value)} {sz : Nat} {k : Nat} {ks : List (List Int)} {rs : List Int} {r : Sl} {a : List Int} {b : Nat}
structure Hu (s : nX) (st : List (List (List VV))) : Prop where
 len : st.length = s.tables.length
 few : ∀ l ∈ st, l.length <= 4
 ok : Jq s st
 val : StV st
def Xz : Vc.Spec := λ cvs m h K => ∃ cb v s, cvs = [cP cb, aS v, cI 3] /\ aK m h cb /\ gR h s v /\ oK s /\ ∀ st sl m' h', PH.le h h' -> Oi h' sl st -> Hu s st -> aY m m' cb -> aK m' h' cb -> K (aSt sl) m' h'
noncomputable def Y7 (cb : Nat) (v : bL) : Ctx := vO [(15, Gc), (44, vA), (43, afJ), (46, XP), (45, agX)]
 [(3, { A := Nat × Sl × MH × PH, st := λ ⟨i, s, m, h⟩ => cH 51 54 [(0, pv cb), (2, iv 3), (4, .at (.ptr 4 0)), (6, .at (.ptr 6 0)), (7, .at (.ptr 7 0)), (18, iv v.tables.len), (19, iv i)] [(4, .cells 43 (v.enc.map .val)), (6, .cells 25 [.val bX.val]), (7, .cells 25 [.val (.slice s.a s.len s.cap)])] m h }),
  (6, { A := Nat × Int × Sl × MH × PH, st := λ ⟨i, n, s, m, h⟩ => cH 51 54 [(0, pv cb), (2, iv 3), (4, .at (.ptr 4 0)), (6, .at (.ptr 6 0)), (7, .at (.ptr 7 0)), (8, iv i), (9, iv n), (18, iv v.tables.len), (19, iv i)] [(4, .cells 43 (v.enc.map .val)), (6, .cells 25 [.val bX.val]), (7, .cells 25 [.val (.slice s.a s.len s.cap)])] m h })] [] [] [2023] [] false
abbrev wE (a : List At) (b : Sl × MH × PH) : Prop := oQ 25 a = oQ 25 (qF b.1)
noncomputable abbrev oA (a : Nat × Int × Sl × MH × PH) : Sl × MH × PH := a.2.2
attribute [push_cast] wE oA
def Kt (cb : Nat) (v : bL) (m : MH) (h : PH) (K : CV -> MH -> PH -> Prop) : Prop :=
  aA (cA (gL v)) (gL v <= gL v) (aA (qJ (gL v * 24)) (qJ (gL v)) (gO (λ s m1 => nD m m1 h s 53 1 (List.replicate (gL v).toNat hU) -> ∃ (I : Nat × Sl × MH × PH -> Prop) (m2 : Nat × Sl × MH × PH -> Nat), (∃ (x : Nat × Sl × MH × PH), aA (I x) (dE cb) (aA iX (eP 4) (aA (eP 6) (eP 7) (aA (fV v) (bC x.1) (aA (bT v) oS (aA (wE (qF s) x.2) (bJ m1 x.2.2) (lF h x.2.2))))))) /\ ∀ (x : Nat × Sl × MH × PH), I x -> bA (↑x.1 : Int) (aG v.tables) (fX cb 5 (hX x.2) (dP x.2) (λ k m3 => ∃ (I1 : Nat × Int × Sl × MH × PH -> Prop) (m4 : Nat × Int × Sl × MH × PH -> Nat), (∃ (x1 : Nat × Int × Sl × MH × PH), aA (I1 x1) (dE cb) (aA iX (eP 4) (aA (eP 6) (eP 7) (aA (cC x.1 x1.1) (cL k x1.2.1) (aA (fV v) (cC x.1 x1.1) (aA (bT v) oS (bM (wE
 (qF x.2.1) (oA x1)) (bJ m3 (oA x1).2) (cE (dP x.2) (oA x1).2)))))))) /\ ∀ (x1 : Nat × Int × Sl × MH × PH), I1 x1 -> eJ x1.2.1 0 (aT (λ b o => aA (aU (pK v) b o) (0 <= (↑x1.1 : Int)) ((↑x1.1 : Int) < aG v.tables /\ ∃ (y : Int), aA (aL (hX (oA x1)) (dP (oA x1)) b (bN o x1.1 5 + 2) (bZ y)) (aZ (dP (oA x1)) b (bN o x1.1 5 + 2) (bZ y)) (Be (bB (cF v) (↑x1.1 : Int)) (dP (oA x1)) (λ s1 h1 => ∃ (c : Nat) (s2 : Sl) (k1 : Int) (k2 : List Int), aA (DR cb 0 :: cK s1 :: bB (dH y) 3 = DR c 0 :: cK s2 :: bB (dH k1) 3) (aK (hX (oA x1)) h1 c) (aA (Ints h1 s2 k2) (fW k2) ((∀ (k3 : Int), List.Mem k3 k2 -> k3 = 3 \/ k3 = 4 \/ k3 = 5) /\ ∀ (s3 : Sl) (r : List VV), dW (λ m5 h2 => dG h1 h2 (cJ h2 s3 r) (bK (Ou k1 k2 r) (aY (hX (oA x1)) m5
 c) (fY m5 h2 c (lH (λ v1 s4 => ∃ (t : Int), nN (λ s5 r1 => aA (cF v :: aX (dH (↑x1.1 : Int)) (cK s3) = cF v1 :: aX (dH t) (cK s5)) (gR h2 s4 v1) (aA (cJ h2 s5 r1) (oC r1.length) (qT (λ s6 h3 => dG h2 h3 (cJ h3 s6 (FL s4 t r1)) (lH (λ v2 s7 => aT (λ t1 n => JR (λ c1 u => ∃ (u1 : Sl) (t2 : Nat) (t3 : u7) (r2 : List (List VV)), nN (λ s8 k3 => nN (λ s9 r3 => aA (cF v :: kE (aM (oA x1).1) :: dH (↑x1.1 : Int) :: aX (cK s6) (cK s3) = cF v2 :: kE (iK (Value.slice (uM t1) n c1)) :: dH (↑t2 : Int) :: aX (cK s8) (cK s9)) (gR h3 s7 v2) (aA (IP s7 t2 t3) (VU m5 t1 u) (aA (n = u.length) (tD u t2 u1) (aA (Rows h3 u1 r2) (oC r2.length) (aA (Da r2 (λ r4 => oC r4.length)) (cJ h3 s8 k3) (aA (cJ h3 s9 r3) (0 < r3.length) (oC r3.length /\ ∀ (u2 :
 Sl), dW (λ m6 h4 => dG h3 h4 (Rows h4 u2 (xK t3 k3 r3 false r2)) (bK (VU m6 t1 (List.set u t2 u2)) (aY m5 m6 t1) (∃ (x2 : Nat × Int × Sl × MH × PH), aA (I1 x2) (m4 x2 < m4 x1) (aA (dE cb) iX (aA (eP 4) (eP 6) (aA (eP 7) (cC x1.1 x2.1) (aA (cL (dZ (x1.2.1 - 1)) x2.2.1) (fV v) (aA (cC x1.1 x2.1) (bT v) (aA oS (wE (uK t1 n c1) (oA x2)) (aA (bJ m6 (oA x2).2) (cE h4 (oA x2).2) True)))))))))))))))))))))))))))))))))))))) (∃ (x2 : Nat × Sl × MH × PH), aA (I x2) (m2 x2 < m2 x) (aA (dE cb) iX (aA (eP 4) (eP 6) (aA (eP 7) (fV v) (aA (fK (bE x1.1 1) = bV x2.1) (bT v) (aA oS (wE (qF (oA x1).1) x2.2) (jG (bJ (hX (oA x1)) x2.2.2) (cE (dP (oA x1)) x2.2.2)))))))))) (K (kE (aM x.2.1)) (hX x.2) (dP x.2)))))
theorem cZ.iceB {m1 : MH} {hx : PH} {r : CV} {tb : Nat} {cur : Array Value} {E : TypeId} (hcur : m1 tb = some (.cells cur E (0, 0))) (le : PH.le h hx) (hK : ∀ h2, PH.le hx h2 -> (∀ i, h2 tb i = cur[i]?) -> K r (λ b => if b = tb then none else m1 b) h2) : cZ h K r m1 hx := by
 intro hdis
 have hg0 : ∀ i, hx tb i = none := hdis tb _ hcur
 have hle3 : PH.le hx (λ x i => if x = tb then cur[i]? else hx x i) := ⟨λ x i v e => by
  have : x ≠ tb := λ e' => by rw [e', hg0 i] at e; cases e
  simp [this, e]⟩
 refine ⟨_, _, λ b o e => ?_, le.trans hle3, λ x i v e => ?_, hK _ hle3 (λ i => by simp)⟩
 . by_cases e' : b = tb
   . simp [e'] at e
   . simpa [e'] using e
 . by_cases e' : x = tb
   . subst e'
     simp at e
     exact .inr ⟨cur, E, (0, 0), hcur, e, by simp⟩
   . simp [e'] at e; exact .inl e
structure Zq (h : PH) (s : nX) (m : MH) (tb : Nat) (us : List Sl) (st : List (List (List VV))) : Prop where
 tbl : VU m tb us
 ulen : us.length = s.tables.length
 slen : st.length = s.tables.length
 rows : ∀ (j : Nat) u l, us[j]? = some u -> st[j]? = some l -> Rows h u l
 ok : Jq s st
 val : StV st
 few : ∀ l ∈ st, l.length <= 4
theorem Zq.mono {tb : Nat} {us : List Sl} {st : List (List (List VV))} (x : Zq h s m tb us st) (le : PH.le h h') (e : m' tb = m tb) : Zq h' s m' tb us st := by
 obtain ⟨cur, h1, h2, h3⟩ := x.tbl
 exact ⟨⟨cur, by rw [e]; exact h1, h2, h3⟩, x.ulen, x.slen, λ j u l a b => bW.mono (x.rows j u l a b) le λ r t hv => cJ.mono hv le, x.ok, x.val, x.few⟩
theorem Yq {t : u7} {r : List VV} (h : Ou t.key (t.columns.map mF.kind) r) : CB t r = true := by
 obtain ⟨h1, _, h3⟩ := h
 rw [mI] at h1
 refine CA.2 ⟨h1, λ i hi => ?_⟩
 have e1 : r[i]? = some (r.getD i zeroV) := by rw [Hy, kP hi]; rfl
 refine h3 i _ _ e1 ?_
 rw [AD, Hy, kP aC]
 rfl
theorem Wy {key k : Int} {v : VV} (h : wY key k i v = true) (hw : Im v) : Oq v.kind /\ Oq v.int := by
 simp only [wY, Gf] at h
 have := HB h.1
 exact ⟨⟨aC, aC⟩, hw.int_⟩
theorem Zq.put {tb t : Nat} {us : List Sl} {st : List (List (List VV))} {u' : Sl} {tab : u7} {l : List (List VV)} {row : List VV} (x : Zq h s m tb us st) (le : PH.le h h') (ht : s.tables[t]? = some tab) (hl : st[t]? = some l) (hT : VU m' tb (us.set t u')) (hr : Rows h' u' (xK tab (jJ tab row) row false l)) (hf : Ou tab.key (tab.columns.map mF.kind) row) (h4 : l.length <= 3) :
 Zq h' s m' tb (us.set t u') (st.set t (xK tab (jJ tab row) row false l)) := by
 have hfr := Yq hf
 have htl := (mG.1 hl).1
 have hok := x.ok t tab l ht hl
 refine ⟨hT, by rw [List.length_set]; exact x.ulen, by rw [List.length_set]; exact x.slen, λ j u l' hu hl' => ?_, λ j t' l' ht' hl' => ?_, λ l' hl' => ?_, λ l' hl' => ?_⟩
 . by_cases e : t = j
   . subst e
     rw [List.getElem?_set_self (by rw [x.ulen, <- x.slen]; exact htl)] at hu
     rw [List.getElem?_set_self htl] at hl'
     cases hu; cases hl'
     exact hr
   . rw [List.getElem?_set_ne e] at hu hl'
     exact bW.mono (x.rows j u l' hu hl') le λ r t hv => cJ.mono hv le
 . by_cases e : t = j
   . subst e
     rw [List.getElem?_set_self htl] at hl'
     rw [ht] at ht'
     cases hl'; cases ht'
     refine ⟨λ r hr => ?_, λ i r r' e1 e2 => (JC (Lj.of hok.2)).adj i r r' e1 e2⟩
     rcases It hr with rfl | hr
     . exact hfr
     . exact hok.1 r hr
   . rw [List.getElem?_set_ne e] at hl'
     exact x.ok j t' l' ht' hl'
 . rcases List.mem_or_eq_of_mem_set hl' with h5 | rfl
   . exact x.val l' h5
   . intro r hr v hv
     rcases It hr with rfl | hr
     . obtain ⟨i, hi, rfl⟩ := List.mem_iff_getElem.1 hv
       have hi2 : i < (tab.columns.map mF.kind).length := by rw [<- hf.1]; exact hi
       exact Wy (hf.2.2 i _ _ (kP hi) (kP hi2)) (hf.2.1 _ hv)
     . exact x.val l (lP hl) r hr v hv
 . rcases List.mem_or_eq_of_mem_set hl' with h5 | rfl
   . exact x.few l' h5
   . have := Iu (t := tab) (key := jJ tab row) (row := row) (l := l) (d := false)
     simp at this
     omega
theorem Vz : Sound Tryz.prog 14 Xz := by
 refine Yp Tryz.func14 ?_
 rintro cvs m h K ⟨cb, v, s, rfl, hc, hs, hp, hK⟩
 refine ⟨Y7 cb v, rfl, aD GN (aD Du (aD Vg (aD LU (aD Vf aF)))), Kt cb v m h (cZ h K), by kernel_rfl, ?_⟩
 show Kt cb v m h (cZ h K)
 dsimp only [Kt, push_cast]
 have htl := hs.tables.slen
 obtain ⟨hse, hne⟩ := EW hp
 have h8 := AK hse
 have hs8 := tA hse
 have hn0 : 0 < s.tables.length := List.length_pos_iff.2 hne
 refine ⟨aC, aC, aC, aC, λ sl m1 hnew => ?_⟩
 rw [show ((v.tables.len : Int)).toNat = s.tables.length by omega] at hnew
 obtain ⟨tb, cap, cur, hsl, hcur, _, _, hcs, hct⟩ : ∃ b cap cur, sl = ⟨some ⟨b, 0, none⟩, s.tables.length, cap⟩ /\ m1 b = some (.cells cur 53 (0, 0)) /\ s.tables.length <= cap /\ cap <= maxLen /\ cur.size = cap * 1 /\ cur.toList.take (s.tables.length * 1) = (List.replicate s.tables.length [sR]).flatten := by
  rcases hnew.row.ex with ⟨_, e⟩ | ⟨b, cap, cur, e1, e2, e3, e4, e5, e6⟩
  . have := congrArg List.length e; rw [XZ, List.length_nil] at this; omega
  . rw [XZ] at e1 e3 e6
    exact ⟨b, cap, cur, e1, e2, e3, e4, e5, e6⟩
 have hcapn : s.tables.length <= cap := by assumption
 have htb0 : cD m h tb := hnew.fresh tb 0 (by rw [hsl])
 have hne1 : tb ≠ cb := λ e => by
  obtain ⟨cs, e2⟩ := hc.blk
  rw [<- e, htb0.m_] at e2; cases e2
 have hoth : ∀ b, b ≠ tb -> m1 b = m b := λ b hb => hnew.other b λ i e => by
  rw [hsl] at e
  injection e with e
  injection e with e1 e2
  exact hb e1.symm
 have hc1 : aK m1 h cb := hc.keep (hoth cb (Ne.symm hne1)) (.refl _)
 have hT0 : Zq h s m1 tb (List.replicate s.tables.length ⟨none, 0, 0⟩) (List.replicate s.tables.length []) := by
  refine ⟨⟨cur, hcur, by rw [XZ]; omega, ?_⟩, by simp, by simp, λ j u l hu hl => ?_, λ j t l ht hl => ?_, λ l hl => ?_, λ l hl => ?_⟩
  . rw [XZ, <- V7 s.tables.length, hct, V7, List.map_replicate]
    generalize s.tables.length = k
    induction k with
    | zero => rfl
    | succ k ih => rw [List.replicate_succ, Jj, ih, List.replicate_succ]; rfl
  . have hu := lP hu
    have hl := lP hl
    rw [Q7 hu, Q7 hl]
    exact bW.nil _ _ _ _
  . rw [Q7 (lP hl)]
    exact ⟨λ r hr => by simp at hr, λ i r r' e => by simp at e⟩
  . rw [Q7 hl]; intro r hr; simp at hr
  . rw [Q7 hl]; simp
 clear hct hcs hcur cur
 refine ⟨λ z => z.1 <= s.tables.length /\ z.2.1 = sl /\ PH.le h z.2.2.2 /\ aK z.2.2.1 z.2.2.2 cb /\ (∀ b, b ≠ tb -> b ≠ cb -> z.2.2.1 b = m b) /\ ∃ us st, Zq z.2.2.2 s z.2.2.1 tb us st /\ ∀ j l, z.1 <= j -> st[j]? = some l -> l = [], λ z => s.tables.length - z.1, ⟨(0, sl, m1, h), ⟨by simp, rfl, .refl _, hc1, λ b h1 _ => hoth b h1, _, _, hT0, λ j l _ e => Q7 (lP e)⟩, MT⟩, ?_⟩
 clear hT0 hc1
 rintro ⟨i, sl', m2, h2⟩ ⟨hi, e1, le2, c2, o2, us, st, hT, hnil⟩
 dsimp only at hi e1 le2 c2 o2 hT hnil ⊢
 rw [e1]
 clear e1 sl'
 refine aE (λ hlt => ?_) (λ hge => ?_)
 . obtain ⟨tab, htab⟩ := fE htl hlt
   have htabm := lP htab
   obtain ⟨tk, tc, tc4, tko⟩ := Gv hp htabm
   have hil := (mG.1 htab).1
   have hnil0 : st[i]? = some [] := by
    have := kP (l := st) (i := i) (by rw [hT.slen]; exact hil)
    rw [this, hnil i _ (BH _) this]
   refine ⟨cb, 5, rfl, c2, λ k m3 k0 k1 o3 c3 => ?_⟩
   refine ⟨λ z => z.1 = i /\ z.2.2.1 = sl /\ z.2.1 <= 4 /\ PH.le h z.2.2.2.2 /\ aK z.2.2.2.1 z.2.2.2.2 cb /\ (∀ b, b ≠ tb -> b ≠ cb -> z.2.2.2.1 b = m b) /\ ∃ us st l, Zq z.2.2.2.2 s z.2.2.2.1 tb us st /\ st[i]? = some l /\ ((l.length : Int) <= 4 - z.2.1) /\ 0 <= z.2.1 /\ ∀ j l, i + 1 <= j -> st[j]? = some l -> l = [], λ z => z.2.1.toNat, ⟨(i, k, sl, m3, h2), ⟨rfl, rfl, by show k <= 4; omega, le2, c3, λ b h1 h2 => by show m3 b = m b; rw [o3.other b h2]; exact o2 b h1 h2, us, st, [], hT.mono (.refl _) (o3.other tb hne1), hnil0, by simp; omega, k0, λ j l hj => hnil j l aC⟩, MT⟩, ?_⟩
   clear o3 c3 m3 k0 k1 hT hnil hnil0 us st k o2 c2 m2
   rintro ⟨i', n, sl', m3, h3⟩ ⟨e1, e2, hn4, le3, c3, o3, us, st, l, hT, hl, hll, hn0', hnil⟩
   dsimp only at e1 e2 hn4 le3 c3 o3 hT hl hll hn0' hnil ⊢
   rw [e1, e2]
   clear e1 e2 i' sl'
   refine aE (λ hn => ?_) (λ hn => ?_)
   . obtain ⟨b, o, y, ea, rd, hy⟩ := bW.at (hs.mono le3).tables htab
     have hkT : gP s (i : Int) = tab.columns.map mF.kind := by rw [gP, if_neg aC, Int.toNat_natCast, htab]
     refine ⟨b, o, ea, aC, aC, tab.key, .imm (by rw [<- hy.key]; exact aZ.part rd 2 1), by rw [<- hy.key]; exact aZ.part rd 2 1, v, s, i, rfl, hs.mono le3, hs8, λ ks h4 le4 hks => ?_⟩
     rw [hkT] at hks
     refine ⟨cb, ks, tab.key, _, rfl, c3.mono le4, hks, by rw [mI]; omega, λ k hk => ?_, λ sr row m5 h5 le5 hrow hfit o5 c5 => ?_⟩
     . obtain ⟨c, hc, rfl⟩ := mH.1 hk
       exact tko c hc
     have hrl : row.length = tab.columns.length := by rw [hfit.1, mI]
     refine ⟨v, s, i, sr, row, rfl, hs.mono ((le3.trans le4).trans le5), hrow, aC, λ sk h6 le6 hkey => ?_⟩
     rw [Dr htab] at hkey
     have hT6 := hT.mono ((le4.trans le5).trans le6) (o5.other tb hne1)
     obtain ⟨u, hu⟩ : ∃ u, us[i]? = some u := ⟨_, kP (by rw [hT.ulen]; exact hil)⟩
     have hlm := lP hl
     refine ⟨v, s, tb, s.tables.length, cap, us, u, i, tab, l, sk, jJ tab row, sr, row, by rw [hsl], hs.mono (((le3.trans le4).trans le5).trans le6), htab, hT6.tbl, hT.ulen.symm, hu, hT6.rows i u l hu hl, by have := hT.few l hlm; omega, λ r hr => ?_, hkey, cJ.mono hrow le6, aC, aC, λ u' m7 h7 le7 hr7 hT7 o7 => ?_⟩
     . have := (NX ((hT.ok i tab l htab hl).1 r hr)).1
       omega
     have hw : IntKind.i64.wrap (n - 1) = n - 1 := eG aC aC
     have hpl := Iu (t := tab) (key := jJ tab row) (row := row) (l := l) (d := false)
     simp at hpl
     refine ⟨(i, n - 1, sl, m7, h7), ⟨rfl, rfl, by show n - 1 <= 4; omega, (((le3.trans le4).trans le5).trans le6).trans le7, (c5.mono (le6.trans le7)).keep (o7.other cb (Ne.symm hne1)) (.refl _), λ b h1 h2 => by show m7 b = m b; rw [o7.other b h1, o5.other b h2]; exact o3 b h1 h2, us.set i u', st.set i _, _, hT6.put le7 htab hl hT7 hr7 hfit aC, List.getElem?_set_self (mG.1 hl).1, by show (_ : Int) <= 4 - (n - 1); omega, by show 0 <= n - 1; omega, λ j l' hj e => ?_⟩, by show (n - 1).toNat < n.toNat; omega, ?_⟩
     . rw [List.getElem?_set_ne aC] at e
       exact hnil j l' hj e
     . rw [hw, hsl]; exact MT
   . refine ⟨(i + 1, sl, m3, h3), ⟨by show i + 1 <= s.tables.length; omega, rfl, le3, c3, o3, us, st, hT, hnil⟩, by show s.tables.length - (i + 1) < s.tables.length - i; omega, ?_⟩
     rw [kC aC]; exact MT
 . obtain ⟨cur, hcur, hcs, hct⟩ := hT.tbl
   refine cZ.iceB hcur le2 λ h3 le3 hice => hK st sl _ h3 (le2.trans le3) ⟨⟨⟨us, ⟨by rw [hsl, mI]; exact hT.ulen.symm, .inr ⟨tb, 0, by rw [hsl], λ j e hj => ⟨λ n x hx => ?_⟩⟩, by rw [hsl]; exact hcapn⟩, by rw [hT.slen, hT.ulen], λ j l hl => ?_⟩, by rw [hT.slen]; omega⟩, by rw [hT.slen]; omega, hT.val⟩ ⟨hT.slen, hT.few, hT.ok, hT.val⟩ ⟨λ b hb => ?_⟩ ?_
   . rw [AD, Option.map_eq_some_iff] at hj
     obtain ⟨u, hu, rfl⟩ := hj
     have hn : n = 0 := by have := (mG.1 hx).1; simp [eS] at this; omega
     subst hn
     have hx : u.val = x := by
      simp [eS] at hx
      exact hx
     subst hx
     have e : (cur.toList.take us.length)[j]? = some u.val := by rw [hct, AD, hu]; rfl
     rw [DT, if_pos (mG.1 hu).1, BU] at e
     rw [hice, show 0 + j * 1 + 0 = j by omega]
     exact e
   . have hjl := (mG.1 hl).1
     have hju : j < us.length := by rw [hT.ulen, <- hT.slen]; exact hjl
     have hu : us[j]? = some us[j] := kP hju
     exact ⟨_, hu, bW.mono (hT.rows j _ l hu hl) le3 λ r t hv => cJ.mono hv le3⟩
   . by_cases e : b = tb
     . subst e; simp [htb0.m_]
     . simp only [e, if_false]; exact o2 b e hb
   . refine aK.keep c2 ?_ le3
     simp [Ne.symm hne1]
def XW : Vc.Spec := λ cvs m h K => cvs = [] /\ jY m /\ K (cB true) m h
def Kk (m : MH) (h : PH) (K : CV -> MH -> PH -> Prop) : Prop :=
  bH h 2 (vF IK 4 :: cT (vF (IL 99) 4)) (λ s h1 => jL 1 (λ n => jL 10 (λ n1 => jL 2 (λ n2 => jL 10 (λ n3 => jL 3 (λ n4 => jL 20 (λ n5 => bH h1 3 (tU n :: cT (tU n1)) (λ s1 h2 => bH h2 3 (tU n2 :: cT (tU n3)) (λ s2 h3 => bH h3 3 (tU n4 :: cT (tU n5)) (λ s3 h4 => bH h4 1 (aM s1 :: aM s2 :: cT (aM s3)) (λ s4 h5 => bH h5 5 (cT (Dj 116 97 115 107 (qI 115) s 1)) (λ s5 h6 => bH h6 1 (cT (aM s4)) (λ s6 h7 => bH h7 1 (cT (bZ 1)) (λ s7 h8 => bH h8 2 (cT (iD bO zW)) (λ s8 h9 => bH h9 21 (cT (jC 1 (kJ hU))) (λ s9 a => Db (kE (iD bO (eA s5)) :: aX (kE (aM s6)) (kE (jC 9 (xS sR (aJ sR (eA s7) (aJ (eA s8) (dQ 1) (aM s9))))))) a (λ a1 a2 q =>
 Dk q m a1 a2 (qT (λ a3 a4 => dG a a4 (Rows a4 a3 (DO a1 a2 q).1) (dN (DO a1 a2 q).2 0 (dN (aG a3) 2 (aT (λ b o => aA (aU a3.a b o) ((0 : Int) <= 0) (0 < aG a3 /\ ∃ (y : Sl), aL m a4 b (o + 0) (aM y) /\ aT (λ b1 o1 => aA (aU y.a b1 o1) ((0 : Int) <= 0) (0 < aG y /\ ∃ (y1 : VV), aA (aL m a4 b1 (o1 + 0) y1.enc) (aZ a4 b (o + 0) (aM y)) (aZ a4 b1 (o1 + 0) y1.enc /\ jL 2 (λ n6 => lN 27 y1.enc (tU n6) (λ r => branch r (aT (λ b2 o2 => aA (aU a3.a b2 o2) ((0 : Int) <= 1) (1 < aG a3 /\ ∃ (y2 : Sl), aL m a4 b2 (o2 + 1) (aM y2) /\ aT (λ b3 o3 => aA (aU y2.a b3 o3) ((0 : Int) <= 0) (0 < aG y2 /\ ∃ (y3 : VV), aA (aL m a4 b3 (o3 + 0) y3.enc) (aZ a4 b (o + 0) (aM y)) (aA (aZ a4 b1 (o1 + 0) y1.enc) (aZ a4 b2 (o2 + 1) (aM y2)) (aZ a4 b3 (o3 + 0)
 y3.enc /\ jL 3 (λ n7 => lN 27 y3.enc (tU n7) (λ r1 => branch r1 (aT (λ b4 o4 => aA (aU a3.a b4 o4) ((0 : Int) <= 0) (0 < aG a3 /\ ∃ (y4 : Sl), aL m a4 b4 (o4 + 0) (aM y4) /\ aT (λ b5 o5 => aA (aU a3.a b5 o5) ((0 : Int) <= 1) (1 < aG a3 /\ ∃ (y5 : Sl), aA (aL m a4 b5 (o5 + 1) (aM y5)) (aZ a4 b (o + 0) (aM y)) (aA (aZ a4 b1 (o1 + 0) y1.enc) (aZ a4 b2 (o2 + 1) (aM y2)) (aZ a4 b3 (o3 + 0) y3.enc /\ iW (λ o6 a5 => ∃ (t : Sl) (o7 : List (Int × Bool)) (a6 b6 : List VV), aA (cK s8 :: aX (cK y4) (cK y5) = cK o6 :: aX (cK a5) (cK t)) (iE a4 o6 o7) (aA (cJ a4 a5 a6) (cJ a4 t b6) (K (AE (j6 o7 a6 b6 == 1)) m a4)))))))))) (aA (aZ a4 b (o + 0) (aM y)) (aZ a4 b1 (o1 + 0) y1.enc) (aA (aZ a4 b2 (o2 + 1) (aM y2)) (aZ a4 b3 (o3 + 0) y3.enc) (K aW m a4))))))))))))
 (aA (aZ a4 b (o + 0) (aM y)) (aZ a4 b1 (o1 + 0) y1.enc) (aA (aZ a4 b (o + 0) (aM y)) (aZ a4 b1 (o1 + 0) y1.enc) (K aW m a4))))))))))) (K aW m a4)) (K aW m a4)))))))))))))))))))))
def nV (n : Int) : VV := ⟨4, n, ⟨#[]⟩⟩
def bS : nX := ⟨0, [⟨⟨⟨[116, 97, 115, 107, 115]⟩⟩, [⟨⟨⟨[105, 100]⟩⟩, 4⟩, ⟨⟨⟨[112, 114, 111, 106, 101, 99, 116]⟩⟩, 4⟩], 1, [], []⟩]⟩
def V1 : List (List (List VV)) := [[[nV 1, nV 10], [nV 2, nV 10], [nV 3, nV 20]]]
def Xs : Query := .mk 1 0 gW [] [] [] [] 0 []
def bQ : Query := .mk 9 0 gW [] [] [1] [(0, true)] 1 [Xs]
theorem ZE : eH bS = 0 := Wh (by decide) (λ t ht => by simp [bS] at ht; subst ht; exact ⟨by simp, rfl, rfl⟩) (by decide) (by decide) (by
 refine wW ⟨⟨?_, ?_, ?_, ?_, wW ⟨⟨?_, ?_, ?_⟩, ⟨?_, ?_, ?_⟩, trivial⟩⟩, trivial⟩
 all_goals first | rfl | (simp; done) | decide)
theorem Rq {k : List Int} (h : bP s ps q = (k, 0)) (hr : vQ k gr od li) (hk : k.length <= 12) : bP s ps (.mk 9 0 gW [] [] gr od li [q]) = (k, 0) := by
 rw [GJ (by decide) h]
 unfold gZ
 rw [if_neg (by simp [arity, dJ])]
 dsimp only
 rw [if_neg (by decide), if_neg (by decide), if_neg (by decide), if_neg (by decide), if_neg (by decide), if_pos rfl, if_pos hr, FK hk]
theorem Xt : bP bS [] bQ = ([4, 4], 0) := by
 have e : gP bS 0 = [4, 4] := rfl
 have h : bP bS [] Xs = ([4, 4], 0) := by
  have := J4 (s := bS) (ps := []) (t := 0) (by decide) (by decide) (by rw [e]; decide)
  rw [e] at this; exact this
 exact Rq h ⟨wW ⟨⟨by decide, by simp⟩, trivial⟩, wW ⟨by show El _ _ = true; decide, trivial⟩, by decide, by decide, by decide⟩ (by decide)
theorem JA {k : List Int} (hs : eH s = 0) (h : kG q = true) (hk : bP s [] q = (k, 0)) : fT s [] q = (k, 0) := by
 unfold fT
 rw [if_pos hs, if_pos (by rfl), if_pos h, hk]
theorem afX : fT bS [] bQ = ([4, 4], 0) := JA ZE (by rfl) Xt
theorem acJ : sS bS V1 = 0 := by
 unfold sS
 rw [if_neg (by simp [ZE]), if_neg (by decide), if_neg (by decide), if_pos]
 intro i t l ht hl
 match i, ht, hl with
 | 0, ht, hl =>
  simp [bS] at ht
  simp [V1] at hl
  subst ht hl
  refine ⟨λ r hr => ?_, λ i r r' e1 e2 => ?_⟩
  . simp at hr
    have hv : ∀ n, wY 1 4 0 (nV n) = true /\ wY 1 4 1 (nV n) = true := λ n => by simp [wY, nV, V9]
    rcases hr with rfl | rfl | rfl
    all_goals
     refine CA.2 ⟨rfl, λ i hi => ?_⟩
     match i, hi with
     | 0, _ => exact (hv _).1
     | 1, _ => exact (hv _).2
     | i + 2, hi => simp at hi; omega
  . match i, e1, e2 with
    | 0, e1, e2 => simp at e1 e2; subst e1 e2; decide
    | 1, e1, e2 => simp at e1 e2; subst e1 e2; decide
    | i + 2, e1, e2 => simp at e2
 | i + 1, ht, hl => simp [bS] at ht
theorem afQ : uU V1 bQ = [[nV 2, nV 10], [nV 3, nV 20]] := by rfl
theorem Nc {s : Sl} {l : List VV} (r : cN h s 3 (l.map VV.enc)) (hl : l.length <= 1000) : cJ h s l := ⟨⟨l, r, rfl, λ i x hx => ⟨x, hx, rfl⟩⟩, aC⟩
theorem Vn : Sound Tryz.prog 23 XW := by
 refine FN Tryz.func23 ?_
 rintro cvs m h K ⟨rfl, ht, hK⟩
 refine ⟨dM [(61, Uj), (21, XF), (34, Gd)] [] [] [] false, rfl, aD Ve (aD Ma (aD GX aF)), Kk m h (kB h K), by kernel_rfl, ?_⟩
 show Kk m h (kB h K)
 dsimp only [Kk, push_cast]
 intro s1 h1 le1 r1
 refine ⟨1, rfl, 10, rfl, 2, rfl, 10, rfl, 3, rfl, 20, rfl, ?_⟩
 intro s2 h2 le2 r2 s3 h3 le3 r3 s4 h4 le4 r4 s5 h5 le5 r5 s6 h6 le6 r6 s7 h7 le7 r7 s8 h8 le8 r8 s9 h9 le9 r9 sa ha lea ra
 have l9 := le9.trans lea
 have l8 := le8.trans l9
 have l7 := le7.trans l8
 have l6 := le6.trans l7
 have l5 := le5.trans l6
 have l4 := le4.trans l5
 have l3 := le3.trans l4
 have l2 := le2.trans l3
 have rs : cR ha Xs ⟨1, 0, fS, bX, bX, bX, bX, 0, bX⟩ := Ah ha 0
 have so : iE ha s9 [(0, true)] := ⟨r9.mono lea, by simp⟩
 have rq : cR ha bQ ⟨9, 0, fS, bX, bX, s8, s9, 1, sa⟩ := oJ.rep ⟨rfl, rfl, Ad ha, iL ha, oM ha, ⟨r8.mono l9, by simp⟩, so, rfl, Aj (v := ⟨1, 0, fS, bX, bX, bX, bX, 0, bX⟩) ra rs⟩
 have rt : Hv ha ⟨⟨⟨[116, 97, 115, 107, 115]⟩⟩, [⟨⟨⟨[105, 100]⟩⟩, 4⟩, ⟨⟨⟨[112, 114, 111, 106, 101, 99, 116]⟩⟩, 4⟩], 1, [], []⟩ ⟨⟨⟨[116, 97, 115, 107, 115]⟩⟩, s1, 1, bX, bX⟩ := ⟨rfl, F3 (l := [⟨_, _⟩, ⟨_, _⟩]) (r1.mono l2) (by simp), rfl, bW.nil _ _ _ _, bW.nil _ _ _ _⟩
 have rS : gR ha bS ⟨0, s6⟩ := ⟨rfl, ⟨⟨[⟨⟨⟨[116, 97, 115, 107, 115]⟩⟩, s1, 1, bX, bX⟩], r6.mono l7, rfl, λ i x e => by
  match i, e with
  | 0, e => simp [bS] at e; subst e; exact ⟨_, rfl, rt⟩
  | i + 1, e => simp [bS] at e⟩, by simp [bS]⟩⟩
 have v1 : cJ ha s2 [nV 1, nV 10] := Nc (r2.mono l3) (by simp)
 have v2 : cJ ha s3 [nV 2, nV 10] := Nc (r3.mono l4) (by simp)
 have v3 : cJ ha s4 [nV 3, nV 20] := Nc (r4.mono l5) (by simp)
 have rr : Rows ha s5 [[nV 1, nV 10], [nV 2, nV 10], [nV 3, nV 20]] := ⟨⟨[s2, s3, s4], r5.mono l6, rfl, λ i x e => by
  match i, e with
  | 0, e => simp at e; subst e; exact ⟨_, rfl, v1⟩
  | 1, e => simp at e; subst e; exact ⟨_, rfl, v2⟩
  | 2, e => simp at e; subst e; exact ⟨_, rfl, v3⟩
  | i + 3, e => simp at e⟩, by simp⟩
 have rst : Oi ha s7 V1 := ⟨⟨⟨[s5], r7.mono l8, rfl, λ i x e => by
  match i, e with
  | 0, e => simp [V1] at e; subst e; exact ⟨_, rfl, rr⟩
  | i + 1, e => simp [V1] at e⟩, by simp [V1]⟩, by simp [V1], λ l hl r hr v hv => by
   simp [V1] at hl
   subst hl
   simp at hr
   rcases hr with rfl | rfl | rfl <;> simp at hv <;> rcases hv with rfl | rfl <;> exact ⟨by constructor <;> decide, by constructor <;> decide⟩⟩
 have hres : DO bS V1 bQ = ([[nV 2, nV 10], [nV 3, nV 20]], 0) := by
  unfold DO
  rw [afX, if_neg (by simp), if_neg (by simp [acJ]), afQ]
 refine ⟨⟨0, s6⟩, bS, s7, V1, ⟨9, 0, fS, bX, bX, s8, s9, 1, sa⟩, bQ, rfl, rS, rst, rq, by rfl, ht, λ _ _ => ⟨3, by decide, λ l hl => by simp [V1] at hl; subst hl; simp, by decide⟩, λ s' hb leb hr => ?_⟩
 rw [hres] at hr ⊢
 dsimp only at hr ⊢
 have hrl := bW.slen hr
 have hrl : s'.len = 2 := hrl
 obtain ⟨b1, o1, u1, ea1, rd1, hv1⟩ := bW.at hr (i := 0) rfl
 obtain ⟨b2, o2, u2, ea2, rd2, hv2⟩ := bW.at hr (i := 1) rfl
 obtain ⟨b3, o3, x1, ea3, rd3, e3⟩ := bW.at hv1 (i := 0) rfl
 obtain ⟨b4, o4, x2, ea4, rd4, e4⟩ := bW.at hv2 (i := 0) rfl
 subst e3 e4
 have n1 : u1.len = 2 := bW.slen hv1
 have n2 : u2.len = 2 := bW.slen hv2
 have eq2 : ∀ v : VV, VI v v = true := λ v => by simp [VI]
 have rd1 : aZ hb b1 (o1 + 0) [eA u1] := rd1
 have rd2 : aZ hb b2 (o2 + 1) [eA u2] := rd2
 have rd3 : aZ hb b3 (o3 + 0) (VV.enc (nV 2)) := by simpa using rd3
 have rd4 : aZ hb b4 (o4 + 0) (VV.enc (nV 3)) := by simpa using rd4
 have hc : j6 [(0, true)] [nV 2, nV 10] [nV 3, nV 20] = 1 := by decide
 refine aB (λ _ => aB (λ _ => ⟨b1, o1, ea1, aC, aC, u1, .imm rd1, b3, o3, ea3, aC, aC, nV 2, .imm rd3, rd1, rd3, 2, rfl, _, FU (nV 2) (nV 2), aB (λ _ => ⟨b2, o2, ea2, aC, aC, u2, .imm rd2, b4, o4, ea4, aC, aC, nV 3, .imm rd4, rd1, rd3, rd2, rd4, 3, rfl, _, FU (nV 3) (nV 3), aB (λ _ => ⟨b1, o1, ea1, aC, aC, u1, .imm rd1, b2, o2, ea2, aC, aC, u2, .imm rd2, rd1, rd3, rd2, rd4, s9, u1, u2, [(0, true)], _, _, rfl, so.mono leb, hv1, hv2, ?_⟩) (λ e => ?_)⟩) (λ e => ?_)⟩) (λ e => ?_)) (λ e => ?_)
 . rw [hc]; exact .out (Sub.refl m) ((le1.trans l2).trans leb) hK
 . rw [eq2] at e; cases e
 . rw [eq2] at e; cases e
 . rw [hrl] at e; cases e
 . cases e
abbrev Rel := List (List VV)
def K6 (a b : Rel) : Rel := Ag (a ++ b)
def JZ (a b : Rel) : Rel := a.filter λ x => TI b x == false
def NR (a b : Rel) : Rel := a.filter λ x => TI b x == true
theorem Yn {l : Rel} {x : List VV} : TI l x = false ↔ x ∉ l := by
 rw [<- I9]; cases TI l x <;> simp
theorem I0 {a b : Rel} {x : List VV} : x ∈ K6 a b ↔ x ∈ a \/ x ∈ b := by simp [K6, B7]
theorem I6 {a b : Rel} {x : List VV} : x ∈ JZ a b ↔ x ∈ a /\ x ∉ b := by simp only [JZ, List.mem_filter, beq_iff_eq, Yn]
theorem NI {a b : Rel} {x : List VV} : x ∈ NR a b ↔ x ∈ a /\ x ∈ b := by simp only [NR, List.mem_filter, beq_iff_eq, I9]
theorem Iq (a b : Rel) : kA (K6 a b) := yG _
theorem Ir {a : Rel} (b : Rel) (h : kA a) : kA (JZ a b) := h.filter _
theorem Tu {a : Rel} (b : Rel) (h : kA a) : kA (NR a b) := h.filter _
theorem Wa (a b : Rel) : K6 a b = K6 b a := p9 (Iq _ _) (Iq _ _) λ x => by simp only [I0]; exact Or.comm
theorem Ym {a : Rel} (b : Rel) (h : kA a) : NR a b = JZ a (JZ a b) := p9 (Tu _ h) (Ir _ h) λ x => by
 simp only [NI, I6]
 exact ⟨λ h => ⟨h.1, λ h2 => h2.2 h.2⟩, λ h => ⟨h.1, Classical.byContradiction λ h2 => h.2 ⟨h.1, h2⟩⟩⟩
theorem Yl {a : Rel} (b x : Rel) (h : kA a) : NR a (K6 b x) = K6 (NR a b) (NR a x) := p9 (Tu _ h) (Iq _ _) λ y => by
 simp only [NI, I0]
 exact ⟨λ h => h.2.imp (λ h2 => ⟨h.1, h2⟩) (λ h2 => ⟨h.1, h2⟩), λ h => h.elim (λ h => ⟨h.1, .inl h.2⟩) (λ h => ⟨h.1, .inr h.2⟩)⟩
theorem Yh {a : Rel} (b x : Rel) (h : kA a) : JZ a (K6 b x) = JZ (JZ a b) x := p9 (Ir _ h) (Ir _ (Ir _ h)) λ y => by
 simp only [I6, I0]
 exact ⟨λ h => ⟨⟨h.1, λ h2 => h.2 (.inl h2)⟩, λ h2 => h.2 (.inr h2)⟩, λ h => ⟨h.1.1, λ h2 => h2.elim h.1.2 h.2⟩⟩
theorem OL {a : Rel} (b : Rel) (h : kA a) : K6 (JZ a b) (NR a b) = a := p9 (Iq _ _) h λ y => by
 simp only [I6, I0, NI]
 exact ⟨λ h => h.elim (·.1) (·.1), λ h => Classical.byCases (λ h2 : y ∈ b => .inr ⟨h, h2⟩) (λ h2 => .inl ⟨h, h2⟩)⟩
theorem min_self (a : Rel) : JZ a a = [] := by
 refine List.eq_nil_iff_forall_not_mem.2 λ x h => ?_
 rw [I6] at h
 exact h.2 h.1
def aiZ : Vc.Spec := λ cvs m h K => ∃ s cs, cvs = [cS s] /\ cN h s 1 (bF cs) /\ s.len <= s.cap /\ jY m /\ ∀ m' h', Sub m m' -> K (cB true) m' h'
noncomputable def Pl : List (Nat × Vc.Spec) := [(11, agZ), (12, XI), (13, Tb 5), (25, CJ), (26, Ol), (30, yA), (14, Xz), (27, ZL), (28, Oj), (29, ZW), (24, ZH), (23, XW), (15, Gc), (16, K3)]
theorem UN : ∀ g S, assoc Pl g = some S -> Sound Tryz.prog g S := aD VE (aD VD (aD (TY 5) (aD LY (aD LX (aD Dv (aD Vz (aD Vl (aD LW (aD Vk (aD Vm (aD Vn (aD GN (aD xC aF)))))))))))))
def Td (k : List Int) : Prop := k ≠ [] /\ Ge k
theorem LI {kss : List (List Int)} (h : ∀ k ∈ kss, Td k) (hi : i < kss.length) : Td (kss.getD i []) := by
 rw [Hy, kP hi]
 exact h _ (Q8 hi)
mutual
theorem Pm {s : nX} {ps : List Int} (hk : XC s) (hc : ∀ t ∈ s.tables, t.columns ≠ []) : ∀ {q : Query} {ks : List Int}, bP s ps q = (ks, 0) -> Td ks
 | .mk op ta w co on gr od li args, ks, h => by
  obtain ⟨kss, h1, h2, h3⟩ := xV h
  have ih := LB hk hc h1
  have ar : arity op = 1 \/ arity op = 2 -> Td (kss.getD 0 []) := λ e => LI ih aC
  have ar2 : arity op = 2 -> Td (kss.getD 1 []) := λ e => LI ih aC
  unfold gZ at h3
  dsimp only at h3
  split at h3
  . simp [iO] at h3
  rename_i hn
  have hpos : 0 <= arity op := by have : ¬ arity op < 0 := λ e => hn (.inl e); omega
  split at h3
  . rename_i e1
    subst e1
    split at h3
    . rename_i h4
      obtain ⟨rfl, _⟩ := j5 h3
      refine ⟨λ e => ?_, hk ta⟩
      have ht : ta.toNat < s.tables.length := by omega
      rw [gP, if_neg aC, kP ht] at e
      exact hc _ (Q8 ht) (List.map_eq_nil_iff.1 e)
    . simp [iO] at h3
  . rename_i e1
    have h12 : arity op = 1 \/ arity op = 2 := by
     unfold arity at hpos ⊢
     split
     . rename_i e; simp at e; exact absurd e e1
     . split
       . exact .inl rfl
       . split
         . exact .inr rfl
         . rename_i a b c; rw [if_neg a, if_neg b, if_neg c] at hpos; omega
    have k0 := ar h12
    split at h3
    . split at h3
      . obtain ⟨rfl, _⟩ := j5 h3; exact k0
      . rename_i e; simp only [iO, Ez] at h3; exact absurd h3.2 e
    split at h3
    . split at h3
      . rename_i hg
        obtain ⟨rfl, _⟩ := j5 h3
        refine ⟨λ e => hg.1 (List.map_eq_nil_iff.1 e), λ k hkm => ?_⟩
        obtain ⟨c, hcm, rfl⟩ := mH.1 hkm
        obtain ⟨_, h5⟩ := Cy hg.2 hcm
        have h5 := J7 h5
        rw [Hy, kP aC]
        exact k0.2 _ (Q8 _)
      . simp [iO] at h3
    split at h3
    . rename_i e4
      subst e4
      split at h3
      . obtain ⟨rfl, _⟩ := j5 h3
        refine ⟨λ e => k0.1 (List.append_eq_nil_iff.1 e).1, λ k hkm => ?_⟩
        rcases BZ.1 hkm with hkm | hkm
        . exact k0.2 k hkm
        . exact (ar2 rfl).2 k hkm
      . simp [iO] at h3
    all_goals
     repeat' split at h3
     all_goals first
      | (obtain ⟨rfl, _⟩ := j5 h3; exact k0)
      | (simp [iO] at h3; done)
theorem LB {s : nX} {ps : List Int} (hk : XC s) (hc : ∀ t ∈ s.tables, t.columns ≠ []) : ∀ {qs : List Query} {kss : List (List Int)}, eW s ps qs = (kss, 0) -> ∀ k ∈ kss, Td k
 | [], kss, h, k, hkm => by rw [eW] at h; simp only [Ez, and_true] at h; subst h; simp at hkm
 | q :: qs, kss, h, k, hkm => by
  obtain ⟨k1, kss', h1, h2, rfl⟩ := jR h
  rcases xA.1 hkm with rfl | hkm
  . exact Pm hk hc h1
  . exact LB hk hc h2 k hkm
end
theorem Pb (h : oK s) {ks : List Int} (hq : bP s ps q = (ks, 0)) : Td ks := Pm (JD h) (λ t ht e => by have := (Gv h ht).2.1; rw [e] at this; simp at this) hq
def Rj (o : Int) (a b : Query) : Query := .mk o 0 gW [] [] [] [] 0 [a, b]
structure Li (s : nX) (h : PH) (v : QV) (q : Query) (k : List Int) (b : Nat) : Prop where
 rep : cR h q v
 kin : bP s [] q = (k, 0)
 bnd : mX 4 q <= b
theorem Li.mono {k : List Int} {b' : Nat} (x : Li s h v q k b) (le : PH.le h h') (hb : b <= b') : Li s h' v q k b' := ⟨x.rep.mono le, x.kin, Ae x.bnd hb⟩
theorem UP {k : List Int} {o : Int} {a b : Query} (ho : o = 6 \/ o = 7 \/ o = 8) (ha : bP s ps a = (k, 0)) (hb : bP s ps b = (k, 0)) (hk : k.length <= 12) : bP s ps (Rj o a b) = (k, 0) := by
 have e : arity o = 2 := by rcases ho with rfl | rfl | rfl <;> rfl
 rw [Rj, UO e ha hb]
 unfold gZ
 rw [if_neg (by simp [dJ, e])]
 dsimp only
 rw [if_neg aC, if_neg aC, if_neg aC, if_neg aC, if_neg aC, if_neg aC, if_neg aC, if_pos rfl, FK hk]
theorem Re {s : Sl} {w : QV} {p : Query} (r : cN h s 21 [QV.enc v, QV.enc w]) (hq : cR h q v) (hp : cR h p w) : zL h s [q, p] := ⟨⟨[v, w], r, rfl, λ i x e => by
 match i, e with
 | 0, e => simp at e; subst e; exact ⟨v, rfl, hq⟩
 | 1, e => simp at e; subst e; exact ⟨w, rfl, hp⟩
 | i + 2, e => simp at e⟩, by simp⟩
theorem Z6 {o : Int} {s : Sl} {w : QV} {p : Query} (r : cN h s 21 [QV.enc v, QV.enc w]) (hq : cR h q v) (hp : cR h p w) : cR h (Rj o q p) ⟨o, 0, fS, bX, bX, bX, bX, 0, s⟩ :=
 oJ.rep ⟨rfl, rfl, Ad h, iL h, oM h, iL h, sZ h, rfl, Re r hq hp⟩
theorem Li.op {o : Int} {sl : Sl} {w : QV} {a c : Query} {k : List Int} {b' : Nat} (x : Li s h v a k b) (y : Li s h w c k b') (ho : o = 6 \/ o = 7 \/ o = 8) (le : PH.le h h') (r : cN h' sl 21 [QV.enc v, QV.enc w]) : Li s h' ⟨o, 0, fS, bX, bX, bX, bX, 0, sl⟩ (Rj o a c) k (b + b') :=
 ⟨Z6 r (x.rep.mono le) (y.rep.mono le), UP ho x.kin y.kin (by have := Bu s [] a; rw [x.kin] at this; exact this), by
  have h1 := x.bnd
  have h2 := y.bnd
  simp only [Rj, mX, yF]
  rw [if_neg aC, if_neg aC]
  omega⟩
theorem Pw {st : List (List (List VV))} (hp : oK s) (h : Hu s st) : sS s st = 0 := by
 obtain ⟨hse, hne⟩ := EW hp
 have h8 := AK hse
 have hl := h.len
 have hsum : ∀ l : List (List (List VV)), (∀ x ∈ l, x.length <= 4) -> (l.map λ x => (x.length : Int)).sum <= 4 * (l.length : Int) := λ l => by
  induction l with
  | nil => intro _; simp
  | cons a l ih =>
   intro hx
   have := ih λ x h => hx x (D3 _ h)
   have := hx a (Gh ..)
   simp only [EB, List.sum_cons, Gi]
   omega
 have := hsum st h.few
 unfold sS
 rw [if_neg (by simp [hse]), if_neg aC, if_neg (by simp [hl]), if_pos h.ok]
theorem Li.res {k : List Int} {st : List (List (List VV))} (x : Li s h v q k b) (hp : oK s) (hst : Hu s st) (hs : kG q = true) : DO s st q = (uU st q, 0) := by
 unfold DO
 rw [JA (EW hp).1 hs x.kin, if_neg (by simp), if_neg (by simp [Pw hp hst])]
theorem Li.bok {k : List Int} {st : List (List (List VV))} (x : Li s h v q k b) (hst : Hu s st) (hb : b <= 1000000) : Uw st q := ⟨4, aC, hst.few, Ae x.bnd hb⟩
theorem Li.rel {k : List Int} {st : List (List (List VV))} (x : Li s h v q k b) (hp : oK s) (hst : Hu s st) (hb : b <= 1000000) : iC k.length (uU st q) := (Wf (Pw hp hst) hst.val hst.few aC x.kin (Ae x.bnd hb)).2.2.1
theorem EN (st : List (List (List VV))) (a b : Query) : uU st (Rj 6 a b) = K6 (uU st a) (uU st b) := by
 rw [Rj, uU, if_neg (by decide)]; rfl
theorem CS (st : List (List (List VV))) (a b : Query) : uU st (Rj 7 a b) = JZ (uU st a) (uU st b) := by
 rw [Rj, uU, if_neg (by decide)]; rfl
theorem EO (st : List (List (List VV))) (a b : Query) : uU st (Rj 8 a b) = NR (uU st a) (uU st b) := by
 rw [Rj, uU, if_neg (by decide)]; rfl
theorem Li.of {d : Nat} (r : cR h q v) (e : (fT s [] q).2 = 0) (f : Lk d q) : Li s h v q (fT s [] q).1 (gB d) := by
 obtain ⟨h1, h2, h3, h4⟩ := HJ e
 have e2 : bP s [] q = ((bP s [] q).1, 0) := Prod.ext rfl h4
 have e3 := JA h1 h3 e2
 exact ⟨r, by rw [e3]; exact e2, f.b⟩
theorem jY.new (ht : jY m) (hc : m cb = none) (o : aY m m' cb) : jY m' := by
 obtain ⟨T, fz, e⟩ := ht
 refine ⟨T, fz, ?_⟩
 rw [o.other 1 (λ e2 => by rw [<- e2, e] at hc; cases hc)]; exact e
def TB (x : QV × QV) : List Value := x.1.enc ++ x.2.enc
def d64 : Zx := ⟨QV × QV, TB⟩
noncomputable def abZ : Ctx := { dM Pl
 [(10, { A := Nat × List (QV × QV) × bL × QV × Sl × MH × PH, st := λ ⟨i, l, sc, a, st, m, h⟩ => cH 151 152 [(4, .at (.ptr 4 0)), (5, .at (.ptr 5 0)), (10, .at (.ptr 10 0)), (13, iv 7), (110, .at (.lst 109)), (111, iv l.length), (112, iv i)] [(4, .cells 43 (sc.enc.map .val)), (5, .cells 38 (a.enc.map .val)), (10, .cells 25 [.val (.slice st.a st.len st.cap)]), (109, .lst 64 42 (l.map TB))] m h })] [(6, { A := Nat × Sl × bL × QV × QV × QV × MH × PH, st := λ ⟨cb, k, sc, a, b, x, m, h⟩ => cH 151 152 [(3, pv cb), (4, .at (.ptr 4 0)), (5, .at (.ptr 5 0)), (6, sv k), (8, .at (.ptr 8 0)), (9, .at (.ptr 9 0))] [(4, .cells 43 (sc.enc.map .val)), (5, .cells 38 (a.enc.map .val)), (8, .cells 38 (b.enc.map .val)), (9, .cells 38 (x.enc.map .val))] m h })] [] false with
 dec := λ T => match Nat.beq T 64 with | true => d64 | false => dec T }
set_option maxRecDepth 100000 in
abbrev oP (a : Nat × Sl × bL × QV × QV × QV × MH × PH -> Prop) (b : Nat × Sl × bL × QV × QV × QV × MH × PH) (c : Nat) (d : Sl) (e : bL) (g : Prop) : Prop := aA (a b) (cY c b.1) (aA (eP 4) (eP 5) (aA (bD d b.2.1) (eP 8) (aA (eP 9) (pG e b.2.2.1) g)))
noncomputable abbrev pH (a : Nat × Sl × bL × QV × QV × QV × MH × PH) : QV := a.2.2.2.1
noncomputable abbrev vG (a : Nat × Sl × bL × QV × QV × QV × MH × PH) : QV := a.2.2.2.2.1
noncomputable abbrev Gy (a : Nat × Sl × bL × QV × QV × QV × MH × PH) : QV := a.2.2.2.2.2.1
noncomputable abbrev Ci (a : Nat × Sl × bL × QV × QV × QV × MH × PH) : MH × PH := a.2.2.2.2.2.2
abbrev oT (a : QV) (b : Nat × Sl × bL × QV × QV × QV × MH × PH) (c d : QV) (e : MH) (g : PH) : Prop := aA (eT a (pH b)) (eT c (vG b)) (aA (eT d (Gy b)) (bJ e (Ci b)) (lF g (Ci b)))
abbrev rW (a : PH) (b : Query) (c : QV) (d : nX) (e g : List Int) (i : Query) (j : MH) (k : Nat) (l : MH -> PH -> (Nat × Sl × bL × QV × QV × QV × MH × PH) -> Prop) : Prop := dW (λ x x1 => dG a x1 (cR x1 b c) (bK (BQ d e g i b) (aY j x k) (aK x x1 k -> ∃ (x2 : Nat × Sl × bL × QV × QV × QV × MH × PH), l x x1 x2)))
noncomputable abbrev xN (a : Nat × List (QV × QV) × bL × QV × Sl × MH × PH) : bL := a.2.2.1
noncomputable abbrev uL (a : Nat × List (QV × QV) × bL × QV × Sl × MH × PH) : QV := a.2.2.2.1
noncomputable abbrev fI (a : Nat × List (QV × QV) × bL × QV × Sl × MH × PH) : Sl × MH × PH := a.2.2.2.2
noncomputable abbrev Bt (a : Nat × List (QV × QV) × bL × QV × Sl × MH × PH) : List (List Value) := List.map TB a.2.1
abbrev Fj (a : List (List Value)) (b : Nat × List (QV × QV) × bL × QV × Sl × MH × PH) : Prop := Option.some (Own.lst 64 42 a) = Option.some (Own.lst 64 42 (Bt b))
abbrev IM (a : (Nat × List (QV × QV) × bL × QV × Sl × MH × PH) -> Prop) (b : (Nat × List (QV × QV) × bL × QV × Sl × MH × PH) -> Nat) (c : Nat) (d : Int) (e : Nat × List (QV × QV) × bL × QV × Sl × MH × PH) (g : (Nat × List (QV × QV) × bL × QV × Sl × MH × PH) -> Nat × List (QV × QV) × bL × QV × Sl × MH × PH) (i : (Nat × List (QV × QV) × bL × QV × Sl × MH × PH) -> Prop) : Prop := ∃ (x : Nat × List (QV × QV) × bL × QV × Sl × MH × PH), aA (a x) (b x < c) (aA (eP 4) gJ (aA jE (eQ (fK d)) (aA (eL 109) (cC e.2.1.length (g x).2.1.length) (i x))))
attribute [push_cast] oP pH vG Gy Ci oT rW xN uL fI Bt Fj IM
def TX (s : Sl) (m : MH) (h : PH) (K : CV -> MH -> PH -> Prop) : Prop :=
  ∃ (s1 : Sl) (c : List UInt8) (m1 : Nat), aA (fF s 220 = fF s1 (↑m1 : Int)) (cN h s1 1 (bF c)) (aA (s1.len <= s1.cap) (oC m1) (∀ (c1 : Nat), dW (λ m2 h1 => dG h h1 (Bp m c1) (bK (aY m m2 c1) (aK m2 h1 c1) (∃ (c2 : Nat), aA (mR (iH c1) = mR (iH c2)) (aK m2 h1 c2) (∀ (s2 : nX) (v : bL), dW (λ m3 h2 => bK (oK s2) (gR h2 s2 v) (dG h1 h2 (aY m2 m3 c2) (fY m3 h2 c2 (JX (λ c3 s3 => ∃ (p : Sl), DY (λ s4 p1 => ∃ (d : Int), aA (eB c1 v (bB jZ 1) = eB c3 s3 (fF p d)) (aK m3 h2 c3) (aA (gR h2 s4 s3) (eH s4 = 0) (aA (jO (s4.tables = [])) (Ints h2 p p1) (aA (fW p1) (dX (Ei p1)) (aA (Int.negSucc 0 <= d) (d <= 1000) ((d + 1).toNat < 5 /\ ∀ (w : QV) (q : Query), dW (λ m4 h3 => dG h2 h3 (cR h3 q w) (bK (QW q) (yB d.toNat q) (bK ((fT
 s4 p1 q).2 = 0) (aY m3 m4 c3) (fY m4 h3 c3 (Fk (cF v :: aX jZ (aR w)) h3 (λ _ _ _ s5 h4 => ∃ (I : Nat × Sl × bL × QV × QV × QV × MH × PH -> Prop), aA (jQ (λ c4 s6 p2 k v1 => eB c1 v (jZ :: aX (cK s5) (aR w)) = eB c4 s6 (cK p2 :: aX (cK k) (aR v1))) m4 h4 (λ c4 s6 p2 k q1 w1 q2 => dW (λ m5 h5 => dG h4 h5 (cR h5 q2 w1) (bK (BQ s6 p2 k q1 q2) (aY m4 m5 c4) (fY m5 h5 c4 (aA (jQ (λ c5 s7 p3 k1 v1 => eB c1 v (jZ :: aX (cK s5) (aR w)) = eB c5 s7 (cK p3 :: aX (cK k1) (aR v1))) m5 h5 (λ c5 s7 p3 k1 q3 w2 q4 => dW (λ m6 h6 => dG h5 h6 (cR h6 q4 w2) (bK (BQ s7 p3 k1 q3 q4) (aY m5 m6 c5) (fY m6 h6 c5 ((∃ (x : Nat × Sl × bL × QV × QV × QV × MH × PH), oP I x c1 s5 v (oT w x w1 w2 m6 h6)) /\ ∃ (x : Nat × Sl × bL × QV × QV × QV × MH × PH), oP I x c1
 s5 v (oT w x w1 w2 m6 h6))))))) (jQ (λ c5 s7 p3 k1 v1 => eB c1 v (jZ :: aX (cK s5) (aR w)) = eB c5 s7 (cK p3 :: aX (cK k1) (aR v1))) m5 h5 (λ c5 s7 p3 k1 q3 w2 q4 => rW h5 q4 w2 s7 p3 k1 q3 m5 c5 (λ m6 h6 x => oP I x c1 s5 v (oT w x w1 w2 m6 h6))) /\ jQ (λ c5 s7 p3 k1 v1 => eB c1 v (jZ :: aX (cK s5) (aR w)) = eB c5 s7 (cK p3 :: aX (cK k1) (aR v1))) m5 h5 (λ c5 s7 p3 k1 q3 w2 q4 => rW h5 q4 w2 s7 p3 k1 q3 m5 c5 (λ m6 h6 x => oP I x c1 s5 v (oT w x w1 w2 m6 h6)))) (jQ (λ c5 s7 p3 k1 v1 => eB c1 v (jZ :: aX (cK s5) (aR w)) = eB c5 s7 (cK p3 :: aX (cK k1) (aR v1))) m5 h5 (λ c5 s7 p3 k1 q3 w2 q4 => rW h5 q4 w2 s7 p3 k1 q3 m5 c5 (λ m6 h6 x => oP I x c1 s5 v (oT w x w1 w2 m6 h6))) /\ jQ (λ c5 s7 p3 k1 v1 => eB c1 v (jZ :: aX (cK s5)
 (aR w)) = eB c5 s7 (cK p3 :: aX (cK k1) (aR v1))) m5 h5 (λ c5 s7 p3 k1 q3 w2 q4 => rW h5 q4 w2 s7 p3 k1 q3 m5 c5 (λ m6 h6 x => oP I x c1 s5 v (oT w x w1 w2 m6 h6)))))))))) (jQ (λ c4 s6 p2 k v1 => eB c1 v (jZ :: aX (cK s5) (aR w)) = eB c4 s6 (cK p2 :: aX (cK k) (aR v1))) m4 h4 (λ c4 s6 p2 k q1 w1 q2 => dW (λ m5 h5 => dG h4 h5 (cR h5 q2 w1) (bK (BQ s6 p2 k q1 q2) (aY m4 m5 c4) (fY m5 h5 c4 (jQ (λ c5 s7 p3 k1 v1 => eB c1 v (jZ :: aX (cK s5) (aR w)) = eB c5 s7 (cK p3 :: aX (cK k1) (aR v1))) m5 h5 (λ c5 s7 p3 k1 q3 w2 q4 => rW h5 q4 w2 s7 p3 k1 q3 m5 c5 (λ m6 h6 x => oP I x c1 s5 v (oT w x w1 w2 m6 h6))) /\ jQ (λ c5 s7 p3 k1 v1 => eB c1 v (jZ :: aX (cK s5) (aR w)) = eB c5 s7 (cK p3 :: aX (cK k1) (aR v1))) m5 h5 (λ c5 s7 p3 k1 q3
 w2 q4 => rW h5 q4 w2 s7 p3 k1 q3 m5 c5 (λ m6 h6 x => oP I x c1 s5 v (oT w x w1 w2 m6 h6)))))))) /\ jQ (λ c4 s6 p2 k v1 => eB c1 v (jZ :: aX (cK s5) (aR w)) = eB c4 s6 (cK p2 :: aX (cK k) (aR v1))) m4 h4 (λ c4 s6 p2 k q1 w1 q2 => dW (λ m5 h5 => dG h4 h5 (cR h5 q2 w1) (bK (BQ s6 p2 k q1 q2) (aY m4 m5 c4) (fY m5 h5 c4 (jQ (λ c5 s7 p3 k1 v1 => eB c1 v (jZ :: aX (cK s5) (aR w)) = eB c5 s7 (cK p3 :: aX (cK k1) (aR v1))) m5 h5 (λ c5 s7 p3 k1 q3 w2 q4 => rW h5 q4 w2 s7 p3 k1 q3 m5 c5 (λ m6 h6 x => oP I x c1 s5 v (oT w x w1 w2 m6 h6))))))))) (jQ (λ c4 s6 p2 k v1 => eB c1 v (jZ :: aX (cK s5) (aR w)) = eB c4 s6 (cK p2 :: aX (cK k) (aR v1))) m4 h4 (λ c4 s6 p2 k q1 w1 q2 => dW (λ m5 h5 => dG h4 h5 (cR h5 q2 w1) (bK (BQ s6 p2 k q1 q2)
 (aY m4 m5 c4) (fY m5 h5 c4 (jQ (λ c5 s7 p3 k1 v1 => eB c1 v (jZ :: aX (cK s5) (aR w)) = eB c5 s7 (cK p3 :: aX (cK k1) (aR v1))) m5 h5 (λ c5 s7 p3 k1 q3 w2 q4 => rW h5 q4 w2 s7 p3 k1 q3 m5 c5 (λ m6 h6 x => oP I x c1 s5 v (oT w x w1 w2 m6 h6))) /\ jQ (λ c5 s7 p3 k1 v1 => eB c1 v (jZ :: aX (cK s5) (aR w)) = eB c5 s7 (cK p3 :: aX (cK k1) (aR v1))) m5 h5 (λ c5 s7 p3 k1 q3 w2 q4 => rW h5 q4 w2 s7 p3 k1 q3 m5 c5 (λ m6 h6 x => oP I x c1 s5 v (oT w x w1 w2 m6 h6)))))))) /\ jQ (λ c4 s6 p2 k v1 => eB c1 v (jZ :: aX (cK s5) (aR w)) = eB c4 s6 (cK p2 :: aX (cK k) (aR v1))) m4 h4 (λ c4 s6 p2 k q1 w1 q2 => dW (λ m5 h5 => dG h4 h5 (cR h5 q2 w1) (bK (BQ s6 p2 k q1 q2) (aY m4 m5 c4) (fY m5 h5 c4 (jQ (λ c5 s7 p3 k1 v1 => eB c1 v (jZ ::
 aX (cK s5) (aR w)) = eB c5 s7 (cK p3 :: aX (cK k1) (aR v1))) m5 h5 (λ c5 s7 p3 k1 q3 w2 q4 => rW h5 q4 w2 s7 p3 k1 q3 m5 c5 (λ m6 h6 x => oP I x c1 s5 v (oT w x w1 w2 m6 h6))))))))) /\ ∀ (x : Nat × Sl × bL × QV × QV × QV × MH × PH), I x -> ∃ (c4 : Nat), lH (λ v1 s6 => aA (iH x.1 :: bB (cF x.2.2.1) 3 = iH c4 :: bB (cF v1) 3) (aK (Ci x).1 (Ci x).2 c4) (aA (gR (Ci x).2 s6 v1) (oK s6) (∀ (s7 : List (List (List VV))) (s8 : Sl), dW (λ m5 h5 => dG (Ci x).2 h5 (Oi h5 s8 s7) (bK (Hu s6 s7) (aY (Ci x).1 m5 c4) (fY m5 h5 c4 (lZ (λ o v2 => ∃ (w1 : QV), dH 6 :: aX (aR (pH x)) (aR (vG x)) = dH o :: aX (aR v2) (aR w1) /\ bH h5 21 (v2.enc :: cT w1.enc) (λ s9 h6 => lZ (λ o1 v3 => ∃ (w2 : QV), dH 6 :: aX (aR (vG x)) (aR
 (pH x)) = dH o1 :: aX (aR v3) (aR w2) /\ bH h6 21 (v3.enc :: cT w2.enc) (λ a h7 => lZ (λ o2 v4 => ∃ (w3 : QV), dH 8 :: aX (aR (pH x)) (aR (vG x)) = dH o2 :: aX (aR v4) (aR w3) /\ bH h7 21 (v4.enc :: cT w3.enc) (λ a1 h8 => lZ (λ o3 v5 => ∃ (w4 : QV), dH 7 :: aX (aR (pH x)) (aR (vG x)) = dH o3 :: aX (aR v5) (aR w4) /\ bH h8 21 (v5.enc :: cT w4.enc) (λ a2 h9 => lZ (λ o4 v6 => ∃ (w5 : QV), dH 7 :: aX (aR (pH x)) (kE (jC o3 (kJ (aM a2)))) = dH o4 :: aX (aR v6) (aR w5) /\ bH h9 21 (v6.enc :: cT w5.enc) (λ a3 a4 => lZ (λ o5 v7 => ∃ (w6 : QV), dH 6 :: aX (aR (vG x)) (aR (Gy x)) = dH o5 :: aX (aR v7) (aR w6) /\ bH a4 21 (v7.enc :: cT w6.enc) (λ a5 a6 => lZ (λ o6 v8 => ∃ (w7 : QV), dH 8 :: aX (aR
 (pH x)) (kE (jC o5 (kJ (aM a5)))) = dH o6 :: aX (aR v8) (aR w7) /\ bH a6 21 (v8.enc :: cT w7.enc) (λ a7 a8 => lZ (λ o7 v9 => ∃ (w8 : QV), dH 8 :: aX (aR (pH x)) (aR (vG x)) = dH o7 :: aX (aR v9) (aR w8) /\ bH a8 21 (v9.enc :: cT w8.enc) (λ a9 b => lZ (λ o8 b1 => ∃ (w9 : QV), dH 8 :: aX (aR (pH x)) (aR (Gy x)) = dH o8 :: aX (aR b1) (aR w9) /\ bH b 21 (b1.enc :: cT w9.enc) (λ b2 b3 => lZ (λ o9 b4 => ∃ (b5 : QV), dH 6 :: aX (kE (jC o7 (kJ (aM a9)))) (kE (jC o8 (kJ (aM b2)))) = dH o9 :: aX (aR b4) (aR b5) /\ bH b3 21 (b4.enc :: cT b5.enc) (λ b6 b7 => lZ (λ b8 b9 => ∃ (c5 : QV), dH 6 :: aX (aR (vG x)) (aR (Gy x)) = dH b8 :: aX (aR b9) (aR c5) /\ bH b7 21 (b9.enc :: cT c5.enc) (λ c6 c7 =>
 lZ (λ c8 c9 => ∃ (d1 : QV), dH 7 :: aX (aR (pH x)) (kE (jC b8 (kJ (aM c6)))) = dH c8 :: aX (aR c9) (aR d1) /\ bH c7 21 (c9.enc :: cT d1.enc) (λ d2 d3 => lZ (λ d4 d5 => ∃ (d6 : QV), dH 7 :: aX (aR (pH x)) (aR (vG x)) = dH d4 :: aX (aR d5) (aR d6) /\ bH d3 21 (d5.enc :: cT d6.enc) (λ d7 d8 => lZ (λ d9 e => ∃ (e1 : QV), dH 7 :: aX (kE (jC d4 (kJ (aM d7)))) (aR (Gy x)) = dH d9 :: aX (aR e) (aR e1) /\ bH d8 21 (e.enc :: cT e1.enc) (λ e2 e3 => lZ (λ e4 e5 => ∃ (e6 : QV), dH 7 :: aX (aR (pH x)) (aR (vG x)) = dH e4 :: aX (aR e5) (aR e6) /\ bH e3 21 (e5.enc :: cT e6.enc) (λ e7 e8 => lZ (λ e9 f => ∃ (f1 : QV), dH 8 :: aX (aR (pH x)) (aR (vG x)) = dH e9 :: aX (aR f) (aR f1) /\ bH e8 21 (f.enc
 :: cT f1.enc) (λ f2 f3 => lZ (λ f4 f5 => ∃ (f6 : QV), dH 6 :: aX (kE (jC e4 (kJ (aM e7)))) (kE (jC e9 (kJ (aM f2)))) = dH f4 :: aX (aR f5) (aR f6) /\ bH f3 21 (f5.enc :: cT f6.enc) (λ f7 f8 => ∃ (I1 : Nat × List (QV × QV) × bL × QV × Sl × MH × PH -> Prop) (m6 : Nat × List (QV × QV) × bL × QV × Sl × MH × PH -> Nat), (∃ (x1 : Nat × List (QV × QV) × bL × QV × Sl × MH × PH), aA (I1 x1) (eP 4) (aA (eP 5) (eP 10) (aA (eQ (fK 7)) (eL 109) (aA (fK 5 = bV x1.2.1.length) (bC x1.1) (aA (pG x.2.2.1 (xN x1)) (eT (pH x) (uL x1)) (aA (wE (qF s8) (fI x1)) (Fj ((jC o (kJ (aM s9)) ++ jC o1 (kJ (aM a))) :: (jC o2 (kJ (aM a1)) ++ jC o4 (kJ (aM a3))) :: (jC o6 (kJ (aM a7)) ++ jC o9 (kJ (aM b6))) :: (jC c8 (kJ (aM
 d2)) ++ jC d9 (kJ (aM e2))) :: cT (jC f4 (kJ (aM f7)) ++ (pH x).enc)) x1) (jG (bJ m5 (fI x1).2) (cE f8 (fI x1).2)))))))) /\ ∀ (x1 : Nat × List (QV × QV) × bL × QV × Sl × MH × PH), I1 x1 -> bA (↑x1.1 : Int) (↑x1.2.1.length : Int) (aA (cA (↑x1.1 : Int)) ((↑x1.1 : Int) < j3 (Bt x1)) (∃ (f9 : List Value), uO (Bt x1) (rF x1.1) f9 /\ ∃ (y : QV × QV), aA (List.take 42 (List.drop 0 f9) = y.1.enc ++ y.2.enc) ((0 : Int) <= 0) ((0 : Int) < 2 /\ oF (λ g p2 => aA (qA y.1 = qA g) (cR (dP (fI x1)) p2 g) (branch (kG p2) (aA (cA 1) ((1 : Int) < 2) (oF (λ g1 p3 => aA (qA y.2 = qA g1) (cR (dP (fI x1)) p3 g1) (branch (kG p3) (aA (cA 0) ((0 : Int) < 2) (aA (cA 1) ((1 : Int) < 2) (Db (cF (xN x1) :: aX (kE (aM (fI x1).1))
 (aR y.1)) (dP (fI x1)) (λ g2 g3 q1 => Dk q1 (hX (fI x1)) g2 g3 (qT (λ g4 g5 => dG (dP (fI x1)) g5 (Rows g5 g4 (DO g2 g3 q1).1) (Db (cF (xN x1) :: aX (kE (aM (fI x1).1)) (aR y.2)) g5 (λ g6 g7 q2 => Dk q2 (hX (fI x1)) g6 g7 (qT (λ g8 g9 => dG g5 g9 (Rows g9 g8 (DO g6 g7 q2).1) (iW (λ i t => ∃ (i1 i2 : List (List VV)), j2 (jP g4 g8) (jP i t) (Rows g9 i i1) (Rows g9 t i2) (λ r => fP (dX r ↔ i1 = i2) (!r) (K aW (hX (fI x1)) g9) (IM (λ x2 => I1 x2) (λ x2 => m6 x2) (m6 x1) 7 x1 (λ x2 => x2) (λ x2 => aA (fK (bE x1.1 1) = bV x2.1) (pG (xN x1) (xN x2)) (aA (eT (uL x1) (uL x2)) (wE (qF (fI x1).1) (fI x2)) (bM (Fj (Bt x1) x2) (bJ (hX (fI x1)) (fI x2).2) (cE g9 (fI
 x2).2)))))))))))))))))) (IM (λ x2 => I1 x2) (λ x2 => m6 x2) (m6 x1) 7 x1 (λ x2 => x2) (λ x2 => aA (fK (bE x1.1 1) = bV x2.1) (pG (xN x1) (xN x2)) (aA (eT (uL x1) (uL x2)) (wE (qF (fI x1).1) (fI x2)) (bM (Fj (Bt x1) x2) (bJ (hX (fI x1)) (fI x2).2) (cE (dP (fI x1)) (fI x2).2))))))))) (IM (λ x2 => I1 x2) (λ x2 => m6 x2) (m6 x1) 7 x1 (λ x2 => x2) (λ x2 => aA (fK (bE x1.1 1) = bV x2.1) (pG (xN x1) (xN x2)) (aA (eT (uL x1) (uL x2)) (wE (qF (fI x1).1) (fI x2)) (bM (Fj (Bt x1) x2) (bJ (hX (fI x1)) (fI x2).2) (cE (dP (fI x1)) (fI x2).2)))))))))) (aA (([] : List CV) = []) (jY (hX (fI x1))) (lZ (λ f9 g => ∃ (g1 : QV), dH 7 :: aX (aR (uL x1)) (aR
 (uL x1)) = dH f9 :: aX (aR g) (aR g1) /\ bH (dP (fI x1)) 21 (g.enc :: cT g1.enc) (λ g2 g3 => Db (cF (xN x1) :: aX (kE (aM (fI x1).1)) (kE (jC f9 (kJ (aM g2))))) g3 (λ g4 g5 q1 => Dk q1 (hX (fI x1)) g4 g5 (qT (λ g6 g7 => dG g3 g7 (Rows g7 g6 (DO g4 g5 q1).1) (K (AE (aG g6 == 0)) (hX (fI x1)) g7))))))))))))))))))))))))))))))))))))))))))))))))))))))))))))))))))))))))
abbrev Gw (o : Int) (s : Sl) : QV := ⟨o, 0, fS, bX, bX, bX, bX, 0, s⟩
theorem Ns (s : nX) (st : List (List (List VV))) (q : Query) : (DO s st (Rj 7 q q)).1 = [] := by
 unfold DO
 split
 . rfl
 . split
   . rfl
   . exact (CS st q q).trans (min_self _)
theorem WC : Sound Tryz.prog 4 aiZ := by
 refine gX Tryz.func4 ?_
 rintro cvs m h K ⟨s, cs, rfl, hr, hcap, ht, hK⟩
 refine ⟨abZ, rfl, UN, TX s m h K, by kernel_rfl, ?_⟩
 dsimp only [TX, push_cast]
 refine ⟨s, cs, 220, rfl, hr, hcap, aC, λ cb m1 h1 le1 hcb o1 c1 => ⟨cb, rfl, c1, λ sc v m2 h2 hpl rS le2 o2 c2 => ?_⟩⟩
 obtain ⟨hse, hne⟩ := EW hpl
 have h8t := AK hse
 have h8 := tA hse
 refine ⟨cb, v, bX, sc, [], 1, rfl, c2, rS, hse, hne, iL _, by simp, by simp, aC, aC, by decide, λ a qa m3 h3 le3 rq qw fq hq o3 c3 => ⟨v, bX, a, sc, [], qa, rfl, rS.mono le3, iL _, rq, λ ks h4 le4 hks => ?_⟩⟩
 have fq : yB 1 qa := fq
 have A0 := Li.of rq hq fq.arg
 have hkl := Eb sc [] qa
 generalize (fT sc [] qa).1 = kl at hks A0 hkl
 obtain ⟨kn, kc⟩ := Pb hpl A0.kin
 have hsk := JD hpl
 have c4 := c3.mono le4
 have rS4 := rS.mono (le3.trans le4)
 have rq4 := rq.mono le4
 have o4 := (o1.trans o2).trans o3
 refine ⟨λ z => z.1 = cb /\ z.2.2.1 = v /\ z.2.2.2.1 = a /\ aK z.2.2.2.2.2.2.1 z.2.2.2.2.2.2.2 cb /\ aY m z.2.2.2.2.2.2.1 cb /\ PH.le h4 z.2.2.2.2.2.2.2 /\ ∃ qb qx, cR z.2.2.2.2.2.2.2 qb z.2.2.2.2.1 /\ cR z.2.2.2.2.2.2.2 qx z.2.2.2.2.2.1 /\ BQ sc [] kl qa qb /\ BQ sc [] kl qa qx, ?_, ?_⟩
 . repeat' apply And.intro
   all_goals refine ⟨cb, v, bX, ks, a, sc, [], kl, qa, rfl, c4, rS4, h8, aC, iL _, by simp, hks, aC, rq4, qw, λ b qb m5 h5 le5 rb shb o5 c5 => ?_⟩
   all_goals repeat' apply And.intro
   all_goals refine ⟨cb, v, bX, ks, a, sc, [], kl, qa, rfl, c5, rS4.mono le5, h8, aC, iL _, by simp, hks.mono le5, aC, rq4.mono le5, qw, λ x qx m6 h6 le6 rx shx o6 c6 => ?_⟩
   all_goals repeat' apply And.intro
   all_goals exact ⟨(cb, ks, v, a, b, x, m6, h6), ⟨rfl, rfl, rfl, c6, (o4.trans o5).trans o6, le5.trans le6, qb, qx, rb.mono le6, rx, shb, shx⟩, MT⟩
 rintro ⟨cb', ks', v', a', b, x, m6, h6⟩ ⟨e1, e2, e3, c6, o6, le6, qb, qx, rb, rx, shb, shx⟩
 dsimp only at e1 e2 e3 c6 o6 le6 rb rx ⊢
 subst e1 e2 e3
 refine ⟨cb', v', sc, rfl, c6, rS4.mono le6, hpl, λ st sl m7 h7 le7 hst good o7 c7 => ?_⟩
 have hm7 := o6.trans o7
 have ht7 := ht.new hcb hm7
 have hsub : Sub m m7 := λ b o e => by rw [hm7.other b (λ e2 => by rw [e2, hcb] at e; cases e)]; exact e
 have l7 := le6.trans le7
 have rS7 := rS4.mono l7
 have A : Li sc h7 a' qa kl 16 := A0.mono (le4.trans l7) (by decide)
 have hcn : Ge [] := λ k hk => by simp at hk
 have B : Li sc h7 b qb kl 16 := ⟨rb.mono le7, shb.kin hsk hcn kc kn hkl A.kin, (shb.siz 1 fq).b⟩
 have X : Li sc h7 x qx kl 16 := ⟨rx.mono le7, shx.kin hsk hcn kc kn hkl A.kin, (shx.siz 1 fq).b⟩
 have SA := (A.rel hpl good (by decide)).srt
 refine ⟨6, a', b, rfl, λ s1 g1 e1 r1 => ⟨6, b, a', rfl, λ s2 g2 e2 r2 => ⟨8, a', b, rfl, λ s3 g3 e3 r3 => ⟨7, a', b, rfl, λ s4 g4 e4 r4 => ⟨7, a', Gw 7 s4, rfl, λ s5 g5 e5 r5 => ⟨6, b, x, rfl, λ s6 g6 e6 r6 => ⟨8, a', Gw 6 s6, rfl, λ s7 g7 e7 r7 => ⟨8, a', b, rfl, λ s8 g8 e8 r8 => ⟨8, a', x, rfl, λ s9 g9 e9 r9 => ⟨6, Gw 8 s8, Gw 8 s9, rfl, λ s10 g10 e10 r10 => ⟨6, b, x, rfl, λ s11 g11 e11 r11 => ⟨7, a', Gw 6 s11, rfl, λ s12 g12 e12 r12 => ⟨7, a', b, rfl, λ s13 g13 e13 r13 => ⟨7, Gw 7 s13, x, rfl, λ s14 g14 e14 r14 => ⟨7, a', b, rfl, λ s15 g15 e15 r15 => ⟨8, a', b, rfl, λ s16 g16 e16 r16 => ⟨6, Gw 7 s15, Gw 8 s16, rfl, λ s17 g17 e17 r17 => ?_⟩⟩⟩⟩⟩⟩⟩⟩⟩⟩⟩⟩⟩⟩⟩⟩⟩
 have L1 : PH.le h7 g1 := e1
 have x1 := A.op B (.inl rfl) L1 r1
 have L2 : PH.le h7 g2 := L1.trans e2
 have x2 := B.op A (.inl rfl) L2 r2
 have L3 : PH.le h7 g3 := L2.trans e3
 have x3 := A.op B (.inr (.inr rfl)) L3 r3
 have L4 : PH.le h7 g4 := L3.trans e4
 have x4 := A.op B (.inr (.inl rfl)) L4 r4
 have L5 : PH.le h7 g5 := L4.trans e5
 have x5 := (A.mono L4 (BH _)).op x4 (.inr (.inl rfl)) e5 r5
 have L6 : PH.le h7 g6 := L5.trans e6
 have x6 := B.op X (.inl rfl) L6 r6
 have L7 : PH.le h7 g7 := L6.trans e7
 have x7 := (A.mono L6 (BH _)).op x6 (.inr (.inr rfl)) e7 r7
 have L8 : PH.le h7 g8 := L7.trans e8
 have x8 := A.op B (.inr (.inr rfl)) L8 r8
 have L9 : PH.le h7 g9 := L8.trans e9
 have x9 := A.op X (.inr (.inr rfl)) L9 r9
 have L10 : PH.le h7 g10 := L9.trans e10
 have x10 := (x8.mono e9 (BH _)).op x9 (.inl rfl) e10 r10
 have L11 : PH.le h7 g11 := L10.trans e11
 have x11 := B.op X (.inl rfl) L11 r11
 have L12 : PH.le h7 g12 := L11.trans e12
 have x12 := (A.mono L11 (BH _)).op x11 (.inr (.inl rfl)) e12 r12
 have L13 : PH.le h7 g13 := L12.trans e13
 have x13 := A.op B (.inr (.inl rfl)) L13 r13
 have L14 : PH.le h7 g14 := L13.trans e14
 have x14 := x13.op (X.mono L13 (BH _)) (.inr (.inl rfl)) e14 r14
 have L15 : PH.le h7 g15 := L14.trans e15
 have x15 := A.op B (.inr (.inl rfl)) L15 r15
 have L16 : PH.le h7 g16 := L15.trans e16
 have x16 := A.op B (.inr (.inr rfl)) L16 r16
 have L17 : PH.le h7 g17 := L16.trans e17
 have x17 := (x15.mono e16 (BH _)).op x16 (.inl rfl) e17 r17
 have G : ∀ (i : Nat) y, ([(Gw 6 s1, Gw 6 s2), (Gw 8 s3, Gw 7 s5), (Gw 8 s7, Gw 6 s10), (Gw 7 s12, Gw 7 s14), (Gw 6 s17, a')])[i]? = some y -> ∃ p p', Li sc g17 y.1 p kl 1000 /\ Li sc g17 y.2 p' kl 1000 /\ uU st p = uU st p' := λ i y hy => by
  match i, hy with
  | 0, hy =>
   simp at hy
   subst hy
   refine ⟨_, _, x1.mono (((((((((((((((e2.trans e3).trans e4).trans e5).trans e6).trans e7).trans e8).trans e9).trans e10).trans e11).trans e12).trans e13).trans e14).trans e15).trans e16).trans e17) (by decide), x2.mono ((((((((((((((e3.trans e4).trans e5).trans e6).trans e7).trans e8).trans e9).trans e10).trans e11).trans e12).trans e13).trans e14).trans e15).trans e16).trans e17) (by decide), ?_⟩
   simp only [EN, EO, CS]
   exact Wa _ _
  | 1, hy =>
   simp at hy
   subst hy
   refine ⟨_, _, x3.mono (((((((((((((e4.trans e5).trans e6).trans e7).trans e8).trans e9).trans e10).trans e11).trans e12).trans e13).trans e14).trans e15).trans e16).trans e17) (by decide), x5.mono (((((((((((e6.trans e7).trans e8).trans e9).trans e10).trans e11).trans e12).trans e13).trans e14).trans e15).trans e16).trans e17) (by decide), ?_⟩
   simp only [EN, EO, CS]
   exact Ym _ SA
  | 2, hy =>
   simp at hy
   subst hy
   refine ⟨_, _, x7.mono (((((((((e8.trans e9).trans e10).trans e11).trans e12).trans e13).trans e14).trans e15).trans e16).trans e17) (by decide), x10.mono ((((((e11.trans e12).trans e13).trans e14).trans e15).trans e16).trans e17) (by decide), ?_⟩
   simp only [EN, EO, CS]
   exact Yl _ _ SA
  | 3, hy =>
   simp at hy
   subst hy
   refine ⟨_, _, x12.mono ((((e13.trans e14).trans e15).trans e16).trans e17) (by decide), x14.mono ((e15.trans e16).trans e17) (by decide), ?_⟩
   simp only [EN, EO, CS]
   exact Yh _ _ SA
  | 4, hy =>
   simp at hy
   subst hy
   refine ⟨_, _, x17.mono (.refl _) (by decide), A.mono L17 (by decide), ?_⟩
   simp only [EN, EO, CS]
   exact OL _ SA
  | i + 5, hy => simp at hy
 generalize hl : ([(Gw 6 s1, Gw 6 s2), (Gw 8 s3, Gw 7 s5), (Gw 8 s7, Gw 6 s10), (Gw 7 s12, Gw 7 s14), (Gw 6 s17, a')] : List (QV × QV)) = l at G
 have hl5 : l.length = 5 := by rw [<- hl]; rfl
 refine ⟨λ z => z.2.1 = l /\ z.2.2.1 = v' /\ z.2.2.2.1 = a' /\ z.2.2.2.2.1 = sl /\ z.2.2.2.2.2.1 = m7 /\ PH.le g17 z.2.2.2.2.2.2 /\ z.1 <= 5, λ z => 5 - z.1, ⟨(0, l, v', a', sl, m7, g17), ⟨rfl, rfl, rfl, rfl, rfl, .refl _, by simp⟩, by rw [<- hl]; exact MT⟩, ?_⟩
 rintro ⟨i, l', v2, a2, sl', m8, hx⟩ ⟨e1', e2', e3', e4', e5', lex, hi⟩
 dsimp only at e1' e2' e3' e4' e5' lex hi ⊢
 subst e1' e2' e3' e4' e5'
 have hstx := hst.mono (L17.trans lex)
 have rSx := rS7.mono (L17.trans lex)
 refine aE (λ hlt => ?_) (λ hge => ?_)
 . have hil : i < l'.length := by omega
   have hw : IntKind.i64.wrap ((i : Int) + 1) = ((i + 1 : Nat) : Int) := kC aC
   obtain ⟨p, p', G1, G2, G3⟩ := G i _ (kP hil)
   generalize hy : l'[i] = y at G1 G2
   have G1 := G1.mono lex (BH _)
   have G2 := G2.mono lex (BH _)
   rw [hw]
   refine ⟨aC, by rw [mI]; omega, TB y, by rw [AD, show ((i : Int)).toNat = i from rfl, kP hil, hy]; rfl, y, rfl, aC, aC, y.1, p, rfl, G1.rep, aB (λ s1 => ⟨aC, aC, y.2, p', rfl, G2.rep, aB (λ s2 => ⟨aC, aC, aC, aC, v2, sc, sl', st, y.1, p, rfl, rSx, hstx, G1.rep, s1, ht7, λ _ _ => G1.bok good (by decide), λ t1 hb leb hrb => ⟨v2, sc, sl', st, y.2, p', rfl, rSx.mono leb, hstx.mono leb, G2.rep.mono leb, s2, ht7, λ _ _ => G2.bok good (by decide), λ t2 hc lec hrc => ?_⟩⟩) (λ _ => ?_)⟩) (λ _ => ?_)⟩
   . rw [G1.res hpl good s1] at hrb
     rw [G2.res hpl good s2] at hrc
     refine ⟨t1, t2, _, _, rfl, bW.mono hrb lec λ r t hv => cJ.mono hv lec, hrc, λ r hr => aB (λ e => ?_) (λ _ => ?_)⟩
     . rw [hr.2 G3] at e; cases e
     . exact ⟨(i + 1, l', v2, a2, sl', m8, hc), ⟨rfl, rfl, rfl, rfl, rfl, lex.trans (leb.trans lec), by show i + 1 <= 5; omega⟩, by show 5 - (i + 1) < 5 - i; omega, MT⟩
   all_goals exact ⟨(i + 1, l', v2, a2, sl', m8, hx), ⟨rfl, rfl, rfl, rfl, rfl, lex, by show i + 1 <= 5; omega⟩, by show 5 - (i + 1) < 5 - i; omega, MT⟩
 . refine ⟨rfl, ht7, 7, a2, a2, rfl, λ s0 h9 le9 r9 => ?_⟩
   have hsm7 : kG (Rj 7 qa qa) = true := We (by simp only [Rj, u6, qU]; have := fq.n; simp only [gN] at this; omega) (by simp only [Rj, DQ, zF]; have := fq.d; simp only [gD] at this; omega)
   have Y := (A.mono (L17.trans lex) (BH _)).op (A.mono (L17.trans lex) (BH _)) (.inr (.inl rfl)) le9 r9
   refine ⟨v2, sc, sl', st, Gw 7 s0, _, rfl, rSx.mono le9, hstx.mono le9, Y.rep, hsm7, ht7, λ _ _ => Y.bok good (by decide), λ t1 hb leb hrb => ?_⟩
   rw [Ns] at hrb
   have := bW.slen hrb
   rw [show ((t1.len : Int) == 0) = true by simp at this; simp; exact this]
   exact hK _ _ hsub
end Go.Ps
