/-
  Part 3 of a proof that a law of the given program returns true: a condition generator that is proved sound, and contracts of functions. No condition of its own. Own work, joined by a program (pack2.py).
-/
import Derived.Test.YtileehgdfcknkaaGreatDoorMb
namespace Go.Ps
open Go Go.Vc Go.Proofs
variable {K : CV -> MH -> PH -> Prop} {m : MH} {h : PH} {ps : List Int} {cb : Nat} {sc : bL} {v : QV} {q : Query} {p : Pred} {l : List Int} {i : Nat} {N : Nat} {m' : MH} {h' : PH} {co : List Int} {gr : List Int} {od : List (Int × Bool)} {w : Pred} {ta : Int} {li : Int} {xs : List (List Value)} {sz : Nat} {k : Nat} {ks : List (List Int)} {rs : List Int} {r : Sl} {a : List Int} {b : Nat}
structure Ref where
 columns : List Int
 table : Int
structure u7 where
 name : ByteArray
 columns : List mF
 key : Int
 refs : List Ref
 checks : List Pred
structure nX where
 version : Int
 tables : List u7
variable {s : nX}
structure Om (h : PH) (r : Ref) (v : BW) : Prop where
 columns : Ints h v.columns r.columns
 table : v.table = r.table
def BY (h : PH) (s : Sl) (l : List mF) : Prop := bW h 2 mF.enc Eq s l
structure Hv (h : PH) (t : u7) (v : bR) : Prop where
 name : v.name = t.name
 columns : BY h v.columns t.columns
 key : v.key = t.key
 refs : bW h 2 BW.enc (Om h) v.references t.refs
 checks : CI h v.checks t.checks
structure gR (h : PH) (s : nX) (v : bL) : Prop where
 version : v.version = s.version
 tables : bW h 5 bR.enc (Hv h) v.tables s.tables
theorem Om.mono {r : Ref} {v : BW} (x : Om h r v) (le : PH.le h h') : Om h' r v := ⟨x.columns.mono le, x.table⟩
theorem Hv.mono {t : u7} {v : bR} (x : Hv h t v) (le : PH.le h h') : Hv h' t v :=
 ⟨x.name, bW.mono x.columns le λ _ _ e => e, x.key, x.refs.mono le λ _ _ e => e.mono le, x.checks.mono le⟩
theorem gR.mono {v : bL} (x : gR h s v) (le : PH.le h h') : gR h' s v := ⟨x.version, x.tables.mono le λ _ _ e => e.mono le⟩
def lower (c : Nat) : Bool := 97 <= c && c <= 122
def sT (c : Nat) : Bool := lower c || (48 <= c && c <= 57) || c == 95
def mM (s : ByteArray) : List Nat := s.data.toList.map UInt8.toNat
def lT (s : ByteArray) : Bool := 1 <= s.size && s.size <= 32 && lower ((mM s).headD 0) && (mM s).all sT
theorem MQ (s : ByteArray) : (mM s).length = s.size := by simp [mM]
theorem VM {s : ByteArray} {c : Nat} (h : (mM s)[i]? = some c) : (s.get! i).toNat = c /\ c < 256 := by
 simp only [mM, AD, Option.map_eq_some_iff] at h
 obtain ⟨b, hb, rfl⟩ := h
 refine ⟨?_, b.toNat_lt⟩
 have hi : i < s.data.size := by
  have := (mG.1 hb).1
  simpa using this
 have : s.data[i]? = some b := by simpa using hb
 cases s with
 | mk bs =>
  show (bs[i]!).toNat = b.toNat
  rw [getElem!_def, this]
theorem Hn {s : ByteArray} (h : (s.get! i).toNat < 128) : Utf8.decode s i = ((s.get! i).toNat, 1) := by
 simp only [Utf8.decode, V6]
 rw [if_pos h]
theorem VL {s : ByteArray} (h : ¬ (s.get! i).toNat < 128) : 128 <= (Utf8.decode s i).1 := by
 simp only [Utf8.decode, V6]
 rw [if_neg h]
 repeat' split
 all_goals simp_all [Utf8.runeError]
 all_goals omega
def N6 (s : ByteArray) : CV := .val (.string s)
def Ul : Vc.Spec := λ cvs m h K => ∃ s, cvs = [N6 s] /\ K (cB (lT s)) m h
noncomputable def W8 (s : ByteArray) (m : MH) (h : PH) : Ctx :=
 ctx [] [(4, { A := Nat × Nat × MH, st := λ x => cH 44 45 [(15, vv (.pointer (some ⟨x.2.1, 0, none⟩)))] [] x.2.2 h, inv := λ x => x.1 <= s.size /\ cD m h x.2.1 /\ jH m x.2.2 x.2.1 (.stringIter s x.1) /\ (x.1 = 0 \/ lower ((mM s).headD 0) = true) /\ ((mM s).take x.1).all sT = true, mu := λ x => s.size - x.1 })] [] [] false
noncomputable def Xc (s : ByteArray) (m : MH) (h : PH) : Ctx :=
 ctx [] [Co 4 (λ i => cH 50 51 [(0, vv (.string s)), (3, iv i)] [] m h) (λ i => i <= s.size /\ ((mM s).take i).all sT = true) (λ i => s.size - i)] [] [] false
abbrev NB (a b : (Nat × Nat × MH) -> Prop) : Prop := (∃ (x : Nat × Nat × MH), a x) /\ ∀ (x : Nat × Nat × MH), b x
abbrev lX (a b c d : Prop) : Prop := aA a b (aA c d True)
noncomputable abbrev iN (a : Nat × Nat × MH) : Nat := a.2.1
noncomputable abbrev fO (a : Nat × Nat × MH) : Nat -> Option Obj := a.2.2
abbrev yK (a : Nat × Nat × MH) (b : ByteArray) (c : MH) (d : PH) : Prop := aA (a.1 <= b.size) (cD c d (iN a)) (aA (jH c (fO a) (iN a) (Obj.stringIter b a.1)) (a.1 = 0 \/ dX (lower (List.headD (mM b) 0))) (dX (List.all (List.take a.1 (mM b)) sT)))
abbrev cY (a b : Nat) : Prop := Wi a 0 = Wi b 0
noncomputable abbrev AY (a : ByteArray) (b : Nat) : Nat := (Utf8.decode a b).1
abbrev wT (a : ByteArray) (b c : Nat) : Prop := a.size - b < a.size - c
abbrev C1 (a : (Nat × Nat × MH) -> Prop) (b : ByteArray) (c : Nat × Nat × MH) (d : MH) (e : PH) : Prop := ∃ (x : Nat × Nat × MH), aA (a x) (wT b x.1 c.1) (aA (cY (iN c) (iN x)) (d = fO x) (cV e e))
attribute [push_cast] NB lX iN fO yK cY AY wT C1
def Hg (s : ByteArray) (m : MH) (h : PH) (K : CV -> MH -> PH -> Prop) : Prop :=
  bA (↑s.size : Int) 1 (K aW m h) (eJ (↑s.size : Int) 32 (K aW m h) (∀ (b : Nat) (m1 : MH), bK (cD m h b) (jH m m1 b (Obj.stringIter s 0)) (NB (λ x => lX (yK x s m h) (cY b (iN x)) (m1 = fO x) (h = h)) (λ x => yK x s m h -> ∃ (s1 : ByteArray) (p : Nat), aA (uT (fO x) (iN x) (Obj.stringIter s1 p)) (s1.size <= p -> K fJ (fO x) h) (p < s1.size -> ∀ (m2 : MH), jH (fO x) m2 (iN x) (Obj.stringIter s1 (p + (Utf8.decode s1 p).2)) -> cW (decide ((↑(AY s1 p) : Int) >= 97)) (gK (decide ((↑(AY s1 p) : Int) <= 122)) (cW ((↑p : Int) == 0) (K aW m2 h) ((↑(AY s1 p) : Int) != 95) (bA (↑(AY s1 p) : Int) 48 (K aW m2 h) (eJ (↑(AY s1 p) : Int) 57 (K aW m2 h) (C1 (λ y => yK y s m h) s x m2 h))) (C1 (λ y => yK y s m h) s x m2 h)) (C1 (λ y => yK y s
 m h) s x m2 h)) ((↑p : Int) == 0) (K aW m2 h) (eE (↑(AY s1 p) : Int) 95 (bA (↑(AY s1 p) : Int) 48 (K aW m2 h) (eJ (↑(AY s1 p) : Int) 57 (K aW m2 h) (C1 (λ y => yK y s m h) s x m2 h))) (C1 (λ y => yK y s m h) s x m2 h)))))))
abbrev IA (a : Prop) (b : ByteArray) (c : Nat) (d : UInt8 -> UInt8) (e : UInt8 -> Prop) : Prop := a /\ ∃ (x : UInt8), b.data.toList[c]? = Option.some (d x) /\ e x
noncomputable abbrev xL (a : UInt8) : Int := (↑a.toNat : Int)
abbrev tW (a : Nat) (b : ByteArray) : Prop := a <= b.size /\ dX (List.all (List.take a (mM b)) sT)
noncomputable abbrev rF (a : Nat) : Nat := (↑a : Int).toNat
attribute [push_cast] IA xL tW rF
def ME (s : ByteArray) (m : MH) (h : PH) (K : CV -> MH -> PH -> Prop) : Prop :=
  cW ((↑s.size : Int) == 0) (K aW m h) (decide ((↑s.size : Int) > 32)) (K aW m h) (IA (cA 0) s 0 (λ b => b) (λ b => bA (↑b.toNat : Int) 97 (K aW m h) (IA (cA 0) s 0 (λ b1 => b1) (λ b1 => eJ (xL b1) 122 (K aW m h) (jT (∃ (x : Nat), aA (tW x s) (eQ (SV.at (Oc s))) (aA (bC x) (m = m) (cV h h))) (λ x => tW x s -> bA (↑x : Int) (↑s.size : Int) (IA (cA (↑x : Int)) s (rF x) (λ b2 => b2) (λ b2 => bA (↑b2.toNat : Int) 97 (bA (↑b2.toNat : Int) 48 (hZ (xL b2 != 95) (K aW m h) (λ y => aA (tW y s) (wT s y x) (aA (eQ (SV.at (Oc s))) (fK (bE x 1) = bV y) (dT m m h h)))) (eJ (xL b2) 57 (hZ (xL b2 != 95) (K aW m h) (λ y => aA (tW y s) (wT s y x) (aA (eQ (SV.at (Oc s))) (fK (bE x 1) = bV y) (dT m m h h)))) (∃ (y : Nat),
 aA (tW y s) (wT s y x) (aA (eQ (SV.at (Oc s))) (fK (bE x 1) = bV y) (dT m m h h))))) (eJ (xL b2) 122 (bA (↑b2.toNat : Int) 48 (hZ (xL b2 != 95) (K aW m h) (λ y => aA (tW y s) (wT s y x) (aA (eQ (SV.at (Oc s))) (fK (bE x 1) = bV y) (dT m m h h)))) (eJ (xL b2) 57 (hZ (xL b2 != 95) (K aW m h) (λ y => aA (tW y s) (wT s y x) (aA (eQ (SV.at (Oc s))) (fK (bE x 1) = bV y) (dT m m h h)))) (∃ (y : Nat), aA (tW y s) (wT s y x) (aA (eQ (SV.at (Oc s))) (fK (bE x 1) = bV y) (dT m m h h))))) (∃ (y : Nat), aA (tW y s) (wT s y x) (aA (eQ (SV.at (Oc s))) (fK (bE x 1) = bV y) (dT m m h h)))))) (K fJ m h)))))))
def kB (h : PH) (K : CV -> MH -> PH -> Prop) : CV -> MH -> PH -> Prop := λ r m' h' => ∃ m2 h2, (∀ b o, m2 b = some o -> m' b = some o) /\ PH.le h h2 /\ PH.le h2 h' /\ K r m2 h2
theorem kB.here {r : CV} (hK : K r m h) : kB h K r m h := ⟨m, h, λ _ _ e => e, .refl _, .refl _, hK⟩
theorem kB.sub {r : CV} (hm : ∀ b o, m b = some o -> m' b = some o) (hK : K r m h) : kB h K r m' h := ⟨m, h, hm, .refl _, .refl _, hK⟩
theorem jH.keeps {o : Obj} (hb : cD m h b) (hu : jH m m' b o) : ∀ b o, m b = some o -> m' b = some o := λ b' o' e => by
 have hne : b' ≠ b := λ e' => by rw [e', hb.m_] at e; cases e
 rw [hu.other b' hne, e]
theorem Sp : Sound Tryz.prog 135 Ul := by
 refine FN Tryz.func135 ?_
 rintro cvs m h K ⟨s, rfl, hK⟩
 refine ⟨W8 s m h, rfl, aF, Hg s m h (kB h K), by kernel_rfl, ?_⟩
 show Hg s m h (kB h K)
 dsimp only [Hg, push_cast]
 have hl := MQ s
 refine aE (λ h1 => ?_) (λ h1 => aE (λ h2 => ?_) (λ h2 b m1 hb hm1 => ?_))
 . refine .here (gI hK ?_)
   have : ¬ 1 <= s.size := by omega
   simp [lT, this]
 . refine .here (gI hK ?_)
   have : ¬ s.size <= 32 := by omega
   simp [lT, this]
 refine ⟨⟨(0, b, m1), ⟨by simp, hb, hm1, .inl rfl, by simp⟩, MT⟩, ?_⟩
 rintro ⟨pos, b, mx⟩ ⟨hp, hb, hmx, hhead, hall⟩
 simp only at hp hb hmx hhead hall
 refine ⟨s, pos, ⟨hmx.at_⟩, λ hge => ?_, λ hlt m2 hm2 => ?_⟩
 . refine .sub (jH.keeps hb hmx) (gI hK ?_)
   rw [EC aC] at hall
   have h3 : lower ((mM s).headD 0) = true := by
    rcases hhead with e | e
    . omega
    . exact e
   have h1' : 1 <= s.size := by omega
   have h2' : s.size <= 32 := by omega
   simp only [lT, hall, h3, decide_eq_true h1', decide_eq_true h2']; rfl
 . have hm3 := hmx.trans hm2
   obtain ⟨c, hc⟩ : ∃ c, (mM s)[pos]? = some c := ⟨(mM s)[pos]'(by omega), kP _⟩
   obtain ⟨hg, hc256⟩ := VM hc
   have hhd : pos = 0 -> (mM s).headD 0 = c := λ e => by
    subst e
    cases hcs : mM s with
    | nil => rw [hcs] at hc; simp at hc
    | cons x l => rw [hcs] at hc; simp at hc; simpa using hc
   have stop : ¬ ((97 <= (Utf8.decode s pos).1 /\ (Utf8.decode s pos).1 <= 122) \/ (pos ≠ 0 /\ ((Utf8.decode s pos).1 = 95 \/ (48 <= (Utf8.decode s pos).1 /\ (Utf8.decode s pos).1 <= 57)))) -> kB h K (.val (.bool false)) m2 h := by
    intro hn
    refine .sub (jH.keeps hb hm3) (gI hK ?_)
    by_cases hlo : (s.get! pos).toNat < 128
    . rw [Hn hlo, hg] at hn
      by_cases hp0 : pos = 0
      . have : lower c = false := by
         simp only [lower, Bool.and_eq_false_iff, decide_eq_false_iff_not]; simp only at hn; omega
        simp only [lT, hhd hp0, this, XY, Tk]
      . have : sT c = false := by
         simp only [sT, lower, Zz, Bool.and_eq_false_iff, decide_eq_false_iff_not, beq_eq_false_iff_ne]; simp only at hn; omega
        simp [lT, zJ hc this]
    . have : sT c = false := by
       simp only [sT, lower, Zz, Bool.and_eq_false_iff, decide_eq_false_iff_not, beq_eq_false_iff_ne]; omega
      simp [lT, zJ hc this]
   have go : ((97 <= (Utf8.decode s pos).1 /\ (Utf8.decode s pos).1 <= 122) \/ (pos ≠ 0 /\ ((Utf8.decode s pos).1 = 95 \/ (48 <= (Utf8.decode s pos).1 /\ (Utf8.decode s pos).1 <= 57)))) -> pos + 1 <= s.size /\ jH m m2 b (.stringIter s (pos + 1)) /\ lower ((mM s).headD 0) = true /\ ((mM s).take (pos + 1)).all sT = true := by
    intro hy
    have hlo : (s.get! pos).toNat < 128 := by
     refine Decidable.byContradiction λ hlo => ?_
     have := VL hlo
     omega
    rw [Hn hlo] at hm3
    rw [Hn hlo, hg] at hy
    simp only at hy
    refine ⟨aC, hm3, ?_, ?_⟩
    . rcases hhead with e | e
      . rw [hhd e]; simp only [lower, Gf, decide_eq_true_eq]; omega
      . exact e
    . rw [xZ hc, hall]
      simp only [sT, lower, Q6, Bool.or_eq_true, Gf, decide_eq_true_eq, beq_iff_eq]; omega
   have next : ((97 <= (Utf8.decode s pos).1 /\ (Utf8.decode s pos).1 <= 122) \/ (pos ≠ 0 /\ ((Utf8.decode s pos).1 = 95 \/ (48 <= (Utf8.decode s pos).1 /\ (Utf8.decode s pos).1 <= 57)))) -> _ := λ hy => (⟨(pos + 1, b, m2), ⟨(go hy).1, hb, (go hy).2.1, .inr (go hy).2.2.1, (go hy).2.2.2⟩, by show s.size - (pos + 1) < s.size - pos; omega, MT⟩ : ∃ (y : Nat × Nat × MH), (y.fst <= s.size /\ cD m h y.snd.fst /\ jH m y.snd.2 y.snd.fst (Obj.stringIter s y.fst) /\ (y.fst = 0 \/ lower ((mM s).headD 0) = true) /\ (List.take y.fst (mM s)).all sT = true) /\ s.size - y.fst < s.size - pos /\ SV.at (At.val (Value.pointer (some (Addr.mk b 0 none)))) = SV.at (At.val (Value.pointer (some (Addr.mk y.snd.fst 0 none)))) /\ m2 = y.snd.2 /\ h = h /\ True)
   clear go hm3 hm2 hall hhead hhd hmx hm1 hK
   repeat' (first | (refine aB (λ _ => ?_) (λ _ => ?_)) | exact stop (by simp only [decide_eq_true_eq, decide_eq_false_iff_not, bne_iff_ne, ne_eq, beq_iff_eq, beq_eq_false_iff_ne, bne_eq_false_iff_eq, V5, X4] at *; omega) | exact next (by simp only [decide_eq_true_eq, decide_eq_false_iff_not, bne_iff_ne, ne_eq, beq_iff_eq, beq_eq_false_iff_ne, bne_eq_false_iff_eq, V5, X4] at *; omega))
theorem Sz : Sound Tryz.prog 122 Ul := by
 refine gX Tryz.func122 ?_
 rintro cvs m h K ⟨s, rfl, hK⟩
 refine ⟨Xc s m h, rfl, aF, ME s m h K, by kernel_rfl, ?_⟩
 dsimp only [ME, push_cast]
 have hl := MQ s
 refine aB (λ h1 => gI hK ?_) (λ h1 => aE (λ h2 => gI hK ?_) (λ h2 => ?_))
 . have : ¬ 1 <= s.size := by have : (s.size : Int) = 0 := (by simpa using h1); omega
   simp [lT, this]
 . have : ¬ s.size <= 32 := by omega
   simp [lT, this]
 have h1 : s.size ≠ 0 := by intro e; rw [e] at h1; simp at h1
 obtain ⟨c0, hc0⟩ : ∃ c, s.data.toList[0]? = some c := ⟨s.data.toList[0]'(by simpa using (by omega : 0 < s.size)), kP _⟩
 have hhd : (mM s).headD 0 = c0.toNat := by
  unfold mM
  cases hcs : s.data.toList with
  | nil => rw [hcs] at hc0; simp at hc0
  | cons x l => rw [hcs] at hc0; simp at hc0; simp [hc0]
 refine ⟨aC, c0, hc0, aE (λ h3 => gI hK ?_) (λ h3 => ⟨aC, c0, hc0, aE (λ h4 => gI hK ?_) (λ h4 => ?_)⟩)⟩
 . have : lower c0.toNat = false := by simp only [lower, Bool.and_eq_false_iff, decide_eq_false_iff_not]; omega
   simp only [lT, hhd, this, XY, Tk]
 . have : lower c0.toNat = false := by simp only [lower, Bool.and_eq_false_iff, decide_eq_false_iff_not]; omega
   simp only [lT, hhd, this, XY, Tk]
 refine ⟨⟨0, ⟨aC, by simp⟩, MT⟩, λ i hi => aE (λ hlt => ?_) (λ hge => gI hK ?_)⟩
 . obtain ⟨c, hc⟩ : ∃ c, s.data.toList[i]? = some c := ⟨s.data.toList[i]'(by simpa using (by omega : i < s.size)), kP _⟩
   have hcc : (mM s)[i]? = some c.toNat := by simp [mM, hc]
   have stop : sT c.toNat = false -> K (.val (.bool false)) m h := λ e => gI hK (by simp [lT, zJ hcc e])
   have next : sT c.toNat = true -> ∃ (y : Nat), (y <= s.size /\ (List.take y (mM s)).all sT = true) /\ s.size - y < s.size - i /\ SV.at (At.val (Value.string s)) = SV.at (At.val (Value.string s)) /\ SV.at (At.val (Value.int IntKind.i64 (IntKind.i64.wrap ((i : Int) + 1)))) = SV.at (At.val (Value.int IntKind.i64 (y : Int))) /\ m = m /\ h = h /\ True := λ e => ⟨i + 1, ⟨aC, by rw [xZ hcc, hi.2, e]; rfl⟩, aC, MT⟩
   have hn : sT c.toNat = true ↔ (97 <= c.toNat /\ c.toNat <= 122) \/ (48 <= c.toNat /\ c.toNat <= 57) \/ c.toNat = 95 := by
    simp only [sT, lower, Bool.or_eq_true, Gf, decide_eq_true_eq, beq_iff_eq]; omega
   have hn' : sT c.toNat = false ↔ ¬ ((97 <= c.toNat /\ c.toNat <= 122) \/ (48 <= c.toNat /\ c.toNat <= 57) \/ c.toNat = 95) := by
    rw [<- hn]; simp
   refine ⟨aC, c, by simpa using hc, ?_⟩
   clear hK hi hhd hcc hn'
   rw [hn] at next
   have stop := λ e => stop (by rw [<- Bool.not_eq_true, hn]; exact e)
   clear hn
   repeat' (first | (refine aB (λ _ => ?_) (λ _ => ?_)) | exact stop (by simp only [decide_eq_true_eq, decide_eq_false_iff_not, bne_iff_ne, ne_eq, beq_iff_eq, beq_eq_false_iff_ne, bne_eq_false_iff_eq, V5, X4] at *; omega) | exact next (by simp only [decide_eq_true_eq, decide_eq_false_iff_not, bne_iff_ne, ne_eq, beq_iff_eq, beq_eq_false_iff_ne, bne_eq_false_iff_eq, V5, X4] at *; omega))
 . have := hi.2
   rw [EC aC] at this
   have h5 : lower c0.toNat = true := by simp only [lower, Gf, decide_eq_true_eq]; omega
   have h1' : 1 <= s.size := by omega
   have h2' : s.size <= 32 := by omega
   simp only [lT, this, hhd, h5, decide_eq_true h1', decide_eq_true h2']; rfl
theorem Ng : Tryz.prog.underlying 9 = some .string := by kernel_rfl
theorem AJ : KeyLaw Tryz.prog 9 (λ v => ∃ s, v = .string s) := by
 refine ⟨⟨_, Ng⟩, ?_, ?_, ?_⟩
 . rintro _ w b ⟨s, rfl⟩
   have e : ∀ n : Nat, (Instr.checkKey b (n + 1) 9 (.string s)).run Tryz.prog w = .ok () w := λ n => by
    unfold Instr.checkKey
    simp only [Sem.run_bind, run_underlying Ng, Result.andThen]
    simp
   exact e 9999
 . rintro _ _ w ⟨s, rfl⟩ ⟨t, rfl⟩
   refine ⟨_, run_equalIn_string w 9999 9 s t Ng, ?_⟩
   rw [beq_iff_eq]
   exact ⟨λ e => by rw [xE e], λ e => by injection e with e; rw [e]⟩
 . rintro d _ _ r hd ⟨s, rfl⟩ ⟨t, rfl⟩ h
   rw [Ng] at hd
   cases hd
   simp only [Instr.sameNow, sW] at h
   subst h
   rw [beq_toListBytes, beq_iff_eq]
   exact ⟨λ e => by rw [xE e], λ e => by injection e with e; rw [e]⟩
def eM {α : Type} (T : List α -> α -> Prop) (l : List α) (i : Nat) : Prop := ∀ j x, j < i -> l[j]? = some x -> T (l.take j) x
def Good {α : Type} (T : List α -> α -> Prop) (l : List α) : Prop := ∀ (j : Nat) x, l[j]? = some x -> T (l.take j) x
theorem eM.zero {α : Type} {T : List α -> α -> Prop} {l : List α} : eM T l 0 := λ _ _ h => by omega
theorem eM.succ {α : Type} {T : List α -> α -> Prop} {l : List α} {x : α} (h : eM T l i) (hx : l[i]? = some x) (t : T (l.take i) x) : eM T l (i + 1) := by
 intro j y hj hy
 by_cases e : j = i
 . subst e; rw [hx] at hy; cases hy; exact t
 . exact h j y aC hy
theorem eM.all {α : Type} {T : List α -> α -> Prop} {l : List α} (h : eM T l i) (hi : l.length <= i) : Good T l := λ j x hx => h j x (by have := (mG.1 hx).1; omega) hx
theorem Good.not {α : Type} {T : List α -> α -> Prop} {l : List α} {x : α} (hx : l[i]? = some x) (t : ¬ T (l.take i) x) : ¬ Good T l := λ h => t (h i x hx)
def Q1 (pre : List mF) (c : mF) : Prop := lT c.name = true /\ dO c.kind = true /\ c.name ∉ pre.map mF.name
def Aw (pre : List u7) (t : u7) : Prop := lT t.name = true /\ 1 <= t.key /\ t.key <= t.columns.length /\ t.name ∉ pre.map u7.name /\ Good Q1 t.columns
def gP (s : nX) (t : Int) : List Int := if t < 0 then [] else match s.tables[t.toNat]? with | none => [] | some t => t.columns.map mF.kind
def tK (s : nX) (t : Int) : Bool := decide (0 <= t) && decide (t < s.tables.length)
def aS (v : bL) : CV := .val (.agg ⟨v.enc⟩)
def pB (s : nX) : Prop := ∀ t ∈ s.tables, t.columns.length <= 8
def adQ : Vc.Spec := λ cvs m h K => ∃ v s t, cvs = [aS v, cI t] /\ gR h s v /\ K (cB (tK s t)) m h
def vA : Vc.Spec := λ cvs m h K => ∃ v s t, cvs = [aS v, cI t] /\ gR h s v /\ pB s /\ ∀ sl h', PH.le h h' -> Ints h' sl (gP s t) -> K (cS sl) m h'
noncomputable def NZ (m : MH) (h : PH) : Ctx :=
 dM [] [(5, { A := Nat × Sl × List Int, st := λ x => cH 35 37 [(5, .at (.lst 32)), (22, sv x.2.1), (23, iv x.2.1.len), (24, iv x.1)] [(32, .lst 3 1 (x.2.2.map eI))] m h })] [] [] false
noncomputable def YH (m : MH) (h : PH) : Ctx :=
 dM [(104, adQ)] [(5, { A := Nat × Sl × List Int, st := λ x => cH 38 40 [(5, .at (.lst 19)), (25, sv x.2.1), (26, iv x.2.1.len), (27, iv x.1)] [(19, .lst 3 1 (x.2.2.map eI))] m h })] [] [] false
noncomputable abbrev gL (a : bL) : Int := aG a.tables
attribute [push_cast] gL
def MK (v : bL) (t : Int) (m : MH) (h : PH) (K : CV -> MH -> PH -> Prop) : Prop :=
  fQ t 0 (K (AE (decide (t < gL v))) m h) (K aW m h)
noncomputable abbrev pK (a : bL) : Option Addr := a.tables.a
noncomputable abbrev aM (a : Sl) : List Value := iK (eA a)
abbrev II (a : bL) (b c : Int) (d : MH) (e : PH) (g i : Nat -> Nat) (j : Nat) (k : Sl -> Sl) (l : Sl -> (Nat × Sl × List Int -> Prop) -> (Nat × Sl × List Int) -> Prop) (n : (Nat × Sl × List Int -> Prop) -> (Nat × Sl × List Int -> Nat) -> (Nat × Sl × List Int) -> Prop) : Prop := aT (λ x x1 => aA (aU (pK a) x x1) (b <= c) (c < aG a.tables /\ ∃ (x2 : Sl), aL d e (g x) (fM (i x1) c j + 1) (aM (k x2)) /\ ∃ (x3 : Nat × Sl × List Int -> Prop) (x4 : Nat × Sl × List Int -> Nat), (∃ (x5 : Nat × Sl × List Int), l x2 x3 x5) /\ ∀ (x5 : Nat × Sl × List Int), n x3 x4 x5))
abbrev bD (a b : Sl) : Prop := Ya a = Ya b
noncomputable abbrev kI (a : Nat × Sl × List Int) : Sl := a.2.1
abbrev cM (a b : Sl) : Prop := bV a.len = bV b.len
abbrev rQ (a : List Int) : Prop := Option.some (Own.lst 3 1 []) = Option.some (Own.lst 3 1 (List.map eI a))
noncomputable abbrev qD (a : Nat × Sl × List Int) : List Int := a.2.2
abbrev gH (a : Nat) : Prop := a <= 140737488355328
noncomputable abbrev iI (a : List Int) : List (List Value) := List.map eI a
abbrev C7 (a : List Int) : Prop := gH (((iI a).length + 1) * 8)
abbrev iA (a : List (List Value)) : Prop := a.length < 140737488355328
abbrev IH (a : Prop) (b : Nat × Sl × List Int) (c : Int) (d : Nat -> Nat -> mF -> Prop) (e : mF -> (Nat × Sl × List Int) -> Prop) (g : Prop) : Prop := a -> bA (↑b.1 : Int) (aG (kI b)) (aT (λ x x1 => aA (aU (kI b).a x x1) (c <= (↑b.1 : Int)) ((↑b.1 : Int) < aG (kI b) /\ ∃ (x2 : mF), aA (d x x1 x2) (C7 (qD b)) (iA (iI (qD b)) /\ ∃ (x3 : Nat × Sl × List Int), e x2 x3)))) g
noncomputable abbrev zU (a : mF) : Value := Value.string a.name
noncomputable abbrev cT (a : List Value) : List (List Value) := [a]
abbrev rT (a : List Int) (b : Int) (c : List Int) : Prop := Option.some (Own.lst 3 1 (iI a ++ cT (bZ b))) = Option.some (Own.lst 3 1 (List.map eI c))
abbrev qT (a : Sl -> PH -> Prop) : Prop := ∀ (x : Sl) (x1 : PH), a x x1
abbrev dG (a : Nat -> Nat -> Option Value) (b : PH) (c d : Prop) : Prop := bK (PH.le a b) c d
abbrev bH (a : PH) (b : Nat) (c : List (List Value)) (d : Sl -> PH -> Prop) : Prop := qT (λ x x1 => dG a x1 (cN x1 x b c) (d x x1))
attribute [push_cast] pK aM II bD kI cM rQ qD gH iI C7 iA IH zU cT rT qT dG bH
def P7 (v : bL) (t : Int) (m : MH) (h : PH) (K : CV -> MH -> PH -> Prop) : Prop :=
  bA t 0 (K jZ m h) (fQ t (gL v) (K jZ m h) (II v 0 t m h (λ b => b) (λ o => o) 5 (λ y => y) (λ y I x => aA (I x) (eL 32) (aA (bD y (kI x)) (cM y (kI x)) (aA (bC x.1) (rQ (qD x)) (aA (m = m) (h = h) True)))) (λ I m1 x => IH (I x) x 0 (λ b o y => aL m h b (bN o x.1 2) (iD (zU y) (dQ y.kind))) (λ y x1 => aA (I x1) (m1 x1 < m1 x) (aA (eL 32) (bD (kI x) (kI x1)) (aA (cM (kI x) (kI x1)) (fK (bE x.1 1) = bV x1.1) (aA (rT (qD x) y.kind (qD x1)) (m = m) (cV h h))))) (bH h 1 (iI (qD x)) (λ s h1 => K (cK s) m h1)))))
abbrev lH (a : bL -> nX -> Prop) : Prop := ∃ (x : bL) (x1 : nX), a x x1
noncomputable abbrev pP (a : bL) : Value := dQ a.version
noncomputable abbrev pO (a : bL) : Value := eA a.tables
noncomputable abbrev cF (a : bL) : CV := kE (iD (pP a) (pO a))
abbrev qJ (a : Int) : Prop := a <= 281474976710656
attribute [push_cast] lH pP pO cF qJ
def PU (v : bL) (t : Int) (m : MH) (h : PH) (K : CV -> MH -> PH -> Prop) : Prop :=
  lH (λ v1 s => ∃ (t1 : Int), aA (bB (cF v) t = bB (cF v1) t1) (gR h s v1) (gK (tK s t1) (K jZ m h) (aT (λ b o => aA (aU (pK v) b o) (0 <= t) (t < aG v.tables /\ ∃ (y : Sl), aA (aL m h b (fM o t 5 + 1) (aM y)) (cA 0) (aA (cA (aG y)) (qJ (aG y * 8)) (qJ (aG y) /\ II v 0 t m h (λ b1 => b1) (λ o1 => o1) 5 (λ y1 => y1) (λ y1 I x => aA (I x) (eL 19) (aA (bD y1 (kI x)) (cM y1 (kI x)) (aA (bC x.1) (rQ (qD x)) (aA (m = m) (h = h) True)))) (λ I m1 x => IH (I x) x 0 (λ b1 o1 y1 => aL m h b1 (bN o1 x.1 2) (iD (zU y1) (dQ y1.kind))) (λ y1 x1 => aA (I x1) (m1 x1 < m1 x) (aA (eL 19) (bD (kI x) (kI x1)) (aA (cM (kI x) (kI x1)) (fK (bE x.1 1) = bV x1.1) (aA (rT (qD x) y1.kind (qD x1)) (m = m)
 (cV h h))))) (bH h 1 (iI (qD x)) (λ s1 h1 => K (cK s1) m h1))))))))))
theorem aZ.part {o : Nat} {l : List Value} (r : aZ h b o l) (k n : Nat) : aZ h b (o + k) ((l.drop k).take n) :=
 ⟨λ i v e => by
  have : l[k + i]? = some v := by
   rw [DT] at e
   split at e
   . rwa [List.getElem?_drop] at e
   . cases e
  have := r.rd (k + i) v this
  rwa [<- Nat.add_assoc] at this⟩
theorem BY.at {s : Sl} {l : List mF} (r : BY h s l) {x : mF} (hi : l[i]? = some x) : ∃ b o, s.a = some ⟨b, o, none⟩ /\ aZ h b (o + i * 2) (mF.enc x) := by
 obtain ⟨b, o, v, e, k, rfl⟩ := bW.at r hi
 exact ⟨b, o, e, k⟩
theorem Cq {t : Int} (h : ¬ (0 <= t /\ t < s.tables.length)) : gP s t = [] := by
 unfold gP
 split
 . rfl
 . rw [OF aC]
theorem HS {t : Int} {x : u7} (h : 0 <= t) (hx : s.tables[t.toNat]? = some x) : gP s t = x.columns.map mF.kind := by
 unfold gP
 rw [if_neg aC, hx]
theorem gR.table {v : bL} (hs : gR h s v) {t : Int} (h0 : 0 <= t) (h1 : t < (v.tables.len : Int)) : ∃ x b o w, s.tables[t.toNat]? = some x /\ v.tables.a = some ⟨b, o, none⟩ /\ aZ h b (o + t.toNat * 5) (bR.enc w) /\ Hv h x w := by
 have hl := hs.tables.slen
 have hx : s.tables[t.toNat]? = some (s.tables[t.toNat]'(by omega)) := kP _
 obtain ⟨b, o, w, e, r, k⟩ := hs.tables.at hx
 exact ⟨_, b, o, w, hx, e, r, k⟩
theorem fL {α β : Type} {f : α -> β} {l : List α} {x : α} (hx : l[i]? = some x) : (l.take (i + 1)).map f = (l.take i).map f ++ [f x] := by
 rw [EA, hx]; simp
theorem KA : Sound Tryz.prog 104 adQ := by
 refine gX Tryz.func104 ?_
 rintro cvs m h K ⟨v, s, t, rfl, hs, hK⟩
 refine ⟨dM [] [] [] [] false, rfl, aF, MK v t m h K, by kernel_rfl, ?_⟩
 dsimp only [MK, push_cast]
 have hl := hs.tables.slen
 refine aE (λ h1 => gI hK ?_) (λ h1 => gI hK ?_)
 . have h1 : 0 <= t := h1
   simp only [tK, hl, decide_eq_true h1, Q6]
 . have h1 : ¬ 0 <= t := by omega
   simp only [tK, decide_eq_false h1, Tk]
theorem Du : Sound Tryz.prog 44 vA := by
 refine gX Tryz.func44 ?_
 rintro cvs m h K ⟨v, s, t, rfl, hs, h8, hK⟩
 refine ⟨NZ m h, rfl, aF, P7 v t m h K, by kernel_rfl, ?_⟩
 dsimp only [P7, push_cast]
 have hl := hs.tables.slen
 have hnil : gP s t = [] -> K (.val (.slice none 0 0)) m h := λ e => hK ⟨none, 0, 0⟩ h (.refl _) (by rw [e]; exact ⟨.nil _ _, by simp⟩)
 refine aE (λ h1 => hnil (Cq aC)) (λ h1 => aE (λ h2 => hnil (Cq aC)) (λ h2 => ?_))
 obtain ⟨x, b, o, w, hx, ea, hr, hrep⟩ := hs.table (t := t) aC aC
 have hx8 := h8 x (lP hx)
 have hcl := bW.slen hrep.columns
 rw [HS aC hx] at hK
 refine ⟨b, o, ea, aC, aC, w.columns, .imm (aZ.part hr 1 1), λ ⟨i, sl, l⟩ => sl = w.columns /\ i <= x.columns.length /\ l = (x.columns.take i).map mF.kind, λ ⟨i, _, _⟩ => x.columns.length - i, ⟨(0, w.columns, []), ⟨rfl, by simp, by simp⟩, MT⟩, ?_⟩
 rintro ⟨i, _, _⟩ ⟨rfl, hi, rfl⟩
 dsimp only
 refine aE (λ hlt => ?_) (λ hge sl h' hle hrow => ?_)
 . obtain ⟨c, hc⟩ := fE hcl hlt
   obtain ⟨b, o, e, r⟩ := BY.at hrep.columns hc
   refine ⟨b, o, e, aC, hlt, c, .imm r, ?_, ?_, (i + 1, w.columns, (x.columns.take (i + 1)).map mF.kind), ⟨rfl, aC, rfl⟩, by show x.columns.length - (i + 1) < x.columns.length - i; omega, ?_⟩
   . simp; omega
   . simp; omega
   . rw [fL hc, xH]
     exact MT
 . rw [EC aC] at hrow
   exact hK sl h' hle ⟨hrow, by simp; omega⟩
theorem LQ : Sound Tryz.prog 72 vA := by
 refine gX Tryz.func72 ?_
 rintro cvs m h K ⟨v, s, t, rfl, hs, h8, hK⟩
 refine ⟨YH m h, rfl, aD KA aF, PU v t m h K, by kernel_rfl, ?_⟩
 dsimp only [PU, push_cast]
 have hl := hs.tables.slen
 have hnil : gP s t = [] -> K (.val (.slice none 0 0)) m h := λ e => hK ⟨none, 0, 0⟩ h (.refl _) (by rw [e]; exact ⟨.nil _ _, by simp⟩)
 refine ⟨v, s, t, rfl, hs, aB (λ h1 => hnil (Cq ?_)) (λ h1 => ?_)⟩
 . simp only [tK, V5, Bool.and_eq_false_iff, decide_eq_false_iff_not] at h1; omega
 simp only [tK, X4, Gf, decide_eq_true_eq] at h1
 obtain ⟨x, b, o, w, hx, ea, hr, hrep⟩ := hs.table (t := t) aC aC
 have hx8 := h8 x (lP hx)
 have hcl := bW.slen hrep.columns
 rw [HS aC hx] at hK
 refine ⟨b, o, ea, aC, aC, w.columns, .imm (aZ.part hr 1 1), aC, aC, aC, aC, b, o, ea, aC, aC, w.columns, .imm (aZ.part hr 1 1), λ ⟨i, sl, l⟩ => sl = w.columns /\ i <= x.columns.length /\ l = (x.columns.take i).map mF.kind, λ ⟨i, _, _⟩ => x.columns.length - i, ⟨(0, w.columns, []), ⟨rfl, by simp, by simp⟩, MT⟩, ?_⟩
 rintro ⟨i, _, _⟩ ⟨rfl, hi, rfl⟩
 dsimp only
 refine aE (λ hlt => ?_) (λ hge sl h' hle hrow => ?_)
 . obtain ⟨c, hc⟩ := fE hcl hlt
   obtain ⟨b, o, e, r⟩ := BY.at hrep.columns hc
   refine ⟨b, o, e, aC, hlt, c, .imm r, ?_, ?_, (i + 1, w.columns, (x.columns.take (i + 1)).map mF.kind), ⟨rfl, aC, rfl⟩, by show x.columns.length - (i + 1) < x.columns.length - i; omega, ?_⟩
   . simp; omega
   . simp; omega
   . rw [fL hc, xH]
     exact MT
 . rw [EC aC] at hrow
   exact hK sl h' hle ⟨hrow, by simp; omega⟩
def Sub (m m' : MH) : Prop := ∀ b o, m b = some o -> m' b = some o
theorem Sub.refl (m : MH) : Sub m m := λ _ _ e => e
theorem Sub.free (h : Sub m m') (hb : m' b = none) : m b = none := by
 cases e : m b with
 | none => rfl
 | some o => rw [h b o e] at hb; cases hb
theorem Sub.upd {mx : MH} (h : Sub m mx) (hb : m b = none) (ho : ∀ b', b' ≠ b -> m' b' = mx b') : Sub m m' := λ b' o e => by
 have hne : b' ≠ b := λ e' => by rw [e', hb] at e; cases e
 rw [ho b' hne, h b' o e]
def Hw (m : MH) (b : Nat) (ns : List ByteArray) : Prop := zN m b (ns.map λ n => (.string n, .bool true))
theorem Hw.other {b' : Nat} {ns : List ByteArray} (h : Hw m b ns) (hne : b ≠ b') (ho : ∀ c, c ≠ b' -> m' c = m c) : Hw m' b ns := by
 obtain ⟨es, cl, h1, h2⟩ := h.ex
 exact ⟨es, cl, by rw [ho b hne, h1], h2⟩
def XL : Vc.Spec := λ cvs m h K => ∃ v s, cvs = [aS v] /\ gR h s v /\ ∀ r : Bool, (r = true ↔ Good Aw s.tables) -> K (cB r) m h
def Xx : Vc.Spec := λ cvs m h K => ∃ v s t, ∃ i : Nat, cvs = [aS v, cI i] /\ gR h s v /\ s.tables[i]? = some t /\ ∀ r : Bool, (r = true ↔ Aw (s.tables.take i) t) -> K (cB r) m h
noncomputable def Xf (v : bL) (h : PH) : Ctx :=
 dM [(135, Ul)] [(3, { A := Nat × Nat × MH, st := λ ⟨i, b1, mx⟩ => cH 79 80 [(3, vv (.map (some b1))), (11, sv v.tables), (12, iv v.tables.len), (13, iv i)] [] mx h }),
  (10, { A := Nat × Nat × Nat × Nat × Sl × MH, st := λ ⟨i, k, b1, b2, sl, mx⟩ => cH 79 80 [(3, vv (.map (some b1))), (6, vv (.map (some b2))), (11, sv v.tables), (12, iv v.tables.len), (13, iv i), (45, sv sl), (46, iv sl.len), (47, iv k)] [] mx h })] [] [] false
noncomputable def Yz (v : bL) (i : Nat) (m : MH) (h : PH) : Ctx :=
 dM [(122, Ul), (93, XN)] [(5, { A := Nat × bR, st := λ ⟨k, w⟩ => cH 94 96 [(1, iv i), (2, .at (.ptr 2 0)), (5, .at (.ptr 5 0)), (6, iv k)] [(2, .cells 43 (v.enc.map .val)), (5, .cells 86 (w.enc.map .val))] m h }),
  (10, { A := Nat × bR, st := λ ⟨k, w⟩ => cH 94 96 [(5, .at (.ptr 5 0)), (53, iv w.columns.len), (54, iv k)] [(5, .cells 86 (w.enc.map .val))] m h }),
  (15, { A := Nat × Nat × bR, st := λ ⟨k, j, w⟩ => cH 94 96 [(5, .at (.ptr 5 0)), (7, iv k), (8, iv j), (53, iv w.columns.len), (54, iv k)] [(5, .cells 86 (w.enc.map .val))] m h })] [] [] false
abbrev Bf (a : MH) (b : PH) (c : Nat) (d : Nat -> MH -> Prop) : Prop := ∀ (x : Nat) (x1 : MH), bK (cD a b x) (jH a x1 x (Obj.map (Array.mk []) c)) (d x x1)
noncomputable abbrev BM (a : Nat) : Value := Value.map (Option.some a)
abbrev Ej (a b : Nat) : Prop := SV.at (At.val (BM a)) = SV.at (At.val (BM b))
abbrev lG (a : bL) : Prop := aI a.tables
abbrev fV (a : bL) : Prop := bI a.tables
abbrev CX (a : Prop) (b : Nat) (c : bL) (d : Nat -> Nat -> bR -> Prop) (e : Prop) : Prop := a -> bA (↑b : Int) (aG c.tables) (aT (λ x x1 => aA (aU (pK c) x x1) (0 <= (↑b : Int)) ((↑b : Int) < aG c.tables /\ ∃ (x2 : bR), d x x1 x2))) e
noncomputable abbrev uJ (a : bR) : List Value := aJ (Value.string a.name) (eA a.columns) (aJ (dQ a.key) (eA a.references) (aM a.checks))
noncomputable abbrev iR (a : ByteArray) : CV := CV.val (Value.string a)
abbrev mQ (a : CV -> MH -> PH -> Prop) (b : Nat × Nat × MH) (c : PH) : Prop := a aW (fO b) c
abbrev qC (a : Value -> Prop) : Prop := KeyLaw Proofs.Tryz.prog 9 a
abbrev IN (a : MH) (b : Nat) (c : (Value -> Prop) -> Prop) (d : (List (Value × Bool)) -> (Value × Bool) -> Prop) (e : Prop) (g : Value) (i : Prop) : Prop := ∃ (x : List (Value × Bool)) (x1 : Value -> Prop), aA (zN a b (List.map (fun (x2 : Value × Bool) => (x2.1, Value.bool x2.2)) x)) (qC x1) (aA (c x1) (∀ (x2 : Value × Bool), List.Mem x2 x -> x1 x2.1) (((∀ (x2 : Value × Bool), d x x2) -> e) /\ ∀ (x2 : Bool), fP (List.Mem (g, x2) x) x2 i e))
noncomputable abbrev Dn (a : bR) : Value := Value.string a.name
abbrev oE (a b : Prop) : Prop := bK a b False
noncomputable abbrev AR (a : bR) : Int := aG a.columns
abbrev vL (a : (List (Value × Value)) -> (Value -> Prop) -> Prop) : Prop := ∃ (x : List (Value × Value)) (x1 : Value -> Prop), a x x1
abbrev vD (a : Value × Value) (b : List (Value × Value)) (c : Value -> Prop) : Prop := List.Mem a b -> c a.1
noncomputable abbrev kN (a b : Value) (c : List (Value × Value)) : List (Value × Value) := (a, b) :: c
noncomputable abbrev vJ (a b : Value) : List (Value × Value) := kN a b []
noncomputable abbrev zW  : Value := Value.bool true
abbrev ND (a : Nat -> Option Obj) (b : Nat) (c : (Value -> Prop) -> Prop) (d : Value) (e : MH -> Prop) : Prop := vL (λ x x1 => aA (zN a b x) (qC x1) (aA (c x1) (∀ (x2 : Value × Value), vD x2 x x1) ((∀ (x2 : Value × Value), oE (List.Mem x2 x) (x2.1 = d)) /\ ∀ (x2 : MH), bK (iF a x2 b) (zN x2 b (x ++ vJ d zW)) (e x2))))
noncomputable abbrev GC (a : Nat × Nat × Nat × Nat × Sl × MH) : Nat := a.2.2.2.1
abbrev cC (a b : Nat) : Prop := bV a = bV b
noncomputable abbrev zY (a : Nat × Nat × Nat × Nat × Sl × MH) : Sl := a.2.2.2.2.1
noncomputable abbrev vI (a : Nat × Nat × Nat × Nat × Sl × MH) : Nat := a.2.1
noncomputable abbrev xQ (a : Nat × Nat × Nat × Nat × Sl × MH) : Nat -> Option Obj := a.2.2.2.2.2
abbrev NA (a : mF) (b : Int) (c : Prop) (d : (Nat × Nat × Nat × Nat × Sl × MH) -> Prop) : Prop := branch (a.kind != b) c (∃ (x : Nat × Nat × Nat × Nat × Sl × MH), d x)
abbrev IU (a b : Nat × Nat × Nat × Nat × Sl × MH) : Prop := Ej a.2.2.1 b.2.2.1
abbrev IV (a b : Nat × Nat × Nat × Nat × Sl × MH) : Prop := Ej (GC a) (GC b)
abbrev IW (a b : Nat × Nat × Nat × Nat × Sl × MH) : Prop := cC a.1 b.1
abbrev IX (a b : Nat × Nat × Nat × Nat × Sl × MH) : Prop := bD (zY a) (zY b)
abbrev IY (a b : Nat × Nat × Nat × Nat × Sl × MH) : Prop := cM (zY a) (zY b)
attribute [push_cast] Bf BM Ej lG fV CX uJ iR mQ qC IN Dn oE AR vL vD kN vJ zW ND GC cC zY vI xQ NA IU IV IW IX IY
def Hk (v : bL) (m : MH) (h : PH) (K : CV -> MH -> PH -> Prop) : Prop :=
  Bf m h 0 (λ b m1 => ∃ (I : Nat × Nat × MH -> Prop) (m2 : Nat × Nat × MH -> Nat), NB (λ x => aA (I x) (Ej b (iN x)) (aA (lG v) (fV v) (bM (bC x.1) (m1 = fO x) (h = h)))) (λ x => CX (I x) x.1 v (λ b1 o y => aL (fO x) h b1 (bN o x.1 5) (uJ y) /\ ∃ (s : ByteArray), qB (iR y.name) (iR s) (gK (lT s) (mQ K x h) (IN (fO x) (iN x) (λ O => O (Dn y)) (λ k e => oE (List.Mem e k) (e.1 = Dn y)) (bA y.key 1 (mQ K x h) (eJ y.key (AR y) (mQ K x h) (ND (fO x) (iN x) (λ O => O (Dn y)) (Dn y) (λ m3 => Bf m3 h 0 (λ b2 m4 => ∃ (I1 : Nat × Nat × Nat × Nat × Sl × MH -> Prop) (m5 : Nat × Nat × Nat × Nat × Sl × MH -> Nat), (∃ (x1 : Nat × Nat × Nat × Nat × Sl × MH), aA (I1 x1) (Ej (iN x) x1.2.2.1) (aA (Ej b2 (GC x1)) (lG
 v) (aA (fV v) (cC x.1 x1.1) (aA (bD y.columns (zY x1)) (cM y.columns (zY x1)) (bM (bC (vI x1)) (m4 = xQ x1) (h = h)))))) /\ ∀ (x1 : Nat × Nat × Nat × Nat × Sl × MH), I1 x1 -> bA (↑(vI x1) : Int) (aG (zY x1)) (aT (λ b3 o1 => aA (aU (zY x1).a b3 o1) (0 <= (↑(vI x1) : Int)) ((↑(vI x1) : Int) < aG (zY x1) /\ ∃ (y1 : mF), aL (xQ x1) h b3 (bN o1 (vI x1) 2) (iD (zU y1) (dQ y1.kind)) /\ ∃ (s1 : ByteArray), qB (iR y1.name) (iR s1) (gK (lT s1) (K aW (xQ x1) h) (IN (xQ x1) (GC x1) (λ O => O (zU y1)) (λ k e => oE (List.Mem e k) (e.1 = zU y1)) (ND (xQ x1) (GC x1) (λ O => O (zU y1)) (zU y1) (λ m6 => NA y1 3 (NA y1 4 (NA y1 5 (K aW m6 h) (λ x2 => aA (I1 x2) (m5 x2 < m5 x1) (aA (IU x1 x2)
 (IV x1 x2) (aA (lG v) (fV v) (aA (IW x1 x2) (IX x1 x2) (lX (IY x1 x2) (fK (bE (vI x1) 1) = bV (vI x2)) (m6 = xQ x2) (h = h))))))) (λ x2 => aA (I1 x2) (m5 x2 < m5 x1) (aA (IU x1 x2) (IV x1 x2) (aA (lG v) (fV v) (aA (IW x1 x2) (IX x1 x2) (lX (IY x1 x2) (fK (bE (vI x1) 1) = bV (vI x2)) (m6 = xQ x2) (h = h))))))) (λ x2 => aA (I1 x2) (m5 x2 < m5 x1) (aA (IU x1 x2) (IV x1 x2) (aA (lG v) (fV v) (aA (IW x1 x2) (IX x1 x2) (lX (IY x1 x2) (fK (bE (vI x1) 1) = bV (vI x2)) (m6 = xQ x2) (h = h)))))))) (zU y1) (K aW (xQ x1) h)))))) (∃ (x2 : Nat × Nat × MH), aA (I x2) (m2 x2 < m2 x) (aA (Ej x1.2.2.1 (iN x2)) (lG v) (aA (fV v) (fK (bE x1.1 1) = bV x2.1) (aA (xQ x1 = fO x2) (h
 = h) True))))))))) (Dn y) (mQ K x h)))) (K fJ (fO x) h)))
abbrev IB (a : (Nat × bR -> Prop) -> (Nat × bR) -> Prop) (b : (Nat × bR -> Prop) -> (Nat × bR -> Nat) -> (Nat × bR) -> Prop) : Prop := ∃ (x : Nat × bR -> Prop) (x1 : Nat × bR -> Nat), (∃ (x2 : Nat × bR), a x x2) /\ ∀ (x2 : Nat × bR), b x x1 x2
noncomputable abbrev GF (a : bL) : List At := pR (mK a.version) (Aa a.tables)
abbrev bT (a : bL) : Prop := eQ (oQ 43 (GF a))
noncomputable abbrev yJ (a : At) : List At := [a]
noncomputable abbrev eR (a : bR) : List At := mJ (Oc a.name) (Aa a.columns) (mJ (mK a.key) (Aa a.references) (yJ (Aa a.checks)))
abbrev Bi (a : bR) (b : Nat × bR) : Prop := oQ 86 (eR a) = oQ 86 (eR b.2)
abbrev IZ (a : Option Addr) (b : Int) (c : Nat) (d : Sl) (e : Nat -> Nat -> ByteArray -> Prop) : Prop := aT (λ x x1 => aA (aU a x x1) (b <= (↑c : Int)) ((↑c : Int) < aG d /\ ∃ (x2 : ByteArray), e x x1 x2))
noncomputable abbrev nU (a : Nat × Nat × bR) : Nat := a.2.1
noncomputable abbrev jF (a : Nat × Nat × bR) : bR := a.2.2
attribute [push_cast] IB GF bT yJ eR Bi IZ nU jF
def PI (v : bL) (i : Nat) (m : MH) (h : PH) (K : CV -> MH -> PH -> Prop) : Prop :=
  aT (λ b o => aA (aU (pK v) b o) (0 <= (↑i : Int)) ((↑i : Int) < aG v.tables /\ ∃ (y : bR), aL m h b (bN o i 5) (uJ y) /\ ∃ (s : ByteArray), qB (iR y.name) (iR s) (cW (!(lT s)) (K aW m h) (AR y == 0) (K aW m h) (bA y.key 1 (K aW m h) (eJ y.key (AR y) (K aW m h) (IB (λ I x => aA (I x) (eQ (bV i)) (aA (eP 2) (eP 5) (aA (bC x.1) (bT v) (aA (Bi y x) (m = m) (cV h h))))) (λ I m1 x => I x -> bA (↑x.1 : Int) (↑i : Int) (IZ (pK v) 0 x.1 v.tables (λ b1 o1 y1 => aL m h b1 (bN o1 x.1 5 + 0) (iK (Value.string y1)) /\ branch (y1.toList == x.2.name.toList) (K aW m h) (∃ (x1 : Nat × bR), aA (I x1) (m1 x1 < m1 x) (aA (eQ (bV i)) (eP 2) (aA gJ (fK (bE x.1 1) = bV x1.1) (aA (bT v) (Bi x.2 x1) (dT m m h h))))))) (IB (λ I1 x1 => aA
 (I1 x1) gJ (aA (cM x.2.columns x1.2.columns) (bC x1.1) (bM (Bi x.2 x1) (m = m) (h = h)))) (λ I1 m2 x1 => I1 x1 -> bA (↑x1.1 : Int) (aG x1.2.columns) (aT (λ b1 o1 => aA (aU x1.2.columns.a b1 o1) (0 <= (↑x1.1 : Int)) ((↑x1.1 : Int) < aG x1.2.columns /\ ∃ (y1 : ByteArray), aL m h b1 (bN o1 x1.1 2 + 0) (iK (Value.string y1)) /\ ∃ (s1 : ByteArray), qB (iR y1) (iR s1) (gK (lT s1) (K aW m h) (aT (λ b2 o2 => aA (aU x1.2.columns.a b2 o2) (0 <= (↑x1.1 : Int)) ((↑x1.1 : Int) < aG x1.2.columns /\ ∃ (y2 : Int), aL m h b2 (bN o2 x1.1 2 + 1) (bZ y2) /\ jL y2 (λ k => gK (dO k) (K aW m h) (∃ (I2 : Nat × Nat × bR -> Prop) (m3 : Nat × Nat × bR -> Nat), (∃ (x2 : Nat × Nat × bR), aA (I2 x2) gJ (aA (cC x1.1 x2.1) (bC (nU x2)) (aA (cM x1.2.columns (jF x2).columns)
 (cC x1.1 x2.1) (aA (oQ 86 (eR x1.2) = oQ 86 (eR (jF x2))) (m = m) (cV h h))))) /\ ∀ (x2 : Nat × Nat × bR), I2 x2 -> bA (↑(nU x2) : Int) (↑x2.1 : Int) (IZ (jF x2).columns.a 0 (nU x2) (jF x2).columns (λ b3 o3 y3 => aL m h b3 (bN o3 (nU x2) 2 + 0) (iK (Value.string y3)) /\ IZ (jF x2).columns.a 0 x2.1 (jF x2).columns (λ b4 o4 y4 => aL m h b4 (bN o4 x2.1 2 + 0) (iK (Value.string y4)) /\ branch (y3.toList == y4.toList) (K aW m h) (∃ (x3 : Nat × Nat × bR), aA (I2 x3) (m3 x3 < m3 x2) (aA gJ (cC x2.1 x3.1) (aA (fK (bE (nU x2) 1) = bV (nU x3)) (cM (jF x2).columns (jF x3).columns) (aA (cC x2.1 x3.1) (oQ 86 (eR (jF x2)) = oQ 86 (eR (jF x3))) (dT m m h h)))))))) (∃ (x3 : Nat × bR), aA (I1 x3) (m2 x3 < m2 x1) (aA gJ (cM (jF
 x2).columns x3.2.columns) (aA (fK (bE x2.1 1) = bV x3.1) (Bi (jF x2) x3) (aA (m = m) (h = h) True))))))))))))) (K fJ m h))))))))))
theorem Hw.snoc {ns : List ByteArray} {n : ByteArray} (h : zN m b ((ns.map λ n => (Value.string n, Value.bool true)) ++ [(.string n, .bool true)])) : Hw m b (ns ++ [n]) := by
 unfold Hw; rw [xH]; exact h
theorem Hw.look {ns : List ByteArray} (h : Hw m b ns) : zN m b (List.map (λ p : Value × Bool => (p.fst, Value.bool p.snd)) (ns.map λ n => (Value.string n, true))) := by
 rw [List.map_map]; exact h
theorem E4 {β : Type} {ns : List ByteArray} {x : β} : ∀ e : Value × β, e ∈ (ns.map λ n => (Value.string n, x)) -> ∃ s, e.fst = .string s := λ e he => by
 obtain ⟨n, _, rfl⟩ := mH.1 he
 exact ⟨n, rfl⟩
theorem Pj {β : Type} {ns : List ByteArray} {x : β} {n : ByteArray} (h : n ∉ ns) : ∀ e : Value × β, e ∈ (ns.map λ n => (Value.string n, x)) -> e.fst = .string n -> False := λ e he h' => by
 obtain ⟨n', hn, rfl⟩ := mH.1 he
 exact h (by have : n' = n := (by injection h'); rwa [<- this])
theorem CW {β : Type} {ns : List ByteArray} {x : β} {n : ByteArray} (h : ∀ e : Value × β, e ∈ (ns.map λ n => (Value.string n, x)) -> e.fst = .string n -> False) : n ∉ ns := λ hn => h (.string n, x) (mH.2 ⟨n, hn, rfl⟩) rfl
theorem Pk {β : Type} {ns : List ByteArray} {x y : β} {n : ByteArray} (h : (Value.string n, y) ∈ (ns.map λ n => (Value.string n, x))) : n ∈ ns /\ y = x := by
 obtain ⟨n', hn, e⟩ := mH.1 h
 injection e with e1 e2
 injection e1 with e1
 exact ⟨by rwa [<- e1], e2.symm⟩
theorem SH : Sound Tryz.prog 111 XL := by
 refine FN Tryz.func111 ?_
 rintro cvs m h K ⟨v, s, rfl, hs, hK⟩
 refine ⟨Xf v h, rfl, aD Sp aF, Hk v m h (kB h K), by kernel_rfl, ?_⟩
 show Hk v m h (kB h K)
 dsimp only [Hk, push_cast]
 have hl := hs.tables.slen
 have hlen := hs.tables.len
 have hf : ¬ Good Aw s.tables -> K (cB false) m h := λ h => hK false ⟨λ e => (by cases e), λ e => (h e).elim⟩
 intro b m1 hb hm1
 refine ⟨λ ⟨i, b1, mx⟩ => i <= s.tables.length /\ Sub m mx /\ m b1 = none /\ Hw mx b1 ((s.tables.take i).map u7.name) /\ eM Aw s.tables i, λ ⟨i, _, _⟩ => s.tables.length - i, ⟨(0, b, m1), ⟨aC, (Sub.refl m).upd hb.m_ hm1.other, hb.m_, ⟨_, _, hm1.at_, rfl⟩, .zero⟩, MT⟩, ?_⟩
 rintro ⟨i, b1, mx⟩ ⟨hi, hsub, hb1, hmap, hgood⟩
 dsimp only
 refine aE (λ hlt => ?_) (λ hge => .sub hsub (hK true ⟨λ _ => hgood.all aC, λ _ => rfl⟩))
 obtain ⟨t, hx⟩ := fE hl hlt
 obtain ⟨bb, o, w, ea, hr, hrep⟩ := hs.tables.at hx
 have hcl := bW.slen hrep.columns
 have hcb := bW.len hrep.columns
 have hnm := hrep.name
 have hky := hrep.key
 have bad : ¬ Aw (s.tables.take i) t -> kB h K (.val (.bool false)) mx h := λ hn => .sub hsub (hf (Good.not hx hn))
 have rest : t.name ∉ (s.tables.take i).map u7.name -> lT w.name = true -> 1 <= w.key -> w.key <= w.columns.len -> Good Q1 t.columns -> Aw (s.tables.take i) t := λ h1 h2 h3 h4 h5 => ⟨by rw [<- hnm]; exact h2, by rw [<- hky]; exact h3, by rw [<- hky]; omega, h1, h5⟩
 refine ⟨bb, o, ea, aC, hlt, w, .imm hr, w.name, rfl, aB (λ h1 => bad λ ht => ?_) (λ h1 => ⟨_, _, hmap.look, AJ, ⟨_, rfl⟩, E4, λ hno => aE (λ h2 => bad λ ht => ?_) (λ h2 => aE (λ h3 => bad λ ht => ?_) (λ h3 => ⟨_, _, hmap, AJ, ⟨_, rfl⟩, E4, Pj (CW hno), λ m2 hs2 hm2 b2 m3 hb2 hm3 => ?_⟩)), λ y hy => ?_⟩)⟩
 . have := ht.1; rw [<- hnm] at this; rw [this] at h1; cases h1
 . have := ht.2.1; omega
 . have := ht.2.2.1; omega
 . have hm2 := Hw.snoc hm2
   have hsub2 : Sub m m2 := hsub.upd hb1 hs2.other
   have hsub3 : Sub m m3 := hsub2.upd (hsub2.free hb2.m_) hm3.other
   have hne : b1 ≠ b2 := λ e => by
    obtain ⟨es, cl, e1, _⟩ := hm2.ex
    rw [e, hb2.m_] at e1; cases e1
   have hno' : t.name ∉ (s.tables.take i).map u7.name := by rw [<- hnm]; exact CW hno
   rw [hnm, <- fL hx] at hm2
   refine ⟨λ ⟨i', k, b1', b2', sl, my⟩ => i' = i /\ b1' = b1 /\ b2' = b2 /\ sl = w.columns /\ k <= t.columns.length /\ Sub m my /\ Hw my b1 ((s.tables.take (i + 1)).map u7.name) /\ Hw my b2 ((t.columns.take k).map mF.name) /\ eM Q1 t.columns k, λ ⟨_, k, _, _, _, _⟩ => t.columns.length - k,
    ⟨(i, 0, b1, b2, w.columns, m3), ⟨rfl, rfl, rfl, rfl, aC, hsub3, hm2.other hne hm3.other, ⟨_, _, hm3.at_, rfl⟩, .zero⟩, MT⟩, ?_⟩
   rintro ⟨i, k, b1, b2, _, my⟩ ⟨rfl, rfl, rfl, rfl, hk, hsuby, hmy1, hmy2, hg2⟩
   dsimp only
   refine aE (λ hlt2 => ?_) (λ hge2 => ?_)
   . obtain ⟨c, hc⟩ := fE hcl hlt2
     obtain ⟨bc, oc, ec, rc⟩ := BY.at hrep.columns hc
     have cbad : ∀ mz, Sub m mz -> ¬ Q1 (t.columns.take k) c -> kB h K (.val (.bool false)) mz h := λ mz hz hn => .sub hz (hf (Good.not hx (λ ht => Good.not hc hn ht.2.2.2.2)))
     refine ⟨bc, oc, ec, aC, hlt2, c, .imm rc, c.name, rfl, aB (λ h4 => cbad my hsuby λ ht => ?_) (λ h4 => ⟨_, _, hmy2.look, AJ, ⟨_, rfl⟩, E4, λ hno2 => ⟨_, _, hmy2, AJ, ⟨_, rfl⟩, E4, Pj (CW hno2), λ m4 hs4 hm4 => ?_⟩, λ y hy => ?_⟩)⟩
     . rw [ht.1] at h4; cases h4
     . have hm4 := Hw.snoc hm4
       rw [<- fL hc] at hm4
       have hsub4 : Sub m m4 := hsuby.upd (hsub2.free hb2.m_) hs4.other
       have cgood : dO c.kind = true -> Q1 (t.columns.take k) c := λ e => ⟨by simpa using h4, e, CW hno2⟩
       have ckind : dO c.kind = false -> ¬ Q1 (t.columns.take k) c := λ e ht => by rw [ht.2.1] at e; cases e
       have m1' := hmy1.other hne hs4.other
       repeat' (first | (refine aB (λ _ => ?_) (λ _ => ?_)) | (refine cbad m4 hsub4 (ckind ?_); simp_all [dO]; done) | exact ⟨(i, k + 1, b1, b2, w.columns, m4), ⟨rfl, rfl, rfl, rfl, by show k + 1 <= t.columns.length; omega, hsub4, m1', hm4, hg2.succ hc (cgood (by simp_all [dO]))⟩, by show t.columns.length - (k + 1) < t.columns.length - k; omega, MT⟩)
     . obtain ⟨hin, rfl⟩ := Pk hy
       exact aB (λ _ => cbad my hsuby λ ht => ht.2.2 hin) (λ e => by cases e)
   . refine ⟨(i + 1, b1, my), ⟨aC, hsuby, hb1, hmy1, hgood.succ hx (rest hno' (by simpa using h1) aC aC (hg2.all aC))⟩, ?_, MT⟩
     show s.tables.length - (i + 1) < s.tables.length - i
     omega
 . obtain ⟨hin, rfl⟩ := Pk hy
   exact aB (λ _ => bad λ ht => ht.2.2.2.1 (by rw [<- hnm]; exact hin)) (λ e => by cases e)
theorem JK {α : Type} {f : α -> ByteArray} {l : List α} {x : α} {n : ByteArray} (hx : l[i]? = some x) (h : n ∉ (l.take i).map f) (hn : f x ≠ n) : n ∉ (l.take (i + 1)).map f := by
 rw [fL hx, BZ]
 rintro (e | e)
 . exact h e
 . simp at e; exact hn e.symm
theorem ZD {α : Type} {f : α -> ByteArray} {l : List α} {x : α} {n : ByteArray} (hx : l[i]? = some x) (hi : i < k) (hn : f x = n) : n ∈ (l.take k).map f :=
 mH.2 ⟨x, lP (i := i) (by rw [DT, if_pos hi, hx]), hn⟩
theorem U3 : Sound Tryz.prog 91 Xx := by
 refine gX Tryz.func91 ?_
 rintro cvs m h K ⟨v, s, t, i, rfl, hs, hx, hK⟩
 refine ⟨Yz v i m h, rfl, aD Sz (aD LN aF), PI v i m h K, by kernel_rfl, ?_⟩
 dsimp only [PI, push_cast]
 have hl := hs.tables.slen
 have hlen := hs.tables.len
 have hil : i < s.tables.length := (mG.1 hx).1
 have bad : ¬ Aw (s.tables.take i) t -> K (.val (.bool false)) m h := λ h => hK false ⟨λ e => (by cases e), λ e => (h e).elim⟩
 obtain ⟨bb, o, w, ea, hr, hrep⟩ := hs.tables.at hx
 have hcl := bW.slen hrep.columns
 have hcb := bW.len hrep.columns
 have hnm := hrep.name
 have hky := hrep.key
 refine ⟨bb, o, ea, aC, aC, w, .imm hr, w.name, rfl, aB (λ h1 => bad λ ht => ?_) (λ h1 => aB (λ h2 => bad λ ht => ?_) (λ h2 => aE (λ h3 => bad λ ht => ?_) (λ h3 => aE (λ h4 => bad λ ht => ?_) (λ h4 => ?_))))⟩
 . have := ht.1; rw [<- hnm] at this; rw [this] at h1; cases h1
 . have := ht.2.1; have := ht.2.2.1; have : (w.columns.len : Int) = 0 := (by simpa using h2); omega
 . have := ht.2.1; omega
 . have := ht.2.2.1; omega
 refine ⟨λ ⟨k, w'⟩ => w' = w /\ k <= i /\ t.name ∉ (s.tables.take k).map u7.name, λ ⟨k, _⟩ => i - k, ⟨(0, w), ⟨rfl, aC, by simp⟩, MT⟩, ?_⟩
 rintro ⟨k, w⟩ ⟨rfl, hk, hno⟩
 dsimp only
 refine aE (λ hlt => ?_) (λ hge => ?_)
 . obtain ⟨t', hx'⟩ : ∃ t', s.tables[k]? = some t' := ⟨s.tables[k]'(by omega), kP _⟩
   obtain ⟨b', o', w', ea', hr', hrep'⟩ := hs.tables.at hx'
   refine ⟨b', o', ea', aC, aC, w'.name, .imm (aZ.part hr' 0 1), aB (λ e => bad λ ht => ?_) (λ e => ?_)⟩
   . refine ht.2.2.2.1 (ZD hx' aC ?_)
     rw [<- hrep'.name, <- hnm]; exact xE (by simpa using e)
   . refine ⟨(k + 1, w), ⟨rfl, aC, JK hx' hno λ e' => ?_⟩, by show i - (k + 1) < i - k; omega, MT⟩
     rw [<- hrep'.name, <- hnm] at e'
     rw [e'] at e; simp at e
 . have hki : k = i := by omega
   subst hki
   refine ⟨λ ⟨k, w'⟩ => w' = w /\ k <= t.columns.length /\ eM Q1 t.columns k, λ ⟨k, _⟩ => t.columns.length - k, ⟨(0, w), ⟨rfl, aC, .zero⟩, MT⟩, ?_⟩
   rintro ⟨c, w⟩ ⟨rfl, hc, hg⟩
   dsimp only
   refine aE (λ hlt => ?_) (λ hge2 => hK true ⟨λ _ => ⟨by rw [<- hnm]; simpa using h1, aC, aC, hno, hg.all aC⟩, λ _ => rfl⟩)
   obtain ⟨x, hxc⟩ := fE hcl hlt
   obtain ⟨bc, oc, ec, rc⟩ := BY.at hrep.columns hxc
   have cbad : ¬ Q1 (t.columns.take c) x -> K (.val (.bool false)) m h := λ hn => bad λ ht => Good.not hxc hn ht.2.2.2.2
   refine ⟨bc, oc, ec, aC, hlt, x.name, .imm (aZ.part rc 0 1), x.name, rfl, aB (λ e1 => cbad λ ht => ?_) (λ e1 => ⟨bc, oc, ec, aC, hlt, x.kind, .imm (aZ.part rc 1 1), x.kind, rfl, aB (λ e2 => cbad λ ht => ?_) (λ e2 => ?_)⟩)⟩
   . rw [ht.1] at e1; cases e1
   . rw [ht.2.1] at e2; cases e2
   refine ⟨λ ⟨c', j, w'⟩ => w' = w /\ c' = c /\ j <= c /\ x.name ∉ (t.columns.take j).map mF.name, λ ⟨_, j, _⟩ => c - j, ⟨(c, 0, w), ⟨rfl, rfl, aC, by simp⟩, MT⟩, ?_⟩
   rintro ⟨c, j, w⟩ ⟨rfl, rfl, hj, hnoj⟩
   dsimp only
   refine aE (λ hlt3 => ?_) (λ hge3 => ?_)
   . obtain ⟨y, hy⟩ : ∃ y, t.columns[j]? = some y := ⟨t.columns[j]'(by omega), kP _⟩
     obtain ⟨by', oy, ey, ry⟩ := BY.at hrep.columns hy
     refine ⟨by', oy, ey, aC, aC, y.name, .imm (aZ.part ry 0 1), bc, oc, ec, aC, hlt, x.name, .imm (aZ.part rc 0 1), aB (λ e => cbad λ ht => ?_) (λ e => ?_)⟩
     . exact ht.2.2 (ZD hy aC (xE (by simpa using e)))
     . refine ⟨(c, j + 1, w), ⟨rfl, rfl, by show j + 1 <= c; omega, JK hy hnoj λ e' => ?_⟩, by show c - (j + 1) < c - j; omega, MT⟩
       rw [e'] at e; simp at e
   . have : j = c := by omega
     subst this
     exact ⟨(j + 1, w), ⟨rfl, aC, hg.succ hxc ⟨by simpa using e1, by simpa using e2, hnoj⟩⟩, by show t.columns.length - (j + 1) < t.columns.length - j; omega, MT⟩
def Ew (t g : u7) (k : Nat) (c : Int) : Prop := 0 <= c /\ c < t.columns.length /\ ∃ x y, t.columns[c.toNat]? = some x /\ g.columns[k]? = some y /\ x.kind = y.kind
def XH (tabs : List u7) (t : u7) (_ : List Ref) (r : Ref) : Prop := 0 <= r.table /\ r.table < tabs.length /\ ∃ g, tabs[r.table.toNat]? = some g /\ (r.columns.length : Int) = g.key /\ Good (λ pre c => Ew t g pre.length c) r.columns
def BS (tabs : List u7) (_ : List u7) (t : u7) : Prop := Good (XH tabs t) t.refs
def XG : Vc.Spec := λ cvs m h K => ∃ v s, cvs = [aS v] /\ gR h s v /\ Good Aw s.tables /\ ∀ r : Bool, (r = true ↔ Good (BS s.tables) s.tables) -> K (cB r) m h
def Ue : Vc.Spec := λ cvs m h K => ∃ v s t, ∃ i : Nat, cvs = [aS v, cI i] /\ gR h s v /\ Good Aw s.tables /\ s.tables[i]? = some t /\ ∀ r : Bool, (r = true ↔ BS s.tables [] t) -> K (cB r) m h
noncomputable def Xe (v : bL) (m : MH) (h : PH) : Ctx :=
 dM [] [(2, { A := Nat, st := λ i => cH 82 83 [(1, .at (.ptr 1 0)), (11, sv v.tables), (12, iv v.tables.len), (13, iv i)] [(1, .cells 43 (v.enc.map .val))] m h }),
  (5, { A := Nat × Nat × bR, st := λ ⟨i, k, w⟩ => cH 82 83 [(1, .at (.ptr 1 0)), (4, .at (.ptr 4 0)), (11, sv v.tables), (12, iv v.tables.len), (13, iv i), (18, sv w.references), (19, iv w.references.len), (20, iv k)] [(1, .cells 43 (v.enc.map .val)), (4, .cells 86 (w.enc.map .val))] m h }),
  (13, { A := Nat × Nat × Nat × bR × bR × Sl, st := λ ⟨i, k, j, w, g, sl⟩ => cH 82 83 [(1, .at (.ptr 1 0)), (4, .at (.ptr 4 0)), (7, .at (.ptr 7 0)), (11, sv v.tables), (12, iv v.tables.len), (13, iv i), (18, sv w.references), (19, iv w.references.len), (20, iv k), (48, sv sl), (49, iv sl.len), (50, iv j)] [(1, .cells 43 (v.enc.map .val)), (4, .cells 86 (w.enc.map .val)), (7, .cells 86 (g.enc.map .val))] m h })] [] [] false
noncomputable def Yy (v : bL) (m : MH) (h : PH) : Ctx :=
 dM [] [(3, { A := Nat × bR, st := λ ⟨k, w⟩ => cH 85 87 [(2, .at (.ptr 2 0)), (5, .at (.ptr 5 0)), (16, sv w.references), (17, iv w.references.len), (18, iv k)] [(2, .cells 43 (v.enc.map .val)), (5, .cells 86 (w.enc.map .val))] m h }),
  (8, { A := Nat × Nat × bR × BW, st := λ ⟨k, j, w, r⟩ => cH 85 87 [(2, .at (.ptr 2 0)), (5, .at (.ptr 5 0)), (7, .at (.ptr 7 0)), (16, sv w.references), (17, iv w.references.len), (18, iv k), (47, sv r.columns), (48, iv r.columns.len), (49, iv j)] [(2, .cells 43 (v.enc.map .val)), (5, .cells 86 (w.enc.map .val)), (7, .cells 118 (r.enc.map .val))] m h })] [] [] false
abbrev nG (a : (Nat -> Prop) -> Nat -> Prop) (b : (Nat -> Prop) -> (Nat -> Nat) -> Nat -> Prop) : Prop := ∃ (x : Nat -> Prop) (x1 : Nat -> Nat), jT (∃ (x2 : Nat), a x x2) (λ x2 => b x x1 x2)
abbrev eO  : Prop := eP 1
abbrev AT (a b : bR) : Prop := bD a.references b.references
abbrev AU (a b : bR) : Prop := cM a.references b.references
abbrev C0 (a : bL) (b : Int) (c : Nat -> Nat -> Prop) : Prop := aT (λ x x1 => aA (aU (pK a) x x1) (0 <= b) (b < aG a.tables /\ c x x1))
noncomputable abbrev pI (a : Nat × Nat × Nat × bR × bR × Sl) : bR := a.2.2.2.1
noncomputable abbrev tX (a : Nat × Nat × Nat × bR × bR × Sl) : Sl := a.2.2.2.2.2
noncomputable abbrev rX (a : Nat × Nat × Nat × bR × bR × Sl) : Nat := a.2.2.1
noncomputable abbrev Gz (a : Nat × Nat × Nat × bR × bR × Sl) : bR := a.2.2.2.2.1
attribute [push_cast] nG eO AT AU C0 pI tX rX Gz
def Hj (v : bL) (m : MH) (h : PH) (K : CV -> MH -> PH -> Prop) : Prop :=
  nG (λ I x => aA (I x) eO (aA (lG v) (fV v) (aA (bC x) (bT v) (aA (m = m) (h = h) True)))) (λ I m1 x => CX (I x) x v (λ b o y => aL m h b (bN o x 5) (uJ y) /\ ∃ (I1 : Nat × Nat × bR -> Prop) (m2 : Nat × Nat × bR -> Nat), (∃ (x1 : Nat × Nat × bR), aA (I1 x1) eO (aA (eP 4) (lG v) (aA (fV v) (cC x x1.1) (aA (AT y (jF x1)) (AU y (jF x1)) (aA (bC (nU x1)) (bT v) (aA (oQ 86 (eR y) = oQ 86 (eR (jF x1))) (m = m) (cV h h))))))) /\ ∀ (x1 : Nat × Nat × bR), I1 x1 -> bA (↑(nU x1) : Int) (aG (jF x1).references) (aT (λ b1 o1 => aA (aU (jF x1).references.a b1 o1) (0 <= (↑(nU x1) : Int)) ((↑(nU x1) : Int) < aG (jF x1).references /\ ∃ (y1 : BW), aL m h b1 (bN o1 (nU x1) 2) (iD (eA y1.columns) (dQ y1.table)) /\
 bA y1.table 0 (K aW m h) (fQ y1.table (gL v) (K aW m h) (C0 v y1.table (λ b2 o2 => ∃ (y2 : bR), aL m h b2 (fM o2 y1.table 5) (uJ y2) /\ eE (aG y1.columns) y2.key (K aW m h) (∃ (I2 : Nat × Nat × Nat × bR × bR × Sl -> Prop) (m3 : Nat × Nat × Nat × bR × bR × Sl -> Nat), (∃ (x2 : Nat × Nat × Nat × bR × bR × Sl), aA (I2 x2) eO (aA (eP 4) (eP 7) (aA (lG v) (fV v) (aA (cC x1.1 x2.1) (AT (jF x1) (pI x2)) (aA (AU (jF x1) (pI x2)) (cC (nU x1) x2.2.1) (aA (bD y1.columns (tX x2)) (cM y1.columns (tX x2)) (aA (bC (rX x2)) (bT v) (aA (oQ 86 (eR (jF x1)) = oQ 86 (eR (pI x2))) (oQ 86 (eR y2) = oQ 86 (eR (Gz x2))) (dT m m h h))))))))) /\ ∀ (x2 : Nat × Nat × Nat × bR × bR × Sl), I2 x2 -> bA (↑(rX x2) : Int) (aG
 (tX x2)) (aT (λ b3 o3 => aA (aU (tX x2).a b3 o3) (0 <= (↑(rX x2) : Int)) ((↑(rX x2) : Int) < aG (tX x2) /\ ∃ (y3 : Int), aL m h b3 (bN o3 (rX x2) 1) (bZ y3) /\ bA y3 0 (K aW m h) (fQ y3 (AR (pI x2)) (K aW m h) (aT (λ b4 o4 => aA (aU (pI x2).columns.a b4 o4) (0 <= y3) (y3 < aG (pI x2).columns /\ ∃ (y4 : Int), aL m h b4 (fM o4 y3 2 + 1) (bZ y4) /\ aT (λ b5 o5 => aA (aU (Gz x2).columns.a b5 o5) (0 <= (↑(rX x2) : Int)) ((↑(rX x2) : Int) < aG (Gz x2).columns /\ ∃ (y5 : Int), aL m h b5 (bN o5 (rX x2) 2 + 1) (bZ y5) /\ eE y4 y5 (K aW m h) (∃ (x3 : Nat × Nat × Nat × bR × bR × Sl), aA (I2 x3) (m3 x3 < m3 x2) (aA eO (eP 4) (aA (eP 7) (lG v) (aA (fV v) (cC x2.1 x3.1) (aA (AT (pI x2) (pI x3)) (AU
 (pI x2) (pI x3)) (aA (cC x2.2.1 x3.2.1) (bD (tX x2) (tX x3)) (aA (cM (tX x2) (tX x3)) (fK (bE (rX x2) 1) = bV (rX x3)) (aA (bT v) (oQ 86 (eR (pI x2)) = oQ 86 (eR (pI x3))) (bM (oQ 86 (eR (Gz x2)) = oQ 86 (eR (Gz x3))) (m = m) (h = h))))))))))))))))))) (∃ (x3 : Nat × Nat × bR), aA (I1 x3) (m2 x3 < m2 x1) (aA eO (eP 4) (aA (lG v) (fV v) (aA (cC x2.1 x3.1) (AT (pI x2) (jF x3)) (aA (AU (pI x2) (jF x3)) (fK (bE x2.2.1 1) = bV (nU x3)) (aA (bT v) (oQ 86 (eR (pI x2)) = oQ 86 (eR (jF x3))) (dT m m h h)))))))))))))) (∃ (x2 : Nat), aA (I x2) (m1 x2 < m1 x) (aA eO (lG v) (aA (fV v) (fK (bE x1.1 1) = bV x2) (aA (bT v) (m = m) (cV h h)))))) (K fJ m h))
noncomputable abbrev pJ (a : Nat × Nat × bR × BW) : bR := a.2.2.1
noncomputable abbrev oR (a : Nat × Nat × bR × BW) : Sl := a.2.2.2.columns
noncomputable abbrev Bh (a : Nat × Nat × bR × BW) : Int := a.2.2.2.table
attribute [push_cast] pJ oR Bh
def Kf (v : bL) (i : Nat) (m : MH) (h : PH) (K : CV -> MH -> PH -> Prop) : Prop :=
  aT (λ b o => aA (aU (pK v) b o) (0 <= (↑i : Int)) ((↑i : Int) < aG v.tables /\ ∃ (y : bR), aL m h b (bN o i 5) (uJ y) /\ IB (λ I x => aA (I x) (eP 2) (aA (eP 5) (AT y x.2) (aA (AU y x.2) (bC x.1) (aA (bT v) (Bi y x) (dT m m h h))))) (λ I m1 x => I x -> bA (↑x.1 : Int) (aG x.2.references) (aT (λ b1 o1 => aA (aU x.2.references.a b1 o1) (0 <= (↑x.1 : Int)) ((↑x.1 : Int) < aG x.2.references /\ ∃ (y1 : BW), aL m h b1 (bN o1 x.1 2) (iD (eA y1.columns) (dQ y1.table)) /\ bA y1.table 0 (K aW m h) (fQ y1.table (gL v) (K aW m h) (aT (λ b2 o2 => aA (aU (pK v) b2 o2) (0 <= y1.table) (y1.table < aG v.tables /\ ∃ (y2 : Int), aL m h b2 (fM o2 y1.table 5 + 2) (bZ y2) /\ eE (aG y1.columns) y2 (K aW m h) (∃ (I1 : Nat × Nat × bR × BW -> Prop) (m2 :
 Nat × Nat × bR × BW -> Nat), (∃ (x1 : Nat × Nat × bR × BW), aA (I1 x1) (eP 2) (aA (eP 5) (eP 7) (aA (AT x.2 (pJ x1)) (AU x.2 (pJ x1)) (aA (cC x.1 x1.1) (bD y1.columns (oR x1)) (aA (cM y1.columns (oR x1)) (bC x1.2.1) (aA (bT v) (oQ 86 (eR x.2) = oQ 86 (eR (pJ x1))) (bM (oQ 118 (pR (Aa y1.columns) (mK y1.table)) = oQ 118 (pR (Aa (oR x1)) (mK (Bh x1)))) (m = m) (h = h)))))))) /\ ∀ (x1 : Nat × Nat × bR × BW), I1 x1 -> bA (↑x1.2.1 : Int) (aG (oR x1)) (aT (λ b3 o3 => aA (aU (oR x1).a b3 o3) (0 <= (↑x1.2.1 : Int)) ((↑x1.2.1 : Int) < aG (oR x1) /\ ∃ (y3 : Int), aL m h b3 (bN o3 x1.2.1 1) (bZ y3) /\ bA y3 0 (K aW m h) (fQ y3 (AR (pJ x1)) (K aW m h) (aT (λ b4 o4 => aA (aU (pJ x1).columns.a b4 o4) (0 <= y3) (y3 < aG
 (pJ x1).columns /\ ∃ (y4 : Int), aL m h b4 (fM o4 y3 2 + 1) (bZ y4) /\ aT (λ b5 o5 => aA (aU (pK v) b5 o5) (0 <= Bh x1) (Bh x1 < aG v.tables /\ ∃ (y5 : Sl), aL m h b5 (fM o5 (Bh x1) 5 + 1) (aM y5) /\ aT (λ b6 o6 => aA (aU y5.a b6 o6) (0 <= (↑x1.2.1 : Int)) ((↑x1.2.1 : Int) < aG y5 /\ ∃ (y6 : Int), aL m h b6 (bN o6 x1.2.1 2 + 1) (bZ y6) /\ eE y4 y6 (K aW m h) (∃ (x2 : Nat × Nat × bR × BW), aA (I1 x2) (m2 x2 < m2 x1) (aA (eP 2) gJ (aA (eP 7) (AT (pJ x1) (pJ x2)) (aA (AU (pJ x1) (pJ x2)) (cC x1.1 x2.1) (aA (bD (oR x1) (oR x2)) (cM (oR x1) (oR x2)) (aA (fK (bE x1.2.1 1) = bV x2.2.1) (bT v) (aA (oQ 86 (eR (pJ x1)) = oQ 86 (eR (pJ x2))) (oQ 118 (pR (Aa (oR x1)) (mK (Bh x1))) = oQ 118 (pR (Aa
 (oR x2)) (mK (Bh x2)))) (aA (m = m) (h = h) True))))))))))))))))))) (∃ (x2 : Nat × bR), aA (I x2) (m1 x2 < m1 x) (aA (eP 2) gJ (aA (AT (pJ x1) x2.2) (AU (pJ x1) x2.2) (aA (fK (bE x1.1 1) = bV x2.1) (bT v) (bM (Bi (pJ x1) x2) (m = m) (h = h)))))))))))))) (K fJ m h))))
theorem Ints.at' {s : Sl} (r : Ints h s l) {x : Int} (hi : l[i]? = some x) : ∃ b o, s.a = some ⟨b, o, none⟩ /\ aZ h b (o + i * 1) [.int .i64 x] := by
 obtain ⟨b, o, e, k⟩ := r.at hi
 exact ⟨b, o, e, by rwa [V7]⟩
theorem OO {α : Type} {l : List α} {x : α} (h : l[i]? = some x) : (l.take i).length = i := by
 have := (mG.1 h).1
 rw [Hz]; omega
theorem Good.key_le {tabs : List u7} (h : Good Aw tabs) {g : u7} (hg : tabs[i]? = some g) : g.key <= g.columns.length := (h i g hg).2.2.1
theorem Zj {v : bL} (hs : gR h s v) (hgood : Good Aw s.tables) (hK : ∀ r : Bool, (r = true ↔ Good (BS s.tables) s.tables) -> K (cB r) m h) : Hj v m h K := by
 dsimp only [Hj, push_cast]
 have hl := hs.tables.slen
 have hlen := hs.tables.len
 have hf : ¬ Good (BS s.tables) s.tables -> K (.val (.bool false)) m h := λ h => hK false ⟨λ e => (by cases e), λ e => (h e).elim⟩
 refine ⟨λ i => i <= s.tables.length /\ eM (BS s.tables) s.tables i, λ i => s.tables.length - i, ⟨0, ⟨aC, .zero⟩, MT⟩, λ i ⟨hi, hg⟩ => aE (λ hlt => ?_) (λ hge => hK true ⟨λ _ => hg.all aC, λ _ => rfl⟩)⟩
 obtain ⟨t, hx⟩ := fE hl hlt
 obtain ⟨b, o, w, ea, hr, hrep⟩ := hs.tables.at hx
 have hcl := bW.slen hrep.columns
 have hrl := bW.slen hrep.refs
 have hrb := bW.len hrep.refs
 refine ⟨b, o, ea, aC, hlt, w, .imm hr, λ ⟨i', k, w'⟩ => i' = i /\ w' = w /\ k <= t.refs.length /\ eM (XH s.tables t) t.refs k, λ ⟨_, k, _⟩ => t.refs.length - k, ⟨(i, 0, w), ⟨rfl, rfl, aC, .zero⟩, MT⟩, ?_⟩
 rintro ⟨i, k, w⟩ ⟨rfl, rfl, hk, hg2⟩
 dsimp only
 refine aE (λ hlt2 => ?_) (λ hge2 => ⟨i + 1, ⟨aC, hg.succ hx (hg2.all aC)⟩, by show s.tables.length - (i + 1) < s.tables.length - i; omega, MT⟩)
 obtain ⟨r, hrx⟩ := fE hrl hlt2
 obtain ⟨b2, o2, rv, ea2, hr2, hrep2⟩ := hrep.refs.at hrx
 have rcl := hrep2.columns.slen
 have rcb := hrep2.columns.len
 have rt := hrep2.table
 have bad : ¬ XH s.tables t (t.refs.take k) r -> K (.val (.bool false)) m h := λ hn => hf (Good.not hx (Good.not hrx hn))
 refine ⟨b2, o2, ea2, aC, hlt2, rv, .imm hr2, aE (λ h1 => bad λ ht => ?_) (λ h1 => aE (λ h2 => bad λ ht => ?_) (λ h2 => ?_))⟩
 . have := ht.1; omega
 . have := ht.2.1; omega
 obtain ⟨g, b3, o3, gv, hgx, ea3, hr3, hrep3⟩ := hs.table (t := rv.table) aC aC
 have gcl := bW.slen hrep3.columns
 have hkey := hgood.key_le hgx
 have gk := hrep3.key
 refine ⟨b3, o3, ea3, aC, aC, gv, .imm hr3, aB (λ h3 => bad λ ht => ?_) (λ h3 => ?_)⟩
 . obtain ⟨_, _, g', hg', hk', _⟩ := ht
   rw [<- rt, hgx] at hg'
   cases hg'
   have : (rv.columns.len : Int) ≠ gv.key := by simpa using h3
   omega
 have h3 : (rv.columns.len : Int) = gv.key := by simpa using h3
 refine ⟨λ ⟨i', k', j, w', g', sl⟩ => i' = i /\ k' = k /\ w' = w /\ g' = gv /\ sl = rv.columns /\ j <= r.columns.length /\ eM (λ pre c => Ew t g pre.length c) r.columns j, λ ⟨_, _, j, _, _, _⟩ => r.columns.length - j, ⟨(i, k, 0, w, gv, rv.columns), ⟨rfl, rfl, rfl, rfl, rfl, aC, .zero⟩, MT⟩, ?_⟩
 rintro ⟨i, k, j, w, gv, _⟩ ⟨rfl, rfl, rfl, rfl, rfl, hj, hg3⟩
 dsimp only
 refine aE (λ hlt3 => ?_) (λ hge3 => ⟨(i, k + 1, w), ⟨rfl, rfl, by show k + 1 <= t.refs.length; omega, hg2.succ hrx ⟨aC, aC, g, by rw [<- rt]; exact hgx, aC, hg3.all aC⟩⟩, by show t.refs.length - (k + 1) < t.refs.length - k; omega, MT⟩)
 obtain ⟨c, hc⟩ := fE rcl hlt3
 obtain ⟨b4, o4, ea4, hr4⟩ := hrep2.columns.at' hc
 have htl := OO hc
 have cbad : ¬ Ew t g j c -> K (.val (.bool false)) m h := λ hn => bad λ ht => by
  obtain ⟨_, _, g', hg', _, hgo⟩ := ht
  rw [<- rt, hgx] at hg'
  cases hg'
  have := hgo j c hc
  dsimp only at this
  rw [htl] at this
  exact hn this
 refine ⟨b4, o4, ea4, aC, hlt3, c, .imm hr4, aE (λ h5 => cbad λ ht => ?_) (λ h5 => aE (λ h6 => cbad λ ht => ?_) (λ h6 => ?_))⟩
 . have := ht.1; omega
 . have := ht.2.1; omega
 obtain ⟨x, hxx⟩ : ∃ x, t.columns[c.toNat]? = some x := ⟨t.columns[c.toNat]'(by omega), kP _⟩
 obtain ⟨y, hyy⟩ : ∃ y, g.columns[j]? = some y := ⟨g.columns[j]'(by omega), kP _⟩
 obtain ⟨b5, o5, ea5, hr5⟩ := BY.at hrep.columns hxx
 obtain ⟨b6, o6, ea6, hr6⟩ := BY.at hrep3.columns hyy
 refine ⟨b5, o5, ea5, aC, aC, x.kind, .imm (aZ.part hr5 1 1), b6, o6, ea6, aC, aC, y.kind, .imm (aZ.part hr6 1 1), aB (λ h7 => cbad λ ht => ?_) (λ h7 => ?_)⟩
 . obtain ⟨_, _, x', y', e1, e2, e3⟩ := ht
   rw [hxx] at e1; rw [hyy] at e2
   cases e1; cases e2
   rw [e3] at h7; simp at h7
 . exact ⟨(i, k, j + 1, w, gv, rv.columns), ⟨rfl, rfl, rfl, rfl, rfl, by show j + 1 <= r.columns.length; omega, hg3.succ hc (by show Ew t g (List.take j r.columns).length c; rw [htl]; exact ⟨aC, aC, x, y, hxx, hyy, by simpa using h7⟩)⟩, by show r.columns.length - (j + 1) < r.columns.length - j; omega, MT⟩
theorem SG : Sound Tryz.prog 112 XG := by
 refine gX Tryz.func112 ?_
 rintro cvs m h K ⟨v, s, rfl, hs, hg, hK⟩
 refine ⟨Xe v m h, rfl, aF, Hj v m h K, by kernel_rfl, ?_⟩
 exact Zj hs hg hK
theorem aaZ {v : bL} {t : u7} (hs : gR h s v) (hgood : Good Aw s.tables) (hx : s.tables[i]? = some t) (hK : ∀ r : Bool, (r = true ↔ BS s.tables [] t) -> K (cB r) m h) : Kf v i m h K := by
 dsimp only [Kf, push_cast]
 have hl := hs.tables.slen
 have hlen := hs.tables.len
 have hil : i < s.tables.length := (mG.1 hx).1
 have hf : ¬ BS s.tables [] t -> K (.val (.bool false)) m h := λ h => hK false ⟨λ e => (by cases e), λ e => (h e).elim⟩
 obtain ⟨b, o, w, ea, hr, hrep⟩ := hs.tables.at hx
 have hcl := bW.slen hrep.columns
 have hrl := bW.slen hrep.refs
 have hrb := bW.len hrep.refs
 refine ⟨b, o, ea, aC, aC, w, .imm hr, λ ⟨k, w'⟩ => w' = w /\ k <= t.refs.length /\ eM (XH s.tables t) t.refs k, λ ⟨k, _⟩ => t.refs.length - k, ⟨(0, w), ⟨rfl, aC, .zero⟩, MT⟩, ?_⟩
 rintro ⟨k, w⟩ ⟨rfl, hk, hg2⟩
 dsimp only
 refine aE (λ hlt2 => ?_) (λ hge2 => hK true ⟨λ _ => hg2.all aC, λ _ => rfl⟩)
 obtain ⟨r, hrx⟩ := fE hrl hlt2
 obtain ⟨b2, o2, rv, ea2, hr2, hrep2⟩ := hrep.refs.at hrx
 have rcl := hrep2.columns.slen
 have rcb := hrep2.columns.len
 have rt := hrep2.table
 have bad : ¬ XH s.tables t (t.refs.take k) r -> K (.val (.bool false)) m h := λ hn => hf (Good.not hrx hn)
 refine ⟨b2, o2, ea2, aC, hlt2, rv, .imm hr2, aE (λ h1 => bad λ ht => ?_) (λ h1 => aE (λ h2 => bad λ ht => ?_) (λ h2 => ?_))⟩
 . have := ht.1; omega
 . have := ht.2.1; omega
 obtain ⟨g, b3, o3, gv, hgx, ea3, hr3, hrep3⟩ := hs.table (t := rv.table) aC aC
 have gcl := bW.slen hrep3.columns
 have hkey := hgood.key_le hgx
 have gk := hrep3.key
 refine ⟨b3, o3, ea3, aC, aC, gv.key, .imm (aZ.part hr3 2 1), aB (λ h3 => bad λ ht => ?_) (λ h3 => ?_)⟩
 . obtain ⟨_, _, g', hg', hk', _⟩ := ht
   rw [<- rt, hgx] at hg'
   cases hg'
   have : (rv.columns.len : Int) ≠ gv.key := by simpa using h3
   omega
 have h3 : (rv.columns.len : Int) = gv.key := by simpa using h3
 refine ⟨λ ⟨k', j, w', r'⟩ => k' = k /\ w' = w /\ r' = rv /\ j <= r.columns.length /\ eM (λ pre c => Ew t g pre.length c) r.columns j, λ ⟨_, j, _, _⟩ => r.columns.length - j, ⟨(k, 0, w, rv), ⟨rfl, rfl, rfl, aC, .zero⟩, MT⟩, ?_⟩
 rintro ⟨k, j, w, rv⟩ ⟨rfl, rfl, rfl, hj, hg3⟩
 dsimp only
 refine aE (λ hlt3 => ?_) (λ hge3 => ⟨(k + 1, w), ⟨rfl, by show k + 1 <= t.refs.length; omega, hg2.succ hrx ⟨aC, aC, g, by rw [<- rt]; exact hgx, aC, hg3.all aC⟩⟩, by show t.refs.length - (k + 1) < t.refs.length - k; omega, MT⟩)
 obtain ⟨c, hc⟩ := fE rcl hlt3
 obtain ⟨b4, o4, ea4, hr4⟩ := hrep2.columns.at' hc
 have htl := OO hc
 have cbad : ¬ Ew t g j c -> K (.val (.bool false)) m h := λ hn => bad λ ht => by
  obtain ⟨_, _, g', hg', _, hgo⟩ := ht
  rw [<- rt, hgx] at hg'
  cases hg'
  have := hgo j c hc
  dsimp only at this
  rw [htl] at this
  exact hn this
 refine ⟨b4, o4, ea4, aC, hlt3, c, .imm hr4, aE (λ h5 => cbad λ ht => ?_) (λ h5 => aE (λ h6 => cbad λ ht => ?_) (λ h6 => ?_))⟩
 . have := ht.1; omega
 . have := ht.2.1; omega
 obtain ⟨x, hxx⟩ : ∃ x, t.columns[c.toNat]? = some x := ⟨t.columns[c.toNat]'(by omega), kP _⟩
 obtain ⟨y, hyy⟩ : ∃ y, g.columns[j]? = some y := ⟨g.columns[j]'(by omega), kP _⟩
 obtain ⟨b5, o5, ea5, hr5⟩ := BY.at hrep.columns hxx
 obtain ⟨b6, o6, ea6, hr6⟩ := BY.at hrep3.columns hyy
 refine ⟨b5, o5, ea5, aC, aC, x.kind, .imm (aZ.part hr5 1 1), b3, o3, ea3, aC, aC, gv.columns, .imm (aZ.part hr3 1 1), b6, o6, ea6, aC, aC, y.kind, .imm (aZ.part hr6 1 1), aB (λ h7 => cbad λ ht => ?_) (λ h7 => ?_)⟩
 . obtain ⟨_, _, x', y', e1, e2, e3⟩ := ht
   rw [hxx] at e1; rw [hyy] at e2
   cases e1; cases e2
   rw [e3] at h7; simp at h7
 . exact ⟨(k, j + 1, w, rv), ⟨rfl, rfl, rfl, by show j + 1 <= r.columns.length; omega, hg3.succ hc (by show Ew t g (List.take j r.columns).length c; rw [htl]; exact ⟨aC, aC, x, y, hxx, hyy, by simpa using h7⟩)⟩, by show r.columns.length - (j + 1) < r.columns.length - j; omega, MT⟩
theorem U2 : Sound Tryz.prog 92 Ue := by
 refine gX Tryz.func92 ?_
 rintro cvs m h K ⟨v, s, t, i, rfl, hs, hg, hx, hK⟩
 refine ⟨Yy v m h, rfl, aF, Kf v i m h K, by kernel_rfl, ?_⟩
 exact aaZ hs hg hx hK
def KM (t : u7) : Prop := t.columns.length <= 8 /\ t.refs.length <= 4 /\ t.checks.length <= 4
def BE (s : nX) : Prop := s.tables.length <= 8 /\ Good (λ _ t => KM t) s.tables
def Ib (s : nX) : Prop := 0 <= s.version /\ s.version <= 1000 /\ Good Aw s.tables /\ Good (BS s.tables) s.tables
def pU : List Int -> Int
 | [] => 0
 | e :: r => if e = 0 then pU r else e
def qY (s : nX) (i : Nat) : List Int := match s.tables[i]? with | some t => t.checks.map (gY (gP s i) []) | none => []
theorem vM (a b : List Int) (h : ∀ e ∈ a, e = 0) : pU (a ++ b) = pU b := by
 induction a with
 | nil => rfl
 | cons x a ih =>
  simp only [List.cons_append, pU]
  rw [if_pos (h x (by simp)), ih λ e he => h e (by simp [he])]
theorem z8 (a : List Int) (h : ∀ e ∈ a, e = 0) : pU a = 0 := by
 have := vM a [] h
 simpa [pU] using this
theorem HZ {n : Nat} {f : Nat -> List Int} {e : Int} (hi : i < n) (h1 : ∀ j < i, ∀ x ∈ f j, x = 0) (h2 : ∀ x ∈ (f i).take k, x = 0) (h3 : (f i)[k]? = some e) (he : e ≠ 0) : pU ((List.range n).flatMap f) = e := by
 obtain ⟨r, rfl⟩ : ∃ r, n = i + (1 + r) := ⟨n - i - 1, aC⟩
 rw [List.range_add, List.flatMap_append, vM]
 . rw [show (List.range (1 + r)).map (i + ·) = i :: (List.range' (i + 1) r) from ?_, List.flatMap_cons, <- List.take_append_drop k (f i), Q3, vM _ _ h2, drop_cons h3]
   . simp [pU, he]
   . rw [Nat.add_comm 1 r, List.range_succ_eq_map]
     simp [List.range'_eq_map_range, Nat.add_assoc, Nat.add_comm 1]
 . intro x hx
   obtain ⟨j, hj, hx⟩ := List.mem_flatMap.1 hx
   exact h1 j (XX.1 hj) x hx
open Classical in
noncomputable def eH (s : nX) : Int := if BE s then (if Ib s then pU ((List.range s.tables.length).flatMap (qY s)) else 70) else 2
def Ay : Vc.Spec := λ cvs m h K => ∃ v s, cvs = [aS v] /\ gR h s v /\ K (cI (eH s)) m h
noncomputable def YF (v : bL) (m : MH) (h : PH) : Ctx :=
 dM [(111, XL), (112, XG), (72, vA), (113, qP)] [(4, { A := Nat, st := λ i => cH 83 84 [(1, .at (.ptr 1 0)), (16, sv v.tables), (17, iv v.tables.len), (18, iv i)] [(1, .cells 43 (v.enc.map .val))] m h }),
  (12, { A := Nat × PH, st := λ ⟨i, hx⟩ => cH 83 84 [(1, .at (.ptr 1 0)), (58, sv v.tables), (59, iv v.tables.len), (60, iv i)] [(1, .cells 43 (v.enc.map .val))] m hx }),
  (16, { A := Nat × Nat × Sl × Sl × PH, st := λ ⟨i, k, ks, cs, hx⟩ => cH 83 84 [(1, .at (.ptr 1 0)), (7, sv ks), (58, sv v.tables), (59, iv v.tables.len), (60, iv i), (69, sv cs), (70, iv cs.len), (71, iv k)] [(1, .cells 43 (v.enc.map .val))] m hx })] [] [] false
noncomputable def YO (v : bL) (m : MH) (h : PH) : Ctx :=
 dM [(91, Xx), (92, Ue), (44, vA), (69, qP)] [(4, { A := Nat, st := λ i => cH 96 97 [(1, .at (.ptr 1 0)), (16, sv v.tables), (17, iv v.tables.len), (18, iv i)] [(1, .cells 43 (v.enc.map .val))] m h }),
  (12, { A := Nat, st := λ i => cH 96 97 [(1, .at (.ptr 1 0)), (49, iv v.tables.len), (50, iv i)] [(1, .cells 43 (v.enc.map .val))] m h }),
  (18, { A := Nat, st := λ i => cH 96 97 [(1, .at (.ptr 1 0)), (60, iv v.tables.len), (61, iv i)] [(1, .cells 43 (v.enc.map .val))] m h }),
  (24, { A := Nat × PH, st := λ ⟨i, hx⟩ => cH 96 97 [(1, .at (.ptr 1 0)), (71, iv v.tables.len), (72, iv i)] [(1, .cells 43 (v.enc.map .val))] m hx }),
  (27, { A := Nat × Nat × Sl × PH, st := λ ⟨i, k, cs, hx⟩ => cH 96 97 [(1, .at (.ptr 1 0)), (7, iv i), (71, iv v.tables.len), (72, iv i), (80, sv cs), (81, iv cs.len), (82, iv k)] [(1, .cells 43 (v.enc.map .val))] m hx })] [] [] false
abbrev Be (a : List CV) (b : Nat -> Nat -> Option Value) (c : Sl -> PH -> Prop) : Prop := lH (λ x x1 => ∃ (x2 : Int), aA (a = bB (cF x) x2) (gR b x1 x) (pB x1 /\ qT (λ x3 x4 => dG b x4 (Ints x4 x3 (gP x1 x2)) (c x3 x4))))
noncomputable abbrev tY (a : Nat × Nat × Sl × Sl × PH) : Sl := a.2.2.2.1
noncomputable abbrev yX (a : Nat × Nat × Sl × Sl × PH) : Nat -> Nat -> Option Value := a.2.2.2.2
abbrev C3 (a : List CV) (b : PH) (c : (List Int) -> (List Int) -> Pred -> Prop) : Prop := iW (λ x x1 => ∃ (x2 : PV), qS (λ x3 x4 => ∃ (x5 : Pred), aA (a = cK x :: aX (cK x1) (cX x2)) (Ints b x x3) (aA (Ints b x1 x4) (eD b x5 x2) (c x3 x4 x5))))
attribute [push_cast] Be tY yX C3
def Kh (v : bL) (m : MH) (h : PH) (K : CV -> MH -> PH -> Prop) : Prop :=
  eJ (gL v) 8 (K (dH 2) m h) (nG (λ I x => aA (I x) eO (aA (lG v) (fV v) (aA (bC x) (bT v) (aA (m = m) (h = h) True)))) (λ I m1 x => CX (I x) x v (λ b o y => aL m h b (bN o x 5) (uJ y) /\ cW (decide (AR y > 8)) (K (dH 2) m h) (decide (aG y.references > 4)) (K (dH 2) m h) (eJ (aG y.checks) 4 (K (dH 2) m h) (∃ (x1 : Nat), aA (I x1) (m1 x1 < m1 x) (aA eO (lG v) (aA (fV v) (fK (bE x 1) = bV x1) (aA (bT v) (m = m) (cV h h))))))) (bA v.version 0 (K (dH 70) m h) (eJ v.version 1000 (K (dH 70) m h) (lH (λ v1 s => aA (mR (cF v) = mR (cF v1)) (gR h s v1) (∀ (r : Bool), fP (dX r ↔ Good Aw s.tables) (!r) (K (dH 70) m h) (lH (λ v2 s1 => j2 (mR (cF v)) (mR (cF v2)) (gR h s1 v2) (Good Aw s1.tables) (λ r1 => fP (dX
 r1 ↔ Good (BS s1.tables) s1.tables) (!r1) (K (dH 70) m h) (∃ (I1 : Nat × PH -> Prop) (m2 : Nat × PH -> Nat), (∃ (x1 : Nat × PH), aA (I1 x1) eO (aA (lG v) (fV v) (aA (bC x1.1) (bT v) (aA (m = m) (h = x1.2) True)))) /\ ∀ (x1 : Nat × PH), CX (I1 x1) x1.1 v (λ b o y => aL m x1.2 b (bN o x1.1 5) (uJ y) /\ Be (bB (cF v) (↑x1.1 : Int)) x1.2 (λ s2 h1 => ∃ (I2 : Nat × Nat × Sl × Sl × PH -> Prop) (m3 : Nat × Nat × Sl × Sl × PH -> Nat), (∃ (x2 : Nat × Nat × Sl × Sl × PH), aA (I2 x2) eO (aA (bD s2 x2.2.2.1) (lG v) (aA (fV v) (cC x1.1 x2.1) (aA (bD y.checks (tY x2)) (cM y.checks (tY x2)) (lX (bC x2.2.1) (bT v) (m = m) (h1 = yX x2)))))) /\ ∀ (x2 : Nat × Nat × Sl × Sl × PH), I2 x2 -> bA (↑x2.2.1 : Int) (aG (tY x2)) (aT (λ b1 o1 => aA (aU (tY x2).a b1 o1) (0
 <= (↑x2.2.1 : Int)) ((↑x2.2.1 : Int) < aG (tY x2) /\ ∃ (y1 : PV), aL m (yX x2) b1 (bN o1 x2.2.1 13) y1.enc /\ C3 (cK x2.2.2.1 :: aX jZ (cX y1)) (yX x2) (λ c p p1 => eE (gY c p p1) 0 (K (dH (gY c p p1)) m (yX x2)) (∃ (x3 : Nat × Nat × Sl × Sl × PH), aA (I2 x3) (m3 x3 < m3 x2) (aA eO (bD x2.2.2.1 x3.2.2.1) (aA (lG v) (fV v) (aA (cC x2.1 x3.1) (bD (tY x2) (tY x3)) (aA (cM (tY x2) (tY x3)) (fK (bE x2.2.1 1) = bV x3.2.1) (aA (bT v) (m = m) (cV (yX x2) (yX x3)))))))))))) (∃ (x3 : Nat × PH), aA (I1 x3) (m2 x3 < m2 x1) (aA eO (lG v) (aA (fV v) (fK (bE x2.1 1) = bV x3.1) (aA (bT v) (m = m) (cV (yX x2) x3.2))))))) (K (dH 0) m x1.2))))))))))))
abbrev IP (a : nX) (b : Nat) (c : u7) : Prop := a.tables[b]? = Option.some c
noncomputable abbrev tZ (a : Nat × Nat × Sl × PH) : Sl := a.2.2.1
attribute [push_cast] IP tZ
def Kj (v : bL) (m : MH) (h : PH) (K : CV -> MH -> PH -> Prop) : Prop :=
  eJ (gL v) 8 (K (dH 2) m h) (nG (λ I x => aA (I x) eO (aA (lG v) (fV v) (aA (bC x) (bT v) (aA (m = m) (h = h) True)))) (λ I m1 x => CX (I x) x v (λ b o y => aL m h b (bN o x 5) (uJ y) /\ cW (decide (AR y > 8)) (K (dH 2) m h) (decide (aG y.references > 4)) (K (dH 2) m h) (eJ (aG y.checks) 4 (K (dH 2) m h) (∃ (x1 : Nat), aA (I x1) (m1 x1 < m1 x) (aA eO (lG v) (aA (fV v) (fK (bE x 1) = bV x1) (aA (bT v) (m = m) (cV h h))))))) (bA v.version 0 (K (dH 70) m h) (eJ v.version 1000 (K (dH 70) m h) (nG (λ I1 x1 => aA (I1 x1) eO (aA (fV v) (bC x1) (bM (bT v) (m = m) (h = h)))) (λ I1 m2 x1 => I1 x1 -> bA (↑x1 : Int) (aG v.tables) (lH (λ v1 s => ∃ (t : u7) (i : Nat), j2 (bB (cF v) (↑x1 : Int)) (bB (cF v1) (↑i :
 Int)) (gR h s v1) (IP s i t) (λ r => (dX r ↔ Aw (List.take i s.tables) t) -> hZ (!r) (K (dH 70) m h) (λ x2 => aA (I1 x2) (m2 x2 < m2 x1) (aA eO (fV v) (aA (fK (bE x1 1) = bV x2) (bT v) (aA (m = m) (h = h) True))))))) (nG (λ I2 x2 => aA (I2 x2) eO (aA (fV v) (bC x2) (bM (bT v) (m = m) (h = h)))) (λ I2 m3 x2 => I2 x2 -> bA (↑x2 : Int) (aG v.tables) (lH (λ v1 s => ∃ (t : u7) (i : Nat), aA (bB (cF v) (↑x2 : Int) = bB (cF v1) (↑i : Int)) (gR h s v1) (aA (Good Aw s.tables) (IP s i t) (∀ (r : Bool), (dX r ↔ BS s.tables [] t) -> hZ (!r) (K (dH 70) m h) (λ x3 => aA (I2 x3) (m3 x3 < m3 x2) (aA eO (fV v) (aA (fK (bE x2 1) = bV x3) (bT v) (aA (m = m) (h = h) True)))))))) (∃ (I3 : Nat × PH -> Prop) (m4 : Nat × PH -> Nat), (∃ (x3 : Nat × PH), aA
 (I3 x3) eO (aA (fV v) (bC x3.1) (bM (bT v) (m = m) (h = x3.2)))) /\ ∀ (x3 : Nat × PH), I3 x3 -> bA (↑x3.1 : Int) (aG v.tables) (aT (λ b o => aA (aU (pK v) b o) (0 <= (↑x3.1 : Int)) ((↑x3.1 : Int) < aG v.tables /\ ∃ (y : Sl), aL m x3.2 b (bN o x3.1 5 + 4) (aM y) /\ ∃ (I4 : Nat × Nat × Sl × PH -> Prop) (m5 : Nat × Nat × Sl × PH -> Nat), (∃ (x4 : Nat × Nat × Sl × PH), aA (I4 x4) eO (aA (cC x3.1 x4.1) (fV v) (aA (cC x3.1 x4.1) (bD y (tZ x4)) (aA (cM y (tZ x4)) (bC x4.2.1) (bM (bT v) (m = m) (x3.2 = x4.2.2.2)))))) /\ ∀ (x4 : Nat × Nat × Sl × PH), I4 x4 -> bA (↑x4.2.1 : Int) (aG (tZ x4)) (aT (λ b1 o1 => aA (aU (tZ x4).a b1 o1) (0 <= (↑x4.2.1 : Int)) ((↑x4.2.1 : Int) < aG (tZ x4) /\ ∃ (y1 : PV), aL m x4.2.2.2 b1 (bN o1 x4.2.1 13) y1.enc /\ Be
 (bB (cF v) (↑x4.1 : Int)) x4.2.2.2 (λ s h1 => C3 (cK s :: aX jZ (cX y1)) h1 (λ c p p1 => eE (gY c p p1) 0 (K (dH (gY c p p1)) m h1) (∃ (x5 : Nat × Nat × Sl × PH), aA (I4 x5) (m5 x5 < m5 x4) (aA eO (cC x4.1 x5.1) (aA (fV v) (cC x4.1 x5.1) (aA (bD (tZ x4) (tZ x5)) (cM (tZ x4) (tZ x5)) (lX (fK (bE x4.2.1 1) = bV x5.2.1) (bT v) (m = m) (h1 = x5.2.2.2))))))))))) (∃ (x5 : Nat × PH), aA (I3 x5) (m4 x5 < m4 x3) (aA eO (fV v) (aA (fK (bE x4.1 1) = bV x5.1) (bT v) (aA (m = m) (x4.2.2.2 = x5.2) True))))))) (K (dH 0) m x3.2))))))))))
theorem kB.out {hx : PH} {r : CV} (hm : Sub m m') (hle : PH.le h hx) (hK : K r m h) : kB h K r m' hx := ⟨m, h, hm, .refl _, hle, hK⟩
theorem tB (h : ¬ BE s) : eH s = 2 := by unfold eH; rw [if_neg h]
theorem Ju (h : BE s) (h' : ¬ Ib s) : eH s = 70 := by unfold eH; rw [if_pos h, if_neg h']
theorem Gr (h : BE s) (h' : Ib s) : eH s = pU ((List.range s.tables.length).flatMap (qY s)) := by unfold eH; rw [if_pos h, if_pos h']
theorem AH {t : u7} (hx : s.tables[i]? = some t) (hp : t.checks[k]? = some p) : (qY s i)[k]? = some (gY (gP s i) [] p) := by
 unfold qY; rw [hx]; simp [hp]
theorem HE {t : u7} (hx : s.tables[i]? = some t) : (qY s i).length = t.checks.length := by
 unfold qY; rw [hx]; simp
theorem Ll {e : Int} (hk : l[k]? = some e) (h : ∀ x ∈ l.take k, x = 0) (he : e = 0) : ∀ x ∈ l.take (k + 1), x = 0 := by
 intro x hx
 rw [EA, hk, BZ] at hx
 rcases hx with hx | hx
 . exact h x hx
 . simp at hx; rw [hx, he]
theorem OC {f : Nat -> List Int} (h : ∀ j < i, ∀ x ∈ f j, x = 0) (hl : (f i).length <= k) (h2 : ∀ x ∈ (f i).take k, x = 0) : ∀ j < i + 1, ∀ x ∈ f j, x = 0 := by
 intro j hj x hx
 by_cases e : j = i
 . subst e; rw [EC hl] at h2; exact h2 x hx
 . exact h j aC x hx
theorem LP : Sound Tryz.prog 79 Ay := by
 refine FN Tryz.func79 ?_
 rintro cvs m h K ⟨v, s, rfl, hs, hK⟩
 refine ⟨YF v m h, rfl, aD SH (aD SG (aD LQ (aD Kw aF))), Kh v m h (kB h K), by kernel_rfl, ?_⟩
 show Kh v m h (kB h K)
 dsimp only [Kh, push_cast]
 have hl := hs.tables.slen
 have hlen := hs.tables.len
 have hver := hs.version
 have out : ∀ (hx : PH) (x : Int), PH.le h hx -> eH s = x -> kB h K (.val (.int .i64 x)) m hx := λ hx x hle e => .out (Sub.refl m) hle (by rw [<- e]; exact hK)
 refine aE (λ h1 => out h _ (.refl _) (tB λ e => by have := e.1; omega)) (λ h1 => ?_)
 refine ⟨λ i => i <= s.tables.length /\ eM (λ _ t => KM t) s.tables i, λ i => s.tables.length - i, ⟨0, ⟨aC, .zero⟩, MT⟩, λ i ⟨hi, hg⟩ => aE (λ hlt => ?_) (λ hge => ?_)⟩
 . obtain ⟨t, hx⟩ := fE hl hlt
   obtain ⟨b, o, w, ea, hr, hrep⟩ := hs.tables.at hx
   have e1 := bW.slen hrep.columns
   have e2 := bW.slen hrep.refs
   have e3 := bW.slen hrep.checks
   have bad : ¬ KM t -> kB h K (.val (.int .i64 2)) m h := λ hn => out h _ (.refl _) (tB λ e => Good.not hx hn e.2)
   refine ⟨b, o, ea, aC, hlt, w, .imm hr, aE (λ h2 => bad λ e => ?_) (λ h2 => aE (λ h3 => bad λ e => ?_) (λ h3 => aE (λ h4 => bad λ e => ?_) (λ h4 => ⟨i + 1, ⟨aC, hg.succ hx ⟨aC, aC, aC⟩⟩, by show s.tables.length - (i + 1) < s.tables.length - i; omega, MT⟩)))⟩
   . have := e.1; omega
   . have := e.2.1; omega
   . have := e.2.2; omega
 have lim : BE s := ⟨aC, hg.all aC⟩
 have h8 : pB s := λ t ht => by
  obtain ⟨j, hj⟩ := List.mem_iff_getElem?.1 ht
  exact (lim.2 j t hj).1
 have bad : ¬ Ib s -> kB h K (.val (.int .i64 70)) m h := λ hn => out h _ (.refl _) (Ju lim hn)
 refine aE (λ h2 => bad λ e => ?_) (λ h2 => aE (λ h3 => bad λ e => ?_) (λ h3 => ⟨v, s, rfl, hs, λ r hr => aB (λ h4 => bad λ e => ?_) (λ h4 => ⟨v, s, rfl, hs, hr.1 (by simpa using h4), λ r2 hr2 => aB (λ h5 => bad λ e => ?_) (λ h5 => ?_)⟩)⟩))
 . have := e.1; omega
 . have := e.2.1; omega
 . rw [hr.2 e.2.2.1] at h4; cases h4
 . rw [hr2.2 e.2.2.2] at h5; cases h5
 have ok : Ib s := ⟨aC, aC, hr.1 (by simpa using h4), hr2.1 (by simpa using h5)⟩
 rw [Gr lim ok] at out
 refine ⟨λ ⟨i, hx⟩ => i <= s.tables.length /\ PH.le h hx /\ ∀ j < i, ∀ x ∈ qY s j, x = 0, λ ⟨i, _⟩ => s.tables.length - i, ⟨(0, h), ⟨aC, .refl _, λ j hj => by omega⟩, MT⟩, ?_⟩
 rintro ⟨i, hx⟩ ⟨hi, hle, hz⟩
 dsimp only
 refine aE (λ hlt => ?_) (λ hge => out hx _ hle (z8 _ λ e he => ?_))
 . obtain ⟨t, ht⟩ := fE hl hlt
   obtain ⟨b, o, w, ea, hr, hrep⟩ := (hs.mono hle).tables.at ht
   have cl := bW.slen hrep.checks
   have cb := bW.len hrep.checks
   refine ⟨b, o, ea, aC, hlt, w, .imm hr, v, s, i, rfl, hs.mono hle, h8, λ sl h' hle' hints => ?_⟩
   refine ⟨λ ⟨i', k, ks, cs, hy⟩ => i' = i /\ cs = w.checks /\ k <= t.checks.length /\ PH.le h' hy /\ Ints hy ks (gP s i) /\ ∀ x ∈ (qY s i).take k, x = 0, λ ⟨_, k, _, _, _⟩ => t.checks.length - k, ⟨(i, 0, sl, w.checks, h'), ⟨rfl, rfl, aC, .refl _, hints, λ x hx => by simp at hx⟩, MT⟩, ?_⟩
   rintro ⟨i, k, ks, _, hy⟩ ⟨rfl, rfl, hk, hle2, hints2, hz2⟩
   dsimp only
   have hlh : PH.le h hy := (hle.trans hle').trans hle2
   refine aE (λ hlt2 => ?_) (λ hge2 => ⟨(i + 1, hy), ⟨aC, hlh, OC hz (k := k) (by rw [HE ht]; omega) hz2⟩, by show s.tables.length - (i + 1) < s.tables.length - i; omega, MT⟩)
   obtain ⟨p, hp⟩ := fE cl hlt2
   obtain ⟨b2, o2, pv, ea2, hr2', hrep2⟩ := ((hrep.checks.mono hle').mono hle2).at hp
   refine ⟨b2, o2, ea2, aC, hlt2, pv, .imm hr2', ks, ⟨none, 0, 0⟩, pv, gP s i, [], p, rfl, hints2, ⟨.nil _ _, by simp⟩, hrep2, aB (λ h6 => ?_) (λ h6 => ?_)⟩
   . exact out hy _ hlh (HZ aC hz hz2 (AH ht hp) (by simpa using h6))
   . exact ⟨(i, k + 1, ks, w.checks, hy), ⟨rfl, rfl, by show k + 1 <= t.checks.length; omega, hle2, hints2, Ll (AH ht hp) hz2 (by simpa using h6)⟩, by show t.checks.length - (k + 1) < t.checks.length - k; omega, MT⟩
 . obtain ⟨j, hj, hx⟩ := List.mem_flatMap.1 he
   exact hz j (by have := XX.1 hj; omega) e hx
theorem Vd : Sound Tryz.prog 63 Ay := by
 refine FN Tryz.func63 ?_
 rintro cvs m h K ⟨v, s, rfl, hs, hK⟩
 refine ⟨YO v m h, rfl, aD U3 (aD U2 (aD Du (aD GV aF))), Kj v m h (kB h K), by kernel_rfl, ?_⟩
 show Kj v m h (kB h K)
 dsimp only [Kj, push_cast]
 have hl := hs.tables.slen
 have hlen := hs.tables.len
 have hver := hs.version
 have out : ∀ (hx : PH) (x : Int), PH.le h hx -> eH s = x -> kB h K (.val (.int .i64 x)) m hx := λ hx x hle e => .out (Sub.refl m) hle (by rw [<- e]; exact hK)
 refine aE (λ h1 => out h _ (.refl _) (tB λ e => by have := e.1; omega)) (λ h1 => ?_)
 refine ⟨λ i => i <= s.tables.length /\ eM (λ _ t => KM t) s.tables i, λ i => s.tables.length - i, ⟨0, ⟨aC, .zero⟩, MT⟩, λ i ⟨hi, hg⟩ => aE (λ hlt => ?_) (λ hge => ?_)⟩
 . obtain ⟨t, hx⟩ := fE hl hlt
   obtain ⟨b, o, w, ea, hr, hrep⟩ := hs.tables.at hx
   have e1 := bW.slen hrep.columns
   have e2 := bW.slen hrep.refs
   have e3 := bW.slen hrep.checks
   have bad : ¬ KM t -> kB h K (.val (.int .i64 2)) m h := λ hn => out h _ (.refl _) (tB λ e => Good.not hx hn e.2)
   refine ⟨b, o, ea, aC, hlt, w, .imm hr, aE (λ h2 => bad λ e => ?_) (λ h2 => aE (λ h3 => bad λ e => ?_) (λ h3 => aE (λ h4 => bad λ e => ?_) (λ h4 => ⟨i + 1, ⟨aC, hg.succ hx ⟨aC, aC, aC⟩⟩, by show s.tables.length - (i + 1) < s.tables.length - i; omega, MT⟩)))⟩
   . have := e.1; omega
   . have := e.2.1; omega
   . have := e.2.2; omega
 have lim : BE s := ⟨aC, hg.all aC⟩
 have h8 : pB s := λ t ht => by
  obtain ⟨j, hj⟩ := List.mem_iff_getElem?.1 ht
  exact (lim.2 j t hj).1
 have bad : ¬ Ib s -> kB h K (.val (.int .i64 70)) m h := λ hn => out h _ (.refl _) (Ju lim hn)
 refine aE (λ h2 => bad λ e => ?_) (λ h2 => aE (λ h3 => bad λ e => ?_) (λ h3 => ?_))
 . have := e.1; omega
 . have := e.2.1; omega
 clear hi hg hge
 refine ⟨λ i => i <= s.tables.length /\ eM Aw s.tables i, λ i => s.tables.length - i, ⟨0, ⟨aC, .zero⟩, MT⟩, λ i ⟨hi, hg⟩ => aE (λ hlt => ?_) (λ hge => ?_)⟩
 . obtain ⟨t, hx⟩ := fE hl hlt
   refine ⟨v, s, t, i, rfl, hs, hx, λ r hr => aB (λ h4 => bad λ e => ?_) (λ h4 => ⟨i + 1, ⟨aC, hg.succ hx (hr.1 (by simpa using h4))⟩, by show s.tables.length - (i + 1) < s.tables.length - i; omega, MT⟩)⟩
   rw [hr.2 (e.2.2.1 i t hx)] at h4; cases h4
 have good := hg.all aC
 clear hi hg hge
 refine ⟨λ i => i <= s.tables.length /\ eM (BS s.tables) s.tables i, λ i => s.tables.length - i, ⟨0, ⟨aC, .zero⟩, MT⟩, λ i ⟨hi, hg⟩ => aE (λ hlt => ?_) (λ hge => ?_)⟩
 . obtain ⟨t, hx⟩ := fE hl hlt
   refine ⟨v, s, t, i, rfl, hs, good, hx, λ r hr => aB (λ h4 => bad λ e => ?_) (λ h4 => ⟨i + 1, ⟨aC, hg.succ hx (hr.1 (by simpa using h4))⟩, by show s.tables.length - (i + 1) < s.tables.length - i; omega, MT⟩)⟩
   rw [hr.2 (e.2.2.2 i t hx)] at h4; cases h4
 have good2 := hg.all aC
 clear hi hg hge
 have ok : Ib s := ⟨aC, aC, good, good2⟩
 rw [Gr lim ok] at out
 refine ⟨λ ⟨i, hx⟩ => i <= s.tables.length /\ PH.le h hx /\ ∀ j < i, ∀ x ∈ qY s j, x = 0, λ ⟨i, _⟩ => s.tables.length - i, ⟨(0, h), ⟨aC, .refl _, λ j hj => by omega⟩, MT⟩, ?_⟩
 rintro ⟨i, hx⟩ ⟨hi, hle, hz⟩
 dsimp only
 refine aE (λ hlt => ?_) (λ hge => out hx _ hle (z8 _ λ e he => ?_))
 . obtain ⟨t, ht⟩ := fE hl hlt
   obtain ⟨b, o, w, ea, hr, hrep⟩ := (hs.mono hle).tables.at ht
   have cl := bW.slen hrep.checks
   have cb := bW.len hrep.checks
   refine ⟨b, o, ea, aC, hlt, w.checks, .imm (aZ.part hr 4 1), ?_⟩
   refine ⟨λ ⟨i', k, cs, hy⟩ => i' = i /\ cs = w.checks /\ k <= t.checks.length /\ PH.le hx hy /\ ∀ x ∈ (qY s i).take k, x = 0, λ ⟨_, k, _, _⟩ => t.checks.length - k, ⟨(i, 0, w.checks, hx), ⟨rfl, rfl, aC, .refl _, λ x hx => by simp at hx⟩, MT⟩, ?_⟩
   rintro ⟨i, k, _, hy⟩ ⟨rfl, rfl, hk, hle2, hz2⟩
   dsimp only
   have hlh : PH.le h hy := hle.trans hle2
   refine aE (λ hlt2 => ?_) (λ hge2 => ⟨(i + 1, hy), ⟨aC, hlh, OC hz (k := k) (by rw [HE ht]; omega) hz2⟩, by show s.tables.length - (i + 1) < s.tables.length - i; omega, MT⟩)
   obtain ⟨p, hp⟩ := fE cl hlt2
   obtain ⟨b2, o2, pv, ea2, hr2', hrep2⟩ := (hrep.checks.mono hle2).at hp
   refine ⟨b2, o2, ea2, aC, hlt2, pv, .imm hr2', v, s, i, rfl, hs.mono hlh, h8, λ sl h' hle' hints => ⟨sl, ⟨none, 0, 0⟩, pv, gP s i, [], p, rfl, hints, ⟨.nil _ _, by simp⟩, hrep2.mono hle', aB (λ h6 => ?_) (λ h6 => ?_)⟩⟩
   . exact out h' _ (hlh.trans hle') (HZ aC hz hz2 (AH ht hp) (by simpa using h6))
   . exact ⟨(i, k + 1, w.checks, h'), ⟨rfl, rfl, by show k + 1 <= t.checks.length; omega, hle2.trans hle', Ll (AH ht hp) hz2 (by simpa using h6)⟩, by show t.checks.length - (k + 1) < t.checks.length - k; omega, MT⟩
 . obtain ⟨j, hj, hx⟩ := List.mem_flatMap.1 he
   exact hz j (by have := XX.1 hj; omega) e hx
mutual
def nY : Query -> Int -> Int
 | .mk _ _ _ _ _ _ _ _ args, n => kV args (n + 1)
def kV : List Query -> Int -> Int
 | [], n => n
 | p :: ps, n => if n <= 24 then kV ps (nY p n) else n
end
mutual
def lO : Query -> Nat -> Bool
 | .mk _ _ _ _ _ _ _ _ _, 0 => true
 | .mk _ _ _ _ _ _ _ _ args, n + 1 => sN args n
def sN : List Query -> Nat -> Bool
 | [], _ => false
 | p :: ps, n => lO p n || sN ps n
end
mutual
theorem E0 : ∀ (p : Query) (n : Int), n <= 24 -> n < nY p n /\ nY p n <= 25
 | .mk _ _ _ _ _ _ _ _ args, n, h => by
  have := DW args (n + 1) aC
  simp only [nY]; omega
theorem DW : ∀ (ps : List Query) (n : Int), n <= 25 -> n <= kV ps n /\ kV ps n <= 25
 | [], n, h => by simp only [kV]; omega
 | p :: ps, n, h => by
  simp only [kV]
  split
  . rename_i h1
    have h2 := E0 p n h1
    have h3 := DW ps (nY p n) h2.2
    omega
  . omega
end
theorem Ny (ps : List Query) {n : Int} (h : ¬ n <= 24) : kV ps n = n := by
 cases ps
 . simp [kV]
 . simp only [kV, if_neg h]
theorem F0 (n : Nat) : ∀ ps : List Query, sN ps n = ps.any (lO · n)
 | [] => by simp [sN]
 | p :: ps => by simp [sN, F0 n ps]
theorem cR.args {p : Query} (r : cR h p v) : zL h v.args p.args := by
 cases p
 exact r.parts.args_
def kG (q : Query) : Bool := decide (nY q 0 <= 24) && !lO q 8
def arity (op : Int) : Int :=
 if op == 1 then 0 else if op == 2 || op == 3 || op == 9 then 1 else if op == 4 || op == 5 || op == 6 || op == 7 || op == 8 || op == 10 then 2 else -1
def Oo (N : Nat) : Vc.Spec := λ cvs m h K => ∃ v p k, cvs = [aQ v, cI k, cI 24] /\ cR h p v /\ SizeOf.sizeOf p < N /\ 0 <= k /\ k <= 24 /\ K (cI (nY p k)) m h
def K2 (N : Nat) : Vc.Spec := λ cvs m h K => ∃ v p, ∃ k : Nat, cvs = [aQ v, cI k] /\ cR h p v /\ SizeOf.sizeOf p < N /\ k <= 100 /\ K (cB (lO p k)) m h
def Oj : Vc.Spec := λ cvs m h K => ∃ v p, cvs = [aQ v] /\ cR h p v /\ K (cB (kG p)) m h
def Ti : Vc.Spec := λ cvs m h K => ∃ op, cvs = [cI op] /\ K (cI (arity op)) m h
def El (l : List Int) (n : Int) : Bool := decide (0 <= n) && decide (n < l.length)
def InS : Vc.Spec := λ cvs m h K => ∃ s l n, cvs = [cS s, cI n] /\ Ints h s l /\ K (cB (El l n)) m h
noncomputable def YL (N : Nat) (v : QV) (m : MH) (h : PH) : Ctx :=
 dM [(66, Oo N)] [(3, { A := Nat × Int, st := λ x => cH 31 34 [(1, iv x.2), (2, iv 24), (3, .at (.ptr 3 0)), (7, iv x.1)] [(3, .cells 38 (v.enc.map .val))] m h })] [] [] false
noncomputable def YK (N : Nat) (v : QV) (k : Nat) (m : MH) (h : PH) : Ctx :=
 dM [(67, K2 N)] [(4, { A := Nat, st := λ i => cH 23 25 [(1, iv k), (2, .at (.ptr 2 0)), (10, iv v.args.len), (11, iv i)] [(2, .cells 38 (v.enc.map .val))] m h })] [] [] false
abbrev fC (a : QV) : Prop := eQ (oZ 38 a.enc)
attribute [push_cast] fC
def P1 (N : Nat) (v : QV) (k : Int) (m : MH) (h : PH) (K : CV -> MH -> PH -> Prop) : Prop :=
  ∃ (I : Nat × Int -> Prop) (m1 : Nat × Int -> Nat), (∃ (x : Nat × Int), aA (I x) (cL (dZ (k + 1)) x.2) (aA (eQ (fK 24)) (eP 3) (aA (bC x.1) (fC v) (aA (m = m) (h = h) True)))) /\ ∀ (x : Nat × Int), I x -> bA (↑x.1 : Int) (aG v.args) (Cf x.2 24 (aT (λ b o => aA (aU v.args.a b o) (0 <= (↑x.1 : Int)) ((↑x.1 : Int) < aG v.args /\ ∃ (y : QV), aL m h b (bN o x.1 21) y.enc /\ oF (λ v1 p => ∃ (k1 : Int), aA (aR y :: bB (dH x.2) 24 = aR v1 :: bB (dH k1) 24) (cR h p v1) (aA (qE p N) (cA k1) (k1 <= 24 /\ ∃ (x1 : Nat × Int), aA (I x1) (m1 x1 < m1 x) (aA (cL (nY p k1) x1.2) (eQ (fK 24)) (aA (eP 3) (fK (bE x.1 1) = bV x1.1) (aA (fC v) (m = m) (cV h h)))))))))) (K (dH x.2) m h)) (K (dH x.2) m h)
def P0 (N : Nat) (v : QV) (k : Nat) (m : MH) (h : PH) (K : CV -> MH -> PH -> Prop) : Prop :=
  dN (↑k : Int) 0 (K fJ m h) (nG (λ I x => aA (I x) (eQ (bV k)) (aA (eP 2) (bI v.args) (aA (bC x) (fC v) (aA (m = m) (h = h) True)))) (λ I m1 x => I x -> bA (↑x : Int) (aG v.args) (aT (λ b o => aA (aU v.args.a b o) (0 <= (↑x : Int)) ((↑x : Int) < aG v.args /\ ∃ (y : QV), aL m h b (bN o x 21) y.enc /\ oF (λ v1 p => E7 (bB (aR y) (dZ ((↑k : Int) - 1))) (aR v1) (cR h p v1) (qE p N) (λ k1 => hZ (lO p k1) (K fJ m h) (λ x1 => aA (I x1) (m1 x1 < m1 x) (aA (eQ (bV k)) (eP 2) (aA (bI v.args) (fK (bE x 1) = bV x1) (aA (fC v) (m = m) (cV h h)))))))))) (K aW m h)))
def Qe (N : Nat) (v : QV) (m : MH) (h : PH) (K : CV -> MH -> PH -> Prop) : Prop :=
  oF (λ v1 p => ∃ (k : Int), aA (aR v :: bB (dH 0) 24 = aR v1 :: bB (dH k) 24) (cR h p v1) (aA (qE p N) (cA k) (k <= 24 /\ Cf (nY p k) 24 (oF (λ v2 p1 => E7 (bB (aR v) 8) (aR v2) (cR h p1 v2) (qE p1 N) (λ k1 => K (CV.val (Value.bool (!(lO p1 k1)))) m h))) (K aW m h))))
def PF (op : Int) (m : MH) (h : PH) (K : CV -> MH -> PH -> Prop) : Prop :=
  cW (op == 1) (K (dH 0) m h) (op == 2) (K (dH 1) m h) (cW (op == 3) (K (dH 1) m h) (op == 9) (K (dH 1) m h) (cW (op == 4) (K (dH 2) m h) (op == 5) (K (dH 2) m h) (cW (op == 6) (K (dH 2) m h) (op == 7) (K (dH 2) m h) (cW (op == 8) (K (dH 2) m h) (op == 10) (K (dH 2) m h) (K (dH (Int.negSucc 0)) m h)))))
def MC (s : Sl) (n : Int) (m : MH) (h : PH) (K : CV -> MH -> PH -> Prop) : Prop :=
  fQ n 0 (K (AE (decide (n < aG s))) m h) (K aW m h)
theorem TV : ∀ N, Sound Tryz.prog 66 (Oo N)
 | 0 => by
  refine eK (fn := Tryz.f66) (c := dK Tryz.f66) Tryz.func66 rfl (by decide) ?_
  rintro cvs m h K ⟨v, p, k, rfl, hr, hN, _⟩
  omega
 | N + 1 => by
  refine gX Tryz.func66 ?_
  rintro cvs m h K ⟨v, p, k, rfl, hr, hN, h0, h1, hK⟩
  refine ⟨YL N v m h, rfl, aD (TV N) aF, P1 N v k m h K, by kernel_rfl, ?_⟩
  dsimp only [P1, push_cast]
  have hargs := hr.args
  have hlen := hargs.slen
  have hl := hargs.len
  refine ⟨λ x => x.1 <= p.args.length /\ 0 <= x.2 /\ x.2 <= 25 /\ kV (p.args.drop x.1) x.2 = nY p k, λ x => p.args.length - x.1, ⟨(0, k + 1), ⟨by simp, by simp; omega, by simp; omega, ?_⟩, ?_⟩, ?_⟩
  . cases p; simp [nY, Query.args]
  . rw [eG aC aC]; exact MT
  rintro ⟨i, n⟩ ⟨hi, hn0, hn1, he⟩
  dsimp only at hi hn0 hn1 he ⊢
  refine aE (λ hlt => aE (λ hn => ?_) (λ hn => vX hK ?_)) (λ hge => vX hK ?_)
  . obtain ⟨q, hq⟩ := fE hlen hlt
    obtain ⟨b, o, u, ea, hrd, hru⟩ := hargs.at hq
    have hb := E0 q n hn
    rw [drop_cons hq, kV, if_pos hn] at he
    refine ⟨b, o, ea, aC, hlt, u, .imm hrd, u, q, n, rfl, hru, ?_, hn0, hn, (i + 1, nY q n), ⟨by dsimp only; omega, by dsimp only; omega, by dsimp only; omega, he⟩, by dsimp only; omega, MT⟩
    have := Ca (lP hq); omega
  . rw [<- he, Ny _ hn]
  . rw [<- he, List.drop_of_length_le aC]; simp [kV]
theorem TU : ∀ N, Sound Tryz.prog 67 (K2 N)
 | 0 => by
  refine eK (fn := Tryz.f67) (c := dK Tryz.f67) Tryz.func67 rfl (by decide) ?_
  rintro cvs m h K ⟨v, p, k, rfl, hr, hN, _⟩
  omega
 | N + 1 => by
  refine gX Tryz.func67 ?_
  rintro cvs m h K ⟨v, p, k, rfl, hr, hN, h1, hK⟩
  refine ⟨YK N v k m h, rfl, aD (TU N) aF, P0 N v k m h K, by kernel_rfl, ?_⟩
  dsimp only [P0, push_cast]
  have hargs := hr.args
  have hlen := hargs.slen
  have hl := hargs.len
  refine aB (λ hk => gI hK ?_) (λ hk => ?_)
  . have : k = 0 := by have : (k : Int) = 0 := (by simpa using hk); omega
    subst this; cases p; simp [lO]
  . have hk : k ≠ 0 := by intro e; subst e; simp at hk
    have hdk : lO p k = p.args.any (lO · (k - 1)) := by
     obtain ⟨k', rfl⟩ : ∃ k', k = k' + 1 := ⟨k - 1, aC⟩
     cases p; simp [lO, F0, Query.args]
    rw [hdk] at hK
    refine ⟨λ i => i <= p.args.length /\ (p.args.take i).any (lO · (k - 1)) = false, λ i => p.args.length - i, ⟨0, ⟨aC, by simp⟩, MT⟩, λ i hi => aE (λ hlt => ?_) (λ hge => gI hK ?_)⟩
    . obtain ⟨q, hq⟩ := fE hlen hlt
      obtain ⟨b, o, u, ea, hrd, hru⟩ := hargs.at hq
      refine ⟨b, o, ea, aC, hlt, u, .imm hrd, u, q, k - 1, ?_, hru, ?_, aC, aB (λ hd => gI hK ?_) (λ hd => ?_)⟩
      . rw [eG aC aC, show ((k - 1 : Nat) : Int) = (k : Int) - 1 by omega]
      . have := Ca (lP hq); omega
      . rw [List.any_eq_true]; exact ⟨q, lP hq, hd⟩
      . refine ⟨i + 1, ⟨aC, ?_⟩, by show p.args.length - (i + 1) < p.args.length - i; omega, MT⟩
        rw [EA, List.any_append, hi.2, hq]; simpa using hd
    . have := hi.2
      rwa [EC aC] at this
theorem LW : Sound Tryz.prog 28 Oj := by
 refine gX Tryz.func28 ?_
 rintro cvs m h K ⟨v, p, rfl, hr, hK⟩
 refine ⟨dM [(66, Oo (SizeOf.sizeOf p + 1)), (67, K2 (SizeOf.sizeOf p + 1))] [] [] [] false, rfl, aD (TV _) (aD (TU _) aF), Qe (SizeOf.sizeOf p + 1) v m h K, by kernel_rfl, ?_⟩
 dsimp only [Qe, push_cast]
 refine ⟨v, p, 0, rfl, hr, aC, aC, aC, aB (λ h1 => ⟨v, p, 8, rfl, hr, aC, aC, gI hK ?_⟩) (λ h1 => gI hK ?_)⟩
 . simp only [kG, h1, Q6]
 . simp only [kG, h1, Tk]
theorem LM : Sound Tryz.prog 94 Ti := by
 refine gX Tryz.func94 ?_
 rintro cvs m h K ⟨op, rfl, hK⟩
 refine ⟨dM [] [] [] [] false, rfl, aF, PF op m h K, by kernel_rfl, ?_⟩
 dsimp only [PF, push_cast]
 repeat' (first | (refine aB (λ _ => ?_) (λ _ => ?_)) | (refine vX hK ?_; simp only [arity]; simp only [*, VX, Bool.false_or, Bool.or_true, Bool.true_or, Bool.and_true, Q6, XY, Tk, V4, X3, Tl, if_true, if_false, ↓reduceIte]; done) | (refine vX hK ?_; simp only [arity]; simp only [*, VX, Bool.false_or, Bool.or_true, Bool.true_or, Bool.and_true, Q6, XY, Tk, V4, X3, Tl, if_true, if_false, ↓reduceIte]; rfl))
theorem Ep : Sound Tryz.prog 124 InS := by
 refine gX Tryz.func124 ?_
 rintro cvs m h K ⟨s, l, n, rfl, hs, hK⟩
 refine ⟨dM [] [] [] [] false, rfl, aF, MC s n m h K, by kernel_rfl, ?_⟩
 dsimp only [MC, push_cast]
 have hl := hs.slen
 refine aE (λ h1 => gI hK ?_) (λ h1 => gI hK ?_)
 . have h1 : 0 <= n := h1
   simp only [El, hl, decide_eq_true h1, Q6]
 . have h1 : ¬ 0 <= n := by omega
   simp only [El, decide_eq_false h1, Tk]
def AA (a b : List Int) (pre : List (Int × Int)) (p : Int × Int) : Prop := El a p.1 = true /\ El b p.2 = true /\ a.getD p.1.toNat 0 = b.getD p.2.toNat 0 /\ ∀ q ∈ pre, q.1 ≠ p.1 /\ q.2 ≠ p.2
def Hx (a : List Int) (pre : List Int) (c : Int) : Prop := El a c = true /\ c ∉ pre
def KW (a : List Int) (_ : List (Int × Bool)) (o : Int × Bool) : Prop := El a o.1 = true
structure vQ (a : List Int) (group : List Int) (order : List (Int × Bool)) (limit : Int) : Prop where
 group_ : Good (Hx a) group
 order_ : Good (KW a) order
 len_ : order.length <= 12
 low : 0 <= limit
 high : limit <= 100
def Uh : Vc.Spec := λ cvs m h K => ∃ s t u on a b, cvs = [cS s, cS t, cS u] /\ lK h s on /\ Ints h t a /\ Ints h u b /\ ∀ r : Bool, (r = true ↔ Good (AA a b) on) -> K (cB r) m h
def Uf : Vc.Spec := λ cvs m h K => ∃ v t g o a, cvs = [aQ v, cS t] /\ Ints h v.group g /\ iE h v.order o /\ Ints h t a /\ ∀ r : Bool, (r = true ↔ vQ a g o v.limit) -> K (cB r) m h
noncomputable def Xa (s t u : Sl) (m : MH) (h : PH) : Ctx :=
 dM [(124, InS)] [(2, { A := Nat, st := λ i => cH 66 69 [(0, sv s), (1, sv t), (2, sv u), (10, sv s), (11, iv s.len), (12, iv i)] [] m h }),
  (7, { A := Nat × Nat × (Int × Int), st := λ ⟨i, k, p⟩ => cH 66 69 [(0, sv s), (1, sv t), (2, sv u), (7, iv i), (8, .at (.ptr 8 0)), (9, iv k), (10, sv s), (11, iv s.len), (12, iv i)] [(8, .cells 69 [.val (.int .i64 p.1), .val (.int .i64 p.2)])] m h })] [] [] false
noncomputable def W9 (v : QV) (t : Sl) (m : MH) (h : PH) : Ctx :=
 dM [(124, InS)] [(2, { A := Nat, st := λ i => cH 62 64 [(1, sv t), (2, .at (.ptr 2 0)), (11, sv v.group), (12, iv v.group.len), (13, iv i)] [(2, .cells 38 (v.enc.map .val))] m h }),
  (7, { A := Nat × Nat × Int, st := λ ⟨i, k, c⟩ => cH 62 64 [(1, sv t), (2, .at (.ptr 2 0)), (5, iv i), (6, iv c), (7, iv k), (11, sv v.group), (12, iv v.group.len), (13, iv i)] [(2, .cells 38 (v.enc.map .val))] m h }),
  (13, { A := Nat, st := λ i => cH 62 64 [(1, sv t), (2, .at (.ptr 2 0)), (36, sv v.order), (37, iv v.order.len), (38, iv i)] [(2, .cells 38 (v.enc.map .val))] m h })] [] [] false
noncomputable abbrev fF (a : Sl) (b : Int) : List CV := bB (cK a) b
abbrev E8 (a : Sl) (b : Int) (c : PH) (d : (List Int) -> Int -> Prop) : Prop := A8 (λ x x1 => ∃ (x2 : Int), aA (fF a b = fF x x2) (Ints c x x1) (d x1 x2))
abbrev Ba (a b : List At) : Prop := oQ 69 a = oQ 69 b
noncomputable abbrev pY (a : Int × Int) : List At := pR (mK a.1) (mK a.2)
attribute [push_cast] fF E8 Ba pY
def MB (s t u : Sl) (m : MH) (h : PH) (K : CV -> MH -> PH -> Prop) : Prop :=
  nG (λ I x => aA (I x) (aI s) (aA (aI t) (aI u) (aA (aI s) (bI s) (aA (bC x) (m = m) (cV h h))))) (λ I m1 x => I x -> bA (↑x : Int) (aG s) (aT (λ b o => aA (aU s.a b o) (0 <= (↑x : Int)) ((↑x : Int) < aG s /\ ∃ (y : Int × Int), aA (aL m h b (bN o x 2) (uD y)) ((0 : Int) <= 0) ((0 : Int) < 2 /\ E8 t y.1 h (λ l n => gK (El l n) (K aW m h) (aA (cA 1) ((1 : Int) < 2) (E8 u y.2 h (λ l1 n1 => gK (El l1 n1) (K aW m h) (aA (cA 0) ((0 : Int) < 2) (aT (λ b1 o1 => aA (aU t.a b1 o1) (0 <= y.1) (y.1 < aG t /\ ∃ (y1 : Int), aA (aL m h b1 (fM o1 y.1 1) (bZ y1)) ((0 : Int) <= 1) ((1 : Int) < 2 /\ aT (λ b2 o2 => aA (aU u.a b2 o2) (0 <= y.2) (y.2 < aG u /\ ∃ (y2 : Int), aL m h b2 (fM o2 y.2 1) (bZ y2) /\ eE y1 y2 (K aW m h) (∃ (I1 : Nat × Nat
 × Int × Int -> Prop) (m2 : Nat × Nat × Int × Int -> Nat), (∃ (x1 : Nat × Nat × Int × Int), aA (I1 x1) (aI s) (aA (aI t) (aI u) (aA (cC x x1.1) (eP 8) (aA (bC x1.2.1) (aI s) (aA (bI s) (cC x x1.1) (aA (Ba (pY y) (pY x1.2.2)) (m = m) (cV h h))))))) /\ ∀ (x1 : Nat × Nat × Int × Int), I1 x1 -> bA (↑x1.2.1 : Int) (↑x1.1 : Int) (aT (λ b3 o3 => aA (aU s.a b3 o3) (cA (↑x1.2.1 : Int)) (aA ((↑x1.2.1 : Int) < aG s) (cA 0) ((0 : Int) < 2 /\ ∃ (y3 : Int), aA (aL m h b3 (bN o3 x1.2.1 2 + 0) (bZ y3)) ((0 : Int) <= 0) ((0 : Int) < 2 /\ dN y3 x1.2.2.1 (K aW m h) (aT (λ b4 o4 => aA (aU s.a b4 o4) (cA (↑x1.2.1 : Int)) (aA ((↑x1.2.1 : Int) < aG s) (cA 1) ((1 : Int) < 2 /\ ∃ (y4 : Int), aA (aL m h b4 (bN o4 x1.2.1 2 + 1) (bZ y4)) ((0 : Int) <= 1) ((1 : Int) < 2 /\ dN y4
 x1.2.2.2 (K aW m h) (∃ (x2 : Nat × Nat × Int × Int), aA (I1 x2) (m2 x2 < m2 x1) (aA (aI s) (aI t) (aA (aI u) (cC x1.1 x2.1) (aA (eP 8) (fK (bE x1.2.1 1) = bV x2.2.1) (aA (aI s) (bI s) (aA (cC x1.1 x2.1) (Ba (pY x1.2.2) (pY x2.2.2)) (dT m m h h))))))))))))))))) (∃ (x2 : Nat), aA (I x2) (m1 x2 < m1 x) (aA (aI s) (aI t) (aA (aI u) (aI s) (aA (bI s) (fK (bE x1.1 1) = bV x2) (dT m m h h))))))))))))))))))))) (K fJ m h))
def MA (v : QV) (t : Sl) (m : MH) (h : PH) (K : CV -> MH -> PH -> Prop) : Prop :=
  nG (λ I x => aA (I x) (aI t) (aA (eP 2) (aI v.group) (aA (bI v.group) (bC x) (aA (fC v) (m = m) (cV h h))))) (λ I m1 x => I x -> bA (↑x : Int) (aG v.group) (aT (λ b o => aA (aU v.group.a b o) (0 <= (↑x : Int)) ((↑x : Int) < aG v.group /\ ∃ (y : Int), aL m h b (bN o x 1) (bZ y) /\ E8 t y h (λ l n => gK (El l n) (K aW m h) (∃ (I1 : Nat × Nat × Int -> Prop) (m2 : Nat × Nat × Int -> Nat), (∃ (x1 : Nat × Nat × Int), aA (I1 x1) (aI t) (aA (eP 2) (cC x x1.1) (aA (cL y x1.2.2) (bC x1.2.1) (aA (aI v.group) (bI v.group) (lX (cC x x1.1) (fC v) (m = m) (h = h)))))) /\ ∀ (x1 : Nat × Nat × Int), I1 x1 -> bA (↑x1.2.1 : Int) (↑x1.1 : Int) (aT (λ b1 o1 => aA (aU v.group.a b1 o1) (0 <= (↑x1.2.1 : Int)) ((↑x1.2.1 : Int) < aG v.group /\ ∃ (y1 : Int), aL m h b1 (bN o1
 x1.2.1 1) (bZ y1) /\ dN y1 x1.2.2 (K aW m h) (∃ (x2 : Nat × Nat × Int), aA (I1 x2) (m2 x2 < m2 x1) (aA (aI t) (eP 2) (aA (cC x1.1 x2.1) (cL x1.2.2 x2.2.2) (aA (fK (bE x1.2.1 1) = bV x2.2.1) (aI v.group) (aA (bI v.group) (cC x1.1 x2.1) (aA (fC v) (m = m) (cV h h)))))))))) (∃ (x2 : Nat), aA (I x2) (m1 x2 < m1 x) (aA (aI t) (eP 2) (aA (aI v.group) (bI v.group) (aA (fK (bE x1.1 1) = bV x2) (fC v) (dT m m h h)))))))))) (nG (λ I1 x1 => aA (I1 x1) (aI t) (aA (eP 2) (aI v.order) (aA (bI v.order) (bC x1) (aA (fC v) (m = m) (cV h h))))) (λ I1 m2 x1 => I1 x1 -> bA (↑x1 : Int) (aG v.order) (aT (λ b o => aA (aU v.order.a b o) (0 <= (↑x1 : Int)) ((↑x1 : Int) < aG v.order /\ ∃ (y : Int × Bool), aL m h b (bN o x1 2) (yR y) /\ E8 t y.1 h (λ l n
 => hZ (!(El l n)) (K aW m h) (λ x2 => aA (I1 x2) (m2 x2 < m2 x1) (aA (aI t) (eP 2) (aA (aI v.order) (bI v.order) (aA (fK (bE x1 1) = bV x2) (fC v) (dT m m h h))))))))) (Cf (aG v.order) 12 (fQ v.limit 0 (K (AE (decide (v.limit <= 100))) m h) (K aW m h)) (K aW m h)))))
theorem J0 {α : Type} {l : List α} {x : α} (hx : l[i]? = some x) (hi : i < k) : x ∈ l.take k := lP (i := i) (by rw [DT, if_pos hi, hx])
theorem ON {α : Type} {l : List α} {x y : α} (hx : l[i]? = some x) (hy : y ∈ l.take (i + 1)) : y ∈ l.take i \/ y = x := by
 rw [EA, hx, BZ] at hy
 rcases hy with h | h
 . exact .inl h
 . simp at h; exact .inr h
theorem j8 {n : Int} : El l n = true ↔ 0 <= n /\ n < l.length := by simp [El]
theorem Sx : Sound Tryz.prog 125 Uh := by
 refine gX Tryz.func125 ?_
 rintro cvs m h K ⟨s, t, u, on, a, b, rfl, hs, ht, hu, hK⟩
 refine ⟨Xa s t u m h, rfl, aD Ep aF, MB s t u m h K, by kernel_rfl, ?_⟩
 dsimp only [MB, push_cast]
 have hl := hs.slen
 have hlen := hs.len
 have ta := ht.slen
 have ub := hu.slen
 refine ⟨λ i => i <= on.length /\ eM (AA a b) on i, λ i => on.length - i, ⟨0, ⟨aC, .zero⟩, MT⟩, λ i ⟨hi, hg⟩ => aE (λ hlt => ?_) (λ hge => hK true ⟨λ _ => hg.all aC, λ _ => rfl⟩)⟩
 obtain ⟨p, hp⟩ := fE hl hlt
 obtain ⟨b1, o1, e1, r1⟩ := hs.at hp
 have bad : ¬ AA a b (on.take i) p -> K (.val (.bool false)) m h := λ hn => hK false ⟨λ e => (by cases e), λ e => (Good.not hp hn e).elim⟩
 refine ⟨b1, o1, e1, aC, hlt, p, .imm r1, aC, aC, t, a, p.1, rfl, ht, aB (λ h1 => bad λ hh => ?_) (λ h1 => ⟨aC, aC, u, b, p.2, rfl, hu, aB (λ h2 => bad λ hh => ?_) (λ h2 => ?_)⟩)⟩
 . rw [hh.1] at h1; cases h1
 . rw [hh.2.1] at h2; cases h2
 have i1 : El a p.1 = true := by simpa using h1
 have i2 : El b p.2 = true := by simpa using h2
 have i1' := j8.1 i1
 have i2' := j8.1 i2
 obtain ⟨b2, o2, e2, r2⟩ := ht.inb i1'.1 i1'.2
 obtain ⟨b3, o3, e3, r3⟩ := hu.inb i2'.1 i2'.2
 refine ⟨aC, aC, b2, o2, e2, aC, aC, _, .imm r2, aC, aC, b3, o3, e3, aC, aC, _, .imm r3, aB (λ h3 => bad λ hh => ?_) (λ h3 => ?_)⟩
 . rw [hh.2.2.1] at h3; simp at h3
 refine ⟨λ ⟨i', k, p'⟩ => i' = i /\ p' = p /\ k <= i /\ ∀ q ∈ on.take k, q.1 ≠ p.1 /\ q.2 ≠ p.2, λ ⟨_, k, _⟩ => i - k, ⟨(i, 0, p), ⟨rfl, rfl, aC, λ q hq => by simp at hq⟩, MT⟩, ?_⟩
 rintro ⟨i, k, p⟩ ⟨rfl, rfl, hk, hno⟩
 dsimp only
 refine aE (λ hlt2 => ?_) (λ hge2 => ?_)
 . obtain ⟨q, hq⟩ : ∃ q, on[k]? = some q := ⟨on[k]'(by omega), kP _⟩
   obtain ⟨b4, o4, e4, r4⟩ := hs.at hq
   refine ⟨b4, o4, e4, aC, aC, aC, aC, q.1, .imm (aZ.part r4 0 1), aC, aC, aB (λ h4 => bad λ hh => ?_) (λ h4 => ⟨b4, o4, e4, aC, aC, aC, aC, q.2, .imm (aZ.part r4 1 1), aC, aC, aB (λ h5 => bad λ hh => ?_) (λ h5 => ?_)⟩)⟩
   . exact (hh.2.2.2 q (J0 hq aC)).1 (by simpa using h4)
   . exact (hh.2.2.2 q (J0 hq aC)).2 (by simpa using h5)
   . refine ⟨(i, k + 1, p), ⟨rfl, rfl, by show k + 1 <= i; omega, λ q' hq' => ?_⟩, by show i - (k + 1) < i - k; omega, MT⟩
     rcases ON hq hq' with e | rfl
     . exact hno q' e
     . exact ⟨by simpa using h4, by simpa using h5⟩
 . have : k = i := by omega
   subst this
   exact ⟨k + 1, ⟨aC, hg.succ hp ⟨i1, i2, by simpa using h3, hno⟩⟩, by show on.length - (k + 1) < on.length - k; omega, MT⟩
theorem Sw : Sound Tryz.prog 126 Uf := by
 refine gX Tryz.func126 ?_
 rintro cvs m h K ⟨v, t, g, o, a, rfl, hg, ho, ht, hK⟩
 refine ⟨W9 v t m h, rfl, aD Ep aF, MA v t m h K, by kernel_rfl, ?_⟩
 dsimp only [MA, push_cast]
 have gl := hg.slen
 have glen := hg.len
 have ol := ho.slen
 have olen := ho.len
 have bad : ¬ vQ a g o v.limit -> K (.val (.bool false)) m h := λ hn => hK false ⟨λ e => (by cases e), λ e => (hn e).elim⟩
 refine ⟨λ i => i <= g.length /\ eM (Hx a) g i, λ i => g.length - i, ⟨0, ⟨aC, .zero⟩, MT⟩, λ i ⟨hi, hgi⟩ => aE (λ hlt => ?_) (λ hge => ?_)⟩
 . obtain ⟨c, hc⟩ := fE gl hlt
   obtain ⟨b1, o1, e1, r1⟩ := hg.at' hc
   refine ⟨b1, o1, e1, aC, hlt, c, .imm r1, t, a, c, rfl, ht, aB (λ h1 => bad λ hh => Good.not hc (λ hx => ?_) hh.group_) (λ h1 => ?_)⟩
   . rw [hx.1] at h1; cases h1
   refine ⟨λ ⟨i', k, c'⟩ => i' = i /\ c' = c /\ k <= i /\ c ∉ g.take k, λ ⟨_, k, _⟩ => i - k, ⟨(i, 0, c), ⟨rfl, rfl, aC, by simp⟩, MT⟩, ?_⟩
   rintro ⟨i, k, c⟩ ⟨rfl, rfl, hk, hno⟩
   dsimp only
   refine aE (λ hlt2 => ?_) (λ hge2 => ?_)
   . obtain ⟨q, hq⟩ : ∃ q, g[k]? = some q := ⟨g[k]'(by omega), kP _⟩
     obtain ⟨b4, o4, e4, r4⟩ := hg.at' hq
     refine ⟨b4, o4, e4, aC, aC, q, .imm r4, aB (λ h4 => bad λ hh => Good.not hc (λ hx => ?_) hh.group_) (λ h4 => ?_)⟩
     . refine hx.2 ?_
       have : q = c := by simpa using h4
       rw [<- this]; exact J0 hq aC
     . refine ⟨(i, k + 1, c), ⟨rfl, rfl, by show k + 1 <= i; omega, λ hq' => ?_⟩, by show i - (k + 1) < i - k; omega, MT⟩
       rcases ON hq hq' with e | rfl
       . exact hno e
       . simp at h4
   . have : k = i := by omega
     subst this
     exact ⟨k + 1, ⟨aC, hgi.succ hc ⟨by simpa using h1, hno⟩⟩, by show g.length - (k + 1) < g.length - k; omega, MT⟩
 have gg := hgi.all aC
 clear hi hgi hge
 refine ⟨λ i => i <= o.length /\ eM (KW a) o i, λ i => o.length - i, ⟨0, ⟨aC, .zero⟩, MT⟩, λ i ⟨hi, hoi⟩ => aE (λ hlt => ?_) (λ hge => ?_)⟩
 . obtain ⟨c, hc⟩ := fE ol hlt
   obtain ⟨b1, o1, e1, r1⟩ := ho.at hc
   refine ⟨b1, o1, e1, aC, hlt, c, .imm r1, t, a, c.1, rfl, ht, aB (λ h1 => bad λ hh => Good.not hc (λ hx => ?_) hh.order_) (λ h1 => ⟨i + 1, ⟨aC, hoi.succ hc (by simpa [KW] using h1)⟩, by show o.length - (i + 1) < o.length - i; omega, MT⟩)⟩
   rw [show El a c.1 = true from hx] at h1; cases h1
 have oo := hoi.all aC
 refine aE (λ h1 => aE (λ h2 => ?_) (λ h2 => bad λ hh => ?_)) (λ h1 => bad λ hh => ?_)
 . refine hK (decide (v.limit <= 100)) ⟨λ e => ⟨gg, oo, aC, h2, by simpa using e⟩, λ e => decide_eq_true e.high⟩
 . have := hh.low; omega
 . have := hh.len_; omega
def gW : Pred := .mk 0 0 dL dL []
def dJ : Query -> Prop
 | .mk op ta w co on gr od li _ => (op = 1 \/ ta = 0) /\ (op = 2 \/ w = gW) /\ (op = 3 \/ co = []) /\ (op = 4 \/ op = 5 \/ on = []) /\ (op = 9 \/ op = 10 \/ (gr = [] /\ od = [] /\ li = 0))
def z6 (l : List Int) : List Int × Int := if l.length <= 12 then (l, 0) else ([], 2)
def iO (e : Int) : List Int × Int := ([], e)
open Classical in
noncomputable def gZ (s : nX) (ps : List Int) (q : Query) (a b : List Int) : List Int × Int :=
 if arity (match q with | .mk op .. => op) < 0 \/ ¬ dJ q then iO 100 else
 match q with
 | .mk op ta w co on gr od li _ =>
  if op = 1 then (if 0 <= ta /\ ta < s.tables.length then z6 (gP s ta) else iO 100)
  else if op = 2 then (if gY a ps w = 0 then z6 a else iO (gY a ps w))
  else if op = 3 then (if co ≠ [] /\ Good (λ _ c => El a c = true) co then z6 (co.map λ c => a.getD c.toNat 0) else iO 100)
  else if op = 4 then (if Good (AA a b) on then z6 (a ++ b) else iO 100)
  else if op = 5 then (if Good (AA a b) on then z6 a else iO 100)
  else if op = 9 then (if vQ a gr od li then z6 a else iO 100)
  else if op = 10 then (if a = b /\ vQ a gr od li then z6 a else iO 100)
  else (if a = b then z6 a else iO 100)
def Ua : Vc.Spec := λ cvs m h K => ∃ v q, cvs = [aQ v] /\ cR h q v /\ ∀ r : Bool, (r = true ↔ dJ q) -> K (cB r) m h
def KR (K : CV -> MH -> PH -> Prop) (m : MH) (h : PH) (r : List Int × Int) : Prop := ∀ sl h', PH.le h h' -> Ints h' sl r.1 -> K (.tup [cS sl, cI r.2]) m h'
def ZM : Vc.Spec := λ cvs m h K => ∃ sc p v a b s ps q la lb, cvs = [aS sc, cS p, aQ v, cS a, cS b] /\ gR h s sc /\ pB s /\ Ints h p ps /\ cR h q v /\ Ints h a la /\ Ints h b lb /\ la.length <= 12 /\ lb.length <= 12 /\ KR K m h (gZ s ps q la lb)
noncomputable def Yx (m : MH) : Ctx :=
 dM [(94, Ti), (123, Ua), (44, vA), (69, qP), (124, InS), (125, Uh), (126, Uf), (127, Az)] [(20, { A := Nat × Sl × Sl × List Int × PH, st := λ ⟨i, a, co, l, h⟩ => cH 121 126 [(3, sv a), (12, .at (.lst 94)), (78, sv co), (79, iv co.len), (80, iv i)] [(94, .lst 3 1 (l.map eI))] m h })] [] [] false
noncomputable def Xb (v : QV) (m : MH) (h : PH) : Ctx :=
 aiX [(163, Zw)] [] [(2, { A := Bool, st := λ r => cH 78 79 [(1, .at (.ptr 1 0)), (3, bv r)] [(1, .cells 38 (v.enc.map .val))] m h })] [(2, [(9, { A := Bool × Bool, st := λ x => cH 78 79 [(1, .at (.ptr 1 0)), (3, bv x.1), (20, bv x.2)] [(1, .cells 38 (v.enc.map .val))] m h }),
  (11, { A := Bool × Bool, st := λ x => cH 78 79 [(1, .at (.ptr 1 0)), (3, bv x.1), (31, bv x.2)] [(1, .cells 38 (v.enc.map .val))] m h }),
  (11, { A := Bool × Bool, st := λ x => cH 78 79 [(1, .at (.ptr 1 0)), (3, bv x.1), (42, bv x.2)] [(1, .cells 38 (v.enc.map .val))] m h }),
  (16, { A := Bool × Bool, st := λ x => cH 78 79 [(1, .at (.ptr 1 0)), (3, bv x.1), (58, bv x.2)] [(1, .cells 38 (v.enc.map .val))] m h })])] [] false
abbrev gM (a b : Bool) : Prop := sQb a = sQb b
abbrev vH (a : Bool) : Prop := gM true a
abbrev Fp (a : Prop) (b : (Bool × Bool -> Prop) -> Prop) (c : (Bool × Bool -> Prop) -> (Bool × Bool) -> Prop) : Prop := a -> ∃ (x : Bool × Bool -> Prop), b x /\ ∀ (x1 : Bool × Bool), c x x1
noncomputable abbrev hU  : List Value := iK sR
abbrev C2 (a : Bool × Bool -> Prop) (b : Bool × Bool) (c : (Bool × Bool) -> Prop) (d : QV) (e : MH) (g : PH) : Prop := ∃ (x : Bool × Bool), aA (a x) eO (aA (gM b.1 x.1) (c x) (bM (fC d) (e = e) (g = g)))
abbrev AV (a : Bool) : Prop := gM false a
attribute [push_cast] gM vH Fp hU C2 AV
def MD (v : QV) (m : MH) (h : PH) (K : CV -> MH -> PH -> Prop) : Prop :=
  ∃ (I : Bool -> Prop), dN v.op 9 (∃ (x : Bool), aA (I x) eO (aA (vH x) (fC v) (dT m m h h))) (∃ (x : Bool), aA (I x) eO (aA (gM (v.op == 10) x) (fC v) (dT m m h h))) /\ ∀ (x : Bool), Fp (I x) (λ I1 => dN v.op 1 (∃ (x1 : Bool × Bool), aA (I1 x1) eO (aA (gM x x1.1) (vH x1.2) (bM (fC v) (m = m) (h = h)))) (∃ (x1 : Bool × Bool), aA (I1 x1) eO (aA (gM x x1.1) (gM (v.table == 0) x1.2) (bM (fC v) (m = m) (h = h))))) (λ I1 x1 => Fp (I1 x1) (λ I2 => branch x1.2 (dN v.op 2 (∃ (x2 : Bool × Bool), aA (I2 x2) eO (aA (gM x1.1 x2.1) (vH x2.2) (bM (fC v) (m = m) (h = h)))) (Fo (λ v1 w p q => j2 (aX (cX v.where_) (kE (aJ bO bO (aJ bO bO (aJ bO bO (aJ Tq bO (aJ bO bO (aJ bO Tq hU)))))))) (aX (cX
 v1) (cX w)) (eD h p v1) (eD h q w) (λ r => (dX r ↔ p = q) -> C2 I2 x1 (λ x2 => gM r x2.2) v m h)))) (∃ (x2 : Bool × Bool), aA (I2 x2) eO (aA (gM x1.1 x2.1) (AV x2.2) (bM (fC v) (m = m) (h = h))))) (λ I2 x2 => Fp (I2 x2) (λ I3 => branch x2.2 (dN v.op 3 (∃ (x3 : Bool × Bool), aA (I3 x3) eO (aA (gM x2.1 x3.1) (vH x3.2) (bM (fC v) (m = m) (h = h)))) (C2 I3 x2 (λ x3 => gM (aG v.columns == 0) x3.2) v m h)) (∃ (x3 : Bool × Bool), aA (I3 x3) eO (aA (gM x2.1 x3.1) (AV x3.2) (bM (fC v) (m = m) (h = h))))) (λ I3 x3 => Fp (I3 x3) (λ I4 => branch x3.2 (cW (v.op == 4) (C2 I4 x3 (λ x4 => vH x4.2) v m h) (v.op == 5) (C2 I4 x3 (λ x4 => vH x4.2) v m h) (C2 I4 x3 (λ x4 => gM (aG v.on == 0) x4.2) v m h)) (∃ (x4 : Bool × Bool), aA (I4 x4)
 eO (aA (gM x3.1 x4.1) (AV x4.2) (bM (fC v) (m = m) (h = h))))) (λ I4 x4 => fP (I4 x4) x4.2 (cW x4.1 (K fJ m h) (aG v.group == 0) (dN (aG v.order) 0 (K (AE (v.limit == 0)) m h) (K aW m h)) (K aW m h)) (K aW m h)))))
noncomputable abbrev qA (a : QV) : List CV := mR (aR a)
noncomputable abbrev dA (a : Sl) : Sl := Sl.mk a.a a.len a.cap
noncomputable abbrev j3 (a : List (List Value)) : Int := (↑a.length : Int)
abbrev wC (a : PH) (b : List (List Value)) (c : CV -> MH -> PH -> Prop) (d : MH) : Prop := bH a 1 b (λ x x1 => c (CV.tup (bB (cK x) 0)) d x1)
noncomputable abbrev uA (a : Nat × Sl × Sl × List Int × PH) : Sl := a.2.2.1
noncomputable abbrev yO (a : Nat × Sl × Sl × List Int × PH) : List Int := a.2.2.2.1
noncomputable abbrev uB (a : Nat × Sl × Sl × List Int × PH) : Nat -> Nat -> Option Value := a.2.2.2.2
abbrev JT (a : Sl -> (List (Int × Int)) -> Prop) : Prop := ∃ (x : Sl) (x1 : List (Int × Int)), a x x1
abbrev rJ (a b : List (List Value)) (c : Nat) : Prop := gH ((a.length + b.length) * c)
abbrev xO (a : List (List Value)) (b : Nat) : Prop := gH (a.length + b)
abbrev rK (a b : List (List Value)) : Prop := xO a b.length
attribute [push_cast] qA dA j3 wC uA yO uB JT rJ xO rK
def Ke (sc : bL) (p : Sl) (v : QV) (a b : Sl) (m : MH) (h : PH) (K : CV -> MH -> PH -> Prop) : Prop :=
  jL v.op (λ o => bA (arity o) 0 (K (CV.tup (bB jZ 100)) m h) (oF (λ v1 q => aA (qA v = qA v1) (cR h q v1) (∀ (r : Bool), fP (dX r ↔ dJ q) (!r) (K (CV.tup (bB jZ 100)) m h) (∃ (y : List (List Value)), aA (dY 1 y) (cN h (dA a) 1 y) (aA (gH (y.length * 8)) (gH y.length) (cW (v.op == 1) (bA v.table 0 (K (CV.tup (bB jZ 100)) m h) (fQ v.table (gL sc) (K (CV.tup (bB jZ 100)) m h) (Be (bB (cF sc) v.table) h (λ s h1 => eJ (aG s) 12 (K (CV.tup (bB jZ 2)) m h1) (K (CV.tup (bB (cK s) 0)) m h1))))) (v.op == 2) (C3 (cK a :: aX (cK p) (cX v.where_)) h (λ c p1 p2 => cW (gY c p1 p2 != 0) (K (CV.tup (bB jZ (gY c p1 p2))) m h) (decide (j3 y > 12)) (K (CV.tup (bB jZ 2)) m h) (wC h y K m))) (cW (v.op == 3) (dN (aG v.columns) 0 (K
 (CV.tup (bB jZ 100)) m h) (∃ (I : Nat × Sl × Sl × List Int × PH -> Prop) (m1 : Nat × Sl × Sl × List Int × PH -> Nat), (∃ (x : Nat × Sl × Sl × List Int × PH), aA (I x) (bD a x.2.1) (aA (eL 94) (bD v.columns (uA x)) (aA (cM v.columns (uA x)) (bC x.1) (aA (rQ (yO x)) (m = m) (cV h (uB x)))))) /\ ∀ (x : Nat × Sl × Sl × List Int × PH), I x -> bA (↑x.1 : Int) (aG (uA x)) (aT (λ b1 o1 => aA (aU (uA x).a b1 o1) (0 <= (↑x.1 : Int)) ((↑x.1 : Int) < aG (uA x) /\ ∃ (y1 : Int), aL m (uB x) b1 (bN o1 x.1 1) (bZ y1) /\ A8 (λ s l => ∃ (n : Int), aA (fF x.2.1 y1 = fF s n) (Ints (uB x) s l) (gK (El l n) (K (CV.tup (bB jZ 100)) m (uB x)) (aT (λ b2 o2 => aA (aU x.2.1.a b2 o2) (0 <= y1) (y1 < aG x.2.1 /\ ∃ (y2 : Int), aA (aL m (uB x) b2 (fM o2 y1
 1) (bZ y2)) (C7 (yO x)) (iA (iI (yO x)) /\ ∃ (x1 : Nat × Sl × Sl × List Int × PH), aA (I x1) (m1 x1 < m1 x) (aA (bD x.2.1 x1.2.1) (eL 94) (aA (bD (uA x) (uA x1)) (cM (uA x) (uA x1)) (aA (fK (bE x.1 1) = bV x1.1) (rT (yO x) y2 (yO x1)) (dT m m (uB x) (uB x1)))))))))))))) (eJ (j3 (iI (yO x))) 12 (K (CV.tup (bB jZ 2)) m (uB x)) (bH (uB x) 1 (iI (yO x)) (λ s h1 => K (CV.tup (bB (cK s) 0)) m h1))))) (v.op == 4) (iW (λ s t => JT (λ u o1 => qS (λ a1 b1 => aA (cK v.on :: aX (cK a) (cK b) = cK s :: aX (cK t) (cK u)) (lK h s o1) (aA (Ints h t a1) (Ints h u b1) (∀ (r1 : Bool), (dX r1 ↔ Good (AA a1 b1) o1) -> cW (!r1) (K (CV.tup (bB jZ 100)) m h) (v.op == 4) (∃ (y1 : List (List Value)), aA (dY 1 y1)
 (cN h (dA b) 1 y1) (aA (rJ y y1 8) (rK y y1) (eJ (j3 (y ++ y1)) 12 (K (CV.tup (bB jZ 2)) m h) (wC h (y ++ y1) K m)))) (eJ (j3 y) 12 (K (CV.tup (bB jZ 2)) m h) (wC h y K m)))))))) (cW (v.op == 5) (iW (λ s t => JT (λ u o1 => qS (λ a1 b1 => aA (cK v.on :: aX (cK a) (cK b) = cK s :: aX (cK t) (cK u)) (lK h s o1) (aA (Ints h t a1) (Ints h u b1) (∀ (r1 : Bool), (dX r1 ↔ Good (AA a1 b1) o1) -> cW (!r1) (K (CV.tup (bB jZ 100)) m h) (v.op == 4) (∃ (y1 : List (List Value)), aA (dY 1 y1) (cN h (dA b) 1 y1) (aA (rJ y y1 8) (rK y y1) (eJ (j3 (y ++ y1)) 12 (K (CV.tup (bB jZ 2)) m h) (wC h (y ++ y1) K m)))) (eJ (j3 y) 12 (K (CV.tup (bB jZ 2)) m h) (wC h y K m)))))))) (v.op == 9) (∃ (v2 : QV), A8 (λ t g => ∃ (o1 : List (Int × Bool)) (a1 : List
 Int), aA (aX (aR v) (cK a) = aX (aR v2) (cK t)) (Ints h v2.group g) (aA (iE h v2.order o1) (Ints h t a1) (∀ (r1 : Bool), (dX r1 ↔ vQ a1 g o1 v2.limit) -> cW (!r1) (K (CV.tup (bB jZ 100)) m h) (decide (j3 y > 12)) (K (CV.tup (bB jZ 2)) m h) (wC h y K m))))) (iW (λ s t => qS (λ a1 b1 => j2 (jP a b) (jP s t) (Ints h s a1) (Ints h t b1) (λ r1 => (dX r1 ↔ a1 = b1) -> cW (!r1) (K (CV.tup (bB jZ 100)) m h) (v.op == 10) (∃ (v2 : QV), A8 (λ t1 g => ∃ (o1 : List (Int × Bool)) (a2 : List Int), aA (aX (aR v) (cK a) = aX (aR v2) (cK t1)) (Ints h v2.group g) (aA (iE h v2.order o1) (Ints h t1 a2) (∀ (r2 : Bool), (dX r2 ↔ vQ a2 g o1 v2.limit) -> cW (!r2) (K (CV.tup (bB jZ 100)) m h) (decide (j3 y > 12)) (K (CV.tup (bB jZ 2)) m h) (wC h y K m))))) (eJ (j3 y) 12 (K
 (CV.tup (bB jZ 2)) m h) (wC h y K m)))))))))))))))
theorem DP {α : Type} {n : Nat} {l : List α} (h : n = l.length) : ((n : Int) == 0) = true ↔ l = [] := by
 rw [beq_iff_eq, h, <- List.length_eq_zero_iff]; omega
theorem AL (h : PH) : eD h gW ⟨0, 0, dL, dL, ⟨none, 0, 0⟩⟩ := eD.mk (v := ⟨0, 0, dL, dL, ⟨none, 0, 0⟩⟩) (.nil _ _ _ _)
theorem Sy : Sound Tryz.prog 123 Ua := by
 refine gX Tryz.func123 ?_
 rintro cvs m h K ⟨v, q, rfl, hq, hK⟩
 refine ⟨Xb v m h, rfl, aD R3 aF, MD v m h K, by kernel_rfl, ?_⟩
 dsimp only [MD, push_cast]
 obtain ⟨op, ta, w, co, on, gr, od, li, args⟩ := q
 have a := hq.parts
 have e0 := a.op_
 have e1 := a.table_
 have e2 := a.limit_
 have l1 := DP a.columns_.slen
 have l2 := DP a.on_.slen
 have l3 := DP a.group_.slen
 have l4 := DP a.order_.slen
 simp only [dJ] at hK
 subst e0 e1 e2
 refine ⟨λ r => (r = true ↔ v.op = 9 \/ v.op = 10), aB (λ h1 => ⟨true, by simp at h1; simp [h1], MT⟩) (λ h1 => ⟨_, ?_, MT⟩), λ r hr => ?_⟩
 . simp only [beq_eq_false_iff_ne] at h1; simp [h1]
 refine ⟨λ x => x.1 = r /\ (x.2 = true ↔ (v.op = 1 \/ v.table = 0)), aB (λ h1 => ⟨(r, true), ⟨rfl, by simp at h1; simp [h1]⟩, MT⟩) (λ h1 => ⟨(r, _), ⟨rfl, ?_⟩, MT⟩), ?_⟩
 . simp only [beq_eq_false_iff_ne] at h1; simp [h1]
 rintro ⟨r, c⟩ ⟨rfl, hc⟩
 dsimp only at hc hr ⊢
 refine ⟨λ x => x.1 = r /\ (x.2 = true ↔ (v.op = 1 \/ v.table = 0) /\ (v.op = 2 \/ w = gW)), aB (λ h1 => aB (λ h2 => ⟨(r, true), ⟨rfl, ⟨λ _ => ⟨hc.1 h1, .inl (by simpa using h2)⟩, λ _ => rfl⟩⟩, MT⟩) (λ h2 => ⟨v.where_, ⟨0, 0, dL, dL, ⟨none, 0, 0⟩⟩, w, gW, rfl, a.where_, AL h, λ r' hr' => ⟨(r, r'), ⟨rfl, ?_⟩, MT⟩⟩)) (λ h1 => ⟨(r, false), ⟨rfl, ?_⟩, MT⟩), ?_⟩
 . simp only [beq_eq_false_iff_ne] at h2; simp only [hr', hc.1 h1, h2, true_and, false_or]
 . rw [h1] at hc; simp only [Tl, false_iff] at hc ⊢; exact λ e => hc e.1
 clear hc c
 rintro ⟨r, c⟩ ⟨rfl, hc⟩
 dsimp only at hc hr ⊢
 refine ⟨λ x => x.1 = r /\ (x.2 = true ↔ (v.op = 1 \/ v.table = 0) /\ (v.op = 2 \/ w = gW) /\ (v.op = 3 \/ co = [])), aB (λ h1 => aB (λ h2 => ⟨(r, true), ⟨rfl, ⟨λ _ => ⟨(hc.1 h1).1, (hc.1 h1).2, .inl (by simpa using h2)⟩, λ _ => rfl⟩⟩, MT⟩) (λ h2 => ⟨(r, _), ⟨rfl, ?_⟩, MT⟩)) (λ h1 => ⟨(r, false), ⟨rfl, ?_⟩, MT⟩), ?_⟩
 . simp only [beq_eq_false_iff_ne] at h2; simp only [l1, hc.1 h1, h2, true_and, false_or]
 . rw [h1] at hc; simp only [Tl, false_iff] at hc ⊢; exact λ e => hc ⟨e.1, e.2.1⟩
 clear hc c
 rintro ⟨r, c⟩ ⟨rfl, hc⟩
 dsimp only at hc hr ⊢
 refine ⟨λ x => x.1 = r /\ (x.2 = true ↔ (v.op = 1 \/ v.table = 0) /\ (v.op = 2 \/ w = gW) /\ (v.op = 3 \/ co = []) /\ (v.op = 4 \/ v.op = 5 \/ on = [])), aB (λ h1 => aB (λ h2 => ⟨(r, true), ⟨rfl, ⟨λ _ => ⟨(hc.1 h1).1, (hc.1 h1).2.1, (hc.1 h1).2.2, .inl (by simpa using h2)⟩, λ _ => rfl⟩⟩, MT⟩) (λ h2 => aB (λ h3 => ⟨(r, true), ⟨rfl, ⟨λ _ => ⟨(hc.1 h1).1, (hc.1 h1).2.1, (hc.1 h1).2.2, .inr (.inl (by simpa using h3))⟩, λ _ => rfl⟩⟩, MT⟩) (λ h3 => ⟨(r, _), ⟨rfl, ?_⟩, MT⟩))) (λ h1 => ⟨(r, false), ⟨rfl, ?_⟩, MT⟩), ?_⟩
 . simp only [beq_eq_false_iff_ne] at h2 h3; simp only [l2, hc.1 h1, h2, h3, true_and, false_or]
 . rw [h1] at hc; simp only [Tl, false_iff] at hc ⊢; exact λ e => hc ⟨e.1, e.2.1, e.2.2.1⟩
 clear hc c
 rintro ⟨r, c⟩ ⟨rfl, hc⟩
 dsimp only at hc hr ⊢
 refine aB (λ h1 => aB (λ h2 => hK true ⟨λ _ => ?_, λ _ => rfl⟩) (λ h2 => aB (λ h3 => aB (λ h4 => hK _ ?_) (λ h4 => hK false ?_)) (λ h3 => hK false ?_))) (λ h1 => hK false ?_)
 . obtain ⟨p1, p2, p3, p4⟩ := hc.1 h1
   refine ⟨p1, p2, p3, p4, ?_⟩
   rcases hr.1 h2 with e | e
   . exact .inl e
   . exact .inr (.inl e)
 . obtain ⟨p1, p2, p3, p4⟩ := hc.1 h1
   have nr : ¬ (v.op = 9 \/ v.op = 10) := λ e => by rw [hr.2 e] at h2; cases h2
   rw [beq_iff_eq]
   refine ⟨λ e => ⟨p1, p2, p3, p4, .inr (.inr ⟨l3.1 h3, l4.1 h4, e⟩)⟩, λ e => ?_⟩
   rcases e.2.2.2.2 with e | e | e
   . exact (nr (.inl e)).elim
   . exact (nr (.inr e)).elim
   . exact e.2.2
 . have nr : ¬ (v.op = 9 \/ v.op = 10) := λ e => by rw [hr.2 e] at h2; cases h2
   refine ⟨λ e => (by cases e), λ e => ?_⟩
   rcases e.2.2.2.2 with e | e | e
   . exact (nr (.inl e)).elim
   . exact (nr (.inr e)).elim
   . rw [l4.2 e.2.1] at h4; cases h4
 . have nr : ¬ (v.op = 9 \/ v.op = 10) := λ e => by rw [hr.2 e] at h2; cases h2
   refine ⟨λ e => (by cases e), λ e => ?_⟩
   rcases e.2.2.2.2 with e | e | e
   . exact (nr (.inl e)).elim
   . exact (nr (.inr e)).elim
   . rw [l3.2 e.1] at h3; cases h3
 . refine ⟨λ e => (by cases e), λ e => ?_⟩
   rw [hc.2 ⟨e.1, e.2.1, e.2.2.1, e.2.2.2.1⟩] at h1; cases h1
theorem B9 (l : List Int) : dY 1 (l.map eI) := by
 constructor
 . intro e he; obtain ⟨x, _, rfl⟩ := mH.1 he; rfl
 . intro e he u hu; obtain ⟨x, _, rfl⟩ := mH.1 he; simp [eI] at hu; subst hu; rfl
theorem KR.err {r : List Int × Int} {e : Int} (hK : KR K m h r) (hle : PH.le h h') (he : r = iO e) : K (.tup [.val (.slice none 0 0), .val (.int .i64 e)]) m h' := by
 subst he
 exact hK ⟨none, 0, 0⟩ h' hle ⟨.nil _ _, by simp [iO]⟩
theorem KR.big {r : List Int × Int} (hK : KR K m h r) (hle : PH.le h h') (he : r = z6 l) (hl : 12 < l.length) : K (.tup [.val (.slice none 0 0), .val (.int .i64 2)]) m h' :=
 hK.err hle (by rw [he, z6, if_neg aC]; rfl)
theorem KR.ok {r : List Int × Int} {sl : Sl} (hK : KR K m h r) (hle : PH.le h h') (he : r = z6 l) (hl : l.length <= 12) (hi : cN h' sl 1 (l.map eI)) : K (.tup [.val (.slice sl.a sl.len sl.cap), .val (.int .i64 0)]) m h' := by
 rw [he, z6, if_pos hl] at hK
 exact hK sl h' hle ⟨hi, by show l.length <= 17592186044416; omega⟩
theorem aaX {p : Sl} {a b : Sl} {la lb : List Int} (hs : gR h s sc) (h8 : pB s) (hp : Ints h p ps) (hq : cR h q v) (ha : Ints h a la) (hb : Ints h b lb) (la12 : la.length <= 12) (lb12 : lb.length <= 12) (hK : KR K m h (gZ s ps q la lb)) : Ke sc p v a b m h K := by
 dsimp only [Ke, push_cast]
 have hqr := hq
 obtain ⟨op, ta, w, co, on, gr, od, li, args⟩ := q
 have x := hq.parts
 have e0 := x.op_
 have e1 := x.table_
 have e2 := x.limit_
 have hsl := hs.tables.slen
 have hal := ha.slen
 have hcl := x.columns_.slen
 have hclen := x.columns_.len
 subst e0 e1 e2
 refine ⟨v.op, rfl, aE (λ h1 => hK.err (.refl _) ?_) (λ h1 => ⟨v, _, rfl, hqr, λ r hr => aB (λ h2 => hK.err (.refl _) ?_) (λ h2 => ?_)⟩)⟩
 . unfold gZ; rw [if_pos (.inl h1)]
 . unfold gZ; rw [if_pos (.inr λ e => by rw [hr.2 e] at h2; cases h2)]
 have hu : dJ (.mk v.op v.table w co on gr od v.limit args) := hr.1 (by simpa using h2)
 unfold gZ at hK
 rw [if_neg (λ e => e.elim h1 (λ e => e hu))] at hK
 dsimp only at hK
 clear hr h2
 refine ⟨la.map eI, B9 _, ha.row, by simp; omega, by simp; omega, aB (λ c1 => ?_) (λ c1 => aB (λ c2 => ?_) (λ c2 => aB (λ c3 => ?_) (λ c3 => aB (λ c4 => ?_) (λ c4 => aB (λ c5 => ?_) (λ c5 => aB (λ c6 => ?_) (λ c6 => ?_))))))⟩
 . rw [beq_iff_eq] at c1
   rw [if_pos c1] at hK
   refine aE (λ d1 => hK.err (.refl _) (if_neg aC)) (λ d1 => aE (λ d2 => hK.err (.refl _) (if_neg aC)) (λ d2 => ⟨sc, s, v.table, rfl, hs, h8, λ sl h' hle hi => ?_⟩))
   rw [if_pos aC] at hK
   have := hi.slen
   exact aE (λ d3 => hK.big hle rfl aC) (λ d3 => hK.ok hle rfl aC hi.row)
 . rw [beq_eq_false_iff_ne] at c1
   rw [beq_iff_eq] at c2
   rw [if_neg c1, if_pos c2] at hK
   refine ⟨a, p, v.where_, la, ps, w, rfl, ha, hp, x.where_, aB (λ d1 => hK.err (.refl _) (if_neg (by simpa using d1))) (λ d1 => ?_)⟩
   rw [if_pos (by simpa using d1)] at hK
   exact aE (λ d3 => hK.big (.refl _) rfl (by simp at d3; omega)) (λ d3 sl h' hle hi => hK.ok hle rfl aC hi)
 . rw [beq_eq_false_iff_ne] at c1 c2
   rw [beq_iff_eq] at c3
   rw [if_neg c1, if_neg c2, if_pos c3] at hK
   refine aB (λ d1 => hK.err (.refl _) (if_neg λ e => e.1 ((DP hcl).1 d1))) (λ d1 => ?_)
   have hne : co ≠ [] := λ e => by rw [(DP hcl).2 e] at d1; cases d1
   refine ⟨λ ⟨i, a', co', l, hx⟩ => a' = a /\ co' = v.columns /\ hx = h /\ i <= co.length /\ l = (co.take i).map (λ c => la.getD c.toNat 0) /\ eM (λ _ c => El la c = true) co i, λ ⟨i, _, _, _, _⟩ => co.length - i, ⟨(0, a, v.columns, [], h), ⟨rfl, rfl, rfl, aC, by simp, .zero⟩, MT⟩, ?_⟩
   rintro ⟨i, a, _, l, h⟩ ⟨rfl, rfl, rfl, hi, rfl, hg⟩
   dsimp only
   refine aE (λ hlt => ?_) (λ hge => ?_)
   . obtain ⟨c, hc⟩ := fE hcl hlt
     obtain ⟨b1, o1, ea1, r1⟩ := x.columns_.at' hc
     refine ⟨b1, o1, ea1, aC, hlt, c, .imm r1, a, la, c, rfl, ha, aB (λ d2 => hK.err (.refl _) (if_neg λ e => ?_)) (λ d2 => ?_)⟩
     . have := e.2 i c hc; rw [this] at d2; cases d2
     have d2 : El la c = true := by simpa using d2
     have d3 := j8.1 d2
     obtain ⟨b2, o2, ea2, r2⟩ := ha.inb d3.1 d3.2
     refine ⟨b2, o2, ea2, aC, aC, _, .imm r2, ?_, ?_, (i + 1, a, v.columns, (co.take (i + 1)).map (λ c => la.getD c.toNat 0), h), ⟨rfl, rfl, rfl, aC, rfl, hg.succ hc d2⟩, by show co.length - (i + 1) < co.length - i; omega, ?_⟩
     . simp; omega
     . simp; omega
     . rw [fL hc, xH]
       exact MT
   . rw [if_pos ⟨hne, hg.all aC⟩] at hK
     rw [EC aC]
     exact aE (λ d3 => hK.big (.refl _) rfl (by simp at d3 ⊢; omega)) (λ d3 sl h' hle hi => hK.ok hle rfl (by simp at d3 ⊢; omega) hi)
 . rw [beq_eq_false_iff_ne] at c1 c2 c3
   have c4' := beq_iff_eq.1 c4
   rw [if_neg c1, if_neg c2, if_neg c3, if_pos c4'] at hK
   refine ⟨v.on, a, b, on, la, lb, rfl, x.on_, ha, hb, λ r hr => aB (λ d1 => hK.err (.refl _) (if_neg λ e => ?_)) (λ d1 => aB (λ _ => ⟨lb.map eI, B9 _, hb.row, by simp; omega, by simp; omega, ?_⟩) (λ d2 => ?_))⟩
   . rw [hr.2 e] at d1; cases d1
   . rw [if_pos (hr.1 (by simpa using d1))] at hK
     rw [<- xH]
     exact aE (λ d3 => hK.big (.refl _) rfl (by simp at d3 ⊢; omega)) (λ d3 sl h' hle hi => hK.ok hle rfl (by simp at d3 ⊢; omega) hi)
   . rw [c4] at d2; cases d2
 . rw [beq_eq_false_iff_ne] at c1 c2 c3
   have c4' := beq_eq_false_iff_ne.1 c4
   rw [beq_iff_eq] at c5
   rw [if_neg c1, if_neg c2, if_neg c3, if_neg c4', if_pos c5] at hK
   refine ⟨v.on, a, b, on, la, lb, rfl, x.on_, ha, hb, λ r hr => aB (λ d1 => hK.err (.refl _) (if_neg λ e => ?_)) (λ d1 => aB (λ d2 => ?_) (λ d2 => ?_))⟩
   . rw [hr.2 e] at d1; cases d1
   . rw [c4] at d2; cases d2
   . rw [if_pos (hr.1 (by simpa using d1))] at hK
     exact aE (λ d3 => hK.big (.refl _) rfl (by simp at d3; omega)) (λ d3 sl h' hle hi => hK.ok hle rfl aC hi)
 . rw [beq_eq_false_iff_ne] at c1 c2 c3 c4 c5
   rw [beq_iff_eq] at c6
   rw [if_neg c1, if_neg c2, if_neg c3, if_neg c4, if_neg c5, if_pos c6] at hK
   refine ⟨v, a, gr, od, la, rfl, x.group_, x.order_, ha, λ r hr => aB (λ d1 => hK.err (.refl _) (if_neg λ e => ?_)) (λ d1 => ?_)⟩
   . rw [hr.2 e] at d1; cases d1
   rw [if_pos (hr.1 (by simpa using d1))] at hK
   exact aE (λ d3 => hK.big (.refl _) rfl (by simp at d3; omega)) (λ d3 sl h' hle hi => hK.ok hle rfl aC hi)
 . rw [beq_eq_false_iff_ne] at c1 c2 c3 c4 c5 c6
   rw [if_neg c1, if_neg c2, if_neg c3, if_neg c4, if_neg c5, if_neg c6] at hK
   refine ⟨a, b, la, lb, rfl, ha, hb, λ r hr => aB (λ d1 => hK.err (.refl _) ?_) (λ d1 => aB (λ d2 => ⟨v, a, gr, od, la, rfl, x.group_, x.order_, ha, λ r2 hr2 => aB (λ d4 => hK.err (.refl _) ?_) (λ d4 => ?_)⟩) (λ d2 => ?_))⟩
   . have hne : ¬ la = lb := λ e => by rw [hr.2 e] at d1; cases d1
     by_cases h10 : v.op = 10
     . rw [if_pos h10, if_neg (λ e => hne e.1)]
     . rw [if_neg h10, if_neg hne]
   . rw [beq_iff_eq] at d2
     rw [if_pos d2, if_neg λ e => by rw [hr2.2 e.2] at d4; cases d4]
   . rw [beq_iff_eq] at d2
     rw [if_pos d2, if_pos ⟨hr.1 (by simpa using d1), hr2.1 (by simpa using d4)⟩] at hK
     exact aE (λ d3 => hK.big (.refl _) rfl (by simp at d3; omega)) (λ d3 sl h' hle hi => hK.ok hle rfl aC hi)
   . rw [beq_eq_false_iff_ne] at d2
     rw [if_neg d2, if_pos (hr.1 (by simpa using d1))] at hK
     exact aE (λ d3 => hK.big (.refl _) rfl (by simp at d3; omega)) (λ d3 sl h' hle hi => hK.ok hle rfl aC hi)
theorem U1 : Sound Tryz.prog 95 ZM := by
 refine gX Tryz.func95 ?_
 rintro cvs m h K ⟨sc, p, v, a, b, s, ps, q, la, lb, rfl, hs, h8, hp, hq, ha, hb, h1, h2, hK⟩
 refine ⟨Yx m, rfl, aD LM (aD Sy (aD Du (aD GV (aD Ep (aD Sx (aD Sw (aD Sv aF))))))), Ke sc p v a b m h K, by kernel_rfl, ?_⟩
 exact aaX hs h8 hp hq ha hb h1 h2 hK
mutual
noncomputable def bP (s : nX) (ps : List Int) : Query -> List Int × Int
 | .mk op ta w co on gr od li args =>
  match eW s ps args with
  | (ks, e) => if e = 0 then (if (ks.length : Int) = arity op then gZ s ps (.mk op ta w co on gr od li args) (ks.getD 0 []) (ks.getD 1 []) else iO 100) else iO e
noncomputable def eW (s : nX) (ps : List Int) : List Query -> List (List Int) × Int
 | [] => ([], 0)
 | q :: qs =>
  match bP s ps q with
  | (k, e) => if e = 0 then (match eW s ps qs with | (ks, e') => if e' = 0 then (k :: ks, 0) else ([], e')) else ([], e)
end
theorem xU {s : nX} {ps : List Int} : ∀ {qs : List Query} {ks : List (List Int)}, qs.map (bP s ps) = ks.map (λ k => (k, 0)) -> eW s ps qs = (ks, 0)
 | [], [], _ => by simp [eW]
 | q :: qs, k :: ks, h => by
  simp only [EB, List.cons.injEq] at h
  simp only [eW, h.1, xU h.2, if_true]
 | [], _ :: _, h => by simp at h
 | _ :: _, [], h => by simp at h
theorem Cr {s : nX} {ps : List Int} {e : Int} (he : e ≠ 0) : ∀ {qs : List Query} {ks : List (List Int)} {i : Nat} {q : Query}, (qs.take i).map (bP s ps) = ks.map (λ k => (k, 0)) -> qs[i]? = some q -> (bP s ps q).2 = e -> eW s ps qs = ([], e)
 | [], _, _, _, _, h, _ => by simp at h
 | q :: qs, _, 0, q', _, h, h2 => by
  simp at h; subst h
  simp only [eW, h2, if_neg he]
 | q :: qs, [], i + 1, _, h, _, _ => by simp at h
 | q :: qs, k :: ks, i + 1, q', h, hq, h2 => by
  simp only [List.take_succ_cons, EB, List.cons.injEq] at h
  have := Cr he h.2 (by simpa using hq) h2
  simp only [eW, h.1, this, if_true, if_neg he]
theorem Wr (l : List Int) : (z6 l).1.length <= 12 := by unfold z6; split <;> simp_all
theorem UL (s : nX) (ps : List Int) (q : Query) (a b : List Int) : (gZ s ps q a b).1.length <= 12 := by
 obtain ⟨op, ta, w, co, on, gr, od, li, args⟩ := q
 unfold gZ
 dsimp only
 repeat' split
 all_goals first | exact Wr _ | (simp [iO]; done)
theorem Bu (s : nX) (ps : List Int) (q : Query) : (bP s ps q).1.length <= 12 := by
 obtain ⟨op, ta, w, co, on, gr, od, li, args⟩ := q
 simp only [bP]
 repeat' split
 all_goals first | exact UL .. | simp [iO]
noncomputable def fT (s : nX) (ps : List Int) (q : Query) : List Int × Int :=
 if eH s = 0 then (if ps.all dO = true then (if kG q = true then bP s ps q else iO 2) else iO 1) else iO (eH s)
def Slices (h : PH) (ss : List Sl) (ks : List (List Int)) : Prop := ss.length = ks.length /\ ∀ (j : Nat) s k, ss[j]? = some s -> ks[j]? = some k -> Ints h s k
theorem Slices.mono {ss : List Sl} (x : Slices h ss ks) (le : PH.le h h') : Slices h' ss ks := ⟨x.1, λ j s k h1 h2 => (x.2 j s k h1 h2).mono le⟩
theorem Slices.snoc {ss : List Sl} {s : Sl} {k : List Int} (x : Slices h ss ks) (hi : Ints h s k) : Slices h (ss ++ [s]) (ks ++ [k]) := by
 refine ⟨by simp [x.1], λ j s' k' h1 h2 => ?_⟩
 by_cases hj : j < ss.length
 . rw [Na hj] at h1
   rw [Na (by rw [<- x.1]; exact hj)] at h2
   exact x.2 j s' k' h1 h2
 . rw [Ji aC] at h1
   rw [Ji (by have := x.1; omega), <- x.1] at h2
   cases e : j - ss.length with
   | zero => rw [e] at h1 h2; simp at h1 h2; subst h1 h2; exact hi
   | succ n => rw [e] at h1; simp at h1
def BF (N : Nat) : Vc.Spec := λ cvs m h K => ∃ sc p v s ps q, cvs = [aS sc, cS p, aQ v] /\ gR h s sc /\ pB s /\ Ints h p ps /\ cR h q v /\ SizeOf.sizeOf q < N /\ KR K m h (bP s ps q)
def CJ : Vc.Spec := λ cvs m h K => ∃ sc p v s ps q, cvs = [aS sc, cS p, aQ v] /\ gR h s sc /\ Ints h p ps /\ cR h q v /\ KR K m h (fT s ps q)
noncomputable def YM (N : Nat) (sc : bL) (p : Sl) (v : QV) (m : MH) : Ctx :=
 dM [(65, BF N), (94, Ti), (95, ZM)] [(3, { A := Nat × List Sl × PH, st := λ ⟨i, ss, h⟩ => cH 58 61 [(1, sv p), (3, .at (.ptr 3 0)), (5, .at (.ptr 5 0)), (8, .at (.lst 35)), (14, iv v.args.len), (15, iv i)] [(3, .cells 43 (sc.enc.map .val)), (5, .cells 38 (v.enc.map .val)), (35, .lst 33 1 (ss.map eS))] m h })] [] [] false
noncomputable abbrev qK (a : List Sl) : List (List Value) := List.map eS a
noncomputable abbrev rN (a : Nat × List Sl × PH) : List (List Value) := qK a.2.1
noncomputable abbrev kK (a : Nat × List Sl × PH) : Nat -> Nat -> Option Value := a.2.2
abbrev DY (a : nX -> (List Int) -> Prop) : Prop := ∃ (x : nX) (x1 : List Int), a x x1
abbrev Fh (a : bL) (b : Sl) (c : QV) (d : PH) (e : QV -> nX -> (List Int) -> Query -> Prop) : Prop := ∃ (x : bL) (x1 : Sl) (x2 : QV), DY (λ x3 x4 => ∃ (x5 : Query), aA (cF a :: aX (cK b) (aR c) = cF x :: aX (cK x1) (aR x2)) (gR d x3 x) (aA (pB x3) (Ints d x1 x4) (e x2 x3 x4 x5)))
abbrev AS (a : PH) (b : List Int × Int) (c : Sl -> PH -> Prop) : Prop := qT (λ x x1 => dG a x1 (Ints x1 x b.1) (c x x1))
abbrev nT (a : List (List Value)) (b : Nat) (c : Prop) : Prop := aA (gH ((a.length + 1) * b)) (iA a) c
noncomputable abbrev jB (a : List (List Value)) (b : Sl) : List (List Value) := a ++ cT (aM b)
noncomputable abbrev Fq (a : Nat × List Sl × PH) : List (List Value) := rN a ++ hU :: cT hU
abbrev uO (a : List (List Value)) (b : Nat) (c : List Value) : Prop := a[b]? = Option.some c
attribute [push_cast] qK rN kK DY Fh AS nT jB Fq uO
def P2 (N : Nat) (sc : bL) (p : Sl) (v : QV) (m : MH) (h : PH) (K : CV -> MH -> PH -> Prop) : Prop :=
  ∃ (I : Nat × List Sl × PH -> Prop) (m1 : Nat × List Sl × PH -> Nat), (∃ (x : Nat × List Sl × PH), aA (I x) (aI p) (aA (eP 3) (eP 5) (aA (eL 35) (bI v.args) (aA (bC x.1) (bT sc) (lX (fC v) (Option.some (Own.lst 33 1 []) = Option.some (Own.lst 33 1 (rN x))) (m = m) (h = kK x)))))) /\ ∀ (x : Nat × List Sl × PH), I x -> bA (↑x.1 : Int) (aG v.args) (aT (λ b o => aA (aU v.args.a b o) (0 <= (↑x.1 : Int)) ((↑x.1 : Int) < aG v.args /\ ∃ (y : QV), aL m (kK x) b (bN o x.1 21) y.enc /\ Fh sc p y (kK x) (λ v1 s p1 q => aA (cR (kK x) q v1) (qE q N) (AS (kK x) (bP s p1 q) (λ s1 h1 => eE (bP s p1 q).2 0 (K (CV.tup (aX jZ (CV.val (dQ (bP s p1 q).2)))) m h1) (nT (rN x) 24 (∃ (x1 : Nat × List Sl × PH), aA (I x1) (m1 x1 < m1 x) (aA (aI p) (eP 3) (aA gJ (eL 35) (aA
 (bI v.args) (fK (bE x.1 1) = bV x1.1) (aA (bT sc) (fC v) (aA (Option.some (Own.lst 33 1 (jB (rN x) s1)) = Option.some (Own.lst 33 1 (rN x1))) (m = m) (cV h1 (kK x1))))))))))))))) (jL v.op (λ o => eE (j3 (rN x)) (arity o) (K (CV.tup (bB jZ 100)) m (kK x)) (aA (gH (((rN x).length + 2) * 24)) (xO (rN x) 2) (aA (cA 0) (0 < j3 (Fq x)) (∃ (e : List Value), uO (Fq x) 0 e /\ ∃ (y : Sl), aA (List.take 1 (List.drop 0 e) = aM y) ((0 : Int) <= 1) (1 < j3 (Fq x) /\ ∃ (e1 : List Value), uO (Fq x) 1 e1 /\ ∃ (y1 : Sl), List.take 1 (List.drop 0 e1) = aM y1 /\ ∃ (s : bL) (p1 : Sl) (v1 : QV), iW (λ a b => DY (λ s1 p2 => ∃ (q : Query), qS (λ l l1 => aA (cF sc :: cK p :: aR v :: aX (cK y) (cK y1) = cF s :: cK p1 :: aR v1 :: aX (cK a)
 (cK b)) (gR (kK x) s1 s) (aA (pB s1) (Ints (kK x) p1 p2) (aA (cR (kK x) q v1) (Ints (kK x) a l) (aA (Ints (kK x) b l1) (l.length <= 12) (l1.length <= 12 /\ AS (kK x) (gZ s1 p2 q l l1) (λ s2 h1 => K (CV.tup (aX (cK s2) (CV.val (dQ (gZ s1 p2 q l l1).2)))) m h1))))))))))))))
def Qg (N : Nat) (sc : bL) (p : Sl) (v : QV) (m : MH) (h : PH) (K : CV -> MH -> PH -> Prop) : Prop :=
  lH (λ v1 s => aA (mR (cF sc) = mR (cF v1)) (gR h s v1) (eE (eH s) 0 (K (CV.tup (bB jZ (eH s))) m h) (A8 (λ s1 l => aA (fU p = fU s1) (Ints h s1 l) (gK (Ei l) (K (CV.tup (bB jZ 1)) m h) (oF (λ v2 p1 => aA (qA v = qA v2) (cR h p1 v2) (gK (kG p1) (K (CV.tup (bB jZ 2)) m h) (Fh sc p v h (λ v3 s2 p2 q => aA (cR h q v3) (qE q N) (AS h (bP s2 p2 q) (λ s3 h1 => K (CV.tup (aX (cK s3) (CV.val (dQ (bP s2 p2 q).2)))) m h1))))))))))))
theorem GK {qs : List Query} (h : qs.map (bP s ps) = ks.map (λ k => (k, 0))) (j : Nat) : (ks.getD j []).length <= 12 := by
 rw [Hy]
 cases e : ks[j]? with
 | none => simp
 | some k =>
  have h1 : (qs.map (bP s ps))[j]? = some (k, 0) := by rw [h]; simp [e]
  rw [AD, Option.map_eq_some_iff] at h1
  obtain ⟨q, _, h2⟩ := h1
  have := Bu s ps q
  rw [h2] at this
  simpa using this
theorem Slices.pick {ss : List Sl} (x : Slices h ss ks) (j : Nat) (hj : j < ss.length + 2) : ∃ y : Sl, (ss.map eS ++ [[.slice none 0 0], [.slice none 0 0]])[j]? = some [.slice y.a y.len y.cap] /\ Ints h y (ks.getD j []) := by
 by_cases h1 : j < ss.length
 . refine ⟨ss[j], ?_, ?_⟩
   . rw [Na (by simpa using h1)]; simp [h1, eS]
   . have h2 : j < ks.length := by rw [<- x.1]; exact h1
     rw [Hy, kP h2]
     exact x.2 j _ _ (kP h1) (kP h2)
 . refine ⟨⟨none, 0, 0⟩, ?_, ?_⟩
   . rw [Ji (by simpa using h1)]
     simp only [mI]
     have : j - ss.length = 0 \/ j - ss.length = 1 := by omega
     rcases this with e | e <;> rw [e] <;> rfl
   . rw [Hy, OF (by have := x.1; omega)]
     exact ⟨.nil _ _, by simp⟩
theorem TW : ∀ N, Sound Tryz.prog 65 (BF N)
 | 0 => by
  refine eK (fn := Tryz.f65) (c := dK Tryz.f65) Tryz.func65 rfl (by decide) ?_
  rintro cvs m h K ⟨sc, p, v, s, ps, q, rfl, _, _, _, _, hN, _⟩
  omega
 | N + 1 => by
  refine gX Tryz.func65 ?_
  rintro cvs m h K ⟨sc, p, v, s, ps, q, rfl, hs, h8, hp, hq, hN, hK⟩
  refine ⟨YM N sc p v m, rfl, aD (TW N) (aD LM (aD U1 aF)), P2 N sc p v m h K, by kernel_rfl, ?_⟩
  dsimp only [P2, push_cast]
  have hlt := @Ca q
  have hqr := hq
  obtain ⟨op, ta, w, co, on, gr, od, li, args⟩ := q
  have x := hq.parts
  have e0 := x.op_
  have hl := x.args_.slen
  have hlen := x.args_.len
  simp only [Query.args] at hlt
  simp only [bP] at hK
  refine ⟨λ ⟨i, ss, hx⟩ => i <= args.length /\ PH.le h hx /\ ∃ ks, Slices hx ss ks /\ (args.take i).map (bP s ps) = ks.map (λ k => (k, 0)), λ ⟨i, _, _⟩ => args.length - i, ⟨(0, [], h), ⟨aC, .refl _, [], ⟨rfl, λ j s k h1 => by simp at h1⟩, by simp⟩, MT⟩, ?_⟩
  rintro ⟨i, ss, hx⟩ ⟨hi, hle, ks, hS, hks⟩
  have hkl : ks.length = i := by have := congrArg List.length hks; simp at this; omega
  have hsl : ss.length = i := by rw [hS.1, hkl]
  dsimp only
  refine aE (λ hlt2 => ?_) (λ hge => ?_)
  . obtain ⟨q', hq'⟩ := fE hl hlt2
    obtain ⟨b1, o1, u, ea1, r1, hru⟩ := (x.args_.mono hle).at hq'
    refine ⟨b1, o1, ea1, aC, hlt2, u, .imm r1, sc, p, u, s, ps, q', rfl, hs.mono hle, h8, hp.mono hle, hru, ?_, λ sl h' hle' hi' => aB (λ h1 => ?_) (λ h1 => ?_)⟩
    . have := hlt (lP hq'); omega
    . have he : (bP s ps q').2 ≠ 0 := by simpa using h1
      rw [Cr he hks hq' rfl] at hK
      exact hK.err (hle.trans hle') (if_neg he)
    . have he : (bP s ps q').2 = 0 := by simpa using h1
      refine ⟨by simp; omega, by simp; omega, (i + 1, ss ++ [sl], h'), ⟨aC, hle.trans hle', ks ++ [(bP s ps q').1], (hS.mono hle').snoc hi', ?_⟩, by show args.length - (i + 1) < args.length - i; omega, ?_⟩
      . rw [fL hq', hks, xH]
        simp only [EB, List.map_nil]
        rw [<- he]
      . rw [xH]; exact MT
  . rw [EC aC] at hks
    rw [xU hks] at hK
    simp only [if_true] at hK
    refine ⟨v.op, rfl, aB (λ h1 => hK.err hle (if_neg λ e => ?_)) (λ h1 => ?_)⟩
    . rw [e0] at h1; simp at h1; omega
    have h1 : (ss.length : Int) = arity op := by rw [e0] at h1; simpa using h1
    rw [if_pos aC] at hK
    obtain ⟨y0, hy0, i0⟩ := hS.pick 0 aC
    obtain ⟨y1, hy1, i1⟩ := hS.pick 1 aC
    exact ⟨by simp; omega, by simp; omega, aC, by simp; omega, _, hy0, y0, rfl, aC, by simp; omega, _, hy1, y1, rfl, sc, p, v, y0, y1, s, ps, _, _, _, rfl, hs.mono hle, h8, hp.mono hle, hqr.mono hle, i0, i1, GK hks 0, GK hks 1, λ sl h' hle' hi => hK sl h' (hle.trans hle') hi⟩
theorem UF (h : eH s = 0) : pB s := by
 have hl : BE s := Classical.byContradiction λ hn => by rw [tB hn] at h; cases h
 intro t ht
 obtain ⟨j, hj⟩ := List.mem_iff_getElem?.1 ht
 exact (hl.2 j t hj).1
theorem LY : Sound Tryz.prog 25 CJ := by
 refine gX Tryz.func25 ?_
 rintro cvs m h K ⟨sc, p, v, s, ps, q, rfl, hs, hp, hq, hK⟩
 refine ⟨dM [(63, Ay), (64, KY), (28, Oj), (65, BF (SizeOf.sizeOf q + 1))] [] [] [] false, rfl, aD Vd (aD LR (aD LW (aD (TW _) aF))), Qg (SizeOf.sizeOf q + 1) sc p v m h K, by kernel_rfl, ?_⟩
 dsimp only [Qg, push_cast]
 unfold fT at hK
 refine ⟨sc, s, rfl, hs, aB (λ h1 => hK.err (.refl _) (if_neg (by simpa using h1))) (λ h1 => ?_)⟩
 have h1 : eH s = 0 := by simpa using h1
 rw [if_pos h1] at hK
 refine ⟨p, ps, rfl, hp, aB (λ h2 => hK.err (.refl _) (if_neg λ e => by rw [e] at h2; cases h2)) (λ h2 => ?_)⟩
 rw [if_pos (by rw [X4] at h2; exact h2)] at hK
 refine ⟨v, q, rfl, hq, aB (λ h3 => hK.err (.refl _) (if_neg λ e => by rw [e] at h3; cases h3)) (λ h3 => ?_)⟩
 rw [if_pos (by rw [X4] at h3; exact h3)] at hK
 exact ⟨sc, p, v, s, ps, q, rfl, hs, UF h1, hp, hq, aC, hK⟩
def aN (n : NV) : CV := .val (.agg ⟨n.enc⟩)
structure qO (h : PH) (s : nX) (ps : List Int) (q : Query) (ks : List (List Int)) (n : NV) : Prop where
 s_ : gR h s n.s
 ps_ : Ints h n.params ps
 q_ : cR h q n.q
 ks_ : bW h 1 eS (λ k sl => Ints h sl k) n.args ks
 len : ∀ k ∈ ks, k.length <= 12
def Query.withOf (u q : Query) : Query := match u, q with | .mk _ ta w co on gr od li _, .mk op _ _ _ _ _ _ _ args => .mk op ta w co on gr od li args
def zM : Vc.Spec := λ cvs m h K => ∃ n k u s ps q ks uq, cvs = [aN n, cI k, aQ u] /\ qO h s ps q ks n /\ cR h uq u /\ ∀ r : Bool, (r = true ↔ (ks.length : Int) = k /\ q = uq.withOf q) -> K (cB r) m h
def KO : Vc.Spec := λ cvs m h K => ∃ n s ps q ks, cvs = [aN n] /\ qO h s ps q ks n /\ K (aQ ⟨0, 0, ⟨0, 0, dL, dL, ⟨none, 0, 0⟩⟩, ⟨none, 0, 0⟩, ⟨none, 0, 0⟩, n.q.group, n.q.order, n.q.limit, ⟨none, 0, 0⟩⟩) m h
def KS : Vc.Spec := λ cvs m h K => ∃ n s ps q ks a, cvs = [aN n] /\ qO h s ps q ks n /\ ks[0]? = some a /\ ∀ r : Bool, (r = true ↔ ∃ op ta w co on gr od li args, q = .mk op ta w co on gr od li args /\ vQ a gr od li) -> K (cB r) m h
def Iw (ks : List (List Int)) : Query -> Prop
 | .mk op ta w co on gr od li _ => ks.length = 2 /\ ta = 0 /\ w = gW /\ co = [] /\ gr = [] /\ od = [] /\ li = 0 /\ Good (AA (ks.getD 0 []) (ks.getD 1 [])) on
def KV : Vc.Spec := λ cvs m h K => ∃ n s ps q ks, cvs = [aN n] /\ qO h s ps q ks n /\ ∀ r : Bool, (r = true ↔ Iw ks q) -> K (cB r) m h
noncomputable def WU (n : NV) (h : PH) : Ctx :=
 vO [] [(4, { A := Nat × Nat × Nat × MH, st := λ ⟨i, wd, b, mx⟩ => cH 72 73 [(1, .at (.ptr 1 0)), (3, iv wd), (4, vv (.pointer (some ⟨b, 0, none⟩))), (16, sv n.q.group), (17, iv n.q.group.len), (18, iv i)] [(1, .cells 152 (n.enc.map .val))] mx h }),
  (11, { A := Nat × Nat × MH, st := λ ⟨i, wd, mx⟩ => cH 72 73 [(1, .at (.ptr 1 0)), (3, iv wd), (39, sv n.q.order), (40, iv n.q.order.len), (41, iv i)] [(1, .cells 152 (n.enc.map .val))] mx h })] [] [] [226] [] false
noncomputable def WW (n : NV) (h : PH) : Ctx :=
 vO [(177, zM)] [(6, { A := Nat × Sl × Sl × Nat × Nat × MH, st := λ ⟨i, s, t, b, c, mx⟩ => cH 80 81 [(3, sv s), (4, sv t), (5, vv (.pointer (some ⟨b, 0, none⟩))), (6, vv (.pointer (some ⟨c, 0, none⟩))), (28, sv n.q.on), (29, iv n.q.on.len), (30, iv i)] [] mx h })] [] [] [226] [] false
noncomputable abbrev mA (a : QV) : Value := dQ a.table
noncomputable abbrev lY (a : QV) : Value := dQ a.where_.op
noncomputable abbrev mC (a : QV) : Int := a.where_.cmp
noncomputable abbrev jI (a : OV) : Value := dQ a.kind
noncomputable abbrev fZ (a : QV) : OV := a.where_.left
noncomputable abbrev rH (a : OV) : Value := dQ a.index
noncomputable abbrev mS (a : OV) : Value := dQ a.value.int
noncomputable abbrev Fg (a b : QV) (c : List Value) : CV := kE (aJ (dQ a.op) (mA b) (aJ (lY b) (dQ (mC b)) (aJ (jI (fZ b)) (rH (fZ b)) (aJ (dQ (mZ (fZ b))) (mS (fZ b)) c))))
noncomputable abbrev lJ (a : OV) : Value := Value.string a.value.text
noncomputable abbrev eZ (a : QV) : OV := a.where_.right
noncomputable abbrev nL (a : QV) : Value := eA a.where_.args
noncomputable abbrev nM (a : QV) : Value := eA a.columns
noncomputable abbrev qL (a : QV) : Value := eA a.group
noncomputable abbrev qM (a : QV) : Value := eA a.order
attribute [push_cast] mA lY mC jI fZ rH mS Fg lJ eZ nL nM qL qM
def Mt (n : NV) (k : Int) (u : QV) (m : MH) (h : PH) (K : CV -> MH -> PH -> Prop) : Prop :=
  dN (aG n.args) k (∃ (v : QV), oF (λ w p => ∃ (q : Query), j2 (aX (aR n.q) (Fg n.q u (aJ (lJ (fZ u)) (jI (eZ u)) (aJ (rH (eZ u)) (dQ (mZ (eZ u))) (aJ (mS (eZ u)) (lJ (eZ u)) (aJ (nL u) (nM u) (aJ (eA u.on) (qL u) (aJ (qM u) (dQ u.limit) (aM n.q.args))))))))) (aX (aR v) (aR w)) (cR h p v) (cR h q w) (λ r => (dX r ↔ p = q) -> K (AE r) m h))) (K aW m h)
noncomputable abbrev Dd (a : List Value) : List Value := aJ bO bO (aJ bO bO (aJ bO bO (aJ bO bO a)))
noncomputable abbrev xS (a : Value) (b : List Value) : List Value := aJ Tq bO (aJ bO bO (aJ bO Tq (aJ sR a b)))
noncomputable abbrev ID (a : QV) : List Value := aJ sR (qL a) (aJ (qM a) (dQ a.limit) hU)
attribute [push_cast] Dd xS ID
def Mr (n : NV) (m : MH) (h : PH) (K : CV -> MH -> PH -> Prop) : Prop :=
  K (kE (Dd (xS sR (ID n.q)))) m h
abbrev nR (a : NV) (b : MH) (c : PH) (d : Nat -> Nat -> Sl -> Prop) : Prop := aT (λ x x1 => aA (aU a.args.a x x1) ((0 : Int) <= 0) (0 < aG a.args /\ ∃ (x2 : Sl), aL b c x (x1 + 0) (aM x2) /\ d x x1 x2))
noncomputable abbrev tI  : Value := Value.bool false
abbrev IC (a : MH) (b : PH) (c : Nat -> MH -> Prop) : Prop := ∀ (x : Nat) (x1 : MH), bK (cD a b x) (bG a x1 x (aJ tI tI (aJ tI tI (aJ tI tI (aJ tI tI (aJ tI tI (aJ tI tI [])))))) 226) (c x x1)
noncomputable abbrev Dp (a : QV) (b : At) (c : Sl) (d : List At) : List At := pQ a.where_ (mJ b (Aa c) (mJ (Aa a.group) (Aa a.order) d))
noncomputable abbrev Ck (a : QV) : At := Aa a.columns
abbrev IQ (a : bL) (b : At) (c : QV) (d : Sl) (e : List At) : Prop := eQ (oQ 152 (mJ (mK a.version) (Aa a.tables) (mJ b (mK c.op) (mK c.table :: Dp c (Ck c) d (mJ (mK c.limit) (Aa c.args) e)))))
noncomputable abbrev qF (a : Sl) : List At := yJ (Aa a)
abbrev A2 (a : NV) : Prop := IQ a.s (Aa a.params) a.q a.q.on (qF a.args)
abbrev oO (a : MH) (b c : Nat) (d : List Value) (e : MH -> Prop) : Prop := gG (λ x x1 => aA (uT a b (eV x x1 0)) (fD c x) (∀ (x2 : MH), bG a x2 b (splice x.toList c d) x1 -> e x2))
attribute [push_cast] nR tI IC Dp Ck IQ qF A2 oO
def Dw (n : NV) (m : MH) (h : PH) (K : CV -> MH -> PH -> Prop) : Prop :=
  nR n m h (λ _ _ y => IC m h (λ b m1 => ∃ (I : Nat × Nat × Nat × MH -> Prop) (m2 : Nat × Nat × Nat × MH -> Nat), (∃ (x : Nat × Nat × Nat × MH), aA (I x) eO (aA (bV y.len = bV x.2.1) (cY b (iN x.2)) (aA (aI n.q.group) (bI n.q.group) (aA (bC x.1) (A2 n) (dT m1 (fO x.2) h h))))) /\ ∀ (x : Nat × Nat × Nat × MH), I x -> bA (↑x.1 : Int) (aG n.q.group) (aT (λ b1 o => aA (aU n.q.group.a b1 o) (0 <= (↑x.1 : Int)) ((↑x.1 : Int) < aG n.q.group /\ ∃ (y1 : Int), aL (fO x.2) h b1 (bN o x.1 1) (bZ y1) /\ bA y1 0 (mQ K x.2 h) (fQ y1 (↑x.2.1 : Int) (mQ K x.2 h) (aA (cA y1) (y1 < 12) (∃ (y2 : Bool), aL (fO x.2) h (iN x.2) (fM 0 y1 1) (iK (Value.bool y2)) /\ branch y2 (mQ K x.2 h) (aA (cA y1) (y1 < 12) (oO (fO x.2) (iN x.2) (fM 0 y1 1) (iK zW) (fun
 m3 => ∃ (x1 : Nat × Nat × Nat × MH), aA (I x1) (m2 x1 < m2 x) (aA eO (cC x.2.1 x1.2.1) (aA (cY (iN x.2) (iN x1.2)) (aI n.q.group) (aA (bI n.q.group) (fK (bE x.1 1) = bV x1.1) (bM (A2 n) (m3 = fO x1.2) (h = h)))))))))))))) (∃ (I1 : Nat × Nat × MH -> Prop) (m3 : Nat × Nat × MH -> Nat), NB (λ x1 => aA (I1 x1) eO (aA (cC x.2.1 (iN x1)) (aI n.q.order) (aA (bI n.q.order) (bC x1.1) (aA (A2 n) (fO x.2 = fO x1) (cV h h))))) (λ x1 => I1 x1 -> bA (↑x1.1 : Int) (aG n.q.order) (aT (λ b1 o => aA (aU n.q.order.a b1 o) (0 <= (↑x1.1 : Int)) ((↑x1.1 : Int) < aG n.q.order /\ ∃ (y1 : Int × Bool), aL (fO x1) h b1 (bN o x1.1 2) (yR y1) /\ bA y1.1 0 (mQ K x1 h) (fQ y1.1 (↑(iN x1) : Int) (mQ K x1 h) (∃ (x2 : Nat × Nat × MH), aA (I1 x2) (m3 x2 < m3 x1)
 (aA eO (cC (iN x1) (iN x2)) (aA (aI n.q.order) (bI n.q.order) (aA (fK (bE x1.1 1) = bV x2.1) (A2 n) (dT (fO x1) (fO x2) h h))))))))) (Cf (aG n.q.order) 12 (fQ n.q.limit 0 (K (AE (decide (n.q.limit <= 100))) (fO x1) h) (mQ K x1 h)) (mQ K x1 h))))))
abbrev lZ (a : Int -> QV -> Prop) : Prop := ∃ (x : Int) (x1 : QV), a x x1
abbrev AX (a : nX -> (List Int) -> Query -> (List (List Int)) -> Prop) : Prop := DY (λ x x1 => ∃ (x2 : Query) (x3 : List (List Int)), a x x1 x2 x3)
abbrev yQ (a : NV -> Int -> QV -> nX -> (List Int) -> Query -> (List (List Int)) -> Query -> Prop) : Prop := ∃ (x : NV), lZ (λ x1 x2 => AX (λ x3 x4 x5 x6 => ∃ (x7 : Query), a x x1 x2 x3 x4 x5 x6 x7))
noncomputable abbrev fB (a : NV) (b : List Value) : List Value := aJ (rH (fZ a.q)) (dQ (mZ (fZ a.q))) (aJ (mS (fZ a.q)) (lJ (fZ a.q)) (aJ (jI (eZ a.q)) (rH (eZ a.q)) (aJ (dQ (mZ (eZ a.q))) (mS (eZ a.q)) b)))
noncomputable abbrev tG (a : QV) : Value := eA a.args
noncomputable abbrev fA (a : NV) : List Value := aJ (lJ (eZ a.q)) (nL a.q) (aJ (nM a.q) (eA a.q.on) (aJ (qL a.q) (qM a.q) (aJ (dQ a.q.limit) (tG a.q) (aM a.args))))
abbrev yP (a : List (List Int)) (b : Int) : Prop := (↑a.length : Int) = b
abbrev Cg (a b : Query) : Prop := a = Query.withOf b a
noncomputable abbrev iM (a : Nat × Sl × Sl × Nat × Nat × MH) : Nat × Nat × MH := a.2.2.2
attribute [push_cast] lZ AX yQ fB tG fA yP Cg iM
def Dx (n : NV) (m : MH) (h : PH) (K : CV -> MH -> PH -> Prop) : Prop :=
  yQ (λ n1 k u s p q k1 u1 => j2 (kE (aJ (pP n.s) (pO n.s) (aJ (eA n.params) (dQ n.q.op) (aJ (mA n.q) (lY n.q) (aJ (dQ (mC n.q)) (jI (fZ n.q)) (fB n (fA n)))))) :: aX (dH 2) (kE (Dd (xS sR (aJ (eA n.q.on) sR (aJ sR bO hU)))))) (kE (aJ (pP n1.s) (pO n1.s) (aJ (eA n1.params) (dQ n1.q.op) (aJ (mA n1.q) (lY n1.q) (aJ (dQ (mC n1.q)) (jI (fZ n1.q)) (fB n1 (fA n1)))))) :: aX (dH k) (aR u)) (qO h s p q k1 n1) (cR h u1 u) (λ r => fP (dX r ↔ yP k1 k /\ Cg q u1) (!r) (K aW m h) (nR n m h (λ _ _ y => aT (λ b o => aA (aU n.args.a b o) ((0 : Int) <= 1) (1 < aG n.args /\ ∃ (y1 : Sl), aL m h b (o + 1) (aM y1) /\ IC m h (λ b1 m1 => IC m1 h (λ b2 m2 => ∃ (I : Nat × Sl × Sl × Nat × Nat × MH -> Prop) (m3 : Nat × Sl
 × Sl × Nat × Nat × MH -> Nat), (∃ (x : Nat × Sl × Sl × Nat × Nat × MH), aA (I x) (bD y x.2.1) (aA (bD y1 x.2.2.1) (cY b1 (iM x).1) (aA (cY b2 (iN (iM x))) (aI n.q.on) (aA (bI n.q.on) (bC x.1) (dT m2 (fO (iM x)) h h))))) /\ ∀ (x : Nat × Sl × Sl × Nat × Nat × MH), I x -> bA (↑x.1 : Int) (aG n.q.on) (aT (λ b3 o1 => aA (aU n.q.on.a b3 o1) (0 <= (↑x.1 : Int)) ((↑x.1 : Int) < aG n.q.on /\ ∃ (y2 : Int × Int), aA (aL (fO (iM x)) h b3 (bN o1 x.1 2) (uD y2)) (cA 0) (aA ((0 : Int) < 2) (cA 1) ((1 : Int) < 2 /\ bA y2.1 0 (mQ K (iM x) h) (fQ y2.1 (aG x.2.1) (mQ K (iM x) h) (bA y2.2 0 (mQ K (iM x) h) (fQ y2.2 (aG x.2.2.1) (mQ K (iM x) h) (aT (λ b4 o2 => aA (aU x.2.1.a b4 o2) (0 <= y2.1) (y2.1 < aG x.2.1 /\ ∃ (y3 : Int), aL (fO
 (iM x)) h b4 (fM o2 y2.1 1) (bZ y3) /\ aT (λ b5 o3 => aA (aU x.2.2.1.a b5 o3) (0 <= y2.2) (y2.2 < aG x.2.2.1 /\ ∃ (y4 : Int), aL (fO (iM x)) h b5 (fM o3 y2.2 1) (bZ y4) /\ eE y3 y4 (mQ K (iM x) h) (aA (cA y2.1) (y2.1 < 12) (∃ (y5 : Bool), aL (fO (iM x)) h (iM x).1 (fM 0 y2.1 1) (iK (Value.bool y5)) /\ branch y5 (mQ K (iM x) h) (aA (cA y2.2) (y2.2 < 12) (∃ (y6 : Bool), aL (fO (iM x)) h (iN (iM x)) (fM 0 y2.2 1) (iK (Value.bool y6)) /\ branch y6 (mQ K (iM x) h) (aA (cA y2.1) (y2.1 < 12) (oO (fO (iM x)) (iM x).1 (fM 0 y2.1 1) (iK zW) (λ m4 => aA (cA y2.2) (y2.2 < 12) (oO m4 (iN (iM x)) (fM 0 y2.2 1) (iK zW) (λ m5 => ∃ (x1 : Nat × Sl × Sl × Nat × Nat × MH), aA (I x1) (m3 x1 < m3 x) (aA (bD x.2.1
 x1.2.1) (bD x.2.2.1 x1.2.2.1) (aA (cY (iM x).1 (iM x1).1) (cY (iN (iM x)) (iN (iM x1))) (aA (aI n.q.on) (bI n.q.on) (bM (fK (bE x.1 1) = bV x1.1) (m5 = fO (iM x1)) (h = h))))))))))))))))))))))))))) (K fJ (fO (iM x)) h)))))))))
structure Ux (m : MH) (b : Nat) (seen : List Int) : Prop where
 ex : ∃ bs : List Bool, m b = some (.cells ⟨bs.map Value.bool⟩ 226 (0, 0)) /\ bs.length = 12 /\ ∀ k : Nat, k < 12 -> (bs[k]? = some true ↔ (k : Int) ∈ seen)
theorem Ux.zero (h : m b = some (.cells ⟨[.bool false, .bool false, .bool false, .bool false, .bool false, .bool false, .bool false, .bool false, .bool false, .bool false, .bool false, .bool false]⟩ 226 (0, 0))) : Ux m b [] :=
 ⟨⟨List.replicate 12 false, h, rfl, λ k hk => by rw [List.getElem?_replicate]; simp [hk]⟩⟩
theorem Ux.look {seen : List Int} (x : Ux m b seen) {n : Int} (h0 : 0 <= n) (h1 : n < 12) : ∃ y : Bool, aL m h b (0 + n.toNat * 1) [.bool y] /\ (y = true ↔ n ∈ seen) := by
 obtain ⟨bs, e, hl, hs⟩ := x.ex
 have hk : n.toNat < bs.length := by omega
 refine ⟨bs[n.toNat], .lent _ _ _ e ?_, ?_⟩
 . simp only [Ih, V7, Gi, List.length_nil]
   rw [X2 (by simpa using hk)]
   simp
 . have := hs n.toNat aC
   rw [kP hk] at this
   rw [show ((n.toNat : Nat) : Int) = n by omega] at this
   simpa using this
theorem Ux.store {seen : List Int} (x : Ux m b seen) {n : Int} (h0 : 0 <= n) (h1 : n < 12) : ∃ (cs : Array Value) (E : TypeId), uT m b (.cells cs E (0, 0)) /\ 0 + n.toNat * 1 < cs.size /\ ∀ m', jH m m' b (.cells ⟨splice cs.toList (0 + n.toNat * 1) [.bool true]⟩ E (0, 0)) -> Ux m' b (seen ++ [n]) := by
 obtain ⟨bs, e, hl, hs⟩ := x.ex
 have hk : n.toNat < bs.length := by omega
 refine ⟨_, _, ⟨e⟩, by simpa using hk, λ m' hu => ⟨bs.set n.toNat true, ?_, by simpa using hl, λ k hk' => ?_⟩⟩
 . rw [hu.at_]
   congr 3
   simp only [splice, Ih, V7, Gi, List.length_nil]
   rw [List.set_eq_take_append_cons_drop, if_pos hk]
   simp [List.map_take, List.map_drop]
 . rw [List.getElem?_set, BZ, X5]
   by_cases e' : n.toNat = k
   . subst e'
     rw [if_pos rfl, if_pos hk]
     exact ⟨λ _ => .inr aC, λ _ => rfl⟩
   . rw [if_neg e', hs k hk']
     exact ⟨.inl, λ h => h.elim id λ e => by omega⟩
theorem Ux.other {b' : Nat} {seen : List Int} (x : Ux m b seen) (hne : b ≠ b') (ho : ∀ c, c ≠ b' -> m' c = m c) : Ux m' b seen := by
 obtain ⟨bs, e, hl, hs⟩ := x.ex
 exact ⟨bs, by rw [ho b hne, e], hl, hs⟩
theorem qO.arg {n : NV} (x : qO h s ps q ks n) {j : Nat} {k : List Int} (hk : ks[j]? = some k) : ∃ b o sl, n.args.a = some ⟨b, o, none⟩ /\ aZ h b (o + j * 1) [.slice sl.a sl.len sl.cap] /\ Ints h sl k /\ k.length <= 12 /\ j < n.args.len := by
 obtain ⟨b, o, sl, e, r, hi⟩ := x.ks_.at hk
 have := (mG.1 hk).1
 exact ⟨b, o, sl, e, r, hi, x.len k (lP hk), by rw [x.ks_.slen]; exact this⟩
theorem Y4 {n : NV} (hK : K (aQ ⟨0, 0, ⟨0, 0, dL, dL, ⟨none, 0, 0⟩⟩, ⟨none, 0, 0⟩, ⟨none, 0, 0⟩, n.q.group, n.q.order, n.q.limit, ⟨none, 0, 0⟩⟩) m h) : Mr n m h K := hK
theorem qN : Sound Tryz.prog 177 zM := by
 refine gX Tryz.func177 ?_
 rintro cvs m h K ⟨n, k, u, s, ps, q, ks, uq, rfl, hn, hu, hK⟩
 refine ⟨dM [(204, ahX)] [] [] [] false, rfl, aD RT aF, Mt n k u m h K, by kernel_rfl, ?_⟩
 dsimp only [Mt, push_cast]
 have hl := hn.ks_.slen
 have hq := hn.q_
 have hq2 := hn.q_
 obtain ⟨op, ta, w, co, on, gr, od, li, args⟩ := q
 obtain ⟨op', ta', w', co', on', gr', od', li', args'⟩ := uq
 have x := hu.parts
 have y := hq.parts
 refine aB (λ h1 => ⟨n.q, ⟨n.q.op, u.table, u.where_, u.columns, u.on, u.group, u.order, u.limit, n.q.args⟩, _, .mk op ta' w' co' on' gr' od' li' args, rfl, hq2, oJ.rep ⟨y.op_, x.table_, x.where_, x.columns_, x.on_, x.group_, x.order_, x.limit_, y.args_⟩, λ r hr => hK r (hr.trans ⟨λ e => ⟨?_, e⟩, λ e => e.2⟩)⟩) (λ h1 => hK false ⟨λ e => (by cases e), λ e => ?_⟩)
 . have : (n.args.len : Int) = k := by simpa using h1
   omega
 . have : (n.args.len : Int) ≠ k := by simpa using h1
   have := e.1
   omega
theorem Kr : Sound Tryz.prog 181 KO := by
 refine gX Tryz.func181 ?_
 rintro cvs m h K ⟨n, s, ps, q, ks, rfl, hn, hK⟩
 refine ⟨dM [] [] [] [] false, rfl, aF, Mr n m h K, by kernel_rfl, ?_⟩
 exact Y4 hK
theorem Y3 {n : NV} {op : Int} {on : List (Int × Int)} {args : List Query} (hn : qO h s ps (.mk op ta w co on gr od li args) ks n) (ha : ks[0]? = some a) (hK : ∀ r : Bool, (r = true ↔ vQ a gr od li) -> K (cB r) m h) : Dw n m h (kB h K) := by
 dsimp only [Dw, push_cast]
 have x := hn.q_.parts
 have gl := x.group_.slen
 have glen := x.group_.len
 have ol := x.order_.slen
 have olen := x.order_.len
 have el := x.limit_
 obtain ⟨b0, o0, sl, e0, r0, hi0, hl12, hlen⟩ := hn.arg ha
 have sla := hi0.slen
 have bad : ∀ mx, Sub m mx -> ¬ vQ a gr od li -> kB h K (.val (.bool false)) mx h := λ mx hm hn => .sub hm (hK false ⟨λ e => (by cases e), λ e => (hn e).elim⟩)
 refine ⟨b0, o0, e0, aC, aC, sl, .imm (by simpa using r0), λ b m1 hb hm1 => ?_⟩
 refine ⟨λ ⟨i, wd, b', mx⟩ => wd = a.length /\ b' = b /\ i <= gr.length /\ Sub m mx /\ Ux mx b (gr.take i) /\ eM (Hx a) gr i, λ ⟨i, _, _, _⟩ => gr.length - i, ⟨(0, sl.len, b, m1), ⟨sla, rfl, aC, (Sub.refl m).upd hb.m_ hm1.other, .zero hm1.at_, .zero⟩, MT⟩, ?_⟩
 rintro ⟨i, wd, b, mx⟩ ⟨rfl, rfl, hi, hsub, harr, hg⟩
 dsimp only
 refine aE (λ hlt => ?_) (λ hge => ?_)
 . obtain ⟨c, hc⟩ := fE gl hlt
   obtain ⟨b1, o1, e1, r1⟩ := x.group_.at' hc
   have gbad : ¬ Hx a (gr.take i) c -> kB h K (.val (.bool false)) mx h := λ hn => bad mx hsub λ hh => Good.not hc hn hh.group_
   refine ⟨b1, o1, e1, aC, hlt, c, .imm r1, aE (λ h1 => gbad λ hh => ?_) (λ h1 => aE (λ h2 => gbad λ hh => ?_) (λ h2 => ?_))⟩
   . have := j8.1 hh.1; omega
   . have := j8.1 hh.1; omega
   obtain ⟨y, hy, hys⟩ := harr.look (h := h) (n := c) aC aC
   refine ⟨aC, aC, y, hy, aB (λ h3 => gbad λ hh => hh.2 (hys.1 h3)) (λ h3 => ?_)⟩
   obtain ⟨cs, E, hat, hsz, hst⟩ := harr.store (n := c) aC aC
   refine ⟨aC, aC, cs, E, hat, hsz, λ m2 hm2 => ⟨(i + 1, a.length, b, m2), ⟨rfl, rfl, aC, hsub.upd hb.m_ hm2.other, ?_, hg.succ hc ⟨j8.2 ⟨aC, aC⟩, λ e => ?_⟩⟩, by show gr.length - (i + 1) < gr.length - i; omega, MT⟩⟩
   . have := hst m2 hm2
     rwa [EA, hc]
   . rw [hys.2 e] at h3; cases h3
 have gg := hg.all aC
 refine ⟨λ ⟨i, wd, mx⟩ => wd = a.length /\ i <= od.length /\ Sub m mx /\ eM (KW a) od i, λ ⟨i, _, _⟩ => od.length - i, ⟨(0, a.length, mx), ⟨rfl, aC, hsub, .zero⟩, MT⟩, ?_⟩
 clear hi hg hge hsub harr mx
 rintro ⟨i, wd, mx⟩ ⟨rfl, hi, hsub, hoi⟩
 dsimp only
 refine aE (λ hlt => ?_) (λ hge => ?_)
 . obtain ⟨c, hc⟩ := fE ol hlt
   obtain ⟨b1, o1, e1, r1⟩ := x.order_.at hc
   have obad : ¬ KW a (od.take i) c -> kB h K (.val (.bool false)) mx h := λ hn => bad mx hsub λ hh => Good.not hc hn hh.order_
   refine ⟨b1, o1, e1, aC, hlt, c, .imm r1, aE (λ h1 => obad λ hh => ?_) (λ h1 => aE (λ h2 => obad λ hh => ?_) (λ h2 => ⟨(i + 1, a.length, mx), ⟨rfl, aC, hsub, hoi.succ hc (j8.2 ⟨aC, aC⟩)⟩, by show od.length - (i + 1) < od.length - i; omega, MT⟩))⟩
   . have := j8.1 (show El a c.1 = true from hh); omega
   . have := j8.1 (show El a c.1 = true from hh); omega
 have oo := hoi.all aC
 rw [el]
 refine aE (λ h1 => aE (λ h2 => ?_) (λ h2 => bad mx hsub λ hh => ?_)) (λ h1 => bad mx hsub λ hh => ?_)
 . exact .sub hsub (hK (decide (li <= 100)) ⟨λ e => ⟨gg, oo, aC, h2, by simpa using e⟩, λ e => decide_eq_true e.high⟩)
 . have := hh.low; omega
 . have := hh.len_; omega
theorem Kq : Sound Tryz.prog 182 KS := by
 refine FN Tryz.func182 ?_
 rintro cvs m h K ⟨n, s, ps, q, ks, a, rfl, hn, ha, hK⟩
 refine ⟨WU n h, rfl, aF, Dw n m h (kB h K), by kernel_rfl, ?_⟩
 dsimp only [Dw, push_cast]
 obtain ⟨op, ta, w, co, on, gr, od, li, args⟩ := q
 refine Y3 hn ha (λ r hr => hK r (hr.trans ⟨λ e => ⟨_, _, _, _, _, _, _, _, _, rfl, e⟩, ?_⟩))
 rintro ⟨_, _, _, _, _, _, _, _, _, e, hr⟩
 cases e
 exact hr
theorem Q4 {on : List (Int × Int)} {sl : Sl} (hon : lK h sl on) : cR h (.mk 0 0 gW [] on [] [] 0 []) ⟨0, 0, ⟨0, 0, dL, dL, ⟨none, 0, 0⟩⟩, ⟨none, 0, 0⟩, sl, ⟨none, 0, 0⟩, ⟨none, 0, 0⟩, 0, ⟨none, 0, 0⟩⟩ :=
 oJ.rep ⟨rfl, rfl, AL h, ⟨.nil _ _, by simp⟩, hon, ⟨.nil _ _, by simp⟩, ⟨.nil _ _, by simp⟩, rfl, .nil _ _ _ _⟩
theorem Ks : Sound Tryz.prog 178 KV := by
 refine FN Tryz.func178 ?_
 rintro cvs m h K ⟨n, s, ps, q, ks, rfl, hn, hK⟩
 refine ⟨WW n h, rfl, aD qN aF, Dx n m h (kB h K), by kernel_rfl, ?_⟩
 dsimp only [Dx, push_cast]
 obtain ⟨op, ta, w, co, on, gr, od, li, args⟩ := q
 show Dx n m h (kB h K)
 dsimp only [Dx, push_cast]
 have x := hn.q_.parts
 have ol := x.on_.slen
 have olen := x.on_.len
 have bad : ∀ mx, Sub m mx -> ¬ Iw ks (.mk op ta w co on gr od li args) -> kB h K (.val (.bool false)) mx h := λ mx hm hn => .sub hm (hK false ⟨λ e => (by cases e), λ e => (hn e).elim⟩)
 refine ⟨n, 2, ⟨0, 0, ⟨0, 0, dL, dL, ⟨none, 0, 0⟩⟩, ⟨none, 0, 0⟩, n.q.on, ⟨none, 0, 0⟩, ⟨none, 0, 0⟩, 0, ⟨none, 0, 0⟩⟩, s, ps, _, ks, .mk 0 0 gW [] on [] [] 0 [], rfl, hn, Q4 x.on_, λ r hr => aB (λ h1 => bad m (Sub.refl m) λ hh => ?_) (λ h1 => ?_)⟩
 . have : r = true := hr.2 ⟨by have := hh.1; omega, by obtain ⟨_, rfl, rfl, rfl, rfl, rfl, rfl, _⟩ := hh; rfl⟩
   rw [this] at h1; cases h1
 obtain ⟨hk2, heq⟩ := hr.1 (by simpa using h1)
 simp only [Query.withOf, Query.mk.injEq] at heq
 obtain ⟨_, rfl, rfl, rfl, _, rfl, rfl, rfl, _⟩ := heq
 obtain ⟨a0, a1, rfl⟩ : ∃ a0 a1, ks = [a0, a1] := by
  match ks, hk2 with
  | [a0, a1], _ => exact ⟨a0, a1, rfl⟩
  | [], h => simp at h
  | [_], h => simp at h
  | _ :: _ :: _ :: _, h => simp at h; omega
 obtain ⟨b0, o0, s0, e0, r0, i0, l0, j0⟩ := hn.arg (j := 0) rfl
 obtain ⟨b1, o1, s1, e1, r1, i1, l1, j1⟩ := hn.arg (j := 1) rfl
 have sl0 := i0.slen
 have sl1 := i1.slen
 have bad : ∀ mx, Sub m mx -> ¬ Good (AA a0 a1) on -> kB h K (.val (.bool false)) mx h := λ mx hm hn => bad mx hm λ hh => hn hh.2.2.2.2.2.2.2
 refine ⟨b0, o0, e0, aC, aC, s0, .imm (by simpa using r0), b1, o1, e1, aC, aC, s1, .imm (by simpa using r1), λ b m1 hb hm1 c m2 hc hm2 => ?_⟩
 have hne : b ≠ c := λ e => by have := hc.m_; rw [<- e, hm1.at_] at this; cases this
 have hs1 : Sub m m1 := (Sub.refl m).upd hb.m_ hm1.other
 have hcm : m c = none := hs1.free hc.m_
 refine ⟨λ ⟨i, s', t', b', c', mx⟩ => s' = s0 /\ t' = s1 /\ b' = b /\ c' = c /\ i <= on.length /\ Sub m mx /\ Ux mx b ((on.take i).map Prod.fst) /\ Ux mx c ((on.take i).map Prod.snd) /\ eM (AA a0 a1) on i, λ ⟨i, _, _, _, _, _⟩ => on.length - i,
  ⟨(0, s0, s1, b, c, m2), ⟨rfl, rfl, rfl, rfl, aC, hs1.upd hcm hm2.other, (Ux.zero hm1.at_).other hne hm2.other, .zero hm2.at_, .zero⟩, MT⟩, ?_⟩
 rintro ⟨i, s0, s1, b, c, mx⟩ ⟨rfl, rfl, rfl, rfl, hi, hsub, hA, hB, hg⟩
 dsimp only
 refine aE (λ hlt => ?_) (λ hge => .sub hsub (hK true ⟨λ _ => ⟨rfl, rfl, rfl, rfl, rfl, rfl, rfl, hg.all aC⟩, λ _ => rfl⟩))
 obtain ⟨p, hp⟩ := fE ol hlt
 obtain ⟨bp, op', ep, rp⟩ := x.on_.at hp
 have pbad : ¬ AA a0 a1 (on.take i) p -> kB h K (.val (.bool false)) mx h := λ hn => bad mx hsub (Good.not hp hn)
 refine ⟨bp, op', ep, aC, hlt, p, .imm rp, aC, aC, aC, aC, aE (λ d1 => pbad λ hh => ?_) (λ d1 => aE (λ d2 => pbad λ hh => ?_) (λ d2 => aE (λ d3 => pbad λ hh => ?_) (λ d3 => aE (λ d4 => pbad λ hh => ?_) (λ d4 => ?_))))⟩
 . have := j8.1 hh.1; omega
 . have := j8.1 hh.1; omega
 . have := j8.1 hh.2.1; omega
 . have := j8.1 hh.2.1; omega
 obtain ⟨b2, o2, e2, r2⟩ := i0.inb (n := p.1) aC aC
 obtain ⟨b3, o3, e3, r3⟩ := i1.inb (n := p.2) aC aC
 obtain ⟨y, hy, hys⟩ := hA.look (h := h) (n := p.1) aC aC
 obtain ⟨z, hz, hzs⟩ := hB.look (h := h) (n := p.2) aC aC
 obtain ⟨cs, E, hat, hsz, hst⟩ := hA.store (n := p.1) aC aC
 refine ⟨b2, o2, e2, aC, aC, _, .imm r2, b3, o3, e3, aC, aC, _, .imm r3, aB (λ d5 => pbad λ hh => ?_) (λ d5 => ⟨aC, aC, y, hy, aB (λ d6 => pbad λ hh => ?_) (λ d6 => ⟨aC, aC, z, hz, aB (λ d7 => pbad λ hh => ?_) (λ d7 => ⟨aC, aC, cs, E, hat, hsz, λ m3 hm3 => ?_⟩)⟩)⟩)⟩
 . rw [hh.2.2.1] at d5; simp at d5
 . obtain ⟨q, hq, e⟩ := mH.1 (hys.1 d6)
   exact (hh.2.2.2 q hq).1 e
 . obtain ⟨q, hq, e⟩ := mH.1 (hzs.1 d7)
   exact (hh.2.2.2 q hq).2 e
 have hA3 := hst m3 hm3
 have hB3 := hB.other hne.symm hm3.other
 obtain ⟨cs2, E2, hat2, hsz2, hst2⟩ := hB3.store (n := p.2) aC aC
 refine ⟨aC, aC, cs2, E2, hat2, hsz2, λ m4 hm4 => ⟨(i + 1, s0, s1, b, c, m4), ⟨rfl, rfl, rfl, rfl, aC, (hsub.upd hb.m_ hm3.other).upd hcm hm4.other, ?_, ?_, hg.succ hp ⟨j8.2 ⟨aC, aC⟩, j8.2 ⟨aC, aC⟩, by simpa using d5, λ q hq => ⟨λ e => ?_, λ e => ?_⟩⟩⟩, by show on.length - (i + 1) < on.length - i; omega, MT⟩⟩
 . rw [fL hp]; exact hA3.other hne hm4.other
 . rw [fL hp]; exact hst2 m4 hm4
 . rw [hys.2 (mH.2 ⟨q, hq, e⟩)] at d6; cases d6
 . rw [hzs.2 (mH.2 ⟨q, hq, e⟩)] at d7; cases d7
def fin (r : List Int × Int) : List Int × Int := if r.2 = 0 then z6 r.1 else iO r.2
def Query.op : Query -> Int
 | .mk op .. => op
noncomputable def vU (s : nX) (ps : List Int) (q : Query) (ks : List (List Int)) : List Int × Int := if (ks.length : Int) = arity q.op then gZ s ps q (ks.getD 0 []) (ks.getD 1 []) else iO 100
def vV (P : Int -> Prop) : Vc.Spec := λ cvs m h K => ∃ n s ps q ks, cvs = [aN n] /\ qO h s ps q ks n /\ pB s /\ P q.op /\ ∀ r, fin r = vU s ps q ks -> KR K m h r
def agQ (h : PH) (ss : Sl) (ks : List (List Int)) : Prop := bW h 1 eS (λ k sl => Ints h sl k) ss ks
def Jh : Vc.Spec := λ cvs m h K => ∃ ss ks, cvs = [cS ss] /\ agQ h ss ks /\ ks.length <= 10 /\ (∀ k ∈ ks, k.length <= 12) /\ ∀ sl h', PH.le h h' -> Ints h' sl ks.flatten -> K (cS sl) m h'
noncomputable def W4 (n : NV) (m : MH) (h : PH) : Ctx :=
 dM [(177, zM)] [(5, { A := Nat × List Int, st := λ ⟨i, l⟩ => cH 57 58 [(1, .at (.ptr 1 0)), (4, .at (.lst 25)), (28, sv n.q.columns), (29, iv n.q.columns.len), (30, iv i)] [(1, .cells 152 (n.enc.map .val)), (25, .lst 3 1 (l.map eI))] m h })] [] [] false
noncomputable abbrev kJ (a : List Value) : List Value := xS sR (aJ sR sR (aJ sR bO a))
noncomputable abbrev wP (a b : Value) : List Value := aJ a b (aJ bO bO (aJ bO bO (aJ bO bO (kJ hU))))
attribute [push_cast] kJ wP
def DE (n : NV) (m : MH) (h : PH) (K : CV -> MH -> PH -> Prop) : Prop :=
  yQ (λ n1 k u s p q k1 u1 => j2 (kE (aJ (pP n.s) (pO n.s) (aJ (eA n.params) (dQ n.q.op) (aJ (mA n.q) (lY n.q) (aJ (dQ (mC n.q)) (jI (fZ n.q)) (fB n (fA n)))))) :: aX (dH 0) (kE (wP bO (mA n.q)))) (kE (aJ (pP n1.s) (pO n1.s) (aJ (eA n1.params) (dQ n1.q.op) (aJ (mA n1.q) (lY n1.q) (aJ (dQ (mC n1.q)) (jI (fZ n1.q)) (fB n1 (fA n1)))))) :: aX (dH k) (aR u)) (qO h s p q k1 n1) (cR h u1 u) (λ r => fP (dX r ↔ yP k1 k /\ Cg q u1) (!r) (K (CV.tup (bB jZ 100)) m h) (bA n.q.table 0 (K (CV.tup (bB jZ 100)) m h) (fQ n.q.table (gL n.s) (K (CV.tup (bB jZ 100)) m h) (Be (bB (cF n.s) n.q.table) h (λ s1 h1 => K (CV.tup (bB (cK s1) 0)) m h1))))))
def DD (n : NV) (m : MH) (h : PH) (K : CV -> MH -> PH -> Prop) : Prop :=
  yQ (λ n1 k u s p q k1 u1 => j2 (kE (aJ (pP n.s) (pO n.s) (aJ (eA n.params) (dQ n.q.op) (aJ (mA n.q) (lY n.q) (aJ (dQ (mC n.q)) (jI (fZ n.q)) (fB n (fA n)))))) :: aX (dH 1) (kE (aJ bO bO (aJ (lY n.q) (dQ (mC n.q)) (aJ (jI (fZ n.q)) (rH (fZ n.q)) (aJ (dQ (mZ (fZ n.q))) (mS (fZ n.q)) (aJ (lJ (fZ n.q)) (jI (eZ n.q)) (aJ (rH (eZ n.q)) (dQ (mZ (eZ n.q))) (aJ (mS (eZ n.q)) (lJ (eZ n.q)) (aJ (nL n.q) sR (aJ sR sR (aJ sR bO hU)))))))))))) (kE (aJ (pP n1.s) (pO n1.s) (aJ (eA n1.params) (dQ n1.q.op) (aJ (mA n1.q) (lY n1.q) (aJ (dQ (mC n1.q)) (jI (fZ n1.q)) (fB n1 (fA n1)))))) :: aX (dH k) (aR u)) (qO h s p q k1 n1) (cR h u1 u) (λ r => fP (dX r ↔ yP k1 k /\
 Cg q u1) (!r) (K (CV.tup (bB jZ 100)) m h) (nR n m h (λ _ _ y => C3 (cK y :: aX (cK n.params) (cX n.q.where_)) h (λ c p1 p2 => eE (gY c p1 p2) 0 (K (CV.tup (bB jZ (gY c p1 p2))) m h) (nR n m h (λ _ _ y1 => K (CV.tup (bB (cK y1) 0)) m h)))))))
def DC (n : NV) (m : MH) (h : PH) (K : CV -> MH -> PH -> Prop) : Prop :=
  yQ (λ n1 k u s p q k1 u1 => j2 (kE (aJ (pP n.s) (pO n.s) (aJ (eA n.params) (dQ n.q.op) (aJ (mA n.q) (lY n.q) (aJ (dQ (mC n.q)) (jI (fZ n.q)) (fB n (fA n)))))) :: aX (dH 1) (kE (Dd (xS (nM n.q) (aJ sR sR (aJ sR bO hU)))))) (kE (aJ (pP n1.s) (pO n1.s) (aJ (eA n1.params) (dQ n1.q.op) (aJ (mA n1.q) (lY n1.q) (aJ (dQ (mC n1.q)) (jI (fZ n1.q)) (fB n1 (fA n1)))))) :: aX (dH k) (aR u)) (qO h s p q k1 n1) (cR h u1 u) (λ r => (dX r ↔ yP k1 k /\ Cg q u1) -> cW (!r) (K (CV.tup (bB jZ 100)) m h) (aG n.q.columns == 0) (K (CV.tup (bB jZ 100)) m h) (aA (cA 0) (cA (aG n.q.columns)) (aA (qJ (aG n.q.columns * 8)) (qJ (aG n.q.columns)) (∃ (I : Nat × List Int -> Prop) (m1 : Nat × List Int -> Nat), (∃ (x : Nat × List
 Int), aA (I x) eO (aA (eL 25) (aI n.q.columns) (aA (bI n.q.columns) (bC x.1) (aA (A2 n) (rQ x.2) (dT m m h h))))) /\ ∀ (x : Nat × List Int), I x -> bA (↑x.1 : Int) (aG n.q.columns) (aT (λ b o => aA (aU n.q.columns.a b o) (0 <= (↑x.1 : Int)) ((↑x.1 : Int) < aG n.q.columns /\ ∃ (y : Int), aL m h b (bN o x.1 1) (bZ y) /\ bA y 0 (K (CV.tup (bB jZ 100)) m h) (nR n m h (λ _ _ y1 => fQ y (aG y1) (K (CV.tup (bB jZ 100)) m h) (nR n m h (λ _ _ y2 => aT (λ b1 o1 => aA (aU y2.a b1 o1) (0 <= y) (y < aG y2 /\ ∃ (y3 : Int), aA (aL m h b1 (fM o1 y 1) (bZ y3)) (C7 x.2) (iA (iI x.2) /\ ∃ (x1 : Nat × List Int), aA (I x1) (m1 x1 < m1 x) (aA eO (eL 25) (aA (aI n.q.columns) (bI n.q.columns) (aA (fK (bE x.1 1) = bV x1.1) (A2 n) (bM (rT x.2 y3
 x1.2) (m = m) (h = h))))))))))))))) (bH h 1 (iI x.2) (λ s1 h1 => K (CV.tup (bB (cK s1) 0)) m h1)))))))
noncomputable abbrev iB (a : NV) (b : List Value) : List CV := mR (kE (aJ (pP a.s) (pO a.s) (aJ (eA a.params) (dQ a.q.op) (aJ (mA a.q) (lY a.q) (aJ (dQ (mC a.q)) (jI (fZ a.q)) b)))))
attribute [push_cast] iB
def DB (n : NV) (m : MH) (h : PH) (K : CV -> MH -> PH -> Prop) : Prop :=
  ∃ (n1 : NV), AX (λ s p q k => aA (iB n (fB n (fA n)) = iB n1 (fB n1 (fA n1))) (qO h s p q k n1) (∀ (r : Bool), fP (dX r ↔ Iw k q) (!r) (K (CV.tup (bB jZ 100)) m h) (nR n m h (λ b o y => aT (λ b1 o1 => aA (aU n.args.a b1 o1) ((0 : Int) <= 1) (1 < aG n.args /\ ∃ (y1 : Sl), aA (aL m h b1 (o1 + 1) (aM y1)) (aZ h b (o + 0) (aM y)) (aZ h b1 (o1 + 1) (aM y1) /\ bH h 1 (aM y :: cT (aM y1)) (λ s1 h1 => ∃ (s2 : Sl) (k1 : List (List Int)), aA (fU s1 = fU s2) (agQ h1 s2 k1) (aA (k1.length <= 10) (∀ (k2 : List Int), List.Mem k2 k1 -> k2.length <= 12) (qT (λ s3 h2 => dG h1 h2 (Ints h2 s3 k1.flatten) (K (CV.tup (bB (cK s3) 0)) m h2))))))))))))
def DA (n : NV) (m : MH) (h : PH) (K : CV -> MH -> PH -> Prop) : Prop :=
  ∃ (n1 : NV), AX (λ s p q k => aA (iB n (fB n (fA n)) = iB n1 (fB n1 (fA n1))) (qO h s p q k n1) (∀ (r : Bool), fP (dX r ↔ Iw k q) (!r) (K (CV.tup (bB jZ 100)) m h) (nR n m h (λ _ _ y => K (CV.tup (bB (cK y) 0)) m h))))
def Hf (n : NV) (m : MH) (h : PH) (K : CV -> MH -> PH -> Prop) : Prop :=
  yQ (λ n1 k u s p q k1 u1 => j2 (kE (aJ (pP n.s) (pO n.s) (aJ (eA n.params) (dQ n.q.op) (aJ (mA n.q) (lY n.q) (aJ (dQ (mC n.q)) (jI (fZ n.q)) (fB n (fA n)))))) :: aX (dH 2) (kE zV)) (kE (aJ (pP n1.s) (pO n1.s) (aJ (eA n1.params) (dQ n1.q.op) (aJ (mA n1.q) (lY n1.q) (aJ (dQ (mC n1.q)) (jI (fZ n1.q)) (fB n1 (fA n1)))))) :: aX (dH k) (aR u)) (qO h s p q k1 n1) (cR h u1 u) (λ r => fP (dX r ↔ yP k1 k /\ Cg q u1) (!r) (K (CV.tup (bB jZ 100)) m h) (nR n m h (λ _ _ y => aT (λ b o => aA (aU n.args.a b o) ((0 : Int) <= 1) (1 < aG n.args /\ ∃ (y1 : Sl), aL m h b (o + 1) (aM y1) /\ iW (λ s1 t => qS (λ a b1 => j2 (jP y y1) (jP s1 t) (Ints h s1 a) (Ints h t b1) (λ r1 => fP (dX r1 ↔ a = b1) (!r1) (K (CV.tup (bB
 jZ 100)) m h) (nR n m h (λ _ _ y2 => K (CV.tup (bB (cK y2) 0)) m h)))))))))))
abbrev GB (a : (List Int) -> (List (Int × Bool)) -> Prop) : Prop := ∃ (x : List Int) (x1 : List (Int × Bool)), a x x1
attribute [push_cast] GB
def Dz (n : NV) (m : MH) (h : PH) (K : CV -> MH -> PH -> Prop) : Prop :=
  ∃ (n1 : NV), AX (λ s p q k => aA (iB n (fB n (fA n)) = iB n1 (fB n1 (fA n1))) (qO h s p q k n1) (yQ (λ n2 k1 u s1 p1 q1 k2 u1 => j2 (kE (aJ (pP n.s) (pO n.s) (aJ (eA n.params) (dQ n.q.op) (aJ (mA n.q) (lY n.q) (aJ (dQ (mC n.q)) (jI (fZ n.q)) (fB n (fA n)))))) :: aX (dH 1) (kE (Dd (xS sR (ID n1.q))))) (kE (aJ (pP n2.s) (pO n2.s) (aJ (eA n2.params) (dQ n2.q.op) (aJ (mA n2.q) (lY n2.q) (aJ (dQ (mC n2.q)) (jI (fZ n2.q)) (fB n2 (fA n2)))))) :: aX (dH k1) (aR u)) (qO h s1 p1 q1 k2 n2) (cR h u1 u) (λ r => fP (dX r ↔ yP k2 k1 /\ Cg q1 u1) (!r) (K (CV.tup (bB jZ 100)) m h) (∃ (n3 : NV), AX (λ s2 p2 q2 k3 => ∃ (a : List Int), j2 (iB n (fB n (fA n))) (iB n3 (fB n3 (fA n3))) (qO
 h s2 p2 q2 k3 n3) (k3[0]? = Option.some a) (λ r1 => fP (dX r1 ↔ (∃ (o t : Int) (w : Pred) (c : List Int) (o1 : List (Int × Int)), GB (λ g o2 => ∃ (l : Int) (a1 : List Query), q2 = Query.mk o t w c o1 g o2 l a1 /\ vQ a g o2 l))) (!r1) (K (CV.tup (bB jZ 100)) m h) (nR n m h (λ _ _ y => K (CV.tup (bB (cK y) 0)) m h)))))))))
def Dy (n : NV) (m : MH) (h : PH) (K : CV -> MH -> PH -> Prop) : Prop :=
  ∃ (n1 : NV), AX (λ s p q k => aA (iB n (fB n (fA n)) = iB n1 (fB n1 (fA n1))) (qO h s p q k n1) (yQ (λ n2 k1 u s1 p1 q1 k2 u1 => j2 (kE (aJ (pP n.s) (pO n.s) (aJ (eA n.params) (dQ n.q.op) (aJ (mA n.q) (lY n.q) (aJ (dQ (mC n.q)) (jI (fZ n.q)) (fB n (fA n)))))) :: aX (dH 2) (kE (Dd (xS sR (ID n1.q))))) (kE (aJ (pP n2.s) (pO n2.s) (aJ (eA n2.params) (dQ n2.q.op) (aJ (mA n2.q) (lY n2.q) (aJ (dQ (mC n2.q)) (jI (fZ n2.q)) (fB n2 (fA n2)))))) :: aX (dH k1) (aR u)) (qO h s1 p1 q1 k2 n2) (cR h u1 u) (λ r => fP (dX r ↔ yP k2 k1 /\ Cg q1 u1) (!r) (K (CV.tup (bB jZ 100)) m h) (nR n m h (λ b o y => aT (λ b1 o1 => aA (aU n.args.a b1 o1) ((0 : Int) <= 1) (1 < aG n.args /\ ∃ (y1 : Sl), aL m h b1
 (o1 + 1) (aM y1) /\ iW (λ s2 t => qS (λ a b2 => j2 (jP y y1) (jP s2 t) (Ints h s2 a) (Ints h t b2) (λ r1 => fP (dX r1 ↔ a = b2) (!r1) (aA (aZ h b (o + 0) (aM y)) (aZ h b1 (o1 + 1) (aM y1)) (K (CV.tup (bB jZ 100)) m h)) (aA (aZ h b (o + 0) (aM y)) (aZ h b1 (o1 + 1) (aM y1)) (∃ (n3 : NV), AX (λ s3 p2 q2 k3 => ∃ (a1 : List Int), j2 (iB n (fB n (fA n))) (iB n3 (fB n3 (fA n3))) (qO h s3 p2 q2 k3 n3) (k3[0]? = Option.some a1) (λ r2 => fP (dX r2 ↔ (∃ (o2 t1 : Int) (w : Pred) (c : List Int) (o3 : List (Int × Int)), GB (λ g o4 => ∃ (l : Int) (a2 : List Query), q2 = Query.mk o2 t1 w c o3 g o4 l a2 /\ vQ a1 g o4 l))) (!r2) (K (CV.tup (bB jZ 100)) m h) (nR n m h (λ _ _ y2 => K (CV.tup (bB (cK y2) 0)) m h)))))))))))))))))
theorem Ys {e : Int} (h : e ≠ 0) : fin (iO e) = iO e := by unfold fin; rw [if_neg (by simpa [iO] using h)]; rfl
theorem Yr (l : List Int) : fin (l, 0) = z6 l := by unfold fin; rw [if_pos rfl]
structure V3 (K : CV -> MH -> PH -> Prop) (m : MH) (h : PH) (full : List Int × Int) : Prop where
 all : ∀ r, fin r = full -> KR K m h r
theorem V3.err {f : List Int × Int} {e : Int} (x : V3 K m h f) (he : f = iO e) (h0 : e ≠ 0) (hle : PH.le h h') : K (.tup [.val (.slice none 0 0), .val (.int .i64 e)]) m h' :=
 (x.all (iO e) (by rw [he, Ys h0])).err hle rfl
theorem V3.ok {f : List Int × Int} {sl : Sl} (x : V3 K m h f) (he : f = z6 l) (hle : PH.le h h') (hi : Ints h' sl l) : K (.tup [.val (.slice sl.a sl.len sl.cap), .val (.int .i64 0)]) m h' :=
 x.all (l, 0) (by rw [he, Yr]) sl h' hle hi
theorem sM (h : ¬ ((ks.length : Int) = arity q.op /\ dJ q)) : vU s ps q ks = iO 100 := by
 unfold vU
 by_cases h1 : (ks.length : Int) = arity q.op
 . rw [if_pos h1]
   unfold gZ
   rw [if_pos (.inr λ e => h ⟨h1, e⟩)]
 . rw [if_neg h1]
theorem nF {s : nX} {ps : List Int} {op ta : Int} {w : Pred} {co : List Int} {on : List (Int × Int)} {gr : List Int} {od : List (Int × Bool)} {li : Int} {args : List Query} {ks : List (List Int)} (h1 : (ks.length : Int) = arity op) (h2 : dJ (.mk op ta w co on gr od li args)) (h0 : 0 <= arity op) :
 vU s ps (.mk op ta w co on gr od li args) ks = gZ s ps (.mk op ta w co on gr od li args) (ks.getD 0 []) (ks.getD 1 []) /\ ¬ (arity op < 0 \/ ¬ dJ (.mk op ta w co on gr od li args)) := by
 unfold vU
 rw [if_pos (show (ks.length : Int) = arity (Query.op (.mk op ta w co on gr od li args)) from h1)]
 exact ⟨rfl, λ e => e.elim (λ e => by omega) λ e => e h2⟩
section
variable {n : NV} {s : nX} {ps : List Int} {ta : Int} {w : Pred} {co : List Int} {on : List (Int × Int)} {gr : List Int} {od : List (Int × Bool)} {li : Int} {args : List Query} {ks : List (List Int)} {m : MH} {h : PH} {K : CV -> MH -> PH -> Prop}
theorem Rk (hk : (ks.length : Int) = 1) : ∃ a, ks = [a] := by
 match ks, hk with
 | [a], _ => exact ⟨a, rfl⟩
 | [], h => simp at h
 | _ :: _ :: _, h => simp at h; omega
theorem Nh (hk : (ks.length : Int) = 2) : ∃ a b, ks = [a, b] := by
 match ks, hk with
 | [a, b], _ => exact ⟨a, b, rfl⟩
 | [], h => simp at h
 | [_], h => simp at h
 | _ :: _ :: _ :: _, h => simp at h; omega
theorem Zg (hn : qO h s ps (.mk 1 ta w co on gr od li args) ks n) (h8 : pB s) (hT : V3 K m h (vU s ps (.mk 1 ta w co on gr od li args) ks)) : DE n m h K := by
 dsimp only [DE, push_cast]
 have x := hn.q_.parts
 have et := x.table_
 have sl := hn.s_.tables.slen
 refine ⟨n, 0, ⟨0, n.q.table, ⟨0, 0, dL, dL, ⟨none, 0, 0⟩⟩, ⟨none, 0, 0⟩, ⟨none, 0, 0⟩, ⟨none, 0, 0⟩, ⟨none, 0, 0⟩, 0, ⟨none, 0, 0⟩⟩, s, ps, _, ks, .mk 0 ta gW [] [] [] [] 0 [], rfl, hn, oJ.rep ⟨rfl, et, AL h, ⟨.nil _ _, by simp⟩, ⟨.nil _ _, by simp⟩, ⟨.nil _ _, by simp⟩, ⟨.nil _ _, by simp⟩, rfl, .nil _ _ _ _⟩, λ r hr => aB (λ h1 => hT.err (sM λ e => ?_) aC (.refl _)) (λ h1 => ?_)⟩
 . have : r = true := hr.2 ⟨e.1, by have := e.2; simp [dJ] at this; obtain ⟨rfl, rfl, rfl, rfl, rfl, rfl⟩ := this; rfl⟩
   rw [this] at h1; cases h1
 obtain ⟨hk, heq⟩ := hr.1 (by simpa using h1)
 simp only [Query.withOf, Query.mk.injEq] at heq
 obtain ⟨_, _, rfl, rfl, rfl, rfl, rfl, rfl, _⟩ := heq
 obtain ⟨hf, hg⟩ := nF (s := s) (ps := ps) (op := 1) (ta := ta) (w := gW) (co := []) (on := []) (gr := []) (od := []) (li := 0) (args := args) (ks := ks) hk (by simp [dJ]) (by decide)
 rw [hf] at hT
 unfold gZ at hT
 rw [if_neg hg] at hT
 dsimp only at hT
 rw [if_pos rfl] at hT
 refine aE (λ d1 => hT.err (if_neg aC) aC (.refl _)) (λ d1 => aE (λ d2 => hT.err (if_neg aC) aC (.refl _)) (λ d2 => ⟨n.s, s, n.q.table, rfl, hn.s_, h8, λ sl h' hle hi => ?_⟩))
 rw [et] at hi
 exact hT.ok (if_pos aC) hle hi
theorem Ze (hn : qO h s ps (.mk 2 ta w co on gr od li args) ks n) (hT : V3 K m h (vU s ps (.mk 2 ta w co on gr od li args) ks)) : DD n m h K := by
 dsimp only [DD, push_cast]
 have x := hn.q_.parts
 refine ⟨n, 1, ⟨0, 0, n.q.where_, ⟨none, 0, 0⟩, ⟨none, 0, 0⟩, ⟨none, 0, 0⟩, ⟨none, 0, 0⟩, 0, ⟨none, 0, 0⟩⟩, s, ps, _, ks, .mk 0 0 w [] [] [] [] 0 [], rfl, hn, oJ.rep ⟨rfl, rfl, x.where_, ⟨.nil _ _, by simp⟩, ⟨.nil _ _, by simp⟩, ⟨.nil _ _, by simp⟩, ⟨.nil _ _, by simp⟩, rfl, .nil _ _ _ _⟩, λ r hr => aB (λ h1 => hT.err (sM λ e => ?_) aC (.refl _)) (λ h1 => ?_)⟩
 . have : r = true := hr.2 ⟨e.1, by have := e.2; simp [dJ] at this; obtain ⟨rfl, rfl, rfl, rfl, rfl, rfl⟩ := this; rfl⟩
   rw [this] at h1; cases h1
 obtain ⟨hk, heq⟩ := hr.1 (by simpa using h1)
 simp only [Query.withOf, Query.mk.injEq] at heq
 obtain ⟨_, rfl, _, rfl, rfl, rfl, rfl, rfl, _⟩ := heq
 obtain ⟨hf, hg⟩ := nF (s := s) (ps := ps) (op := 2) (ta := 0) (w := w) (co := []) (on := []) (gr := []) (od := []) (li := 0) (args := args) (ks := ks) hk (by simp [dJ]) (by decide)
 rw [hf] at hT
 unfold gZ at hT
 rw [if_neg hg] at hT
 dsimp only at hT
 rw [if_neg (by decide), if_pos rfl] at hT
 obtain ⟨a, rfl⟩ := Rk hk
 obtain ⟨b0, o0, s0, e0, r0, i0, l0, j0⟩ := hn.arg (j := 0) rfl
 simp only [List.getD_cons_zero] at hT
 refine ⟨b0, o0, e0, aC, aC, s0, .imm (by simpa using r0), s0, n.params, n.q.where_, a, ps, w, rfl, i0, hn.ps_, x.where_, aB (λ d1 => hT.err (if_neg (by simpa using d1)) (by simpa using d1) (.refl _)) (λ d1 => ⟨b0, o0, e0, aC, aC, s0, .imm (by simpa using r0), hT.ok (if_pos (by simpa using d1)) (.refl _) i0⟩)⟩
theorem Zb (hn : qO h s ps (.mk 5 ta w co on gr od li args) ks n) (hT : V3 K m h (vU s ps (.mk 5 ta w co on gr od li args) ks)) : DA n m h K := by
 dsimp only [DA, push_cast]
 refine ⟨n, s, ps, _, ks, rfl, hn, λ r hr => aB (λ h1 => hT.err ?_ aC (.refl _)) (λ h1 => ?_)⟩
 . by_cases hb : ((ks.length : Int) = arity 5 /\ dJ (.mk 5 ta w co on gr od li args))
   . obtain ⟨hf, hg⟩ := nF (s := s) (ps := ps) hb.1 hb.2 (by decide)
     rw [hf]
     unfold gZ
     rw [if_neg hg]
     dsimp only
     rw [if_neg (by decide), if_neg (by decide), if_neg (by decide), if_neg (by decide), if_pos rfl, if_neg]
     intro hgood
     have h2 := hb.2
     simp [dJ] at h2
     have : r = true := hr.2 ⟨by have := hb.1; simp [arity] at this; omega, h2.1, h2.2.1, h2.2.2.1, h2.2.2.2.1, h2.2.2.2.2.1, h2.2.2.2.2.2, hgood⟩
     rw [this] at h1; cases h1
   . exact sM hb
 obtain ⟨hk, rfl, rfl, rfl, rfl, rfl, rfl, hgood⟩ := hr.1 (by simpa using h1)
 obtain ⟨hf, hg⟩ := nF (s := s) (ps := ps) (op := 5) (ta := 0) (w := gW) (co := []) (on := on) (gr := []) (od := []) (li := 0) (args := args) (ks := ks) (by rw [hk]; rfl) (by simp [dJ]) (by decide)
 rw [hf] at hT
 unfold gZ at hT
 rw [if_neg hg] at hT
 dsimp only at hT
 rw [if_neg (by decide), if_neg (by decide), if_neg (by decide), if_neg (by decide), if_pos rfl, if_pos hgood] at hT
 obtain ⟨a, b, rfl⟩ := Nh (ks := ks) aC
 obtain ⟨b0, o0, s0, e0, r0, i0, l0, j0⟩ := hn.arg (j := 0) rfl
 exact ⟨b0, o0, e0, aC, aC, s0, .imm (by simpa using r0), hT.ok rfl (.refl _) i0⟩
theorem Zc (hn : qO h s ps (.mk 4 ta w co on gr od li args) ks n) (hT : V3 K m h (vU s ps (.mk 4 ta w co on gr od li args) ks)) : DB n m h K := by
 dsimp only [DB, push_cast]
 refine ⟨n, s, ps, _, ks, rfl, hn, λ r hr => aB (λ h1 => hT.err ?_ aC (.refl _)) (λ h1 => ?_)⟩
 . by_cases hb : ((ks.length : Int) = arity 4 /\ dJ (.mk 4 ta w co on gr od li args))
   . obtain ⟨hf, hg⟩ := nF (s := s) (ps := ps) hb.1 hb.2 (by decide)
     rw [hf]
     unfold gZ
     rw [if_neg hg]
     dsimp only
     rw [if_neg (by decide), if_neg (by decide), if_neg (by decide), if_pos rfl, if_neg]
     intro hgood
     have h2 := hb.2
     simp [dJ] at h2
     have : r = true := hr.2 ⟨by have := hb.1; simp [arity] at this; omega, h2.1, h2.2.1, h2.2.2.1, h2.2.2.2.1, h2.2.2.2.2.1, h2.2.2.2.2.2, hgood⟩
     rw [this] at h1; cases h1
   . exact sM hb
 obtain ⟨hk, rfl, rfl, rfl, rfl, rfl, rfl, hgood⟩ := hr.1 (by simpa using h1)
 obtain ⟨hf, hg⟩ := nF (s := s) (ps := ps) (op := 4) (ta := 0) (w := gW) (co := []) (on := on) (gr := []) (od := []) (li := 0) (args := args) (ks := ks) (by rw [hk]; rfl) (by simp [dJ]) (by decide)
 rw [hf] at hT
 unfold gZ at hT
 rw [if_neg hg] at hT
 dsimp only at hT
 rw [if_neg (by decide), if_neg (by decide), if_neg (by decide), if_pos rfl, if_pos hgood] at hT
 obtain ⟨a, b, rfl⟩ := Nh (ks := ks) aC
 obtain ⟨b0, o0, s0, e0, r0, i0, l0, j0⟩ := hn.arg (j := 0) rfl
 obtain ⟨b1, o1, s1, e1, r1, i1, l1, j1⟩ := hn.arg (j := 1) rfl
 refine ⟨b0, o0, e0, aC, aC, s0, .imm (by simpa using r0), b1, o1, e1, aC, aC, s1, .imm (by simpa using r1), by simpa using r0, by simpa using r1, λ sl h' hle hrow => ⟨sl, [a, b], rfl, ⟨⟨[s0, s1], hrow, rfl, λ j k hk => ?_⟩, by simp⟩, by simp, λ k hk => hn.len k hk, λ sl2 h2 hle2 hi2 => hT.ok (l := a ++ b) (by simp) (hle.trans hle2) (by simpa using hi2)⟩⟩
 match j, hk with
 | 0, hk => simp at hk; subst hk; exact ⟨s0, rfl, i0.mono hle⟩
 | 1, hk => simp at hk; subst hk; exact ⟨s1, rfl, i1.mono hle⟩
 | _ + 2, hk => simp at hk
theorem Za {op : Int} (hop : op = 6 \/ op = 7 \/ op = 8) (hn : qO h s ps (.mk op ta w co on gr od li args) ks n) (hT : V3 K m h (vU s ps (.mk op ta w co on gr od li args) ks)) : Hf n m h K := by
 dsimp only [Hf, push_cast]
 have x := hn.q_.parts
 have ha : arity op = 2 := by rcases hop with rfl | rfl | rfl <;> rfl
 have hne : op ≠ 1 /\ op ≠ 2 /\ op ≠ 3 /\ op ≠ 4 /\ op ≠ 5 /\ op ≠ 9 /\ op ≠ 10 := by omega
 refine ⟨n, 2, ⟨0, 0, ⟨0, 0, dL, dL, ⟨none, 0, 0⟩⟩, ⟨none, 0, 0⟩, ⟨none, 0, 0⟩, ⟨none, 0, 0⟩, ⟨none, 0, 0⟩, 0, ⟨none, 0, 0⟩⟩, s, ps, _, ks, .mk 0 0 gW [] [] [] [] 0 [], rfl, hn, oJ.rep ⟨rfl, rfl, AL h, ⟨.nil _ _, by simp⟩, ⟨.nil _ _, by simp⟩, ⟨.nil _ _, by simp⟩, ⟨.nil _ _, by simp⟩, rfl, .nil _ _ _ _⟩, λ r hr => aB (λ h1 => hT.err (sM λ e => ?_) aC (.refl _)) (λ h1 => ?_)⟩
 . have e1 : (ks.length : Int) = arity op := e.1
   have : r = true := hr.2 ⟨aC, by have := e.2; simp [dJ, hne] at this; obtain ⟨rfl, rfl, rfl, rfl, rfl, rfl, rfl⟩ := this; rfl⟩
   rw [this] at h1; cases h1
 obtain ⟨hk, heq⟩ := hr.1 (by simpa using h1)
 simp only [Query.withOf, Query.mk.injEq] at heq
 obtain ⟨_, rfl, rfl, rfl, rfl, rfl, rfl, rfl, _⟩ := heq
 obtain ⟨hf, hg⟩ := nF (s := s) (ps := ps) (op := op) (ta := 0) (w := gW) (co := []) (on := []) (gr := []) (od := []) (li := 0) (args := args) (ks := ks) aC (by simp [dJ]) aC
 rw [hf] at hT
 unfold gZ at hT
 rw [if_neg hg] at hT
 dsimp only at hT
 rw [if_neg hne.1, if_neg hne.2.1, if_neg hne.2.2.1, if_neg hne.2.2.2.1, if_neg hne.2.2.2.2.1, if_neg hne.2.2.2.2.2.1, if_neg hne.2.2.2.2.2.2] at hT
 obtain ⟨a, b, rfl⟩ := Nh hk
 obtain ⟨b0, o0, s0, e0, r0, i0, l0, j0⟩ := hn.arg (j := 0) rfl
 obtain ⟨b1, o1, s1, e1, r1, i1, l1, j1⟩ := hn.arg (j := 1) rfl
 refine ⟨b0, o0, e0, aC, aC, s0, .imm (by simpa using r0), b1, o1, e1, aC, aC, s1, .imm (by simpa using r1), s0, s1, a, b, rfl, i0, i1, λ r2 hr2 => aB (λ d1 => hT.err (if_neg λ e => ?_) aC (.refl _)) (λ d1 => ⟨b0, o0, e0, aC, aC, s0, .imm (by simpa using r0), hT.ok (if_pos (hr2.1 (by simpa using d1))) (.refl _) i0⟩)⟩
 have e : a = b := e
 rw [hr2.2 e] at d1; cases d1
theorem Zd (hn : qO h s ps (.mk 3 ta w co on gr od li args) ks n) (hT : V3 K m h (vU s ps (.mk 3 ta w co on gr od li args) ks)) : DC n m h K := by
 dsimp only [DC, push_cast]
 have x := hn.q_.parts
 have cl := x.columns_.slen
 have clen := x.columns_.len
 refine ⟨n, 1, ⟨0, 0, ⟨0, 0, dL, dL, ⟨none, 0, 0⟩⟩, n.q.columns, ⟨none, 0, 0⟩, ⟨none, 0, 0⟩, ⟨none, 0, 0⟩, 0, ⟨none, 0, 0⟩⟩, s, ps, _, ks, .mk 0 0 gW co [] [] [] 0 [], rfl, hn, oJ.rep ⟨rfl, rfl, AL h, x.columns_, ⟨.nil _ _, by simp⟩, ⟨.nil _ _, by simp⟩, ⟨.nil _ _, by simp⟩, rfl, .nil _ _ _ _⟩, λ r hr => aB (λ h1 => hT.err (sM λ e => ?_) aC (.refl _)) (λ h1 => ?_)⟩
 . have : r = true := hr.2 ⟨e.1, by have := e.2; simp [dJ] at this; obtain ⟨rfl, rfl, rfl, rfl, rfl, rfl⟩ := this; rfl⟩
   rw [this] at h1; cases h1
 obtain ⟨hk, heq⟩ := hr.1 (by simpa using h1)
 simp only [Query.withOf, Query.mk.injEq] at heq
 obtain ⟨_, rfl, rfl, _, rfl, rfl, rfl, rfl, _⟩ := heq
 obtain ⟨hf, hg⟩ := nF (s := s) (ps := ps) (op := 3) (ta := 0) (w := gW) (co := co) (on := []) (gr := []) (od := []) (li := 0) (args := args) (ks := ks) hk (by simp [dJ]) (by decide)
 rw [hf] at hT
 unfold gZ at hT
 rw [if_neg hg] at hT
 dsimp only at hT
 rw [if_neg (by decide), if_neg (by decide), if_pos rfl] at hT
 obtain ⟨a, rfl⟩ := Rk hk
 obtain ⟨b0, o0, s0, e0, r0, i0, l0, j0⟩ := hn.arg (j := 0) rfl
 have sl0 := i0.slen
 simp only [List.getD_cons_zero] at hT
 refine aB (λ d1 => hT.err (if_neg λ e => e.1 ((DP cl).1 d1)) aC (.refl _)) (λ d1 => ?_)
 have hne : co ≠ [] := λ e => by rw [(DP cl).2 e] at d1; cases d1
 refine ⟨aC, aC, aC, aC, λ ⟨i, l⟩ => i <= co.length /\ l = (co.take i).map (λ c => a.getD c.toNat 0) /\ eM (λ _ c => El a c = true) co i, λ ⟨i, _⟩ => co.length - i, ⟨(0, []), ⟨aC, by simp, .zero⟩, MT⟩, ?_⟩
 rintro ⟨i, _⟩ ⟨hi, rfl, hgo⟩
 dsimp only
 refine aE (λ hlt => ?_) (λ hge sl h' hle hrow => ?_)
 . obtain ⟨c, hc⟩ := fE cl hlt
   obtain ⟨b1, o1, ea1, r1⟩ := x.columns_.at' hc
   have cbad : ¬ El a c = true -> K (.tup [.val (.slice none 0 0), .val (.int .i64 100)]) m h := λ hx => hT.err (if_neg λ e => hx (e.2 i c hc)) aC (.refl _)
   refine ⟨b1, o1, ea1, aC, hlt, c, .imm r1, aE (λ d2 => cbad λ e => ?_) (λ d2 => ⟨b0, o0, e0, aC, aC, s0, .imm (by simpa using r0), aE (λ d3 => cbad λ e => ?_) (λ d3 => ?_)⟩)⟩
   . have := j8.1 e; omega
   . have := j8.1 e; omega
   obtain ⟨b2, o2, ea2, r2⟩ := i0.inb (n := c) aC aC
   refine ⟨b0, o0, e0, aC, aC, s0, .imm (by simpa using r0), b2, o2, ea2, aC, aC, _, .imm r2, ?_, ?_, (i + 1, (co.take (i + 1)).map (λ c => a.getD c.toNat 0)), ⟨aC, rfl, hgo.succ hc (j8.2 ⟨aC, aC⟩)⟩, by show co.length - (i + 1) < co.length - i; omega, ?_⟩
   . simp; omega
   . simp; omega
   . rw [fL hc, xH]
     exact MT
 . rw [EC aC] at hrow
   exact hT.ok (if_pos ⟨hne, hgo.all aC⟩) hle ⟨hrow, by simp; omega⟩
theorem Y9 (hn : qO h s ps (.mk 9 ta w co on gr od li args) ks n) (hT : V3 K m h (vU s ps (.mk 9 ta w co on gr od li args) ks)) : Dz n m h K := by
 dsimp only [Dz, push_cast]
 have x := hn.q_.parts
 refine ⟨n, s, ps, _, ks, rfl, hn, n, 1, ⟨0, 0, ⟨0, 0, dL, dL, ⟨none, 0, 0⟩⟩, ⟨none, 0, 0⟩, ⟨none, 0, 0⟩, n.q.group, n.q.order, n.q.limit, ⟨none, 0, 0⟩⟩, s, ps, _, ks, .mk 0 0 gW [] [] gr od li [], rfl, hn, oJ.rep ⟨rfl, rfl, AL h, ⟨.nil _ _, by simp⟩, ⟨.nil _ _, by simp⟩, x.group_, x.order_, x.limit_, .nil _ _ _ _⟩, λ r hr => aB (λ h1 => hT.err (sM λ e => ?_) aC (.refl _)) (λ h1 => ?_)⟩
 . have : r = true := hr.2 ⟨e.1, by have := e.2; simp [dJ] at this; obtain ⟨rfl, rfl, rfl, rfl⟩ := this; rfl⟩
   rw [this] at h1; cases h1
 obtain ⟨hk, heq⟩ := hr.1 (by simpa using h1)
 simp only [Query.withOf, Query.mk.injEq] at heq
 obtain ⟨_, rfl, rfl, rfl, rfl, _, _, _, _⟩ := heq
 obtain ⟨hf, hg⟩ := nF (s := s) (ps := ps) (op := 9) (ta := 0) (w := gW) (co := []) (on := []) (gr := gr) (od := od) (li := li) (args := args) (ks := ks) hk (by simp [dJ]) (by decide)
 rw [hf] at hT
 unfold gZ at hT
 rw [if_neg hg] at hT
 dsimp only at hT
 rw [if_neg (by decide), if_neg (by decide), if_neg (by decide), if_neg (by decide), if_neg (by decide), if_pos rfl] at hT
 obtain ⟨a, rfl⟩ := Rk hk
 obtain ⟨b0, o0, s0, e0, r0, i0, l0, j0⟩ := hn.arg (j := 0) rfl
 refine ⟨n, s, ps, _, [a], a, rfl, hn, rfl, λ r2 hr2 => aB (λ d1 => hT.err (if_neg λ e => ?_) aC (.refl _)) (λ d1 => ⟨b0, o0, e0, aC, aC, s0, .imm (by simpa using r0), hT.ok (if_pos ?_) (.refl _) i0⟩)⟩
 . rw [hr2.2 ⟨_, _, _, _, _, _, _, _, _, rfl, e⟩] at d1; cases d1
 . obtain ⟨_, _, _, _, _, _, _, _, _, e, hh⟩ := hr2.1 (by simpa using d1)
   cases e; exact hh
theorem Y8 (hn : qO h s ps (.mk 10 ta w co on gr od li args) ks n) (hT : V3 K m h (vU s ps (.mk 10 ta w co on gr od li args) ks)) : Dy n m h K := by
 dsimp only [Dy, push_cast]
 have x := hn.q_.parts
 refine ⟨n, s, ps, _, ks, rfl, hn, n, 2, ⟨0, 0, ⟨0, 0, dL, dL, ⟨none, 0, 0⟩⟩, ⟨none, 0, 0⟩, ⟨none, 0, 0⟩, n.q.group, n.q.order, n.q.limit, ⟨none, 0, 0⟩⟩, s, ps, _, ks, .mk 0 0 gW [] [] gr od li [], rfl, hn, oJ.rep ⟨rfl, rfl, AL h, ⟨.nil _ _, by simp⟩, ⟨.nil _ _, by simp⟩, x.group_, x.order_, x.limit_, .nil _ _ _ _⟩, λ r hr => aB (λ h1 => hT.err (sM λ e => ?_) aC (.refl _)) (λ h1 => ?_)⟩
 . have : r = true := hr.2 ⟨e.1, by have := e.2; simp [dJ] at this; obtain ⟨rfl, rfl, rfl, rfl⟩ := this; rfl⟩
   rw [this] at h1; cases h1
 obtain ⟨hk, heq⟩ := hr.1 (by simpa using h1)
 simp only [Query.withOf, Query.mk.injEq] at heq
 obtain ⟨_, rfl, rfl, rfl, rfl, _, _, _, _⟩ := heq
 obtain ⟨hf, hg⟩ := nF (s := s) (ps := ps) (op := 10) (ta := 0) (w := gW) (co := []) (on := []) (gr := gr) (od := od) (li := li) (args := args) (ks := ks) hk (by simp [dJ]) (by decide)
 rw [hf] at hT
 unfold gZ at hT
 rw [if_neg hg] at hT
 dsimp only at hT
 rw [if_neg (by decide), if_neg (by decide), if_neg (by decide), if_neg (by decide), if_neg (by decide), if_neg (by decide), if_pos rfl] at hT
 obtain ⟨a, b, rfl⟩ := Nh hk
 obtain ⟨b0, o0, s0, e0, r0, i0, l0, j0⟩ := hn.arg (j := 0) rfl
 obtain ⟨b1, o1, s1, e1, r1, i1, l1, j1⟩ := hn.arg (j := 1) rfl
 refine ⟨b0, o0, e0, aC, aC, s0, .imm (by simpa using r0), b1, o1, e1, aC, aC, s1, .imm (by simpa using r1), s0, s1, a, b, rfl, i0, i1, λ r3 hr3 => aB (λ d2 => ⟨by simpa using r0, by simpa using r1, hT.err (if_neg λ e => ?_) aC (.refl _)⟩) (λ d2 => ⟨by simpa using r0, by simpa using r1, n, s, ps, _, [a, b], a, rfl, hn, rfl, λ r2 hr2 => aB (λ d1 => hT.err (if_neg λ e => ?_) aC (.refl _)) (λ d1 => ⟨b0, o0, e0, aC, aC, s0, .imm (by simpa using r0), hT.ok (if_pos ⟨hr3.1 (by simpa using d2), ?_⟩) (.refl _) i0⟩)⟩)⟩
 . have e : a = b := e.1
   rw [hr3.2 e] at d2; cases d2
 . rw [hr2.2 ⟨_, _, _, _, _, _, _, _, _, rfl, e.2⟩] at d1; cases d1
 . obtain ⟨_, _, _, _, _, _, _, _, _, e, hh⟩ := hr2.1 (by simpa using d1)
   cases e; exact hh
end
end Go.Ps
