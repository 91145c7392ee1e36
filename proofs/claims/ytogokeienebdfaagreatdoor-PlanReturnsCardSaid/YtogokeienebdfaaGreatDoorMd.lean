/-
  Part 4 of a proof that a law of the given program returns true: a condition generator that is proved sound, and contracts of functions. No condition of its own. Own work, joined by a program (pack2.py).
-/
import Derived.Test.YtogokeienebdfaaGreatDoorMc
namespace Go.Ps
open Go Go.Vc Go.Proofs
noncomputable section
variable {K : CV → MH → PH → Prop} {m : MH} {h : PH} {s : Sch} {ps : List Int} {cb : Nat} {sc : SchV} {v : QV} {q : Query} {p : Pred} {l : List Int} {i : Nat} {N : Nat} {m' : MH} {h' : PH} {co : List Int} {gr : List Int} {od : List (Int × Bool)} {w : Pred} {ta : Int} {li : Int} {xs : List (List Value)} {sz : Nat} {k : Nat} {ks : List (List Int)} {rs : List Int} {r : Sl} {a : List Int} {b : Nat}
def zeroPV : PV := ⟨0, 0, zeroO, zeroO, ⟨none, 0, 0⟩⟩
def CopyPS (N : Nat) : Vc.Spec := fun cvs m h K => ∃ v p, cvs = [aP v] ∧ RepP h p v ∧ SizeOf.sizeOf p < N ∧ ∀ v' h', PH.le h h' → RepP h' p v' → K (aP v') m h'
def CopyPA : Vc.Spec := fun cvs m h K => ∃ v p, cvs = [aP v] ∧ RepP h p v ∧ ∀ v' h', PH.le h h' → RepP h' p v' → K (aP v') m h'
def CloneIS : Vc.Spec := fun cvs m h K => ∃ s l, cvs = [cS s] ∧ Ints h s l ∧ ∀ s' h', PH.le h h' → Ints h' s' l → K (cS s') m h'
def ClonePS : Vc.Spec := fun cvs m h K => ∃ s l, cvs = [cS s] ∧ Pairs h s l ∧ ∀ s' h', PH.le h h' → Pairs h' s' l → K (cS s') m h'
def CloneSS : Vc.Spec := fun cvs m h K => ∃ s l, cvs = [cS s] ∧ Sorts h s l ∧ ∀ s' h', PH.le h h' → Sorts h' s' l → K (cS s') m h'
def f66_ctx (N : Nat) (v : PV) (m : MH) : Ctx :=
 ctx2 [(66, CopyPS N)] [(4, { A := Nat × List PV × PH, st := fun ⟨i, us, h⟩ => mkSt 24 25 [(1, .at (.ptr 1 0)), (2, .at (.ptr 2 0)), (9, sv v.args), (10, iv v.args.len), (11, iv i)] [(1, .cells 38 ((v.enc.take 12).map .val ++ [.lst 20])), (2, .cells 38 (zeroPV.enc.map .val)), (20, .lst 38 13 (us.map PV.enc))] m h })] [] [] false
def f66_nice (N : Nat) (v : PV) (m : MH) (h : PH) (K : CV → MH → PH → Prop) : Prop :=
 ∃ (I : Nat × List PV × PH -> Prop) (mu : Nat × List PV × PH -> Nat), (∃ (x : Nat × List PV × PH), I x /\ eP 1 /\ eP 2 /\ eQ (sQs v.args) /\ eQ (sQi ↑v.args.len) /\ sQi 0 = sQi ↑x.1
 /\ eQ (oQ 38 [aQi v.op, aQi v.cmp, aQi v.left.kind, aQi v.left.index, aQi v.left.value.kind, aQi v.left.value.int, aQt v.left.value.text, aQi v.right.kind, aQi v.right.index, aQi
 v.right.value.kind, aQi v.right.value.int, aQt v.right.value.text, At.lst 20]) /\ eQ (oQ 38 zP) /\ some (Own.lst 38 13 []) = some (Own.lst 38 13 (List.map PV.enc x.2.1)) /\ m = m
 /\ h = x.2.2 /\ True) /\ ∀ (x : Nat × List PV × PH), I x -> branch (decide ((↑x.1 : Int) < ↑v.args.len)) (∃ (b off : Nat), v.args.a = some (Addr.mk b off none) /\ 0 <= (↑x.1 : Int)
 /\ (↑x.1 : Int) < ↑v.args.len /\ ∃ (y : PV), RdAt m x.2.2 b (off + (↑x.1 : Int).toNat * 13) (PV.enc y) /\ ∃ (v_1 : PV) (p : Pred), [cQa (PV.enc y)] = [cQa (PV.enc v_1)] /\ RepP
 x.2.2 p v_1 /\ SizeOf.sizeOf p < N /\ ∀ (v' : PV) (h' : PH), x.2.2.le h' -> RepP h' p v' -> ((List.map PV.enc x.2.1).length + 1) * 136 <= 140737488355328 /\ (List.map PV.enc
 x.2.1).length < 140737488355328 /\ ∃ (x_1 : Nat × List PV × PH), I x_1 /\ mu x_1 < mu x /\ eP 1 /\ eP 2 /\ eQ (sQs v.args) /\ eQ (sQi ↑v.args.len) /\ sQi (IntKind.i64.wrap ((↑x.1 :
 Int) + 1)) = sQi ↑x_1.1 /\ eQ (oQ 38 [aQi v.op, aQi v.cmp, aQi v.left.kind, aQi v.left.index, aQi v.left.value.kind, aQi v.left.value.int, aQt v.left.value.text, aQi v.right.kind,
 aQi v.right.index, aQi v.right.value.kind, aQi v.right.value.int, aQt v.right.value.text, At.lst 20]) /\ eQ (oQ 38 zP) /\ some (Own.lst 38 13 (List.map PV.enc x.2.1 ++ [(PV.enc
 v')])) = some (Own.lst 38 13 (List.map PV.enc x_1.2.1)) /\ m = m /\ h' = x_1.2.2 /\ True) (∀ (s : Sl) (h' : PH), x.2.2.le h' -> RowIn h' s 13 (List.map PV.enc x.2.1) -> K (cQa [vQi
 v.op, vQi v.cmp, vQi v.left.kind, vQi v.left.index, vQi v.left.value.kind, vQi v.left.value.int, Value.string v.left.value.text, vQi v.right.kind, vQi v.right.index, vQi
 v.right.value.kind, vQi v.right.value.int, Value.string v.right.value.text, vQs s]) m h')
theorem f66_vc (N : Nat) (v : PV) (m : MH) (h : PH) (K : CV → MH → PH → Prop) : f66_nice N v m h K = (fnVC (f66_ctx N v m) Tryz.f66 (bodyOf Tryz.f66) (entry Tryz.f66.ntmps [aP v] m h) K) := by kernel_rfl
def f67n_nice (n c : Nat) (m : MH) (h : PH) (K : CV → MH → PH → Prop) : Prop :=
 K (cQn) m h
theorem f67n_vc (n c : Nat) (m : MH) (h : PH) (K : CV → MH → PH → Prop) : f67n_nice n c m h K = (fnVC (ctx2 [] [] [] [] false) Tryz.f67 (bodyOf Tryz.f67) (entry Tryz.f67.ntmps [.val (.slice none n c)] m h) K) := by kernel_rfl
def f67s_nice (a : Addr) (n c : Nat) (m : MH) (h : PH) (K : CV → MH → PH → Prop) : Prop :=
 ∃ (ys : List (List Value)), RowsOk 1 ys /\ RowIn h (Sl.mk (some a) n c) 1 ys /\ (0 + ys.length) * 8 <= 140737488355328 /\ 0 + ys.length <= 140737488355328 /\ ∀ (s : Sl) (h' : PH),
 h.le h' -> RowIn h' s 1 ([] ++ ys) -> K (cQs s) m h'
theorem f67s_vc (a : Addr) (n c : Nat) (m : MH) (h : PH) (K : CV → MH → PH → Prop) : f67s_nice a n c m h K = (fnVC (ctx2 [] [] [] [] false) Tryz.f67 (bodyOf Tryz.f67) (entry Tryz.f67.ntmps [.val (.slice (some a) n c)] m h) K) := by kernel_rfl
def f68n_nice (n c : Nat) (m : MH) (h : PH) (K : CV → MH → PH → Prop) : Prop :=
 K (cQn) m h
theorem f68n_vc (n c : Nat) (m : MH) (h : PH) (K : CV → MH → PH → Prop) : f68n_nice n c m h K = (fnVC (ctx2 [] [] [] [] false) Tryz.f68 (bodyOf Tryz.f68) (entry Tryz.f68.ntmps [.val (.slice none n c)] m h) K) := by kernel_rfl
def f68s_nice (a : Addr) (n c : Nat) (m : MH) (h : PH) (K : CV → MH → PH → Prop) : Prop :=
 ∃ (ys : List (List Value)), RowsOk 2 ys /\ RowIn h (Sl.mk (some a) n c) 2 ys /\ (0 + ys.length) * 16 <= 140737488355328 /\ 0 + ys.length <= 140737488355328 /\ ∀ (s : Sl) (h' : PH),
 h.le h' -> RowIn h' s 2 ([] ++ ys) -> K (cQs s) m h'
theorem f68s_vc (a : Addr) (n c : Nat) (m : MH) (h : PH) (K : CV → MH → PH → Prop) : f68s_nice a n c m h K = (fnVC (ctx2 [] [] [] [] false) Tryz.f68 (bodyOf Tryz.f68) (entry Tryz.f68.ntmps [.val (.slice (some a) n c)] m h) K) := by kernel_rfl
def f69n_nice (n c : Nat) (m : MH) (h : PH) (K : CV → MH → PH → Prop) : Prop :=
 K (cQn) m h
theorem f69n_vc (n c : Nat) (m : MH) (h : PH) (K : CV → MH → PH → Prop) : f69n_nice n c m h K = (fnVC (ctx2 [] [] [] [] false) Tryz.f69 (bodyOf Tryz.f69) (entry Tryz.f69.ntmps [.val (.slice none n c)] m h) K) := by kernel_rfl
def f69s_nice (a : Addr) (n c : Nat) (m : MH) (h : PH) (K : CV → MH → PH → Prop) : Prop :=
 ∃ (ys : List (List Value)), RowsOk 2 ys /\ RowIn h (Sl.mk (some a) n c) 2 ys /\ (0 + ys.length) * 16 <= 140737488355328 /\ 0 + ys.length <= 140737488355328 /\ ∀ (s : Sl) (h' : PH),
 h.le h' -> RowIn h' s 2 ([] ++ ys) -> K (cQs s) m h'
theorem f69s_vc (a : Addr) (n c : Nat) (m : MH) (h : PH) (K : CV → MH → PH → Prop) : f69s_nice a n c m h K = (fnVC (ctx2 [] [] [] [] false) Tryz.f69 (bodyOf Tryz.f69) (entry Tryz.f69.ntmps [.val (.slice (some a) n c)] m h) K) := by kernel_rfl
theorem f66_ok {v : PV} (hp : RepP h p v) (hN : SizeOf.sizeOf p < N + 1) (hK : ∀ v' h', PH.le h h' → RepP h' p v' → K (aP v') m h') : f66_nice N v m h K := by
 have hargs := @args_lt p
 obtain ⟨op, cmp, l, r, ps⟩ := p
 obtain ⟨rfl, rfl, rfl, rfl, ha⟩ := hp.parts
 have hl := ha.slen
 have hlen := ha.len
 simp only [Pred.args] at hargs
 refine ⟨fun ⟨i, us, hx⟩ => i ≤ ps.length ∧ PH.le h hx ∧ us.length = i ∧ ∀ (j : Nat) x, (ps.take i)[j]? = some x → ∃ u, us[j]? = some u ∧ RepP hx x u, fun ⟨i, _, _⟩ => ps.length - i, ⟨(0, [], h), ⟨by omega, .refl _, rfl, fun j x hx => by simp at hx⟩, MT⟩, ?_⟩
 rintro ⟨i, us, hx⟩ ⟨hi, hle, hul, hus⟩
 dsimp only
 refine branch_dec (fun hlt => ?_) (fun hge sl h' hle' hrow => hK ⟨v.op, v.cmp, v.left, v.right, sl⟩ h' (hle.trans hle') (RepP.mk (v := ⟨v.op, v.cmp, v.left, v.right, sl⟩) ⟨⟨us, hrow, by omega, fun j x hx => ?_⟩, hlen⟩))
 · obtain ⟨q, hq⟩ := getx hl hlt
   obtain ⟨b1, o1, u, e1, r1, hru⟩ := (ha.mono hle).at hq
   refine ⟨b1, o1, e1, by omega, hlt, u, .imm r1, u, q, rfl, hru, ?_, fun v' h' hle' hr' => ⟨by simp; omega, by simp; omega, (i + 1, us ++ [v'], h'), ⟨by omega, hle.trans hle', by simp [hul], fun j x hx => ?_⟩, by show ps.length - (i + 1) < ps.length - i; omega, ?_⟩⟩
   · have := hargs (List.mem_of_getElem? hq); omega
   · rw [List.take_add_one, hq] at hx
     by_cases hj : j < i
     · rw [List.getElem?_append_left (by simp; omega)] at hx
       obtain ⟨u', h1, h2⟩ := hus j x hx
       exact ⟨u', by rw [List.getElem?_append_left (by omega)]; exact h1, h2.mono hle'⟩
     · rw [List.getElem?_append_right (by simp; omega)] at hx
       have hjl := (List.getElem?_eq_some_iff.1 hx).1
       simp at hjl
       have : j = i := by omega
       subst this
       simp only [List.length_take, Nat.min_eq_left hi, Nat.sub_self] at hx
       simp at hx
       subst hx
       exact ⟨v', by rw [List.getElem?_append_right (by omega), hul]; simp, hr'⟩
   · rw [List.map_append]; exact MT
 · rw [List.take_of_length_le (by omega)] at hus
   obtain ⟨u, h1, h2⟩ := hus j x hx
   exact ⟨u, h1, h2.mono hle'⟩
theorem f66_all : ∀ N, Sound Tryz.prog 66 (CopyPS N)
 | 0 => by
  refine fn_sound (fn := Tryz.f66) (c := bodyOf Tryz.f66) Tryz.func66 rfl (by decide) ?_
  rintro cvs m h K ⟨v, p, rfl, _, hN, _⟩
  omega
 | N + 1 => by
  refine fn_sound (fn := Tryz.f66) (c := bodyOf Tryz.f66) Tryz.func66 rfl (by decide) ?_
  rintro cvs m h K ⟨v, p, rfl, hp, hN, hK⟩
  refine ⟨f66_ctx N v m, rfl, specs_cons (f66_all N) specs_nil, ?_⟩
  rw [← f66_vc N v m h K]
  exact f66_ok hp hN hK
theorem f66_sound : Sound Tryz.prog 66 CopyPA := sound_of_all f66_all fun _ _ _ _ ⟨v, p, e, h1, h2⟩ => ⟨SizeOf.sizeOf p + 1, v, p, e, h1, by omega, h2⟩
theorem rowsOk_pairs (l : List (Int × Int)) : RowsOk 2 (l.map pairEnc) := by
 constructor
 · intro e he; obtain ⟨x, _, rfl⟩ := List.mem_map.1 he; rfl
 · intro e he u hu; obtain ⟨x, _, rfl⟩ := List.mem_map.1 he; simp [pairEnc] at hu; rcases hu with rfl | rfl <;> rfl
theorem rowsOk_sorts (l : List (Int × Bool)) : RowsOk 2 (l.map sortEnc) := by
 constructor
 · intro e he; obtain ⟨x, _, rfl⟩ := List.mem_map.1 he; rfl
 · intro e he u hu; obtain ⟨x, _, rfl⟩ := List.mem_map.1 he; simp [sortEnc] at hu; rcases hu with rfl | rfl <;> rfl
theorem row_none {n c : Nat} {α : Type} {enc : α → List Value} {l : List α} (r : RowIn h ⟨none, n, c⟩ sz (l.map enc)) : l = [] := by
 rcases r.row with e | ⟨b, o, e, _⟩
 · simpa using e
 · cases e
theorem f67_sound : Sound Tryz.prog 67 CloneIS := by
 refine fn_sound (fn := Tryz.f67) (c := bodyOf Tryz.f67) Tryz.func67 rfl (by decide) ?_
 rintro cvs m h K ⟨⟨a, n, c⟩, l, rfl, hl, hK⟩
 refine ⟨ctx2 [] [] [] [] false, rfl, specs_nil, ?_⟩
 have hlen := hl.len
 cases a with
 | none =>
  have e := row_none hl.row
  subst e
  show fnVC _ _ _ (entry Tryz.f67.ntmps [.val (.slice none n c)] m h) K
  rw [← f67n_vc n c m h K]
  exact hK ⟨none, 0, 0⟩ h (.refl _) ⟨.nil _ _, by simp⟩
 | some a =>
  show fnVC _ _ _ (entry Tryz.f67.ntmps [.val (.slice (some a) n c)] m h) K
  rw [← f67s_vc a n c m h K]
  exact ⟨_, rowsOk_ints l, hl.row, by simp; omega, by simp; omega, fun s' h' hle hrow => hK s' h' hle ⟨hrow, hlen⟩⟩
theorem f68_sound : Sound Tryz.prog 68 ClonePS := by
 refine fn_sound (fn := Tryz.f68) (c := bodyOf Tryz.f68) Tryz.func68 rfl (by decide) ?_
 rintro cvs m h K ⟨⟨a, n, c⟩, l, rfl, hl, hK⟩
 refine ⟨ctx2 [] [] [] [] false, rfl, specs_nil, ?_⟩
 have hlen := hl.len
 cases a with
 | none =>
  have e := row_none hl.row
  subst e
  show fnVC _ _ _ (entry Tryz.f68.ntmps [.val (.slice none n c)] m h) K
  rw [← f68n_vc n c m h K]
  exact hK ⟨none, 0, 0⟩ h (.refl _) ⟨.nil _ _, by simp⟩
 | some a =>
  show fnVC _ _ _ (entry Tryz.f68.ntmps [.val (.slice (some a) n c)] m h) K
  rw [← f68s_vc a n c m h K]
  exact ⟨_, rowsOk_pairs l, hl.row, by simp; omega, by simp; omega, fun s' h' hle hrow => hK s' h' hle ⟨hrow, hlen⟩⟩
theorem f69_sound : Sound Tryz.prog 69 CloneSS := by
 refine fn_sound (fn := Tryz.f69) (c := bodyOf Tryz.f69) Tryz.func69 rfl (by decide) ?_
 rintro cvs m h K ⟨⟨a, n, c⟩, l, rfl, hl, hK⟩
 refine ⟨ctx2 [] [] [] [] false, rfl, specs_nil, ?_⟩
 have hlen := hl.len
 cases a with
 | none =>
  have e := row_none hl.row
  subst e
  show fnVC _ _ _ (entry Tryz.f69.ntmps [.val (.slice none n c)] m h) K
  rw [← f69n_vc n c m h K]
  exact hK ⟨none, 0, 0⟩ h (.refl _) ⟨.nil _ _, by simp⟩
 | some a =>
  show fnVC _ _ _ (entry Tryz.f69.ntmps [.val (.slice (some a) n c)] m h) K
  rw [← f69s_vc a n c m h K]
  exact ⟨_, rowsOk_sorts l, hl.row, by simp; omega, by simp; omega, fun s' h' hle hrow => hK s' h' hle ⟨hrow, hlen⟩⟩
def Vals (h : PH) (s : Sl) (l : List VV) : Prop := RepL h 3 VV.enc Eq s l
theorem Vals.mono {s : Sl} {l : List VV} (x : Vals h s l) (le : PH.le h h') : Vals h' s l := RepL.mono x le fun _ _ e => e
def bindO (ps : List VV) (o : OV) : OV := if o.kind = 2 ∧ 0 ≤ o.index ∧ o.index < ps.length then ⟨3, 0, ps.getD o.index.toNat zeroV⟩ else o
mutual
def bindP (ps : List VV) : Pred → Pred
 | .mk op cmp l r args => .mk op cmp (bindO ps l) (bindO ps r) (bindPs ps args)
def bindPs (ps : List VV) : List Pred → List Pred
 | [] => []
 | p :: r => bindP ps p :: bindPs ps r
end
theorem bindPs_map (ps : List VV) : ∀ l, bindPs ps l = l.map (bindP ps)
 | [] => by simp [bindPs]
 | p :: r => by simp [bindPs, bindPs_map ps r]
theorem bindO_nil (o : OV) : bindO [] o = o := by unfold bindO; rw [if_neg]; simp
mutual
theorem bindP_nil : ∀ p, bindP [] p = p
 | .mk op cmp l r args => by simp only [bindP, bindO_nil, bindPs_nil args]
theorem bindPs_nil : ∀ l, bindPs [] l = l
 | [] => by simp [bindPs]
 | p :: r => by simp only [bindPs, bindP_nil p, bindPs_nil r]
end
structure Step where
 op : Int
 table : Int
 wher : Pred
 columns : List Int
 on : List (Int × Int)
 group : List Int
 order : List (Int × Bool)
 limit : Int
 left : Int
 right : Int
variable {ts : List Step} {t : Step}
def Step.query (t : Step) : Query := .mk t.op t.table t.wher t.columns t.on t.group t.order t.limit []
structure RepSt (h : PH) (t : Step) (v : SV2) : Prop where
 op_ : v.op = t.op
 table_ : v.table = t.table
 where_ : RepP h t.wher v.where_
 columns_ : Ints h v.columns t.columns
 on_ : Pairs h v.on t.on
 group_ : Ints h v.group t.group
 order_ : Sorts h v.order t.order
 limit_ : v.limit = t.limit
 left_ : v.left = t.left
 right_ : v.right = t.right
theorem RepSt.mono {v : SV2} (x : RepSt h t v) (le : PH.le h h') : RepSt h' t v := ⟨x.op_, x.table_, x.where_.mono le, x.columns_.mono le, x.on_.mono le, x.group_.mono le, x.order_.mono le, x.limit_, x.left_, x.right_⟩
def aT (v : SV2) : CV := .val (.agg ⟨v.enc⟩)
def zeroQV : QV := ⟨0, 0, zeroPV, ⟨none, 0, 0⟩, ⟨none, 0, 0⟩, ⟨none, 0, 0⟩, ⟨none, 0, 0⟩, 0, ⟨none, 0, 0⟩⟩
def BoundS : Vc.Spec := fun cvs m h K => ∃ o s ps, cvs = [aO o, cS s] ∧ Vals h s ps ∧ K (aO (bindO ps o)) m h
def BindS (N : Nat) : Vc.Spec := fun cvs m h K => ∃ v s p ps, cvs = [aP v, cS s] ∧ RepP h p v ∧ Vals h s ps ∧ SizeOf.sizeOf p < N ∧ ∀ v' h', PH.le h h' → RepP h' (bindP ps p) v' → K (aP v') m h'
def BindA : Vc.Spec := fun cvs m h K => ∃ v s p ps, cvs = [aP v, cS s] ∧ RepP h p v ∧ Vals h s ps ∧ ∀ v' h', PH.le h h' → RepP h' (bindP ps p) v' → K (aP v') m h'
def CopyQS (N : Nat) : Vc.Spec := fun cvs m h K => ∃ v q, cvs = [aQ v] ∧ RepQ h q v ∧ SizeOf.sizeOf q < N ∧ ∀ v' h', PH.le h h' → RepQ h' q v' → K (aQ v') m h'
def CopyQA : Vc.Spec := fun cvs m h K => ∃ v q, cvs = [aQ v] ∧ RepQ h q v ∧ ∀ v' h', PH.le h h' → RepQ h' q v' → K (aQ v') m h'
def NodeTS : Vc.Spec := fun cvs m h K => ∃ v t, cvs = [aT v] ∧ RepSt h t v ∧ ∀ v' h', PH.le h h' → RepQ h' t.query v' → K (aQ v') m h'
def SameTS : Vc.Spec := fun cvs m h K => ∃ v w t u, cvs = [aT v, aT w] ∧ RepSt h t v ∧ RepSt h u w ∧ ∀ r : Bool, (r = true ↔ t = u) → K (cB r) m h
def f58_ctx (N : Nat) (v : PV) (s : Sl) (m : MH) (h : PH) : Ctx :=
 ctx2 [(58, BindS N), (84, BoundS)] [(3, { A := Nat × OV × OV × List PV × PH, st := fun ⟨i, l, r, us, h⟩ => mkSt 40 42 [(1, sv s), (2, .at (.ptr 2 0)), (4, .at (.ptr 4 0)), (5, .at (.ptr 5 0)), (22, iv v.args.len), (23, iv i)] [(2, .cells 38 (v.enc.map .val)), (4, .cells 38 (zeroPV.enc.map .val)), (5, .cells 38 (([Value.int .i64 v.op, Value.int .i64 v.cmp] ++ l.enc ++ r.enc).map .val ++ [.lst 36])), (36, .lst 38 13 (us.map PV.enc))] m h })]
  [(2, { A := OV × OV, st := fun ⟨l, r⟩ => mkSt 40 42 [(1, sv s), (2, .at (.ptr 2 0)), (4, .at (.ptr 4 0)), (5, .at (.ptr 5 0))] [(2, .cells 38 (v.enc.map .val)), (4, .cells 38 (zeroPV.enc.map .val)), (5, .cells 38 (([Value.int .i64 v.op, Value.int .i64 v.cmp] ++ l.enc ++ r.enc ++ [Value.slice none 0 0]).map .val))] m h })] [] false
def f28_ctx (N : Nat) (v : QV) (co : List Int) (on : List (Int × Int)) (gr : List Int) (od : List (Int × Bool)) (m : MH) : Ctx :=
 ctx2 [(58, BindA), (28, CopyQS N)] [(9, { A := Nat × PV × List QV × PH, st := fun ⟨i, w, us, h⟩ => mkSt 46 47 [(1, .at (.ptr 1 0)), (2, .at (.ptr 2 0)), (3, .at (.ptr 3 0)), (29, iv v.args.len), (30, iv i)] [(1, .cells 43 (v.enc.map .val)), (2, .cells 43 (zeroQV.enc.map .val)), (3, .cells 43 (([Value.int .i64 v.op, Value.int .i64 v.table] ++ w.enc).map .val ++ [.lst 12, .lst 16, .lst 20, .lst 24, .val (.int .i64 v.limit), .lst 42])), (12, .lst 3 1 (co.map eI)), (16, .lst 78 2 (on.map pairEnc)), (20, .lst 3 1 (gr.map eI)), (24, .lst 80 2 (od.map sortEnc)), (42, .lst 43 21 (us.map QV.enc))] m h })] [] [] false
def f84_nice (o : OV) (s : Sl) (m : MH) (h : PH) (K : CV → MH → PH → Prop) : Prop :=
 branch (o.kind == 2) (branch (decide (o.index ≥ 0)) (branch (decide (o.index < (↑s.len : Int))) (∃ (b off : Nat), s.a = some (Addr.mk b off none) /\ 0 <= o.index /\ o.index <
 (↑s.len : Int) /\ ∃ (y : VV), RdAt m h b (off + o.index.toNat * 3) (VV.enc y) /\ K (cQa [vQi 3, vQi 0, vQi y.kind, vQi y.int, Value.string y.text]) m h) (K (cQa (OV.enc o)) m h))
 (K (cQa (OV.enc o)) m h)) (K (cQa (OV.enc o)) m h)
theorem f84_vc (o : OV) (s : Sl) (m : MH) (h : PH) (K : CV → MH → PH → Prop) : f84_nice o s m h K = (fnVC (ctx2 [] [] [] [] false) Tryz.f84 (bodyOf Tryz.f84) (entry Tryz.f84.ntmps [aO o, cS s] m h) K) := by kernel_rfl
def f58_nice (N : Nat) (v : PV) (s : Sl) (m : MH) (h : PH) (K : CV → MH → PH → Prop) : Prop :=
 ∃ (I : OV × OV -> Prop), ((∃ (o : OV) (s_1 : Sl) (ps : List VV), [cQa (OV.enc v.left), cQs s] = [cQa (OV.enc o), cQs s_1] /\ Vals h s_1 ps /\ (∃ (o_1 : OV) (s_2 : Sl) (ps_1 : List
 VV), [cQa (OV.enc v.right), cQs s] = [cQa (OV.enc o_1), cQs s_2] /\ Vals h s_2 ps_1 /\ ∃ (x : OV × OV), I x /\ eQ (sQs s) /\ eP 2 /\ eP 4 /\ eP 5 /\ eQ (oQ 38 (List.map At.val
 (PV.enc v))) /\ eQ (oQ 38 zP) /\ oQ 38 [aQi v.op, aQi v.cmp, At.val (vQi (bindO ps o).kind), At.val (vQi (bindO ps o).index), At.val (vQi (bindO ps o).value.kind), At.val (vQi
 (bindO ps o).value.int), At.val (Value.string (bindO ps o).value.text), At.val (vQi (bindO ps_1 o_1).kind), At.val (vQi (bindO ps_1 o_1).index), At.val (vQi (bindO ps_1
 o_1).value.kind), At.val (vQi (bindO ps_1 o_1).value.int), At.val (Value.string (bindO ps_1 o_1).value.text), aQn] = oQ 38 [aQi v.op, aQi v.cmp, aQi x.1.kind, aQi x.1.index, aQi
 x.1.value.kind, aQi x.1.value.int, aQt x.1.value.text, aQi x.2.kind, aQi x.2.index, aQi x.2.value.kind, aQi x.2.value.int, aQt x.2.value.text, aQn] /\ m = m /\ h = h /\ True) /\ ∃
 (o_1 : OV) (s_2 : Sl) (ps_1 : List VV), [cQa (OV.enc v.right), cQs s] = [cQa (OV.enc o_1), cQs s_2] /\ Vals h s_2 ps_1 /\ ∃ (x : OV × OV), I x /\ eQ (sQs s) /\ eP 2 /\ eP 4 /\ eP 5
 /\ eQ (oQ 38 (List.map At.val (PV.enc v))) /\ eQ (oQ 38 zP) /\ oQ 38 [aQi v.op, aQi v.cmp, At.val (vQi (bindO ps o).kind), At.val (vQi (bindO ps o).index), At.val (vQi (bindO ps
 o).value.kind), At.val (vQi (bindO ps o).value.int), At.val (Value.string (bindO ps o).value.text), At.val (vQi (bindO ps_1 o_1).kind), At.val (vQi (bindO ps_1 o_1).index), At.val
 (vQi (bindO ps_1 o_1).value.kind), At.val (vQi (bindO ps_1 o_1).value.int), At.val (Value.string (bindO ps_1 o_1).value.text), aQn] = oQ 38 [aQi v.op, aQi v.cmp, aQi x.1.kind, aQi
 x.1.index, aQi x.1.value.kind, aQi x.1.value.int, aQt x.1.value.text, aQi x.2.kind, aQi x.2.index, aQi x.2.value.kind, aQi x.2.value.int, aQt x.2.value.text, aQn] /\ m = m /\ h = h
 /\ True) /\ ∃ (o : OV) (s_1 : Sl) (ps : List VV), [cQa (OV.enc v.left), cQs s] = [cQa (OV.enc o), cQs s_1] /\ Vals h s_1 ps /\ ∃ (o_1 : OV) (s_2 : Sl) (ps_1 : List VV), [cQa
 (OV.enc v.right), cQs s] = [cQa (OV.enc o_1), cQs s_2] /\ Vals h s_2 ps_1 /\ ∃ (x : OV × OV), I x /\ eQ (sQs s) /\ eP 2 /\ eP 4 /\ eP 5 /\ eQ (oQ 38 (List.map At.val (PV.enc v)))
 /\ eQ (oQ 38 zP) /\ oQ 38 [aQi v.op, aQi v.cmp, At.val (vQi (bindO ps o).kind), At.val (vQi (bindO ps o).index), At.val (vQi (bindO ps o).value.kind), At.val (vQi (bindO ps
 o).value.int), At.val (Value.string (bindO ps o).value.text), At.val (vQi (bindO ps_1 o_1).kind), At.val (vQi (bindO ps_1 o_1).index), At.val (vQi (bindO ps_1 o_1).value.kind),
 At.val (vQi (bindO ps_1 o_1).value.int), At.val (Value.string (bindO ps_1 o_1).value.text), aQn] = oQ 38 [aQi v.op, aQi v.cmp, aQi x.1.kind, aQi x.1.index, aQi x.1.value.kind, aQi
 x.1.value.int, aQt x.1.value.text, aQi x.2.kind, aQi x.2.index, aQi x.2.value.kind, aQi x.2.value.int, aQt x.2.value.text, aQn] /\ m = m /\ h = h /\ True) /\ ∀ (x : OV × OV), I x
 -> ∃ (I : Nat × OV × OV × List PV × PH -> Prop) (mu : Nat × OV × OV × List PV × PH -> Nat), (∃ (x_1 : Nat × OV × OV × List PV × PH), I x_1 /\ eQ (sQs s) /\ eP 2 /\ eP 4 /\ eP 5 /\
 eQ (sQi ↑v.args.len) /\ sQi 0 = sQi ↑x_1.1 /\ eQ (oQ 38 (List.map At.val (PV.enc v))) /\ eQ (oQ 38 zP) /\ oQ 38 [aQi v.op, aQi v.cmp, aQi x.1.kind, aQi x.1.index, aQi
 x.1.value.kind, aQi x.1.value.int, aQt x.1.value.text, aQi x.2.kind, aQi x.2.index, aQi x.2.value.kind, aQi x.2.value.int, aQt x.2.value.text, At.lst 36] = oQ 38 [aQi v.op, aQi
 v.cmp, aQi x_1.2.1.kind, aQi x_1.2.1.index, aQi x_1.2.1.value.kind, aQi x_1.2.1.value.int, aQt x_1.2.1.value.text, aQi x_1.2.2.1.kind, aQi x_1.2.2.1.index, aQi
 x_1.2.2.1.value.kind, aQi x_1.2.2.1.value.int, aQt x_1.2.2.1.value.text, At.lst 36] /\ some (Own.lst 38 13 []) = some (Own.lst 38 13 (List.map PV.enc x_1.2.2.2.1)) /\ m = m /\ h =
 x_1.2.2.2.2 /\ True) /\ ∀ (x : Nat × OV × OV × List PV × PH), I x -> branch (decide ((↑x.1 : Int) < ↑v.args.len)) (∃ (b off : Nat), v.args.a = some (Addr.mk b off none) /\ 0 <=
 (↑x.1 : Int) /\ (↑x.1 : Int) < ↑v.args.len /\ ∃ (y : PV), RdAt m x.2.2.2.2 b (off + (↑x.1 : Int).toNat * 13) (PV.enc y) /\ ∃ (v_1 : PV) (s_1 : Sl), ∃ (p : Pred) (ps : List VV),
 [cQa (PV.enc y), cQs s] = [cQa (PV.enc v_1), cQs s_1] /\ RepP x.2.2.2.2 p v_1 /\ Vals x.2.2.2.2 s_1 ps /\ SizeOf.sizeOf p < N /\ ∀ (v' : PV) (h' : PH), x.2.2.2.2.le h' -> RepP h'
 (bindP ps p) v' -> RdAt m h' b (off + (↑x.1 : Int).toNat * 13) (PV.enc y) /\ RdCells h' b (off + (↑x.1 : Int).toNat * 13) (PV.enc y) /\ ((List.map PV.enc x.2.2.2.1).length + 1) *
 136 <= 140737488355328 /\ (List.map PV.enc x.2.2.2.1).length < 140737488355328 /\ ∃ (x_1 : Nat × OV × OV × List PV × PH), I x_1 /\ mu x_1 < mu x /\ eQ (sQs s) /\ eP 2 /\ eP 4 /\ eP
 5 /\ eQ (sQi ↑v.args.len) /\ sQi (IntKind.i64.wrap ((↑x.1 : Int) + 1)) = sQi ↑x_1.1 /\ eQ (oQ 38 (List.map At.val (PV.enc v))) /\ eQ (oQ 38 zP) /\ oQ 38 [aQi v.op, aQi v.cmp, aQi
 x.2.1.kind, aQi x.2.1.index, aQi x.2.1.value.kind, aQi x.2.1.value.int, aQt x.2.1.value.text, aQi x.2.2.1.kind, aQi x.2.2.1.index, aQi x.2.2.1.value.kind, aQi x.2.2.1.value.int,
 aQt x.2.2.1.value.text, At.lst 36] = oQ 38 [aQi v.op, aQi v.cmp, aQi x_1.2.1.kind, aQi x_1.2.1.index, aQi x_1.2.1.value.kind, aQi x_1.2.1.value.int, aQt x_1.2.1.value.text, aQi
 x_1.2.2.1.kind, aQi x_1.2.2.1.index, aQi x_1.2.2.1.value.kind, aQi x_1.2.2.1.value.int, aQt x_1.2.2.1.value.text, At.lst 36] /\ some (Own.lst 38 13 (List.map PV.enc x.2.2.2.1 ++
 [(PV.enc v')])) = some (Own.lst 38 13 (List.map PV.enc x_1.2.2.2.1)) /\ m = m /\ h' = x_1.2.2.2.2 /\ True) (∀ (s : Sl) (h' : PH), x.2.2.2.2.le h' -> RowIn h' s 13 (List.map PV.enc
 x.2.2.2.1) -> K (cQa [vQi v.op, vQi v.cmp, vQi x.2.1.kind, vQi x.2.1.index, vQi x.2.1.value.kind, vQi x.2.1.value.int, Value.string x.2.1.value.text, vQi x.2.2.1.kind, vQi
 x.2.2.1.index, vQi x.2.2.1.value.kind, vQi x.2.2.1.value.int, Value.string x.2.2.1.value.text, vQs s]) m h')
theorem f58_vc (N : Nat) (v : PV) (s : Sl) (m : MH) (h : PH) (K : CV → MH → PH → Prop) : f58_nice N v s m h K = (fnVC (f58_ctx N v s m h) Tryz.f58 (bodyOf Tryz.f58) (entry Tryz.f58.ntmps [aP v, cS s] m h) K) := by kernel_rfl
def f28_nice (N : Nat) (v : QV) (co : List Int) (on : List (Int × Int)) (gr : List Int) (od : List (Int × Bool)) (m : MH) (h : PH) (K : CV → MH → PH → Prop) : Prop :=
 ∃ (v_1 : PV) (s : Sl), ∃ (p : Pred) (ps : List VV), [cQa (PV.enc v.where_), cQn] = [cQa (PV.enc v_1), cQs s] /\ RepP h p v_1 /\ Vals h s ps /\ ∀ (v' : PV) (h' : PH), h.le h' ->
 RepP h' (bindP ps p) v' -> ∃ (ys : List (List Value)), RowsOk 1 ys /\ RowIn h' (Sl.mk v.columns.a v.columns.len v.columns.cap) 1 ys /\ ys.length * 8 <= 140737488355328 /\ ys.length
 <= 140737488355328 /\ ∃ (ys_1 : List (List Value)), RowsOk 2 ys_1 /\ RowIn h' (Sl.mk v.on.a v.on.len v.on.cap) 2 ys_1 /\ ys_1.length * 16 <= 140737488355328 /\ ys_1.length <=
 140737488355328 /\ ∃ (ys_2 : List (List Value)), RowsOk 1 ys_2 /\ RowIn h' (Sl.mk v.group.a v.group.len v.group.cap) 1 ys_2 /\ ys_2.length * 8 <= 140737488355328 /\ ys_2.length <=
 140737488355328 /\ ∃ (ys_3 : List (List Value)), RowsOk 2 ys_3 /\ RowIn h' (Sl.mk v.order.a v.order.len v.order.cap) 2 ys_3 /\ ys_3.length * 16 <= 140737488355328 /\ ys_3.length <=
 140737488355328 /\ ∃ (I : Nat × PV × List QV × PH -> Prop) (mu : Nat × PV × List QV × PH -> Nat), (∃ (x : Nat × PV × List QV × PH), I x /\ eP 1 /\ eP 2 /\ eP 3 /\ eQ (sQi
 ↑v.args.len) /\ sQi 0 = sQi ↑x.1 /\ eQ (oQ 43 (List.map At.val (QV.enc v))) /\ eQ (oQ 43 zQ) /\ oQ 43 (aQi v.op :: aQi v.table :: pQ v' [At.lst 12, At.lst 16, At.lst 20, At.lst 24,
 aQi v.limit, At.lst 42]) = oQ 43 (aQi v.op :: aQi v.table :: pQ x.2.1 [At.lst 12, At.lst 16, At.lst 20, At.lst 24, aQi v.limit, At.lst 42]) /\ some (Own.lst 3 1 ys) = some (Own.lst
 3 1 (List.map eI co)) /\ some (Own.lst 78 2 ys_1) = some (Own.lst 78 2 (List.map pairEnc on)) /\ some (Own.lst 3 1 ys_2) = some (Own.lst 3 1 (List.map eI gr)) /\ some (Own.lst 80 2
 ys_3) = some (Own.lst 80 2 (List.map sortEnc od)) /\ some (Own.lst 43 21 []) = some (Own.lst 43 21 (List.map QV.enc x.2.2.1)) /\ m = m /\ h' = x.2.2.2 /\ True) /\ ∀ (x : Nat × PV ×
 List QV × PH), I x -> branch (decide ((↑x.1 : Int) < ↑v.args.len)) (∃ (b off : Nat), v.args.a = some (Addr.mk b off none) /\ 0 <= (↑x.1 : Int) /\ (↑x.1 : Int) < ↑v.args.len /\ ∃ (y
 : QV), RdAt m x.2.2.2 b (off + (↑x.1 : Int).toNat * 21) (QV.enc y) /\ ∃ (v_2 : QV) (q : Query), [cQa (QV.enc y)] = [cQa (QV.enc v_2)] /\ RepQ x.2.2.2 q v_2 /\ SizeOf.sizeOf q < N
 /\ ∀ (v' : QV) (h' : PH), x.2.2.2.le h' -> RepQ h' q v' -> RdAt m h' b (off + (↑x.1 : Int).toNat * 21) (QV.enc y) /\ RdCells h' b (off + (↑x.1 : Int).toNat * 21) (QV.enc y) /\
 ((List.map QV.enc x.2.2.1).length + 1) * 280 <= 140737488355328 /\ (List.map QV.enc x.2.2.1).length < 140737488355328 /\ ∃ (x_1 : Nat × PV × List QV × PH), I x_1 /\ mu x_1 < mu x
 /\ eP 1 /\ eP 2 /\ eP 3 /\ eQ (sQi ↑v.args.len) /\ sQi (IntKind.i64.wrap ((↑x.1 : Int) + 1)) = sQi ↑x_1.1 /\ eQ (oQ 43 (List.map At.val (QV.enc v))) /\ eQ (oQ 43 zQ) /\ oQ 43 (aQi
 v.op :: aQi v.table :: pQ x.2.1 [At.lst 12, At.lst 16, At.lst 20, At.lst 24, aQi v.limit, At.lst 42]) = oQ 43 (aQi v.op :: aQi v.table :: pQ x_1.2.1 [At.lst 12, At.lst 16, At.lst
 20, At.lst 24, aQi v.limit, At.lst 42]) /\ eQ (some (Own.lst 3 1 (List.map eI co))) /\ eQ (some (Own.lst 78 2 (List.map pairEnc on))) /\ eQ (some (Own.lst 3 1 (List.map eI gr))) /\
 eQ (some (Own.lst 80 2 (List.map sortEnc od))) /\ some (Own.lst 43 21 (List.map QV.enc x.2.2.1 ++ [(QV.enc v')])) = some (Own.lst 43 21 (List.map QV.enc x_1.2.2.1)) /\ m = m /\ h'
 = x_1.2.2.2 /\ True) (∀ (s : Sl) (h' : PH), x.2.2.2.le h' -> RowIn h' s 1 (List.map eI co) -> ∀ (s_1 : Sl) (h'_1 : PH), h'.le h'_1 -> RowIn h'_1 s_1 2 (List.map pairEnc on) -> ∀
 (s_2 : Sl) (h' : PH), h'_1.le h' -> RowIn h' s_2 1 (List.map eI gr) -> ∀ (s_3 : Sl) (h'_2 : PH), h'.le h'_2 -> RowIn h'_2 s_3 2 (List.map sortEnc od) -> ∀ (s_4 : Sl) (h' : PH),
 h'_2.le h' -> RowIn h' s_4 21 (List.map QV.enc x.2.2.1) -> K (cQa [vQi v.op, vQi v.table, vQi x.2.1.op, vQi x.2.1.cmp, vQi x.2.1.left.kind, vQi x.2.1.left.index, vQi
 x.2.1.left.value.kind, vQi x.2.1.left.value.int, Value.string x.2.1.left.value.text, vQi x.2.1.right.kind, vQi x.2.1.right.index, vQi x.2.1.right.value.kind, vQi
 x.2.1.right.value.int, Value.string x.2.1.right.value.text, vQs x.2.1.args, vQs s, vQs s_1, vQs s_2, vQs s_3, vQi v.limit, vQs s_4]) m h')
theorem f28_vc (N : Nat) (v : QV) (co : List Int) (on : List (Int × Int)) (gr : List Int) (od : List (Int × Bool)) (m : MH) (h : PH) (K : CV → MH → PH → Prop) : f28_nice N v co on gr od m h K = (fnVC (f28_ctx N v co on gr od m) Tryz.f28 (bodyOf Tryz.f28) (entry Tryz.f28.ntmps [aQ v] m h) K) := by kernel_rfl
def f43_nice (v : SV2) (m : MH) (h : PH) (K : CV → MH → PH → Prop) : Prop :=
 ∃ (v_1 : QV) (q : Query), [cQa [vQi v.op, vQi v.table, vQi v.where_.op, vQi v.where_.cmp, vQi v.where_.left.kind, vQi v.where_.left.index, vQi v.where_.left.value.kind, vQi
 v.where_.left.value.int, Value.string v.where_.left.value.text, vQi v.where_.right.kind, vQi v.where_.right.index, vQi v.where_.right.value.kind, vQi v.where_.right.value.int,
 Value.string v.where_.right.value.text, vQs v.where_.args, vQs v.columns, vQs v.on, vQs v.group, vQs v.order, vQi v.limit, vQn]] = [cQa (QV.enc v_1)] /\ RepQ h q v_1 /\ ∀ (v' : QV)
 (h' : PH), h.le h' -> RepQ h' q v' -> K (cQa (QV.enc v')) m h'
theorem f43_vc (v : SV2) (m : MH) (h : PH) (K : CV → MH → PH → Prop) : f43_nice v m h K = (fnVC (ctx2 [(28, CopyQA)] [] [] [] false) Tryz.f43 (bodyOf Tryz.f43) (entry Tryz.f43.ntmps [aT v] m h) K) := by kernel_rfl
def f20_nice (v w : SV2) (m : MH) (h : PH) (K : CV → MH → PH → Prop) : Prop :=
 branch (v.left == w.left) (branch (v.right == w.right) (∃ (v_1 : SV2) (t : Step), [cQa (SV2.enc v)] = [cQa (SV2.enc v_1)] /\ RepSt h t v_1 /\ ∀ (v' : QV) (h' : PH), h.le h' -> RepQ
 h' (Query.mk t.op t.table t.wher t.columns t.on t.group t.order t.limit []) v' -> ∃ (v : SV2) (t : Step), [cQa (SV2.enc w)] = [cQa (SV2.enc v)] /\ RepSt h' t v /\ ∀ (v'_1 : QV)
 (h'_1 : PH), h'.le h'_1 -> RepQ h'_1 (Query.mk t.op t.table t.wher t.columns t.on t.group t.order t.limit []) v'_1 -> ∃ (v w : QV), ∃ (p q : Query), [cQa (QV.enc v'), cQa (QV.enc
 v'_1)] = [cQa (QV.enc v), cQa (QV.enc w)] /\ RepQ h'_1 p v /\ RepQ h'_1 q w /\ ∀ (r : Bool), (r = true ↔ p = q) -> K (cQb r) m h'_1) (K (cQb false) m h)) (K (cQb false) m h)
theorem f20_vc (v w : SV2) (m : MH) (h : PH) (K : CV → MH → PH → Prop) : f20_nice v w m h K = (fnVC (ctx2 [(43, NodeTS), (24, EqQA)] [] [] [] false) Tryz.f20 (bodyOf Tryz.f20) (entry Tryz.f20.ntmps [aT v, aT w] m h) K) := by kernel_rfl
theorem f84_ok {o : OV} {s : Sl} {ps : List VV} (hs : Vals h s ps) (hK : K (aO (bindO ps o)) m h) : f84_nice o s m h K := by
 have hl := RepL.slen hs
 unfold bindO at hK
 refine branch_intro (fun h1 => branch_dec (fun h2 => branch_dec (fun h3 => ?_) (fun h3 => ?_)) (fun h2 => ?_)) (fun h1 => ?_)
 · have h1 : o.kind = 2 := by simpa using h1
   rw [if_pos ⟨h1, h2, by omega⟩] at hK
   have hx : ps[o.index.toNat]? = some (ps.getD o.index.toNat zeroV) := by
    rw [List.getD_eq_getElem?_getD, List.getElem?_eq_getElem (by omega)]; simp
   obtain ⟨b, off, v, e, r, rfl⟩ := RepL.at hs hx
   exact ⟨b, off, e, by omega, h3, _, .imm r, hK⟩
 · rw [if_neg (fun e => by omega)] at hK; exact hK
 · rw [if_neg (fun e => by omega)] at hK; exact hK
 · have h1 : o.kind ≠ 2 := by simpa using h1
   rw [if_neg (fun e => h1 e.1)] at hK; exact hK
theorem f84_sound : Sound Tryz.prog 84 BoundS := by
 refine fn_sound (fn := Tryz.f84) (c := bodyOf Tryz.f84) Tryz.func84 rfl (by decide) ?_
 rintro cvs m h K ⟨o, s, ps, rfl, hs, hK⟩
 refine ⟨ctx2 [] [] [] [] false, rfl, specs_nil, ?_⟩
 rw [← f84_vc o s m h K]
 exact f84_ok hs hK
theorem reps_snoc {α β : Type} {ps : List α} {us : List β} {i : Nat} {R R' : α → β → Prop} {q : α} {v : β} (hi : i ≤ ps.length) (hul : us.length = i) (hq : ps[i]? = some q) (hus : ∀ (j : Nat) x, (ps.take i)[j]? = some x → ∃ u, us[j]? = some u ∧ R x u) (hR : ∀ x u, R x u → R' x u) (hv : R' q v) :
 ∀ (j : Nat) x, (ps.take (i + 1))[j]? = some x → ∃ u, (us ++ [v])[j]? = some u ∧ R' x u := by
 intro j x hx
 rw [List.take_add_one, hq] at hx
 by_cases hj : j < i
 · rw [List.getElem?_append_left (by simp; omega)] at hx
   obtain ⟨u', h1, h2⟩ := hus j x hx
   exact ⟨u', by rw [List.getElem?_append_left (by omega)]; exact h1, hR _ _ h2⟩
 · rw [List.getElem?_append_right (by simp; omega)] at hx
   have hjl := (List.getElem?_eq_some_iff.1 hx).1
   simp at hjl
   have : j = i := by omega
   subst this
   simp only [List.length_take, Nat.min_eq_left hi, Nat.sub_self] at hx
   simp at hx
   subst hx
   exact ⟨v, by rw [List.getElem?_append_right (by omega), hul]; simp, hv⟩
theorem f58_ok {v : PV} {s : Sl} {ps : List VV} (hp : RepP h p v) (hs : Vals h s ps) (hN : SizeOf.sizeOf p < N + 1) (hK : ∀ v' h', PH.le h h' → RepP h' (bindP ps p) v' → K (aP v') m h') : f58_nice N v s m h K := by
 have hargs := @args_lt p
 obtain ⟨op, cmp, l, r, qs⟩ := p
 obtain ⟨rfl, rfl, rfl, rfl, ha⟩ := hp.parts
 have hl := ha.slen
 have hlen := ha.len
 simp only [Pred.args] at hargs
 simp only [bindP, bindPs_map] at hK
 refine ⟨fun x => x = (bindO ps v.left, bindO ps v.right), ?_, ?_⟩
 · repeat' (first | exact ⟨(bindO ps v.left, bindO ps v.right), rfl, MT⟩ | refine ⟨v.left, s, ps, rfl, hs, ?_⟩ | refine ⟨v.right, s, ps, rfl, hs, ?_⟩ | apply And.intro)
 rintro _ rfl
 dsimp only
 refine ⟨fun ⟨i, l, r, us, hx⟩ => l = bindO ps v.left ∧ r = bindO ps v.right ∧ i ≤ qs.length ∧ PH.le h hx ∧ us.length = i ∧ ∀ (j : Nat) x, (qs.take i)[j]? = some x → ∃ u, us[j]? = some u ∧ RepP hx (bindP ps x) u, fun ⟨i, _, _, _, _⟩ => qs.length - i, ⟨(0, bindO ps v.left, bindO ps v.right, [], h), ⟨rfl, rfl, by omega, .refl _, rfl, fun j x hx => by simp at hx⟩, MT⟩, ?_⟩
 rintro ⟨i, _, _, us, hx⟩ ⟨rfl, rfl, hi, hle, hul, hus⟩
 dsimp only
 refine branch_dec (fun hlt => ?_) (fun hge sl h' hle' hrow => hK ⟨v.op, v.cmp, bindO ps v.left, bindO ps v.right, sl⟩ h' (hle.trans hle') (RepP.mk (v := ⟨v.op, v.cmp, bindO ps v.left, bindO ps v.right, sl⟩) ⟨⟨us, hrow, by simp; omega, fun j x hx => ?_⟩, by simp; omega⟩))
 · obtain ⟨q, hq⟩ := getx hl hlt
   obtain ⟨b1, o1, u, e1, r1, hru⟩ := (ha.mono hle).at hq
   refine ⟨b1, o1, e1, by omega, hlt, u, .imm r1, u, s, q, ps, rfl, hru, hs.mono hle, ?_, fun v' h' hle' hr' => ⟨.imm (r1.mono hle'), r1.mono hle', by simp; omega, by simp; omega, (i + 1, bindO ps v.left, bindO ps v.right, us ++ [v'], h'), ⟨rfl, rfl, by show i + 1 ≤ qs.length; omega, hle.trans hle', by simp [hul], reps_snoc (R' := fun x u => RepP h' (bindP ps x) u) hi hul hq hus (fun _ _ h2 => h2.mono hle') hr'⟩, by show qs.length - (i + 1) < qs.length - i; omega, ?_⟩⟩
   · have := hargs (List.mem_of_getElem? hq); omega
   · rw [List.map_append]; exact MT
 · rw [List.take_of_length_le (by omega)] at hus
   rw [List.getElem?_map, Option.map_eq_some_iff] at hx
   obtain ⟨y, hy, rfl⟩ := hx
   obtain ⟨u, h1, h2⟩ := hus j y hy
   exact ⟨u, h1, h2.mono hle'⟩
theorem f58_all : ∀ N, Sound Tryz.prog 58 (BindS N)
 | 0 => by
  refine fn_sound (fn := Tryz.f58) (c := bodyOf Tryz.f58) Tryz.func58 rfl (by decide) ?_
  rintro cvs m h K ⟨v, s, p, ps, rfl, _, _, hN, _⟩
  omega
 | N + 1 => by
  refine fn_sound (fn := Tryz.f58) (c := bodyOf Tryz.f58) Tryz.func58 rfl (by decide) ?_
  rintro cvs m h K ⟨v, s, p, ps, rfl, hp, hs, hN, hK⟩
  refine ⟨f58_ctx N v s m h, rfl, specs_cons (f58_all N) (specs_cons f84_sound specs_nil), ?_⟩
  rw [← f58_vc N v s m h K]
  exact f58_ok hp hs hN hK
theorem f58_sound : Sound Tryz.prog 58 BindA := sound_of_all f58_all fun _ _ _ _ ⟨v, s, p, ps, e, h1, h2, h3⟩ => ⟨SizeOf.sizeOf p + 1, v, s, p, ps, e, h1, h2, by omega, h3⟩
theorem rowsOk_q (l : List QV) : RowsOk 21 (l.map QV.enc) := by
 constructor
 · intro e he; obtain ⟨x, _, rfl⟩ := List.mem_map.1 he; rfl
 · intro e he u hu; obtain ⟨x, _, rfl⟩ := List.mem_map.1 he; simp [QV.enc] at hu; rcases hu with rfl | rfl | rfl | rfl | rfl | rfl | rfl | rfl | rfl | rfl | rfl | rfl | rfl | rfl | rfl | rfl | rfl | rfl | rfl | rfl | rfl <;> rfl
theorem f28_ok {op : Int} {on : List (Int × Int)} {args : List Query} (x : QParts h op ta w co on gr od li args v) (hN : ∀ q ∈ args, SizeOf.sizeOf q < N) (hK : ∀ v' h', PH.le h h' → RepQ h' (.mk op ta w co on gr od li args) v' → K (aQ v') m h') : f28_nice N v co on gr od m h K := by
 have hl := x.args_.slen
 have hlen := x.args_.len
 have l1 := x.columns_.len
 have l2 := x.on_.len
 have l3 := x.group_.len
 have l4 := x.order_.len
 refine ⟨v.where_, ⟨none, 0, 0⟩, w, [], rfl, x.where_, .nil _ _ _ _, fun wv h1 hle1 hw => ⟨_, rowsOk_ints co, (x.columns_.mono hle1).row, by simp; omega, by simp; omega, _, rowsOk_pairs on, (x.on_.mono hle1).row, by simp; omega, by simp; omega, _, rowsOk_ints gr, (x.group_.mono hle1).row, by simp; omega, by simp; omega, _, rowsOk_sorts od, (x.order_.mono hle1).row, by simp; omega, by simp; omega, ?_⟩⟩
 rw [bindP_nil] at hw
 refine ⟨fun ⟨i, w', us, hx⟩ => w' = wv ∧ i ≤ args.length ∧ PH.le h1 hx ∧ us.length = i ∧ ∀ (j : Nat) q, (args.take i)[j]? = some q → ∃ u, us[j]? = some u ∧ RepQ hx q u, fun ⟨i, _, _, _⟩ => args.length - i, ⟨(0, wv, [], h1), ⟨rfl, by omega, .refl _, rfl, fun j x hx => by simp at hx⟩, MT⟩, ?_⟩
 rintro ⟨i, wv, us, hx⟩ ⟨rfl, hi, hle, hul, hus⟩
 dsimp only
 refine branch_dec (fun hlt => ?_) (fun hge => ?_)
 · obtain ⟨q, hq⟩ := getx hl hlt
   obtain ⟨b1, o1, u, e1, r1, hru⟩ := (x.args_.mono (hle1.trans hle)).at hq
   refine ⟨b1, o1, e1, by omega, hlt, u, .imm r1, u, q, rfl, hru, hN q (List.mem_of_getElem? hq), fun v' h' hle' hr' => ⟨.imm (r1.mono hle'), r1.mono hle', by simp; omega, by simp; omega, (i + 1, wv, us ++ [v'], h'), ⟨rfl, by show i + 1 ≤ args.length; omega, hle.trans hle', by simp [hul], reps_snoc (R' := RepQ h') hi hul hq hus (fun _ _ h2 => h2.mono hle') hr'⟩, by show args.length - (i + 1) < args.length - i; omega, ?_⟩⟩
   rw [List.map_append]; exact MT
 · rw [List.take_of_length_le (by omega)] at hus
   intro s1 h2 hle2 r1 s2 h3 hle3 r2 s3 h4 hle4 r3 s4 h5 hle5 r4 s5 h6 hle6 r5
   have a5 := hle6
   have a4 := hle5.trans a5
   have a3 := hle4.trans a4
   have a2 := hle3.trans a3
   have a1 := hle2.trans a2
   have a0 := hle.trans a1
   exact hK ⟨v.op, v.table, wv, s1, s2, s3, s4, v.limit, s5⟩ h6 (hle1.trans a0) (QParts.rep ⟨x.op_, x.table_, hw.mono a0, ⟨r1.mono a2, l1⟩, ⟨r2.mono a3, l2⟩, ⟨r3.mono a4, l3⟩, ⟨r4.mono a5, l4⟩, x.limit_, ⟨⟨us, r5, by omega, fun j q hq => by
    obtain ⟨u, e1, e2⟩ := hus j q hq
    exact ⟨u, e1, e2.mono a1⟩⟩, hlen⟩⟩)
theorem f28_all : ∀ N, Sound Tryz.prog 28 (CopyQS N)
 | 0 => by
  refine fn_sound (fn := Tryz.f28) (c := bodyOf Tryz.f28) Tryz.func28 rfl (by decide) ?_
  rintro cvs m h K ⟨v, q, rfl, _, hN, _⟩
  omega
 | N + 1 => by
  refine fn_sound (fn := Tryz.f28) (c := bodyOf Tryz.f28) Tryz.func28 rfl (by decide) ?_
  rintro cvs m h K ⟨v, q, rfl, hq, hN, hK⟩
  have hargs := @qargs_lt q
  obtain ⟨op, ta, w, co, on, gr, od, li, args⟩ := q
  refine ⟨f28_ctx N v co on gr od m, rfl, specs_cons f58_sound (specs_cons (f28_all N) specs_nil), ?_⟩
  rw [← f28_vc N v co on gr od m h K]
  exact f28_ok hq.parts (fun q hq => by have := hargs (q := q) hq; omega) hK
theorem f28_sound : Sound Tryz.prog 28 CopyQA := sound_of_all f28_all fun _ _ _ _ ⟨v, q, e, h1, h2⟩ => ⟨SizeOf.sizeOf q + 1, v, q, e, h1, by omega, h2⟩
theorem f43_ok {v : SV2} (x : RepSt h t v) (hK : ∀ v' h', PH.le h h' → RepQ h' t.query v' → K (aQ v') m h') : f43_nice v m h K :=
 ⟨⟨v.op, v.table, v.where_, v.columns, v.on, v.group, v.order, v.limit, ⟨none, 0, 0⟩⟩, t.query, rfl, QParts.rep ⟨x.op_, x.table_, x.where_, x.columns_, x.on_, x.group_, x.order_, x.limit_, .nil _ _ _ _⟩, hK⟩
theorem f43_sound : Sound Tryz.prog 43 NodeTS := by
 refine fn_sound (fn := Tryz.f43) (c := bodyOf Tryz.f43) Tryz.func43 rfl (by decide) ?_
 rintro cvs m h K ⟨v, t, rfl, x, hK⟩
 refine ⟨ctx2 [(28, CopyQA)] [] [] [] false, rfl, specs_cons f28_sound specs_nil, ?_⟩
 rw [← f43_vc v m h K]
 exact f43_ok x hK
theorem f20_ok {v w : SV2} {u : Step} (x : RepSt h t v) (y : RepSt h u w) (hK : ∀ r : Bool, (r = true ↔ t = u) → K (cB r) m h) : f20_nice v w m h (Weak h K) := by
 refine branch_intro (fun h1 => branch_intro (fun h2 => ⟨v, t, rfl, x, fun v1 h3 hle1 q1 => ⟨w, u, rfl, y.mono hle1, fun v2 h4 hle2 q2 => ⟨v1, v2, _, _, rfl, RepQ.mono hle2 q1, q2, fun r hr => .out (Sub.refl m) (hle1.trans hle2) (hK r (hr.trans ?_))⟩⟩⟩) (fun h2 => .here (hK false ⟨fun e => (by cases e), fun e => ?_⟩))) (fun h1 => .here (hK false ⟨fun e => (by cases e), fun e => ?_⟩))
 · have h1 : t.left = u.left := by rw [x.left_, y.left_] at h1; simpa using h1
   have h2 : t.right = u.right := by rw [x.right_, y.right_] at h2; simpa using h2
   obtain ⟨a1, a2, a3, a4, a5, a6, a7, a8, a9, a10⟩ := t
   obtain ⟨b1, b2, b3, b4, b5, b6, b7, b8, b9, b10⟩ := u
   dsimp only at h1 h2 ⊢
   subst h1 h2
   constructor
   · intro e; injection e with e1 e2 e3 e4 e5 e6 e7 e8; rw [e1, e2, e3, e4, e5, e6, e7, e8]
   · intro e; injection e with e1 e2 e3 e4 e5 e6 e7 e8; rw [e1, e2, e3, e4, e5, e6, e7, e8]
 · subst e; rw [x.right_, y.right_] at h2; simp at h2
 · subst e; rw [x.left_, y.left_] at h1; simp at h1
theorem f20_sound : Sound Tryz.prog 20 SameTS := by
 refine fn_sound' (fn := Tryz.f20) (c := bodyOf Tryz.f20) Tryz.func20 rfl (by decide) ?_
 rintro cvs m h K ⟨v, w, t, u, rfl, x, y, hK⟩
 refine ⟨ctx2 [(43, NodeTS), (24, EqQA)] [] [] [] false, rfl, specs_cons f43_sound (specs_cons f24_sound specs_nil), ?_⟩
 rw [← f20_vc v w m h _]
 exact f20_ok x y hK
def f12_nice (cb : Nat) (n : Int) (m : MH) (h : PH) (K : CV → MH → PH → Prop) : Prop :=
 ∃ (y : Int), RdAt m h cb 1 [vQi y] /\ ∃ (y_1 : Sl), RdAt m h cb 0 [vQs y_1] /\ branch (decide (y ≥ (↑y_1.len : Int))) (K (cQi 0) m h) (branch (decide (n < 1)) (K (cQi 0) m h) (∃ (y
 : Int), RdAt m h cb 1 [vQi y] /\ ∃ (cs : Array Value) (E : TypeId), MAt m cb (Obj.cells cs E) /\ 1 < cs.size /\ ∀ (m' : MH), MUpd m m' cb (Obj.cells (Array.mk (splice cs.toList 1
 [vQi (IntKind.i64.wrap (y + 1))])) E) -> ∃ (y : Sl), RdAt m' h cb 0 [vQs y] /\ ∃ (y_2 : Int), RdAt m' h cb 1 [vQi y_2] /\ ∃ (b off : Nat), y.a = some (Addr.mk b off none) /\ 0 <=
 IntKind.i64.wrap (y_2 - 1) /\ IntKind.i64.wrap (y_2 - 1) < (↑y.len : Int) /\ ∃ (y : UInt8), RdAt m' h b (off + (IntKind.i64.wrap (y_2 - 1)).toNat * 1) [Value.int IntKind.u8
 (↑y.toNat : Int)] /\ (n = 0 -> False) /\ K (cQi ((IntKind.i64.wrap (↑y.toNat : Int)).tmod n)) m' h))
theorem f12_vc (cb : Nat) (n : Int) (m : MH) (h : PH) (K : CV → MH → PH → Prop) : f12_nice cb n m h K = (fnVC (ctx [] [] [] [] false) Tryz.f12 (bodyOf Tryz.f12) (entry 40 [.val (.pointer (some ⟨cb, 0, none⟩)), .val (.int .i64 n)] m h) K) := by kernel_rfl
def IntSpec : Vc.Spec := fun cvs m h K => ∃ (cb : Nat) (n : Int) (r : List UInt8), cvs = [.val (.pointer (some ⟨cb, 0, none⟩)), .val (.int .i64 n)] ∧ CaseAt m h cb r ∧
 ∀ m', MOther m m' cb → CaseAt m' h cb (cInt n r).2 → K (.val (.int .i64 (cInt n r).1)) m' h
theorem int_sound : Sound Tryz.prog 12 IntSpec := by
 refine fn_sound (fn := Tryz.f12) (c := bodyOf Tryz.f12) Tryz.func12 rfl (by decide) ?_
 rintro cvs m h K ⟨cb, n, r, rfl, ⟨s, cs, k, hm, hrow, hk, hlen, rfl⟩, hK⟩
 refine ⟨ctx [] [] [] [] false, rfl, specs_nil, ?_⟩
 show fnVC (ctx [] [] [] [] false) Tryz.f12 (bodyOf Tryz.f12) (entry 40 [.val (.pointer (some ⟨cb, 0, none⟩)), .val (.int .i64 n)] m h) K
 rw [← f12_vc]
 have hsl : s.len = cs.length := by have := hrow.len; simpa [bytesVal] using this
 refine ⟨k, .of_m hm rfl, s, .of_m hm rfl, branch_dec (fun hge => ?_) (fun hlt => branch_dec (fun hn => ?_) (fun hn => ?_))⟩
 · have hd : cs.drop k = [] := by simp; omega
   rw [hd] at hK
   exact hK m ⟨fun _ _ => rfl⟩ ⟨s, cs, k, hm, hrow, hk, hlen, by rw [hd]; rfl⟩
 · have hk' : k < cs.length := by omega
   have hd : cs.drop k = cs[k] :: cs.drop (k + 1) := List.drop_eq_getElem_cons hk'
   rw [hd] at hK
   simp only [cInt, if_pos hn] at hK
   refine hK m ⟨fun _ _ => rfl⟩ ⟨s, cs, k, hm, hrow, hk, hlen, hd.symm⟩
 · have hk' : k < cs.length := by omega
   have hd : cs.drop k = cs[k] :: cs.drop (k + 1) := List.drop_eq_getElem_cons hk'
   rw [hd] at hK
   simp only [cInt, if_neg hn] at hK
   have hw : IntKind.i64.wrap ((k : Int) + 1) = ((k + 1 : Nat) : Int) := by rw [wrap_id] <;> omega
   have hw2 : IntKind.i64.wrap (((k + 1 : Nat) : Int) - 1) = (k : Int) := by rw [wrap_id] <;> omega
   refine ⟨k, .of_m hm rfl, _, _, ⟨hm⟩, by simp, fun m' hu => ?_⟩
   have hm' := hu.at_
   rw [hw] at hm'
   simp only [splice] at hm'
   obtain hnil | ⟨b, o, ha, hrd⟩ := hrow.row
   · exfalso
     have := congrArg List.length hnil
     simp [bytesVal] at this
     subst this
     simp at hk'
   refine ⟨s, .of_m hm' rfl, ((k + 1 : Nat) : Int), .of_m hm' rfl, b, o, ha, ?_⟩
   rw [hw2]
   refine ⟨by omega, by omega, cs[k], .imm ?_, by omega, ?_⟩
   · have := hrd k [.int .u8 cs[k].toNat] (by simp [bytesVal, hk'])
     simpa using this
   · have hlt : cs[k].toNat < 256 := cs[k].toNat_lt
     rw [wrap_id (by omega) (by omega), Int.tmod_eq_emod_of_nonneg (by omega)]
     refine hK m' ⟨hu.other⟩ ⟨s, cs, k + 1, hm', hrow, by omega, hlen, rfl⟩
def CaseOk (m : MH) (h : PH) (cb : Nat) : Prop := ∃ r, CaseAt m h cb r
theorem CaseOk.mono (x : CaseOk m h cb) (le : PH.le h h') : CaseOk m h' cb := by
 obtain ⟨r, s, cs, k, h1, h2, h3⟩ := x
 exact ⟨r, s, cs, k, h1, h2.mono le, h3⟩
theorem MOther.refl (m : MH) (cb : Nat) : MOther m m cb := ⟨fun _ _ => rfl⟩
theorem MOther.trans {m'' : MH} (a : MOther m m' cb) (b : MOther m' m'' cb) : MOther m m'' cb := ⟨fun c hc => (b.other c hc).trans (a.other c hc)⟩
def I64 (n : Int) : Prop := -9223372036854775808 ≤ n ∧ n ≤ 9223372036854775807
structure ValW (v : VV) : Prop where
 int_ : I64 v.int
 text_ : v.text.size ≤ 64
def IntW : Vc.Spec := fun cvs m h K => ∃ cb n, cvs = [cP cb, cI n] ∧ CaseOk m h cb ∧ ∀ k m', 0 ≤ k → (k < n ∨ k = 0) → MOther m m' cb → CaseOk m' h cb → K (cI k) m' h
def BoolW : Vc.Spec := fun cvs m h K => ∃ cb n, cvs = [cP cb, cI n] ∧ 0 ≤ n ∧ n ≤ 1000 ∧ CaseOk m h cb ∧ ∀ r m', MOther m m' cb → CaseOk m' h cb → K (cB r) m' h
def NumberW : Vc.Spec := fun cvs m h K => ∃ cb, cvs = [cP cb] ∧ CaseOk m h cb ∧ ∀ k m', I64 k → MOther m m' cb → CaseOk m' h cb → K (cI k) m' h
def TextW : Vc.Spec := fun cvs m h K => ∃ cb, cvs = [cP cb] ∧ CaseOk m h cb ∧ ∀ t m', t.size ≤ 64 → MOther m m' cb → CaseOk m' h cb → K (cStr t) m' h
def ValueW : Vc.Spec := fun cvs m h K => ∃ cb kind, cvs = [cP cb, cI kind] ∧ CaseOk m h cb ∧ ∀ v m', ValW v → MOther m m' cb → CaseOk m' h cb → K (aV v) m' h
theorem intW : Sound Tryz.prog 12 IntW := by
 refine ⟨int_sound.1, fun cvs vs m h w K hS hp => int_sound.2 cvs vs m h w K ?_ hp⟩
 obtain ⟨cb, n, rfl, ⟨r, hr⟩, hK⟩ := hS
 refine ⟨cb, n, r, rfl, hr, fun m' ho hc => hK _ m' ?_ ?_ ho ⟨_, hc⟩⟩
 · cases r with
   | nil => simp [cInt]
   | cons b r =>
    simp only [cInt]
    split
    · simp
    · exact Int.emod_nonneg _ (by omega)
 · cases r with
   | nil => simp [cInt]
   | cons b r =>
    simp only [cInt]
    split
    · simp
    · exact .inl (Int.emod_lt_of_pos _ (by omega))
def f108_ctx (h : PH) : Ctx :=
 ctx2 [(12, IntW)] [(18, { A := Nat × ByteArray × MH, st := fun ⟨i, t, m⟩ => mkSt 37 38 [(3, vv (.string t)), (4, iv i)] [] m h }), (23, { A := Nat × ByteArray × MH, st := fun ⟨i, t, m⟩ => mkSt 37 38 [(3, vv (.string t)), (5, iv i)] [] m h })] [] [] false
def f10_nice (cb : Nat) (n : Int) (m : MH) (h : PH) (K : CV → MH → PH → Prop) : Prop :=
 ∃ (cb_1 : Nat) (n_1 : Int), [cQp cb 0, cQi n] = [cQp cb_1 0, cQi n_1] /\ CaseOk m h cb_1 /\ ∀ (k : Int) (m' : MH), 0 <= k -> k < n_1 ∨ k = 0 -> MOther m m' cb_1 -> CaseOk m' h cb_1
 -> K (cQb (k == IntKind.i64.wrap (n - 1))) m' h
theorem f10_vc (cb : Nat) (n : Int) (m : MH) (h : PH) (K : CV → MH → PH → Prop) : f10_nice cb n m h K = (fnVC (ctx2 [(12, IntW)] [] [] [] false) Tryz.f10 (bodyOf Tryz.f10) (entry Tryz.f10.ntmps [cP cb, cI n] m h) K) := by kernel_rfl
def f107_nice (cb : Nat) (m : MH) (h : PH) (K : CV → MH → PH → Prop) : Prop :=
 ∃ (cb_1 : Nat) (n : Int), [cQp cb 0, cQi 12] = [cQp cb_1 0, cQi n] /\ CaseOk m h cb_1 /\ ∀ (k : Int) (m' : MH), 0 <= k -> k < n ∨ k = 0 -> MOther m m' cb_1 -> CaseOk m' h cb_1 ->
 branch (k == 9) (K (cQi (Int.negSucc 0)) m' h) (branch (k == 10) (K (cQi 9223372036854775807) m' h) (branch (k == 11) (K (cQi (Int.negSucc 9223372036854775807)) m' h) (((4 : Int) =
 0 -> False) /\ K (cQi (k.tmod 4)) m' h)))
theorem f107_vc (cb : Nat) (m : MH) (h : PH) (K : CV → MH → PH → Prop) : f107_nice cb m h K = (fnVC (ctx2 [(12, IntW)] [] [] [] false) Tryz.f107 (bodyOf Tryz.f107) (entry Tryz.f107.ntmps [cP cb] m h) K) := by kernel_rfl
def f108_nice (cb : Nat) (m : MH) (h : PH) (K : CV → MH → PH → Prop) : Prop :=
 ∃ (cb_1 : Nat) (n : Int), [cQp cb 0, cQi 10] = [cQp cb_1 0, cQi n] /\ CaseOk m h cb_1 /\ ∀ (k : Int) (m' : MH), 0 <= k -> k < n ∨ k = 0 -> MOther m m' cb_1 -> CaseOk m' h cb_1 ->
 branch (k == 0) (K (CV.val (Value.string (ByteArray.mk (Array.mk [OfNat.ofNat 97])))) m' h) (branch (k == 1) (K (CV.val (Value.string (ByteArray.mk (Array.mk [OfNat.ofNat 97]))))
 m' h) (branch (k == 2) (K (CV.val (Value.string (ByteArray.mk (Array.mk [OfNat.ofNat 97])))) m' h) (branch (k == 3) (K (CV.val (Value.string (ByteArray.mk (Array.mk [OfNat.ofNat
 98])))) m' h) (branch (k == 4) (K (CV.val (Value.string (ByteArray.mk (Array.mk [OfNat.ofNat 98])))) m' h) (branch (k == 5) (K (CV.val vQz) m' h) (branch (k == 6) (K (CV.val
 (Value.string (ByteArray.mk (Array.mk [OfNat.ofNat 97, OfNat.ofNat 0])))) m' h) (branch (k == 7) (K (CV.val (Value.string (ByteArray.mk (Array.mk [OfNat.ofNat 255])))) m' h)
 (branch (k == 8) (∃ (I : Nat × ByteArray × MH -> Prop) (mu : Nat × ByteArray × MH -> Nat), (∃ (x : Nat × ByteArray × MH), I x /\ SV.at aQz = SV.at (aQt x.2.1) /\ sQi 0 = sQi ↑x.1
 /\ m' = x.2.2 /\ h = h /\ True) /\ ∀ (x : Nat × ByteArray × MH), I x -> branch (decide ((↑x.1 : Int) < 64)) (x.2.1.size < 9223372036854775807 /\ ∃ (x_1 : Nat × ByteArray × MH), I
 x_1 /\ mu x_1 < mu x /\ SV.at (aQt (x.2.1 ++ ByteArray.mk (Array.mk [OfNat.ofNat 255]))) = SV.at (aQt x_1.2.1) /\ sQi (IntKind.i64.wrap ((↑x.1 : Int) + 1)) = sQi ↑x_1.1 /\ x.2.2 =
 x_1.2.2 /\ h = h /\ True) (K (CV.val (Value.string x.2.1)) x.2.2 h)) (∃ (I : Nat × ByteArray × MH -> Prop) (mu : Nat × ByteArray × MH -> Nat), (∃ (x : Nat × ByteArray × MH), I x /\
 SV.at aQz = SV.at (aQt x.2.1) /\ sQi 0 = sQi ↑x.1 /\ m' = x.2.2 /\ h = h /\ True) /\ ∀ (x : Nat × ByteArray × MH), I x -> branch (decide ((↑x.1 : Int) < 64)) (x.2.1.size <
 9223372036854775807 /\ ∃ (x_1 : Nat × ByteArray × MH), I x_1 /\ mu x_1 < mu x /\ SV.at (aQt (x.2.1 ++ ByteArray.mk (Array.mk [OfNat.ofNat 98]))) = SV.at (aQt x_1.2.1) /\ sQi
 (IntKind.i64.wrap ((↑x.1 : Int) + 1)) = sQi ↑x_1.1 /\ x.2.2 = x_1.2.2 /\ h = h /\ True) (K (CV.val (Value.string x.2.1)) x.2.2 h))))))))))
theorem f108_vc (cb : Nat) (m : MH) (h : PH) (K : CV → MH → PH → Prop) : f108_nice cb m h K = (fnVC (f108_ctx h) Tryz.f108 (bodyOf Tryz.f108) (entry Tryz.f108.ntmps [cP cb] m h) K) := by kernel_rfl
def f80_nice (cb : Nat) (kind : Int) (m : MH) (h : PH) (K : CV → MH → PH → Prop) : Prop :=
 branch (kind == 3) (∃ (cb_1 : Nat) (n : Int), [cQp cb 0, cQi 2] = [cQp cb_1 0, cQi n] /\ CaseOk m h cb_1 /\ ∀ (k : Int) (m' : MH), 0 <= k -> k < n ∨ k = 0 -> MOther m m' cb_1 ->
 CaseOk m' h cb_1 -> K (cQa [vQi kind, vQi k, vQz]) m' h) (branch (kind == 4) (∃ (cb_1 : Nat), [cQp cb 0] = [cQp cb_1 0] /\ CaseOk m h cb_1 /\ ∀ (k : Int) (m' : MH), I64 k -> MOther
 m m' cb_1 -> CaseOk m' h cb_1 -> K (cQa [vQi kind, vQi k, vQz]) m' h) (∃ (cb_1 : Nat), [cQp cb 0] = [cQp cb_1 0] /\ CaseOk m h cb_1 /\ ∀ (t : ByteArray) (m' : MH), t.size <= 64 ->
 MOther m m' cb_1 -> CaseOk m' h cb_1 -> K (cQa [vQi 5, vQi 0, Value.string t]) m' h))
theorem f80_vc (cb : Nat) (kind : Int) (m : MH) (h : PH) (K : CV → MH → PH → Prop) : f80_nice cb kind m h K = (fnVC (ctx2 [(12, IntW), (107, NumberW), (108, TextW)] [] [] [] false) Tryz.f80 (bodyOf Tryz.f80) (entry Tryz.f80.ntmps [cP cb, cI kind] m h) K) := by kernel_rfl
theorem f10_ok {n : Int} (hc : CaseOk m h cb) (hK : ∀ r m', MOther m m' cb → CaseOk m' h cb → K (cB r) m' h) : f10_nice cb n m h K :=
 ⟨cb, n, rfl, hc, fun _ m' _ _ ho hc' => hK _ m' ho hc'⟩
theorem f107_ok (hc : CaseOk m h cb) (hK : ∀ k m', I64 k → MOther m m' cb → CaseOk m' h cb → K (cI k) m' h) : f107_nice cb m h K := by
 refine ⟨cb, 12, rfl, hc, fun k m' h0 h1 ho hc' => branch_intro (fun _ => hK _ m' ⟨by omega, by omega⟩ ho hc') (fun _ => branch_intro (fun _ => hK _ m' ⟨by omega, by omega⟩ ho hc') (fun _ => branch_intro (fun _ => hK _ m' ⟨by omega, by omega⟩ ho hc') (fun _ => ⟨by omega, hK _ m' ?_ ho hc'⟩)))⟩
 rw [Int.tmod_eq_emod_of_nonneg h0]
 exact ⟨by omega, by omega⟩
theorem f108_ok (hc : CaseOk m h cb) (hK : ∀ t m', t.size ≤ 64 → MOther m m' cb → CaseOk m' h cb → K (cStr t) m' h) : f108_nice cb m h K := by
 refine ⟨cb, 10, rfl, hc, fun k m' h0 h1 ho hc' => ?_⟩
 refine branch_intro (fun _ => hK _ m' (by decide) ho hc') (fun _ => branch_intro (fun _ => hK _ m' (by decide) ho hc') (fun _ => branch_intro (fun _ => hK _ m' (by decide) ho hc') (fun _ => branch_intro (fun _ => hK _ m' (by decide) ho hc') (fun _ => branch_intro (fun _ => hK _ m' (by decide) ho hc') (fun _ => branch_intro (fun _ => hK _ m' (by decide) ho hc') (fun _ => branch_intro (fun _ => hK _ m' (by decide) ho hc') (fun _ => branch_intro (fun _ => hK _ m' (by decide) ho hc') (fun _ => branch_intro (fun _ => ?_) (fun _ => ?_)))))))))
 all_goals
  refine ⟨fun ⟨i, t, mx⟩ => mx = m' ∧ i ≤ 64 ∧ t.size = i, fun ⟨i, _, _⟩ => 64 - i, ⟨(0, ⟨#[]⟩, m'), ⟨rfl, by omega, rfl⟩, MT⟩, ?_⟩
  rintro ⟨i, t, m'⟩ ⟨rfl, hi, ht⟩
  dsimp only
  refine branch_dec (fun hlt => ⟨?_, (i + 1, _, m'), ⟨rfl, by omega, ?_⟩, by show 64 - (i + 1) < 64 - i; omega, MT⟩) (fun hge => hK t m' (by omega) ho hc')
  · rw [ht]; show i + 1 ≤ _; omega
  · rw [ByteArray.size_append, ht]; rfl
theorem f80_ok {kind : Int} (hc : CaseOk m h cb) (hK : ∀ v m', ValW v → MOther m m' cb → CaseOk m' h cb → K (aV v) m' h) : f80_nice cb kind m h K := by
 refine branch_intro (fun _ => ⟨cb, 2, rfl, hc, fun k m' h0 h1 ho hc' => hK ⟨kind, k, ⟨#[]⟩⟩ m' ⟨⟨by show -9223372036854775808 ≤ k; omega, by show k ≤ 9223372036854775807; omega⟩, by show (ByteArray.mk #[]).size ≤ 64; decide⟩ ho hc'⟩) (fun _ => branch_intro (fun _ => ⟨cb, rfl, hc, fun k m' hk ho hc' => hK ⟨kind, k, ⟨#[]⟩⟩ m' ⟨hk, by show (ByteArray.mk #[]).size ≤ 64; decide⟩ ho hc'⟩) (fun _ => ⟨cb, rfl, hc, fun t m' ht ho hc' => hK ⟨5, 0, t⟩ m' ⟨⟨by simp, by simp⟩, ht⟩ ho hc'⟩))
theorem f10_sound : Sound Tryz.prog 10 BoolW := by
 refine fn_sound (fn := Tryz.f10) (c := bodyOf Tryz.f10) Tryz.func10 rfl (by decide) ?_
 rintro cvs m h K ⟨cb, n, rfl, _, _, hc, hK⟩
 refine ⟨ctx2 [(12, IntW)] [] [] [] false, rfl, specs_cons intW specs_nil, ?_⟩
 rw [← f10_vc cb n m h K]
 exact f10_ok hc hK
theorem f107_sound : Sound Tryz.prog 107 NumberW := by
 refine fn_sound (fn := Tryz.f107) (c := bodyOf Tryz.f107) Tryz.func107 rfl (by decide) ?_
 rintro cvs m h K ⟨cb, rfl, hc, hK⟩
 refine ⟨ctx2 [(12, IntW)] [] [] [] false, rfl, specs_cons intW specs_nil, ?_⟩
 rw [← f107_vc cb m h K]
 exact f107_ok hc hK
theorem f108_sound : Sound Tryz.prog 108 TextW := by
 refine fn_sound (fn := Tryz.f108) (c := bodyOf Tryz.f108) Tryz.func108 rfl (by decide) ?_
 rintro cvs m h K ⟨cb, rfl, hc, hK⟩
 refine ⟨f108_ctx h, rfl, specs_cons intW specs_nil, ?_⟩
 rw [← f108_vc cb m h K]
 exact f108_ok hc hK
theorem f80_sound : Sound Tryz.prog 80 ValueW := by
 refine fn_sound (fn := Tryz.f80) (c := bodyOf Tryz.f80) Tryz.func80 rfl (by decide) ?_
 rintro cvs m h K ⟨cb, kind, rfl, hc, hK⟩
 refine ⟨ctx2 [(12, IntW), (107, NumberW), (108, TextW)] [] [] [] false, rfl, specs_cons intW (specs_cons f107_sound (specs_cons f108_sound specs_nil)), ?_⟩
 rw [← f80_vc cb kind m h K]
 exact f80_ok hc hK
mutual
def PredW : Pred → Prop
 | .mk _ _ l r args => ValW l.value ∧ ValW r.value ∧ PredWs args
def PredWs : List Pred → Prop
 | [] => True
 | p :: ps => PredW p ∧ PredWs ps
end
theorem PredWs_iff : ∀ {l : List Pred}, PredWs l ↔ ∀ p ∈ l, PredW p
 | [] => by simp [PredWs]
 | p :: ps => by simp [PredWs, PredWs_iff (l := ps)]
theorem valW_zero : ValW zeroV := ⟨⟨by decide, by decide⟩, by decide⟩
def OperandW : Vc.Spec := fun cvs m h K => ∃ cb s t kind cols params, cvs = [cP cb, cS s, cS t, cI kind] ∧ CaseOk m h cb ∧ Ints h s cols ∧ Ints h t params ∧ cols.length ≤ 1000 ∧ params.length ≤ 1000 ∧ ∀ o m', ValW o.value → MOther m m' cb → CaseOk m' h cb → K (aO o) m' h
def KP (K : CV → MH → PH → Prop) (m : MH) (h : PH) (cb : Nat) : Prop := ∀ v p m' h', PH.le h h' → RepP h' p v → PredW p → MOther m m' cb → CaseOk m' h' cb → K (aP v) m' h'
def TreeW (N : Nat) : Vc.Spec := fun cvs m h K => ∃ cb s t cols params, ∃ deep : Nat, cvs = [cP cb, cS s, cS t, cI deep] ∧ CaseOk m h cb ∧ Ints h s cols ∧ Ints h t params ∧ cols.length ≤ 1000 ∧ params.length ≤ 1000 ∧ deep < N ∧ deep ≤ 1000 ∧ KP K m h cb
def PredicateW : Vc.Spec := fun cvs m h K => ∃ cb s t cols params, ∃ deep : Nat, cvs = [cP cb, cS s, cS t, cI deep] ∧ CaseOk m h cb ∧ Ints h s cols ∧ Ints h t params ∧ cols.length ≤ 1000 ∧ params.length ≤ 1000 ∧ deep ≤ 1000 ∧ KP K m h cb
def pv (b : Nat) : SV := vv (.pointer (some ⟨b, 0, none⟩))
def f79_ctx (cb : Nat) (s t : Sl) (kind : Int) (m : MH) (h : PH) : Ctx :=
 ctx2 [(12, IntW), (80, ValueW)]
  [(3, { A := Nat × List OV, st := fun ⟨i, os⟩ => mkSt 64 68 [(0, pv cb), (2, sv t), (3, iv kind), (8, .at (.ptr 8 0)), (9, .at (.lst 29)), (15, sv s), (16, iv s.len), (17, iv i)] [(8, .cells 35 (zeroO.enc.map .val)), (29, .lst 35 5 (os.map OV.enc))] m h }),
   (9, { A := Nat × List OV, st := fun ⟨i, os⟩ => mkSt 64 68 [(0, pv cb), (3, iv kind), (8, .at (.ptr 8 0)), (9, .at (.lst 29)), (31, sv t), (32, iv t.len), (33, iv i)] [(8, .cells 35 (zeroO.enc.map .val)), (29, .lst 35 5 (os.map OV.enc))] m h })] [] [] false
def f56_ctx (N : Nat) (cb : Nat) (s t : Sl) (deep : Nat) (h0 : PH) : Ctx :=
 ctx2 [(12, IntW), (10, BoolW), (79, OperandW), (80, ValueW), (56, TreeW N)]
  [(18, { A := Int × Int × List PV × MH × PH, st := fun ⟨op, n, us, m, h⟩ => mkSt 107 111 [(0, pv cb), (1, sv s), (2, sv t), (3, iv deep), (8, .at (.ptr 8 0)), (12, .at (.ptr 12 0)), (13, iv n)] [(8, .cells 38 (zeroPV.enc.map .val)), (12, .cells 38 (((⟨op, 0, zeroO, zeroO, ⟨none, 0, 0⟩⟩ : PV).enc.take 12).map .val ++ [.lst 104])), (104, .lst 38 13 (us.map PV.enc))] m h })]
  [(3, { A := Int × Bool × MH, st := fun ⟨k, b, m⟩ => mkSt 107 111 [(0, pv cb), (1, sv s), (2, sv t), (3, iv deep), (8, .at (.ptr 8 0)), (9, iv k), (16, bv b)] [(8, .cells 38 (zeroPV.enc.map .val))] m h0 }),
   (5, { A := Int × Bool × MH, st := fun ⟨k, b, m⟩ => mkSt 107 111 [(0, pv cb), (1, sv s), (2, sv t), (3, iv deep), (8, .at (.ptr 8 0)), (9, iv k), (27, bv b)] [(8, .cells 38 (zeroPV.enc.map .val))] m h0 }),
   (8, { A := Int × MH, st := fun ⟨k, m⟩ => mkSt 107 111 [(0, pv cb), (1, sv s), (2, sv t), (8, .at (.ptr 8 0)), (10, iv k)] [(8, .cells 38 (zeroPV.enc.map .val))] m h0 }),
   (9, { A := PV × Int × MH, st := fun ⟨p, k, m⟩ => mkSt 107 111 [(0, pv cb), (1, sv s), (2, sv t), (8, .at (.ptr 8 0)), (10, iv k), (11, .at (.ptr 11 0))] [(8, .cells 38 (zeroPV.enc.map .val)), (11, .cells 38 (p.enc.map .val))] m h0 }),
   (11, { A := PV × MH, st := fun ⟨p, m⟩ => mkSt 107 111 [(0, pv cb), (8, .at (.ptr 8 0)), (11, .at (.ptr 11 0))] [(8, .cells 38 (zeroPV.enc.map .val)), (11, .cells 38 (p.enc.map .val))] m h0 }),
   (13, { A := PV × MH, st := fun ⟨p, m⟩ => mkSt 107 111 [(8, .at (.ptr 8 0)), (11, .at (.ptr 11 0))] [(8, .cells 38 (zeroPV.enc.map .val)), (11, .cells 38 (p.enc.map .val))] m h0 })] [] false
def f79_nice (cb : Nat) (s t : Sl) (kind : Int) (m : MH) (h : PH) (K : CV → MH → PH → Prop) : Prop :=
 ∃ (I : Nat × List OV -> Prop) (mu : Nat × List OV -> Nat), (∃ (x : Nat × List OV), I x /\ eQ (sQo cb 0) /\ eQ (sQs t) /\ eQ (sQi kind) /\ eP 8 /\ eL 29 /\ eQ (sQs s) /\ eQ (sQi
 ↑s.len) /\ sQi 0 = sQi ↑x.1 /\ eQ (oQ 35 [aQi 0, aQi 0, aQi 0, aQi 0, aQz]) /\ some (Own.lst 35 5 []) = some (Own.lst 35 5 (List.map OV.enc x.2)) /\ m = m /\ h = h /\ True) /\ ∀ (x
 : Nat × List OV), I x -> branch (decide ((↑x.1 : Int) < ↑s.len)) (∃ (b off : Nat), s.a = some (Addr.mk b off none) /\ 0 <= (↑x.1 : Int) /\ (↑x.1 : Int) < ↑s.len /\ ∃ (y : Int),
 RdAt m h b (off + (↑x.1 : Int).toNat * 1) [vQi y] /\ branch (y == kind) (((List.map OV.enc x.2).length + 1) * 48 <= 140737488355328 /\ (List.map OV.enc x.2).length <
 140737488355328 /\ ∃ (x_1 : Nat × List OV), I x_1 /\ mu x_1 < mu x /\ eQ (sQo cb 0) /\ eQ (sQs t) /\ eQ (sQi kind) /\ eP 8 /\ eL 29 /\ eQ (sQs s) /\ eQ (sQi ↑s.len) /\ sQi
 (IntKind.i64.wrap ((↑x.1 : Int) + 1)) = sQi ↑x_1.1 /\ eQ (oQ 35 [aQi 0, aQi 0, aQi 0, aQi 0, aQz]) /\ some (Own.lst 35 5 (List.map OV.enc x.2 ++ [[vQi 1, vQi ↑x.1, vQi 0, vQi 0,
 vQz]])) = some (Own.lst 35 5 (List.map OV.enc x_1.2)) /\ m = m /\ h = h /\ True) (∃ (x_1 : Nat × List OV), I x_1 /\ mu x_1 < mu x /\ eQ (sQo cb 0) /\ eQ (sQs t) /\ eQ (sQi kind) /\
 eP 8 /\ eL 29 /\ eQ (sQs s) /\ eQ (sQi ↑s.len) /\ sQi (IntKind.i64.wrap ((↑x.1 : Int) + 1)) = sQi ↑x_1.1 /\ eQ (oQ 35 [aQi 0, aQi 0, aQi 0, aQi 0, aQz]) /\ some (Own.lst 35 5
 (List.map OV.enc x.2)) = some (Own.lst 35 5 (List.map OV.enc x_1.2)) /\ m = m /\ h = h /\ True)) (∃ (I : Nat × List OV -> Prop) (mu : Nat × List OV -> Nat), (∃ (x_1 : Nat × List
 OV), I x_1 /\ eQ (sQo cb 0) /\ eQ (sQi kind) /\ eP 8 /\ eL 29 /\ eQ (sQs t) /\ eQ (sQi ↑t.len) /\ sQi 0 = sQi ↑x_1.1 /\ eQ (oQ 35 [aQi 0, aQi 0, aQi 0, aQi 0, aQz]) /\ some
 (Own.lst 35 5 (List.map OV.enc x.2)) = some (Own.lst 35 5 (List.map OV.enc x_1.2)) /\ m = m /\ h = h /\ True) /\ ∀ (x : Nat × List OV), I x -> branch (decide ((↑x.1 : Int) <
 ↑t.len)) (∃ (b off : Nat), t.a = some (Addr.mk b off none) /\ 0 <= (↑x.1 : Int) /\ (↑x.1 : Int) < ↑t.len /\ ∃ (y : Int), RdAt m h b (off + (↑x.1 : Int).toNat * 1) [vQi y] /\ branch
 (y == kind) (((List.map OV.enc x.2).length + 1) * 48 <= 140737488355328 /\ (List.map OV.enc x.2).length < 140737488355328 /\ ∃ (x_1 : Nat × List OV), I x_1 /\ mu x_1 < mu x /\ eQ
 (sQo cb 0) /\ eQ (sQi kind) /\ eP 8 /\ eL 29 /\ eQ (sQs t) /\ eQ (sQi ↑t.len) /\ sQi (IntKind.i64.wrap ((↑x.1 : Int) + 1)) = sQi ↑x_1.1 /\ eQ (oQ 35 [aQi 0, aQi 0, aQi 0, aQi 0,
 aQz]) /\ some (Own.lst 35 5 (List.map OV.enc x.2 ++ [[vQi 2, vQi ↑x.1, vQi 0, vQi 0, vQz]])) = some (Own.lst 35 5 (List.map OV.enc x_1.2)) /\ m = m /\ h = h /\ True) (∃ (x_1 : Nat
 × List OV), I x_1 /\ mu x_1 < mu x /\ eQ (sQo cb 0) /\ eQ (sQi kind) /\ eP 8 /\ eL 29 /\ eQ (sQs t) /\ eQ (sQi ↑t.len) /\ sQi (IntKind.i64.wrap ((↑x.1 : Int) + 1)) = sQi ↑x_1.1 /\
 eQ (oQ 35 [aQi 0, aQi 0, aQi 0, aQi 0, aQz]) /\ some (Own.lst 35 5 (List.map OV.enc x.2)) = some (Own.lst 35 5 (List.map OV.enc x_1.2)) /\ m = m /\ h = h /\ True)) (∃ (cb_1 : Nat)
 (n : Int), [cQp cb 0, cQi (IntKind.i64.wrap ((↑(List.map OV.enc x.2).length : Int) + 1))] = [cQp cb_1 0, cQi n] /\ CaseOk m h cb_1 /\ ∀ (k : Int) (m' : MH), 0 <= k -> k < n ∨ k = 0
 -> MOther m m' cb_1 -> CaseOk m' h cb_1 -> branch (decide (k < (↑(List.map OV.enc x.2).length : Int))) (0 <= k /\ k < (↑(List.map OV.enc x.2).length : Int) /\ ∃ (e : List Value),
 (List.map OV.enc x.2)[k.toNat]? = some e /\ ∃ (y : OV), List.take 5 (List.drop 0 e) = (OV.enc y) /\ K (cQa (OV.enc y)) m' h) (∃ (cb_2 : Nat) (kind_1 : Int), [cQp cb 0, cQi kind] =
 [cQp cb_2 0, cQi kind_1] /\ CaseOk m' h cb_2 /\ ∀ (v : VV) (m'_1 : MH), ValW v -> MOther m' m'_1 cb_2 -> CaseOk m'_1 h cb_2 -> K (cQa [vQi 3, vQi 0, vQi v.kind, vQi v.int,
 Value.string v.text]) m'_1 h)))
theorem f79_vc (cb : Nat) (s t : Sl) (kind : Int) (m : MH) (h : PH) (K : CV → MH → PH → Prop) : f79_nice cb s t kind m h K = (fnVC (f79_ctx cb s t kind m h) Tryz.f79 (bodyOf Tryz.f79) (entry Tryz.f79.ntmps [cP cb, cS s, cS t, cI kind] m h) K) := by kernel_rfl
def f56_nice (N : Nat) (cb : Nat) (s t : Sl) (deep : Nat) (m : MH) (h : PH) (K : CV → MH → PH → Prop) : Prop :=
 ∃ (cb_1 : Nat) (n : Int), [cQp cb 0, cQi 9] = [cQp cb_1 0, cQi n] /\ CaseOk m h cb_1 /\ ∀ (k : Int) (m' : MH), 0 <= k -> k < n ∨ k = 0 -> MOther m m' cb_1 -> CaseOk m' h cb_1 -> ∃
 (I : Int × Bool × MH -> Prop), branch (k == 0) (∃ (cb_2 : Nat) (n : Int), [cQp cb 0, cQi 2] = [cQp cb_2 0, cQi n] /\ 0 <= n /\ n <= 1000 /\ CaseOk m' h cb_2 /\ ∀ (r : Bool) (m'_1 :
 MH), MOther m' m'_1 cb_2 -> CaseOk m'_1 h cb_2 -> ∃ (x : Int × Bool × MH), I x /\ eQ (sQo cb 0) /\ eQ (sQs s) /\ eQ (sQs t) /\ eQ (sQi ↑deep) /\ eP 8 /\ sQi k = sQi x.1 /\ sQb r =
 sQb x.2.1 /\ eQ (oQ 38 zP) /\ m'_1 = x.2.2 /\ h = h /\ True) (∃ (x : Int × Bool × MH), I x /\ eQ (sQo cb 0) /\ eQ (sQs s) /\ eQ (sQs t) /\ eQ (sQi ↑deep) /\ eP 8 /\ sQi k = sQi x.1
 /\ sQb false = sQb x.2.1 /\ eQ (oQ 38 zP) /\ m' = x.2.2 /\ h = h /\ True) /\ ∀ (x : Int × Bool × MH), I x -> branch x.2.1 (∃ (cb_2 : Nat) (n : Int), [cQp cb 0, cQi 2] = [cQp cb_2
 0, cQi n] /\ CaseOk x.2.2 h cb_2 /\ ∀ (k : Int) (m' : MH), 0 <= k -> k < n ∨ k = 0 -> MOther x.2.2 m' cb_2 -> CaseOk m' h cb_2 -> K (cQa [vQi (IntKind.i64.wrap (1 + k)), vQi 0, vQi
 0, vQi 0, vQi 0, vQi 0, vQz, vQi 0, vQi 0, vQi 0, vQi 0, vQz, vQn]) m' h) (∃ (I : Int × Bool × MH -> Prop), branch (decide (x.1 < 6)) (∃ (x_1 : Int × Bool × MH), I x_1 /\ eQ (sQo
 cb 0) /\ eQ (sQs s) /\ eQ (sQs t) /\ eQ (sQi ↑deep) /\ eP 8 /\ sQi x.1 = sQi x_1.1 /\ sQb true = sQb x_1.2.1 /\ eQ (oQ 38 zP) /\ x.2.2 = x_1.2.2 /\ h = h /\ True) (∃ (x_1 : Int ×
 Bool × MH), I x_1 /\ eQ (sQo cb 0) /\ eQ (sQs s) /\ eQ (sQs t) /\ eQ (sQi ↑deep) /\ eP 8 /\ sQi x.1 = sQi x_1.1 /\ sQb (decide ((↑deep : Int) < 1)) = sQb x_1.2.1 /\ eQ (oQ 38 zP)
 /\ x.2.2 = x_1.2.2 /\ h = h /\ True) /\ ∀ (x : Int × Bool × MH), I x -> branch x.2.1 (∃ (I : Int × MH -> Prop), branch (decide ((↑s.len : Int) > 0)) (∃ (cb_2 : Nat) (n : Int), [cQp
 cb 0, cQi ↑s.len] = [cQp cb_2 0, cQi n] /\ CaseOk x.2.2 h cb_2 /\ ∀ (k : Int) (m' : MH), 0 <= k -> k < n ∨ k = 0 -> MOther x.2.2 m' cb_2 -> CaseOk m' h cb_2 -> ∃ (b off : Nat), s.a
 = some (Addr.mk b off none) /\ 0 <= k /\ k < (↑s.len : Int) /\ ∃ (y : Int), RdAt m' h b (off + k.toNat * 1) [vQi y] /\ ∃ (x : Int × MH), I x /\ eQ (sQo cb 0) /\ eQ (sQs s) /\ eQ
 (sQs t) /\ eP 8 /\ sQi y = sQi x.1 /\ eQ (oQ 38 zP) /\ m' = x.2 /\ h = h /\ True) (∃ (x_1 : Int × MH), I x_1 /\ eQ (sQo cb 0) /\ eQ (sQs s) /\ eQ (sQs t) /\ eP 8 /\ sQi 4 = sQi
 x_1.1 /\ eQ (oQ 38 zP) /\ x.2.2 = x_1.2 /\ h = h /\ True) /\ ∀ (x : Int × MH), I x -> ∃ (I : PV × Int × MH -> Prop), (∃ (cb_2 : Nat) (n : Int), [cQp cb 0, cQi 6] = [cQp cb_2 0, cQi
 n] /\ CaseOk x.2 h cb_2 /\ ∀ (k : Int) (m' : MH), 0 <= k -> k < n ∨ k = 0 -> MOther x.2 m' cb_2 -> CaseOk m' h cb_2 -> ∃ (cb_3 : Nat), ∃ (s_1 t_1 : Sl) (kind : Int), ∃ (cols params
 : List Int), [cQp cb 0, cQs s, cQs t, cQi x.1] = [cQp cb_3 0, cQs s_1, cQs t_1, cQi kind] /\ CaseOk m' h cb_3 /\ Ints h s_1 cols /\ Ints h t_1 params /\ cols.length <= 1000 /\
 params.length <= 1000 /\ ∀ (o : OV) (m'_1 : MH), ValW o.value -> MOther m' m'_1 cb_3 -> CaseOk m'_1 h cb_3 -> ∃ (cb_4 : Nat) (kind : Int), [cQp cb 0, cQi x.1] = [cQp cb_4 0, cQi
 kind] /\ CaseOk m'_1 h cb_4 /\ ∀ (v : VV) (m' : MH), ValW v -> MOther m'_1 m' cb_4 -> CaseOk m' h cb_4 -> ∃ (x_1 : PV × Int × MH), I x_1 /\ eQ (sQo cb 0) /\ eQ (sQs s) /\ eQ (sQs
 t) /\ eP 8 /\ sQi x.1 = sQi x_1.2.1 /\ eP 11 /\ eQ (oQ 38 zP) /\ oQ 38 [aQi 3, aQi (IntKind.i64.wrap (1 + k)), aQi o.kind, aQi o.index, aQi o.value.kind, aQi o.value.int, aQt
 o.value.text, aQi 3, aQi 0, aQi v.kind, aQi v.int, aQt v.text, aQn] = oQ 38 (List.map At.val (PV.enc x_1.1)) /\ m' = x_1.2.2 /\ h = h /\ True) /\ ∀ (x : PV × Int × MH), I x -> ∃ (I
 : PV × MH -> Prop), (∃ (cb_2 : Nat) (n : Int), [cQp cb 0, cQi 3] = [cQp cb_2 0, cQi n] /\ 0 <= n /\ n <= 1000 /\ CaseOk x.2.2 h cb_2 /\ ∀ (r : Bool) (m' : MH), MOther x.2.2 m' cb_2
 -> CaseOk m' h cb_2 -> branch r (∃ (cb_3 : Nat), ∃ (s_1 t_1 : Sl) (kind : Int), ∃ (cols params : List Int), [cQp cb 0, cQs s, cQs t, cQi x.2.1] = [cQp cb_3 0, cQs s_1, cQs t_1, cQi
 kind] /\ CaseOk m' h cb_3 /\ Ints h s_1 cols /\ Ints h t_1 params /\ cols.length <= 1000 /\ params.length <= 1000 /\ ∀ (o : OV) (m'_1 : MH), ValW o.value -> MOther m' m'_1 cb_3 ->
 CaseOk m'_1 h cb_3 -> ∃ (x_1 : PV × MH), I x_1 /\ eQ (sQo cb 0) /\ eP 8 /\ eP 11 /\ eQ (oQ 38 zP) /\ oQ 38 [aQi x.1.op, aQi x.1.cmp, aQi x.1.left.kind, aQi x.1.left.index, aQi
 x.1.left.value.kind, aQi x.1.left.value.int, aQt x.1.left.value.text, aQi o.kind, aQi o.index, aQi o.value.kind, aQi o.value.int, aQt o.value.text, aQs x.1.args] = oQ 38 (List.map
 At.val (PV.enc x_1.1)) /\ m'_1 = x_1.2 /\ h = h /\ True) (∃ (x_1 : PV × MH), I x_1 /\ eQ (sQo cb 0) /\ eP 8 /\ eP 11 /\ eQ (oQ 38 zP) /\ oQ 38 (List.map At.val (PV.enc x.1)) = oQ
 38 (List.map At.val (PV.enc x_1.1)) /\ m' = x_1.2 /\ h = h /\ True)) /\ ∀ (x : PV × MH), I x -> ∃ (I : PV × MH -> Prop), (∃ (cb_2 : Nat) (n : Int), [cQp cb 0, cQi 6] = [cQp cb_2 0,
 cQi n] /\ 0 <= n /\ n <= 1000 /\ CaseOk x.2 h cb_2 /\ ∀ (r : Bool) (m' : MH), MOther x.2 m' cb_2 -> CaseOk m' h cb_2 -> branch r (∃ (x_1 : PV × MH), I x_1 /\ eP 8 /\ eP 11 /\ eQ
 (oQ 38 zP) /\ oQ 38 [aQi x.1.op, aQi x.1.cmp, aQi x.1.right.kind, aQi x.1.right.index, aQi x.1.right.value.kind, aQi x.1.right.value.int, aQt x.1.right.value.text, aQi
 x.1.left.kind, aQi x.1.left.index, aQi x.1.left.value.kind, aQi x.1.left.value.int, aQt x.1.left.value.text, aQs x.1.args] = oQ 38 (List.map At.val (PV.enc x_1.1)) /\ m' = x_1.2 /\
 h = h /\ True) (∃ (x_1 : PV × MH), I x_1 /\ eP 8 /\ eP 11 /\ eQ (oQ 38 zP) /\ oQ 38 (List.map At.val (PV.enc x.1)) = oQ 38 (List.map At.val (PV.enc x_1.1)) /\ m' = x_1.2 /\ h = h
 /\ True)) /\ ∀ (x : PV × MH), I x -> K (cQa (PV.enc x.1)) x.2 h) (branch (x.1 == 6) (∃ (cb_2 : Nat), ∃ (s_1 t_1 : Sl), ∃ (cols params : List Int) (deep_1 : Nat), [cQp cb 0, cQs s,
 cQs t, cQi (IntKind.i64.wrap ((↑deep : Int) - 1))] = [cQp cb_2 0, cQs s_1, cQs t_1, cQi ↑deep_1] /\ CaseOk x.2.2 h cb_2 /\ Ints h s_1 cols /\ Ints h t_1 params /\ cols.length <=
 1000 /\ params.length <= 1000 /\ deep_1 < N /\ deep_1 <= 1000 /\ ∀ (v : PV) (p : Pred) (m' : MH) (h' : PH), h.le h' -> RepP h' p v -> PredW p -> MOther x.2.2 m' cb_2 -> CaseOk m'
 h' cb_2 -> ∀ (s : Sl) (h'_1 : PH), h'.le h'_1 -> RowIn h'_1 s 13 [(PV.enc v)] -> K (cQa [vQi 6, vQi 0, vQi 0, vQi 0, vQi 0, vQi 0, vQz, vQi 0, vQi 0, vQi 0, vQi 0, vQz, vQs s]) m'
 h'_1) (∃ (cb_2 : Nat) (n : Int), [cQp cb 0, cQi 3] = [cQp cb_2 0, cQi n] /\ CaseOk x.2.2 h cb_2 /\ ∀ (k : Int) (m' : MH), 0 <= k -> k < n ∨ k = 0 -> MOther x.2.2 m' cb_2 -> CaseOk
 m' h cb_2 -> ∃ (I : Int × Int × List PV × MH × PH -> Prop) (mu : Int × Int × List PV × MH × PH -> Nat), (∃ (x_1 : Int × Int × List PV × MH × PH), I x_1 /\ eQ (sQo cb 0) /\ eQ (sQs
 s) /\ eQ (sQs t) /\ eQ (sQi ↑deep) /\ eP 8 /\ eP 12 /\ sQi k = sQi x_1.2.1 /\ eQ (oQ 38 zP) /\ oQ 38 [aQi (IntKind.i64.wrap (IntKind.i64.wrap (4 + x.1) - 7)), aQi 0, aQi 0, aQi 0,
 aQi 0, aQi 0, aQz, aQi 0, aQi 0, aQi 0, aQi 0, aQz, At.lst 104] = oQ 38 [aQi x_1.1, aQi 0, aQi 0, aQi 0, aQi 0, aQi 0, aQz, aQi 0, aQi 0, aQi 0, aQi 0, aQz, At.lst 104] /\ some
 (Own.lst 38 13 []) = some (Own.lst 38 13 (List.map PV.enc x_1.2.2.1)) /\ m' = x_1.2.2.2.1 /\ h = x_1.2.2.2.2 /\ True) /\ ∀ (x : Int × Int × List PV × MH × PH), I x -> branch
 (decide (x.2.1 ≥ 0)) (∃ (cb_3 : Nat), ∃ (s_1 t_1 : Sl), ∃ (cols params : List Int) (deep_1 : Nat), [cQp cb 0, cQs s, cQs t, cQi (IntKind.i64.wrap ((↑deep : Int) - 1))] = [cQp cb_3
 0, cQs s_1, cQs t_1, cQi ↑deep_1] /\ CaseOk x.2.2.2.1 x.2.2.2.2 cb_3 /\ Ints x.2.2.2.2 s_1 cols /\ Ints x.2.2.2.2 t_1 params /\ cols.length <= 1000 /\ params.length <= 1000 /\
 deep_1 < N /\ deep_1 <= 1000 /\ ∀ (v : PV) (p : Pred) (m' : MH) (h' : PH), x.2.2.2.2.le h' -> RepP h' p v -> PredW p -> MOther x.2.2.2.1 m' cb_3 -> CaseOk m' h' cb_3 -> ((List.map
 PV.enc x.2.2.1).length + 1) * 136 <= 140737488355328 /\ (List.map PV.enc x.2.2.1).length < 140737488355328 /\ ∃ (x_1 : Int × Int × List PV × MH × PH), I x_1 /\ mu x_1 < mu x /\ eQ
 (sQo cb 0) /\ eQ (sQs s) /\ eQ (sQs t) /\ eQ (sQi ↑deep) /\ eP 8 /\ eP 12 /\ sQi (IntKind.i64.wrap (x.2.1 - 1)) = sQi x_1.2.1 /\ eQ (oQ 38 zP) /\ oQ 38 [aQi x.1, aQi 0, aQi 0, aQi
 0, aQi 0, aQi 0, aQz, aQi 0, aQi 0, aQi 0, aQi 0, aQz, At.lst 104] = oQ 38 [aQi x_1.1, aQi 0, aQi 0, aQi 0, aQi 0, aQi 0, aQz, aQi 0, aQi 0, aQi 0, aQi 0, aQz, At.lst 104] /\ some
 (Own.lst 38 13 (List.map PV.enc x.2.2.1 ++ [(PV.enc v)])) = some (Own.lst 38 13 (List.map PV.enc x_1.2.2.1)) /\ m' = x_1.2.2.2.1 /\ h' = x_1.2.2.2.2 /\ True) (∀ (s : Sl) (h' : PH),
 x.2.2.2.2.le h' -> RowIn h' s 13 (List.map PV.enc x.2.2.1) -> K (cQa [vQi x.1, vQi 0, vQi 0, vQi 0, vQi 0, vQi 0, vQz, vQi 0, vQi 0, vQi 0, vQi 0, vQz, vQs s]) x.2.2.2.1 h'))))
theorem f56_vc (N : Nat) (cb : Nat) (s t : Sl) (deep : Nat) (m : MH) (h : PH) (K : CV → MH → PH → Prop) : f56_nice N cb s t deep m h K = (fnVC (f56_ctx N cb s t deep h) Tryz.f56 (bodyOf Tryz.f56) (entry Tryz.f56.ntmps [cP cb, cS s, cS t, cI deep] m h) K) := by kernel_rfl
def f27_nice (N : Nat) (cb : Nat) (s t : Sl) (deep : Nat) (m : MH) (h : PH) (K : CV → MH → PH → Prop) : Prop :=
 ∃ (cb_1 : Nat), ∃ (s_1 t_1 : Sl), ∃ (cols params : List Int) (deep_1 : Nat), [cQp cb 0, cQs s, cQs t, cQi ↑deep] = [cQp cb_1 0, cQs s_1, cQs t_1, cQi ↑deep_1] /\ CaseOk m h cb_1 /\
 Ints h s_1 cols /\ Ints h t_1 params /\ cols.length <= 1000 /\ params.length <= 1000 /\ deep_1 < N /\ deep_1 <= 1000 /\ ∀ (v : PV) (p : Pred) (m' : MH) (h' : PH), h.le h' -> RepP
 h' p v -> PredW p -> MOther m m' cb_1 -> CaseOk m' h' cb_1 -> ∃ (s_2 t_2 : Sl) (v_1 : PV), ∃ (cols params : List Int) (p : Pred), [cQs s, cQs t, cQa (PV.enc v)] = [cQs s_2, cQs
 t_2, cQa (PV.enc v_1)] /\ Ints h' s_2 cols /\ Ints h' t_2 params /\ RepP h' p v_1 /\ branch (predErr cols params p == 2) (∃ (cb_2 : Nat), ∃ (s_3 t_3 : Sl), ∃ (cols params : List
 Int) (deep : Nat), [cQp cb 0, cQs s, cQs t, cQi 1] = [cQp cb_2 0, cQs s_3, cQs t_3, cQi ↑deep] /\ CaseOk m' h' cb_2 /\ Ints h' s_3 cols /\ Ints h' t_3 params /\ cols.length <= 1000
 /\ params.length <= 1000 /\ deep < N /\ deep <= 1000 /\ ∀ (v : PV) (p : Pred) (m'_1 : MH) (h'_1 : PH), h'.le h'_1 -> RepP h'_1 p v -> PredW p -> MOther m' m'_1 cb_2 -> CaseOk m'_1
 h'_1 cb_2 -> K (cQa (PV.enc v)) m'_1 h'_1) (K (cQa (PV.enc v)) m' h')
theorem f27_vc (N : Nat) (cb : Nat) (s t : Sl) (deep : Nat) (m : MH) (h : PH) (K : CV → MH → PH → Prop) : f27_nice N cb s t deep m h K = (fnVC (ctx2 [(56, TreeW N), (57, PredCheckS)] [] [] [] false) Tryz.f27 (bodyOf Tryz.f27) (entry Tryz.f27.ntmps [cP cb, cS s, cS t, cI deep] m h) K) := by kernel_rfl
theorem f79_ok {s t : Sl} {kind : Int} {cols params : List Int} (hc : CaseOk m h cb) (hs : Ints h s cols) (ht : Ints h t params) (l1 : cols.length ≤ 1000) (l2 : params.length ≤ 1000) (hK : ∀ o m', ValW o.value → MOther m m' cb → CaseOk m' h cb → K (aO o) m' h) : f79_nice cb s t kind m h K := by
 have hsl := hs.slen
 have htl := ht.slen
 refine ⟨fun ⟨i, os⟩ => i ≤ cols.length ∧ os.length ≤ i ∧ ∀ o ∈ os, ValW o.value, fun ⟨i, _⟩ => cols.length - i, ⟨(0, []), ⟨by omega, by simp, by simp⟩, MT⟩, ?_⟩
 rintro ⟨i, os⟩ ⟨hi, hol, hos⟩
 dsimp only
 refine branch_dec (fun hlt => ?_) (fun hge => ?_)
 · obtain ⟨x, hx⟩ := getx hsl hlt
   obtain ⟨b1, o1, e1, r1⟩ := hs.at' hx
   refine ⟨b1, o1, e1, by omega, hlt, x, .imm r1, branch_intro (fun _ => ⟨by simp; omega, by simp; omega, (i + 1, os ++ [⟨1, i, zeroV⟩]), ⟨by omega, by simp; omega, ?_⟩, by show cols.length - (i + 1) < cols.length - i; omega, ?_⟩) (fun _ => ⟨(i + 1, os), ⟨by omega, by show os.length ≤ i + 1; omega, hos⟩, by show cols.length - (i + 1) < cols.length - i; omega, MT⟩)⟩
   · intro o ho
     rcases List.mem_append.1 ho with h1 | h1
     · exact hos o h1
     · simp at h1; subst h1; exact valW_zero
   · rw [List.map_append]; exact MT
 refine ⟨fun ⟨i, os⟩ => i ≤ params.length ∧ os.length ≤ 1000 + i ∧ ∀ o ∈ os, ValW o.value, fun ⟨i, _⟩ => params.length - i, ⟨(0, os), ⟨by omega, by omega, hos⟩, MT⟩, ?_⟩
 clear hi hol hos hge
 rintro ⟨i, os⟩ ⟨hi, hol, hos⟩
 dsimp only
 refine branch_dec (fun hlt => ?_) (fun hge => ?_)
 · obtain ⟨x, hx⟩ := getx htl hlt
   obtain ⟨b1, o1, e1, r1⟩ := ht.at' hx
   refine ⟨b1, o1, e1, by omega, hlt, x, .imm r1, branch_intro (fun _ => ⟨by simp; omega, by simp; omega, (i + 1, os ++ [⟨2, i, zeroV⟩]), ⟨by omega, by simp; omega, ?_⟩, by show params.length - (i + 1) < params.length - i; omega, ?_⟩) (fun _ => ⟨(i + 1, os), ⟨by omega, by show os.length ≤ 1000 + (i + 1); omega, hos⟩, by show params.length - (i + 1) < params.length - i; omega, MT⟩)⟩
   · intro o ho
     rcases List.mem_append.1 ho with h1 | h1
     · exact hos o h1
     · simp at h1; subst h1; exact valW_zero
   · rw [List.map_append]; exact MT
 · refine ⟨cb, _, rfl, hc, fun k m' h0 h1 ho hc' => branch_dec (fun hk => ?_) (fun hk => ⟨cb, kind, rfl, hc', fun v m'' hv ho' hc'' => hK ⟨3, 0, v⟩ m'' hv (ho.trans ho') hc''⟩)⟩
   have hk' : k.toNat < os.length := by simp at hk; omega
   exact ⟨h0, hk, _, by rw [List.getElem?_map, List.getElem?_eq_getElem hk']; rfl, os[k.toNat], rfl, hK _ m' (hos _ (List.getElem_mem hk')) ho hc'⟩
theorem f79_sound : Sound Tryz.prog 79 OperandW := by
 refine fn_sound (fn := Tryz.f79) (c := bodyOf Tryz.f79) Tryz.func79 rfl (by decide) ?_
 rintro cvs m h K ⟨cb, s, t, kind, cols, params, rfl, hc, hs, ht, l1, l2, hK⟩
 refine ⟨f79_ctx cb s t kind m h, rfl, specs_cons intW (specs_cons f80_sound specs_nil), ?_⟩
 rw [← f79_vc cb s t kind m h K]
 exact f79_ok hc hs ht l1 l2 hK
theorem leaf_rep {h : PH} {v : PV} (ha : v.args = ⟨none, 0, 0⟩) : RepP h (.mk v.op v.cmp v.left v.right []) v := RepP.mk (by rw [ha]; exact .nil _ _ _ _)
theorem f56_ok {s t : Sl} {deep : Nat} {cols params : List Int} (hc : CaseOk m h cb) (hs : Ints h s cols) (ht : Ints h t params) (l1 : cols.length ≤ 1000) (l2 : params.length ≤ 1000) (hN : deep < N + 1) (hd : deep ≤ 1000) (hK : KP K m h cb) : f56_nice N cb s t deep m h K := by
 have hsl := hs.slen
 refine ⟨cb, 9, rfl, hc, fun k m1 k0 k1 o1 c1 => ?_⟩
 refine ⟨fun ⟨k, _, mx⟩ => 0 ≤ k ∧ k ≤ 8 ∧ MOther m mx cb ∧ CaseOk mx h cb, branch_intro (fun _ => ⟨cb, 2, rfl, by omega, by omega, c1, fun r m2 o2 c2 => ⟨(k, r, m2), ⟨k0, by omega, o1.trans o2, c2⟩, MT⟩⟩) (fun _ => ⟨(k, false, m1), ⟨k0, by omega, o1, c1⟩, MT⟩), ?_⟩
 clear k0 k1 o1 c1 k m1
 rintro ⟨k, b, m1⟩ ⟨k0, k1, o1, c1⟩
 dsimp only
 refine branch_intro (fun _ => ⟨cb, 2, rfl, c1, fun j m2 j0 j1 o2 c2 => ?_⟩) (fun _ => ?_)
 · exact hK ⟨IntKind.i64.wrap (1 + j), 0, zeroO, zeroO, ⟨none, 0, 0⟩⟩ _ m2 h (.refl _) (leaf_rep rfl) ⟨valW_zero, valW_zero, trivial⟩ (o1.trans o2) c2
 refine ⟨fun ⟨k, b, mx⟩ => 0 ≤ k ∧ k ≤ 8 ∧ (b = false → 6 ≤ k ∧ 1 ≤ deep) ∧ MOther m mx cb ∧ CaseOk mx h cb, branch_dec (fun _ => ⟨(k, true, m1), ⟨k0, k1, fun e => (by cases e), o1, c1⟩, MT⟩) (fun hk => ⟨(k, _, m1), ⟨k0, k1, fun e => ?_, o1, c1⟩, MT⟩), ?_⟩
 · simp at e; exact ⟨by omega, by omega⟩
 clear k0 k1 o1 c1 k m1
 rintro ⟨k, b, m1⟩ ⟨k0, k1, kb, o1, c1⟩
 dsimp only
 refine branch_intro (fun _ => ?_) (fun hb => ?_)
 · refine ⟨fun ⟨_, mx⟩ => MOther m mx cb ∧ CaseOk mx h cb, branch_dec (fun hpos => ⟨cb, s.len, rfl, c1, fun j m2 j0 j1 o2 c2 => ?_⟩) (fun _ => ⟨(4, m1), ⟨o1, c1⟩, MT⟩), ?_⟩
   · obtain ⟨b1, off, e1, r1⟩ := hs.inb (n := j) j0 (by omega)
     exact ⟨b1, off, e1, j0, by omega, _, .imm r1, (_, m2), ⟨o1.trans o2, c2⟩, MT⟩
   clear o1 c1 m1
   rintro ⟨kd, m1⟩ ⟨o1, c1⟩
   dsimp only
   refine ⟨fun ⟨p, _, mx⟩ => p.args = ⟨none, 0, 0⟩ ∧ ValW p.left.value ∧ ValW p.right.value ∧ MOther m mx cb ∧ CaseOk mx h cb, ⟨cb, 6, rfl, c1, fun j m2 j0 j1 o2 c2 => ⟨cb, s, t, kd, cols, params, rfl, c2, hs, ht, l1, l2, fun o m3 ho o3 c3 => ⟨cb, kd, rfl, c3, fun v m4 hv o4 c4 => ⟨(⟨3, IntKind.i64.wrap (1 + j), o, ⟨3, 0, v⟩, ⟨none, 0, 0⟩⟩, kd, m4), ⟨rfl, ho, hv, ((o1.trans o2).trans o3).trans o4, c4⟩, MT⟩⟩⟩⟩, ?_⟩
   clear o1 c1 m1 kd
   rintro ⟨p, kd, m1⟩ ⟨pa, pl, pr, o1, c1⟩
   dsimp only
   refine ⟨fun ⟨p, mx⟩ => p.args = ⟨none, 0, 0⟩ ∧ ValW p.left.value ∧ ValW p.right.value ∧ MOther m mx cb ∧ CaseOk mx h cb, ⟨cb, 3, rfl, by omega, by omega, c1, fun r m2 o2 c2 => branch_intro (fun _ => ⟨cb, s, t, kd, cols, params, rfl, c2, hs, ht, l1, l2, fun o m3 ho o3 c3 => ⟨(⟨p.op, p.cmp, p.left, o, p.args⟩, m3), ⟨pa, pl, ho, (o1.trans o2).trans o3, c3⟩, MT⟩⟩) (fun _ => ⟨(p, m2), ⟨pa, pl, pr, o1.trans o2, c2⟩, MT⟩)⟩, ?_⟩
   clear pa pl pr o1 c1 m1 p
   rintro ⟨p, m1⟩ ⟨pa, pl, pr, o1, c1⟩
   dsimp only
   refine ⟨fun ⟨p, mx⟩ => p.args = ⟨none, 0, 0⟩ ∧ ValW p.left.value ∧ ValW p.right.value ∧ MOther m mx cb ∧ CaseOk mx h cb, ⟨cb, 6, rfl, by omega, by omega, c1, fun r m2 o2 c2 => branch_intro (fun _ => ⟨(⟨p.op, p.cmp, p.right, p.left, p.args⟩, m2), ⟨pa, pr, pl, o1.trans o2, c2⟩, MT⟩) (fun _ => ⟨(p, m2), ⟨pa, pl, pr, o1.trans o2, c2⟩, MT⟩)⟩, ?_⟩
   clear pa pl pr o1 c1 m1 p
   rintro ⟨p, m1⟩ ⟨pa, pl, pr, o1, c1⟩
   exact hK p _ m1 h (.refl _) (leaf_rep pa) ⟨pl, pr, trivial⟩ o1 c1
 have hdeep := kb hb
 have hw : IntKind.i64.wrap ((deep : Int) - 1) = ((deep - 1 : Nat) : Int) := by rw [wrap_id (by omega) (by omega)]; omega
 rw [hw]
 refine branch_intro (fun _ => ⟨cb, s, t, cols, params, deep - 1, rfl, c1, hs, ht, l1, l2, by omega, by omega, fun v p m2 h2 hle hr hp o2 c2 sl h3 hle2 hrow => ?_⟩) (fun _ => ⟨cb, 3, rfl, c1, fun j m2 j0 j1 o2 c2 => ?_⟩)
 · refine hK ⟨6, 0, zeroO, zeroO, sl⟩ (.mk 6 0 zeroO zeroO [p]) m2 h3 (hle.trans hle2) (RepP.mk (v := ⟨6, 0, zeroO, zeroO, sl⟩) ⟨⟨[v], hrow, rfl, fun i x hx => ?_⟩, by simp⟩) ⟨valW_zero, valW_zero, hp, trivial⟩ (o1.trans o2) (c2.mono hle2)
   match i, hx with
   | 0, hx => simp at hx; subst hx; exact ⟨v, rfl, hr.mono hle2⟩
   | _ + 1, hx => simp at hx
 refine ⟨fun ⟨_, n, us, mx, hx⟩ => -1 ≤ n ∧ n ≤ 2 ∧ (us.length : Int) ≤ 2 - n ∧ PH.le h hx ∧ MOther m mx cb ∧ CaseOk mx hx cb ∧ ∃ ps : List Pred, ps.length = us.length ∧ PredWs ps ∧ ∀ (i : Nat) q, ps[i]? = some q → ∃ u, us[i]? = some u ∧ RepP hx q u, fun ⟨_, n, _, _, _⟩ => (n + 1).toNat, ⟨(_, j, [], m2, h), ⟨by omega, by omega, by simp; omega, .refl _, o1.trans o2, c2, [], rfl, trivial, fun i q hq => by simp at hq⟩, MT⟩, ?_⟩
 rintro ⟨op, n, us, mx, hx⟩ ⟨n0, n1, ul, hle, ox, cx, ps, pl, pw, hps⟩
 dsimp only
 refine branch_dec (fun hn => ⟨cb, s, t, cols, params, deep - 1, rfl, cx, hs.mono hle, ht.mono hle, l1, l2, by omega, by omega, fun v p m3 h3 hle3 hr hp o3 c3 => ⟨by simp; omega, by simp; omega, (op, n - 1, us ++ [v], m3, h3), ⟨by show -1 ≤ n - 1; omega, by show n - 1 ≤ 2; omega, by simp; omega, hle.trans hle3, ox.trans o3, c3, ps ++ [p], by simp [pl], ?_, ?_⟩, ?_, ?_⟩⟩) (fun hn sl h3 hle3 hrow => ?_)
 · rw [PredWs_iff] at pw ⊢
   intro q hq
   rcases List.mem_append.1 hq with h1 | h1
   · exact pw q h1
   · simp at h1; subst h1; exact hp
 · intro i q hq
   by_cases hi : i < ps.length
   · rw [List.getElem?_append_left hi] at hq
     obtain ⟨u, h1, h2⟩ := hps i q hq
     exact ⟨u, by rw [List.getElem?_append_left (by omega)]; exact h1, h2.mono hle3⟩
   · rw [List.getElem?_append_right (by omega)] at hq
     have hl := (List.getElem?_eq_some_iff.1 hq).1
     simp at hl
     have : i = ps.length := by omega
     subst this
     simp at hq
     subst hq
     exact ⟨v, by rw [List.getElem?_append_right (by omega), pl]; simp, hr⟩
 · show (n - 1 + 1).toNat < (n + 1).toNat; omega
 · rw [List.map_append, wrap_id (by omega) (by omega)]; exact MT
 · exact hK ⟨op, 0, zeroO, zeroO, sl⟩ (.mk op 0 zeroO zeroO ps) mx h3 (hle.trans hle3) (RepP.mk (v := ⟨op, 0, zeroO, zeroO, sl⟩) ⟨⟨us, hrow, pl, fun i q hq => (hps i q hq).imp fun u hu => ⟨hu.1, hu.2.mono hle3⟩⟩, by omega⟩) ⟨valW_zero, valW_zero, pw⟩ ox (cx.mono hle3)
theorem f56_all : ∀ N, Sound Tryz.prog 56 (TreeW N)
 | 0 => by
  refine fn_sound (fn := Tryz.f56) (c := bodyOf Tryz.f56) Tryz.func56 rfl (by decide) ?_
  rintro cvs m h K ⟨cb, s, t, cols, params, deep, rfl, _, _, _, _, _, hN, _⟩
  omega
 | N + 1 => by
  refine fn_sound (fn := Tryz.f56) (c := bodyOf Tryz.f56) Tryz.func56 rfl (by decide) ?_
  rintro cvs m h K ⟨cb, s, t, cols, params, deep, rfl, hc, hs, ht, l1, l2, hN, hd, hK⟩
  refine ⟨f56_ctx N cb s t deep h, rfl, specs_cons intW (specs_cons f10_sound (specs_cons f79_sound (specs_cons f80_sound (specs_cons (f56_all N) specs_nil)))), ?_⟩
  rw [← f56_vc N cb s t deep m h K]
  exact f56_ok hc hs ht l1 l2 hN hd hK
theorem f27_ok {s t : Sl} {deep : Nat} {cols params : List Int} (hc : CaseOk m h cb) (hs : Ints h s cols) (ht : Ints h t params) (l1 : cols.length ≤ 1000) (l2 : params.length ≤ 1000) (hd : deep ≤ 1000) (hK : KP K m h cb) : f27_nice 1001 cb s t deep m h K := by
 refine ⟨cb, s, t, cols, params, deep, rfl, hc, hs, ht, l1, l2, by omega, hd, fun v p m2 h2 hle hr hp o2 c2 => ⟨s, t, v, cols, params, p, rfl, hs.mono hle, ht.mono hle, hr, branch_intro (fun _ => ⟨cb, s, t, cols, params, 1, rfl, c2, hs.mono hle, ht.mono hle, l1, l2, by omega, by omega, fun v3 p3 m3 h3 hle3 hr3 hp3 o3 c3 => hK v3 p3 m3 h3 (hle.trans hle3) hr3 hp3 (o2.trans o3) c3⟩) (fun _ => hK v p m2 h2 hle hr hp o2 c2)⟩⟩
theorem f27_sound : Sound Tryz.prog 27 PredicateW := by
 refine fn_sound (fn := Tryz.f27) (c := bodyOf Tryz.f27) Tryz.func27 rfl (by decide) ?_
 rintro cvs m h K ⟨cb, s, t, cols, params, deep, rfl, hc, hs, ht, l1, l2, hd, hK⟩
 refine ⟨ctx2 [(56, TreeW 1001), (57, PredCheckS)] [] [] [] false, rfl, specs_cons (f56_all 1001) (specs_cons f57_sound specs_nil), ?_⟩
 rw [← f27_vc 1001 cb s t deep m h K]
 exact f27_ok hc hs ht l1 l2 hd hK
def nilS : Sl := ⟨none, 0, 0⟩
def ColumnS : Vc.Spec := fun cvs m h K => ∃ n k, cvs = [cStr n, cI k] ∧ K (.val (.agg ⟨(ColV.mk n k).enc⟩)) m h
def ScanS : Vc.Spec := fun cvs m h K => ∃ t, cvs = [cI t] ∧ K (aQ ⟨1, t, zeroPV, nilS, nilS, nilS, nilS, 0, nilS⟩) m h
def rankQ (v : QV) (g o : Sl) (k : Int) : QV := ⟨v.op, v.table, v.where_, v.columns, v.on, g, o, k, v.args⟩
def RankW : Vc.Spec := fun cvs m h K => ∃ cb v s kinds, cvs = [cP cb, aQ (rankQ v nilS nilS v.limit), cS s] ∧ CaseOk m h cb ∧ Ints h s kinds ∧ kinds.length ≤ 1000 ∧
 ∀ g o k gr od m' h', PH.le h h' → Ints h' g gr → Sorts h' o od → gr.length ≤ kinds.length → od.length ≤ kinds.length → 0 ≤ k → k ≤ 3 → MOther m m' cb → CaseOk m' h' cb → K (aQ (rankQ v g o k)) m' h'
def f40_ctx (cb : Nat) (v : QV) (s : Sl) (h : PH) : Ctx :=
 ctx2 [(12, IntW), (10, BoolW)] [(2, { A := Nat × List Int × List (Int × Bool) × MH, st := fun ⟨i, gr, od, m⟩ => mkSt 37 40 [(0, pv cb), (4, .at (.ptr 4 0)), (6, .at (.ptr 6 0)), (9, iv s.len), (10, iv i)] [(4, .cells 43 ((v.enc.take 17).map .val ++ [.lst 19, .lst 30, .val (.int .i64 v.limit), .val (.slice v.args.a v.args.len v.args.cap)])), (6, .cells 43 (zeroQV.enc.map .val)), (19, .lst 3 1 (gr.map eI)), (30, .lst 80 2 (od.map sortEnc))] m h })] [] [] false
def f51_nice (n : ByteArray) (k : Int) (m : MH) (h : PH) (K : CV → MH → PH → Prop) : Prop :=
 K (cQa [Value.string n, vQi k]) m h
theorem f51_vc (n : ByteArray) (k : Int) (m : MH) (h : PH) (K : CV → MH → PH → Prop) : f51_nice n k m h K = (fnVC (ctx2 [] [] [] [] false) Tryz.f51 (bodyOf Tryz.f51) (entry Tryz.f51.ntmps [cStr n, cI k] m h) K) := by kernel_rfl
def f37_nice (t : Int) (m : MH) (h : PH) (K : CV → MH → PH → Prop) : Prop :=
 K (cQa [vQi 1, vQi t, vQi 0, vQi 0, vQi 0, vQi 0, vQi 0, vQi 0, vQz, vQi 0, vQi 0, vQi 0, vQi 0, vQz, vQn, vQn, vQn, vQn, vQn, vQi 0, vQn]) m h
theorem f37_vc (t : Int) (m : MH) (h : PH) (K : CV → MH → PH → Prop) : f37_nice t m h K = (fnVC (ctx2 [] [] [] [] false) Tryz.f37 (bodyOf Tryz.f37) (entry Tryz.f37.ntmps [cI t] m h) K) := by kernel_rfl
def f40_nice (cb : Nat) (v : QV) (s : Sl) (m : MH) (h : PH) (K : CV → MH → PH → Prop) : Prop :=
 ∃ (I : Nat × List Int × List (Int × Bool) × MH -> Prop) (mu : Nat × List Int × List (Int × Bool) × MH -> Nat), (∃ (x : Nat × List Int × List (Int × Bool) × MH), I x /\ eQ (sQo cb
 0) /\ eP 4 /\ eP 6 /\ eQ (sQi ↑s.len) /\ sQi 0 = sQi ↑x.1 /\ eQ (oQ 43 (aQi v.op :: aQi v.table :: pQ v.where_ [aQs v.columns, aQs v.on, At.lst 19, At.lst 30, aQi v.limit, aQs
 v.args])) /\ eQ (oQ 43 zQ) /\ some (Own.lst 3 1 []) = some (Own.lst 3 1 (List.map eI x.2.1)) /\ some (Own.lst 80 2 []) = some (Own.lst 80 2 (List.map sortEnc x.2.2.1)) /\ m =
 x.2.2.2 /\ h = h /\ True) /\ ∀ (x : Nat × List Int × List (Int × Bool) × MH), I x -> branch (decide ((↑x.1 : Int) < ↑s.len)) (∃ (cb_1 : Nat) (n : Int), [cQp cb 0, cQi 3] = [cQp
 cb_1 0, cQi n] /\ 0 <= n /\ n <= 1000 /\ CaseOk x.2.2.2 h cb_1 /\ ∀ (r : Bool) (m' : MH), MOther x.2.2.2 m' cb_1 -> CaseOk m' h cb_1 -> branch r (((List.map eI x.2.1).length + 1) *
 8 <= 140737488355328 /\ (List.map eI x.2.1).length < 140737488355328 /\ ∃ (cb_2 : Nat) (n : Int), [cQp cb 0, cQi 3] = [cQp cb_2 0, cQi n] /\ 0 <= n /\ n <= 1000 /\ CaseOk m' h cb_2
 /\ ∀ (r : Bool) (m'_1 : MH), MOther m' m'_1 cb_2 -> CaseOk m'_1 h cb_2 -> branch r (∃ (cb_3 : Nat) (n : Int), [cQp cb 0, cQi 2] = [cQp cb_3 0, cQi n] /\ 0 <= n /\ n <= 1000 /\
 CaseOk m'_1 h cb_3 /\ ∀ (r : Bool) (m' : MH), MOther m'_1 m' cb_3 -> CaseOk m' h cb_3 -> ((List.map sortEnc x.2.2.1).length + 1) * 16 <= 140737488355328 /\ (List.map sortEnc
 x.2.2.1).length < 140737488355328 /\ ∃ (x_1 : Nat × List Int × List (Int × Bool) × MH), I x_1 /\ mu x_1 < mu x /\ eQ (sQo cb 0) /\ eP 4 /\ eP 6 /\ eQ (sQi ↑s.len) /\ sQi
 (IntKind.i64.wrap ((↑x.1 : Int) + 1)) = sQi ↑x_1.1 /\ eQ (oQ 43 (aQi v.op :: aQi v.table :: pQ v.where_ [aQs v.columns, aQs v.on, At.lst 19, At.lst 30, aQi v.limit, aQs v.args]))
 /\ eQ (oQ 43 zQ) /\ some (Own.lst 3 1 (List.map eI x.2.1 ++ [[vQi ↑x.1]])) = some (Own.lst 3 1 (List.map eI x_1.2.1)) /\ some (Own.lst 80 2 (List.map sortEnc x.2.2.1 ++ [[vQi ↑x.1,
 Value.bool r]])) = some (Own.lst 80 2 (List.map sortEnc x_1.2.2.1)) /\ m' = x_1.2.2.2 /\ h = h /\ True) (∃ (x_1 : Nat × List Int × List (Int × Bool) × MH), I x_1 /\ mu x_1 < mu x
 /\ eQ (sQo cb 0) /\ eP 4 /\ eP 6 /\ eQ (sQi ↑s.len) /\ sQi (IntKind.i64.wrap ((↑x.1 : Int) + 1)) = sQi ↑x_1.1 /\ eQ (oQ 43 (aQi v.op :: aQi v.table :: pQ v.where_ [aQs v.columns,
 aQs v.on, At.lst 19, At.lst 30, aQi v.limit, aQs v.args])) /\ eQ (oQ 43 zQ) /\ some (Own.lst 3 1 (List.map eI x.2.1 ++ [[vQi ↑x.1]])) = some (Own.lst 3 1 (List.map eI x_1.2.1)) /\
 some (Own.lst 80 2 (List.map sortEnc x.2.2.1)) = some (Own.lst 80 2 (List.map sortEnc x_1.2.2.1)) /\ m'_1 = x_1.2.2.2 /\ h = h /\ True)) (∃ (cb_2 : Nat) (n : Int), [cQp cb 0, cQi
 3] = [cQp cb_2 0, cQi n] /\ 0 <= n /\ n <= 1000 /\ CaseOk m' h cb_2 /\ ∀ (r : Bool) (m'_1 : MH), MOther m' m'_1 cb_2 -> CaseOk m'_1 h cb_2 -> branch r (∃ (cb_3 : Nat) (n : Int),
 [cQp cb 0, cQi 2] = [cQp cb_3 0, cQi n] /\ 0 <= n /\ n <= 1000 /\ CaseOk m'_1 h cb_3 /\ ∀ (r : Bool) (m' : MH), MOther m'_1 m' cb_3 -> CaseOk m' h cb_3 -> ((List.map sortEnc
 x.2.2.1).length + 1) * 16 <= 140737488355328 /\ (List.map sortEnc x.2.2.1).length < 140737488355328 /\ ∃ (x_1 : Nat × List Int × List (Int × Bool) × MH), I x_1 /\ mu x_1 < mu x /\
 eQ (sQo cb 0) /\ eP 4 /\ eP 6 /\ eQ (sQi ↑s.len) /\ sQi (IntKind.i64.wrap ((↑x.1 : Int) + 1)) = sQi ↑x_1.1 /\ eQ (oQ 43 (aQi v.op :: aQi v.table :: pQ v.where_ [aQs v.columns, aQs
 v.on, At.lst 19, At.lst 30, aQi v.limit, aQs v.args])) /\ eQ (oQ 43 zQ) /\ some (Own.lst 3 1 (List.map eI x.2.1)) = some (Own.lst 3 1 (List.map eI x_1.2.1)) /\ some (Own.lst 80 2
 (List.map sortEnc x.2.2.1 ++ [[vQi ↑x.1, Value.bool r]])) = some (Own.lst 80 2 (List.map sortEnc x_1.2.2.1)) /\ m' = x_1.2.2.2 /\ h = h /\ True) (∃ (x_1 : Nat × List Int × List
 (Int × Bool) × MH), I x_1 /\ mu x_1 < mu x /\ eQ (sQo cb 0) /\ eP 4 /\ eP 6 /\ eQ (sQi ↑s.len) /\ sQi (IntKind.i64.wrap ((↑x.1 : Int) + 1)) = sQi ↑x_1.1 /\ eQ (oQ 43 (aQi v.op ::
 aQi v.table :: pQ v.where_ [aQs v.columns, aQs v.on, At.lst 19, At.lst 30, aQi v.limit, aQs v.args])) /\ eQ (oQ 43 zQ) /\ some (Own.lst 3 1 (List.map eI x.2.1)) = some (Own.lst 3 1
 (List.map eI x_1.2.1)) /\ some (Own.lst 80 2 (List.map sortEnc x.2.2.1)) = some (Own.lst 80 2 (List.map sortEnc x_1.2.2.1)) /\ m'_1 = x_1.2.2.2 /\ h = h /\ True))) (∃ (cb_1 : Nat)
 (n : Int), [cQp cb 0, cQi 4] = [cQp cb_1 0, cQi n] /\ CaseOk x.2.2.2 h cb_1 /\ ∀ (k : Int) (m' : MH), 0 <= k -> k < n ∨ k = 0 -> MOther x.2.2.2 m' cb_1 -> CaseOk m' h cb_1 -> ∀ (s
 : Sl) (h' : PH), h.le h' -> RowIn h' s 1 (List.map eI x.2.1) -> ∀ (s_1 : Sl) (h'_1 : PH), h'.le h'_1 -> RowIn h'_1 s_1 2 (List.map sortEnc x.2.2.1) -> K (cQa [vQi v.op, vQi
 v.table, vQi v.where_.op, vQi v.where_.cmp, vQi v.where_.left.kind, vQi v.where_.left.index, vQi v.where_.left.value.kind, vQi v.where_.left.value.int, Value.string
 v.where_.left.value.text, vQi v.where_.right.kind, vQi v.where_.right.index, vQi v.where_.right.value.kind, vQi v.where_.right.value.int, Value.string v.where_.right.value.text,
 vQs v.where_.args, vQs v.columns, vQs v.on, vQs s, vQs s_1, vQi k, vQs v.args]) m' h'_1)
theorem f40_vc (cb : Nat) (v : QV) (s : Sl) (m : MH) (h : PH) (K : CV → MH → PH → Prop) : f40_nice cb v s m h K = (fnVC (f40_ctx cb v s h) Tryz.f40 (bodyOf Tryz.f40) (entry Tryz.f40.ntmps [cP cb, aQ (rankQ v nilS nilS v.limit), cS s] m h) K) := by kernel_rfl
theorem f51_sound : Sound Tryz.prog 51 ColumnS := by
 refine fn_sound (fn := Tryz.f51) (c := bodyOf Tryz.f51) Tryz.func51 rfl (by decide) ?_
 rintro cvs m h K ⟨n, k, rfl, hK⟩
 refine ⟨ctx2 [] [] [] [] false, rfl, specs_nil, ?_⟩
 rw [← f51_vc n k m h K]
 exact hK
theorem f37_sound : Sound Tryz.prog 37 ScanS := by
 refine fn_sound (fn := Tryz.f37) (c := bodyOf Tryz.f37) Tryz.func37 rfl (by decide) ?_
 rintro cvs m h K ⟨t, rfl, hK⟩
 refine ⟨ctx2 [] [] [] [] false, rfl, specs_nil, ?_⟩
 rw [← f37_vc t m h K]
 exact hK
theorem f40_ok {s : Sl} {kinds : List Int} (hc : CaseOk m h cb) (hs : Ints h s kinds) (hl : kinds.length ≤ 1000)
 (hK : ∀ g o k gr od m' h', PH.le h h' → Ints h' g gr → Sorts h' o od → gr.length ≤ kinds.length → od.length ≤ kinds.length → 0 ≤ k → k ≤ 3 → MOther m m' cb → CaseOk m' h' cb → K (aQ (rankQ v g o k)) m' h') : f40_nice cb v s m h K := by
 have hsl := hs.slen
 refine ⟨fun ⟨i, gr, od, mx⟩ => i ≤ kinds.length ∧ gr.length ≤ i ∧ od.length ≤ i ∧ MOther m mx cb ∧ CaseOk mx h cb, fun ⟨i, _, _, _⟩ => kinds.length - i, ⟨(0, [], [], m), ⟨by omega, by simp, by simp, .refl _ _, hc⟩, MT⟩, ?_⟩
 rintro ⟨i, gr, od, m1⟩ ⟨hi, hg, ho, o1, c1⟩
 dsimp only
 refine branch_dec (fun hlt => ?_) (fun hge => ?_)
 · have fin : ∀ (gr' : List Int) (od' : List (Int × Bool)) m', gr'.length ≤ i + 1 → od'.length ≤ i + 1 → MOther m m' cb → CaseOk m' h cb → (i + 1 ≤ kinds.length ∧ gr'.length ≤ i + 1 ∧ od'.length ≤ i + 1 ∧ MOther m m' cb ∧ CaseOk m' h cb) := fun gr' od' m' h1 h2 h3 h4 => ⟨by omega, h1, h2, h3, h4⟩
   refine ⟨cb, 3, rfl, by omega, by omega, c1, fun r m2 o2 c2 => branch_intro (fun _ => ⟨by simp; omega, by simp; omega, cb, 3, rfl, by omega, by omega, c2, fun r2 m3 o3 c3 => branch_intro (fun _ => ⟨cb, 2, rfl, by omega, by omega, c3, fun r3 m4 o4 c4 => ⟨by simp; omega, by simp; omega, (i + 1, gr ++ [(i : Int)], od ++ [((i : Int), r3)], m4), fin (gr ++ [(i : Int)]) (od ++ [((i : Int), r3)]) m4 (by simp; omega) (by simp; omega) (((o1.trans o2).trans o3).trans o4) c4, by show kinds.length - (i + 1) < kinds.length - i; omega, ?_⟩⟩) (fun _ => ⟨(i + 1, gr ++ [(i : Int)], od, m3), fin (gr ++ [(i : Int)]) od m3 (by simp; omega) (by omega) ((o1.trans o2).trans o3) c3, by show kinds.length - (i + 1) < kinds.length - i; omega, ?_⟩)⟩)
    (fun _ => ⟨cb, 3, rfl, by omega, by omega, c2, fun r2 m3 o3 c3 => branch_intro (fun _ => ⟨cb, 2, rfl, by omega, by omega, c3, fun r3 m4 o4 c4 => ⟨by simp; omega, by simp; omega, (i + 1, gr, od ++ [((i : Int), r3)], m4), fin gr (od ++ [((i : Int), r3)]) m4 (by omega) (by simp; omega) (((o1.trans o2).trans o3).trans o4) c4, by show kinds.length - (i + 1) < kinds.length - i; omega, ?_⟩⟩) (fun _ => ⟨(i + 1, gr, od, m3), fin gr od m3 (by omega) (by omega) ((o1.trans o2).trans o3) c3, by show kinds.length - (i + 1) < kinds.length - i; omega, MT⟩)⟩)⟩
   · simp only [List.map_append]; exact MT
   · simp only [List.map_append]; exact MT
   · simp only [List.map_append]; exact MT
 · refine ⟨cb, 4, rfl, c1, fun k m2 k0 k1 o2 c2 s1 h1 hle1 r1 s2 h2 hle2 r2 => ?_⟩
   exact hK s1 s2 k gr od m2 h2 (hle1.trans hle2) ⟨r1.mono hle2, by omega⟩ ⟨r2, by omega⟩ (by omega) (by omega) k0 (by omega) (o1.trans o2) (c2.mono (hle1.trans hle2))
theorem f40_sound : Sound Tryz.prog 40 RankW := by
 refine fn_sound (fn := Tryz.f40) (c := bodyOf Tryz.f40) Tryz.func40 rfl (by decide) ?_
 rintro cvs m h K ⟨cb, v, s, kinds, rfl, hc, hs, hl, hK⟩
 refine ⟨f40_ctx cb v s h, rfl, specs_cons intW (specs_cons f10_sound specs_nil), ?_⟩
 rw [← f40_vc cb v s m h K]
 exact f40_ok hc hs hl hK
def PairsW : Vc.Spec := fun cvs m h K => ∃ cb s t a b, cvs = [cP cb, cS s, cS t] ∧ CaseOk m h cb ∧ Ints h s a ∧ Ints h t b ∧ a.length ≤ 1000 ∧ b.length ≤ 1000 ∧
 ∀ o on m' h', PH.le h h' → Pairs h' o on → on.length ≤ 10 → MOther m m' cb → CaseOk m' h' cb → K (cS o) m' h'
def f38_ctx (cb : Nat) (s t : Sl) (h : PH) : Ctx :=
 ctx2 [(12, IntW)] [(3, { A := Int × List (Int × Int) × MH, st := fun ⟨n, on, m⟩ => mkSt 77 80 [(0, pv cb), (1, sv s), (2, sv t), (7, .at (.lst 75)), (8, iv n)] [(75, .lst 78 2 (on.map pairEnc))] m h }),
  (8, { A := Int × Nat × List (Int × Int) × (Int × Int) × Bool × MH, st := fun ⟨n, i, on, p, f, m⟩ => mkSt 77 80 [(0, pv cb), (1, sv s), (2, sv t), (7, .at (.lst 75)), (8, iv n), (9, .at (.ptr 9 0)), (10, bv f), (49, .at (.lst 75)), (50, iv on.length), (51, iv i)] [(9, .cells 78 [.val (.int .i64 p.1), .val (.int .i64 p.2)]), (75, .lst 78 2 (on.map pairEnc))] m h })] [] [] false
def f38_nice (cb : Nat) (s t : Sl) (m : MH) (h : PH) (K : CV → MH → PH → Prop) : Prop :=
 ∃ (cb_1 : Nat) (n : Int), [cQp cb 0, cQi 3] = [cQp cb_1 0, cQi n] /\ CaseOk m h cb_1 /\ ∀ (k : Int) (m' : MH), 0 <= k -> k < n ∨ k = 0 -> MOther m m' cb_1 -> CaseOk m' h cb_1 -> ∃
 (I : Int × List (Int × Int) × MH -> Prop) (mu : Int × List (Int × Int) × MH -> Nat), (∃ (x : Int × List (Int × Int) × MH), I x /\ eQ (sQo cb 0) /\ eQ (sQs s) /\ eQ (sQs t) /\ eL 75
 /\ sQi k = sQi x.1 /\ some (Own.lst 78 2 []) = some (Own.lst 78 2 (List.map pairEnc x.2.1)) /\ m' = x.2.2 /\ h = h /\ True) /\ ∀ (x : Int × List (Int × Int) × MH), I x -> branch
 (decide (x.1 > 0)) (branch (decide ((↑s.len : Int) > 0)) (branch (decide ((↑t.len : Int) > 0)) (∃ (cb_2 : Nat) (n : Int), [cQp cb 0, cQi ↑s.len] = [cQp cb_2 0, cQi n] /\ CaseOk
 x.2.2 h cb_2 /\ ∀ (k : Int) (m' : MH), 0 <= k -> k < n ∨ k = 0 -> MOther x.2.2 m' cb_2 -> CaseOk m' h cb_2 -> ∃ (cb_3 : Nat) (n : Int), [cQp cb 0, cQi ↑t.len] = [cQp cb_3 0, cQi n]
 /\ CaseOk m' h cb_3 /\ ∀ (k_1 : Int) (m'_1 : MH), 0 <= k_1 -> k_1 < n ∨ k_1 = 0 -> MOther m' m'_1 cb_3 -> CaseOk m'_1 h cb_3 -> (0 : Int) <= 0 /\ (0 : Int) < 2 /\ ∃ (b off : Nat),
 s.a = some (Addr.mk b off none) /\ 0 <= k /\ k < (↑s.len : Int) /\ ∃ (y : Int), RdAt m'_1 h b (off + k.toNat * 1) [vQi y] /\ (0 : Int) <= 1 /\ (1 : Int) < 2 /\ ∃ (b off : Nat), t.a
 = some (Addr.mk b off none) /\ 0 <= k_1 /\ k_1 < (↑t.len : Int) /\ ∃ (y_1 : Int), RdAt m'_1 h b (off + k_1.toNat * 1) [vQi y_1] /\ ∃ (I_1 : Int × Nat × List (Int × Int) × (Int ×
 Int) × Bool × MH -> Prop) (mu_1 : Int × Nat × List (Int × Int) × (Int × Int) × Bool × MH -> Nat), (∃ (x_1 : Int × Nat × List (Int × Int) × (Int × Int) × Bool × MH), I_1 x_1 /\ eQ
 (sQo cb 0) /\ eQ (sQs s) /\ eQ (sQs t) /\ eL 75 /\ sQi x.1 = sQi x_1.1 /\ eP 9 /\ sQb (y == y_1) = sQb x_1.2.2.2.2.1 /\ eL 75 /\ sQi (↑(List.map pairEnc x.2.1).length : Int) = sQi
 ↑x_1.2.2.1.length /\ sQi 0 = sQi ↑x_1.2.1 /\ oQ 78 [aQi k, aQi k_1] = oQ 78 [aQi x_1.2.2.2.1.1, aQi x_1.2.2.2.1.2] /\ some (Own.lst 78 2 (List.map pairEnc x.2.1)) = some (Own.lst
 78 2 (List.map pairEnc x_1.2.2.1)) /\ m'_1 = x_1.2.2.2.2.2 /\ h = h /\ True) /\ ∀ (x_1 : Int × Nat × List (Int × Int) × (Int × Int) × Bool × MH), I_1 x_1 -> branch (decide
 ((↑x_1.2.1 : Int) < ↑x_1.2.2.1.length)) (0 <= (↑x_1.2.1 : Int) /\ (↑x_1.2.1 : Int) < (↑(List.map pairEnc x_1.2.2.1).length : Int) /\ ∃ (e : List Value), (List.map pairEnc
 x_1.2.2.1)[(↑x_1.2.1 : Int).toNat]? = some e /\ ∃ (y : Int × Int), List.take 2 (List.drop 0 e) = [vQi y.1, vQi y.2] /\ branch x_1.2.2.2.2.1 ((0 : Int) <= 0 /\ (0 : Int) < 2 /\ (0 :
 Int) <= 0 /\ (0 : Int) < 2 /\ branch (y.1 != x_1.2.2.2.1.1) ((0 : Int) <= 1 /\ (1 : Int) < 2 /\ (0 : Int) <= 1 /\ (1 : Int) < 2 /\ ∃ (x : Int × Nat × List (Int × Int) × (Int × Int)
 × Bool × MH), I_1 x /\ mu_1 x < mu_1 x_1 /\ eQ (sQo cb 0) /\ eQ (sQs s) /\ eQ (sQs t) /\ eL 75 /\ sQi x_1.1 = sQi x.1 /\ eP 9 /\ sQb (y.2 != x_1.2.2.2.1.2) = sQb x.2.2.2.2.1 /\ eL
 75 /\ sQi ↑x_1.2.2.1.length = sQi ↑x.2.2.1.length /\ sQi (IntKind.i64.wrap ((↑x_1.2.1 : Int) + 1)) = sQi ↑x.2.1 /\ oQ 78 [aQi x_1.2.2.2.1.1, aQi x_1.2.2.2.1.2] = oQ 78 [aQi
 x.2.2.2.1.1, aQi x.2.2.2.1.2] /\ some (Own.lst 78 2 (List.map pairEnc x_1.2.2.1)) = some (Own.lst 78 2 (List.map pairEnc x.2.2.1)) /\ x_1.2.2.2.2.2 = x.2.2.2.2.2 /\ h = h /\ True)
 (∃ (x : Int × Nat × List (Int × Int) × (Int × Int) × Bool × MH), I_1 x /\ mu_1 x < mu_1 x_1 /\ eQ (sQo cb 0) /\ eQ (sQs s) /\ eQ (sQs t) /\ eL 75 /\ sQi x_1.1 = sQi x.1 /\ eP 9 /\
 sQb false = sQb x.2.2.2.2.1 /\ eL 75 /\ sQi ↑x_1.2.2.1.length = sQi ↑x.2.2.1.length /\ sQi (IntKind.i64.wrap ((↑x_1.2.1 : Int) + 1)) = sQi ↑x.2.1 /\ oQ 78 [aQi x_1.2.2.2.1.1, aQi
 x_1.2.2.2.1.2] = oQ 78 [aQi x.2.2.2.1.1, aQi x.2.2.2.1.2] /\ some (Own.lst 78 2 (List.map pairEnc x_1.2.2.1)) = some (Own.lst 78 2 (List.map pairEnc x.2.2.1)) /\ x_1.2.2.2.2.2 =
 x.2.2.2.2.2 /\ h = h /\ True)) (∃ (x : Int × Nat × List (Int × Int) × (Int × Int) × Bool × MH), I_1 x /\ mu_1 x < mu_1 x_1 /\ eQ (sQo cb 0) /\ eQ (sQs s) /\ eQ (sQs t) /\ eL 75 /\
 sQi x_1.1 = sQi x.1 /\ eP 9 /\ sQb false = sQb x.2.2.2.2.1 /\ eL 75 /\ sQi ↑x_1.2.2.1.length = sQi ↑x.2.2.1.length /\ sQi (IntKind.i64.wrap ((↑x_1.2.1 : Int) + 1)) = sQi ↑x.2.1 /\
 oQ 78 [aQi x_1.2.2.2.1.1, aQi x_1.2.2.2.1.2] = oQ 78 [aQi x.2.2.2.1.1, aQi x.2.2.2.1.2] /\ some (Own.lst 78 2 (List.map pairEnc x_1.2.2.1)) = some (Own.lst 78 2 (List.map pairEnc
 x.2.2.1)) /\ x_1.2.2.2.2.2 = x.2.2.2.2.2 /\ h = h /\ True)) (branch x_1.2.2.2.2.1 (((List.map pairEnc x_1.2.2.1).length + 1) * 16 <= 140737488355328 /\ (List.map pairEnc
 x_1.2.2.1).length < 140737488355328 /\ ∃ (x_2 : Int × List (Int × Int) × MH), I x_2 /\ mu x_2 < mu x /\ eQ (sQo cb 0) /\ eQ (sQs s) /\ eQ (sQs t) /\ eL 75 /\ sQi (IntKind.i64.wrap
 (x_1.1 - 1)) = sQi x_2.1 /\ some (Own.lst 78 2 (List.map pairEnc x_1.2.2.1 ++ [[vQi x_1.2.2.2.1.1, vQi x_1.2.2.2.1.2]])) = some (Own.lst 78 2 (List.map pairEnc x_2.2.1)) /\
 x_1.2.2.2.2.2 = x_2.2.2 /\ h = h /\ True) (∃ (x_2 : Int × List (Int × Int) × MH), I x_2 /\ mu x_2 < mu x /\ eQ (sQo cb 0) /\ eQ (sQs s) /\ eQ (sQs t) /\ eL 75 /\ sQi
 (IntKind.i64.wrap (x_1.1 - 1)) = sQi x_2.1 /\ some (Own.lst 78 2 (List.map pairEnc x_1.2.2.1)) = some (Own.lst 78 2 (List.map pairEnc x_2.2.1)) /\ x_1.2.2.2.2.2 = x_2.2.2 /\ h = h
 /\ True))) (∀ (s : Sl) (h' : PH), h.le h' -> RowIn h' s 2 (List.map pairEnc x.2.1) -> K (cQs s) x.2.2 h')) (∀ (s : Sl) (h' : PH), h.le h' -> RowIn h' s 2 (List.map pairEnc x.2.1)
 -> K (cQs s) x.2.2 h')) (∀ (s : Sl) (h' : PH), h.le h' -> RowIn h' s 2 (List.map pairEnc x.2.1) -> K (cQs s) x.2.2 h')
theorem f38_vc (cb : Nat) (s t : Sl) (m : MH) (h : PH) (K : CV → MH → PH → Prop) : f38_nice cb s t m h K = (fnVC (f38_ctx cb s t h) Tryz.f38 (bodyOf Tryz.f38) (entry Tryz.f38.ntmps [cP cb, cS s, cS t] m h) K) := by kernel_rfl
theorem f38_ok {s t : Sl} {b : List Int} (hc : CaseOk m h cb) (hs : Ints h s a) (ht : Ints h t b) (l1 : a.length ≤ 1000) (l2 : b.length ≤ 1000)
 (hK : ∀ o on m' h', PH.le h h' → Pairs h' o on → on.length ≤ 10 → MOther m m' cb → CaseOk m' h' cb → K (cS o) m' h') : f38_nice cb s t m h K := by
 have hsl := hs.slen
 have htl := ht.slen
 refine ⟨cb, 3, rfl, hc, fun k m1 k0 k1 o1 c1 => ⟨fun ⟨n, on, mx⟩ => 0 ≤ n ∧ n ≤ 2 ∧ (on.length : Int) ≤ 2 - n ∧ MOther m mx cb ∧ CaseOk mx h cb, fun ⟨n, _, _⟩ => n.toNat, ⟨(k, [], m1), ⟨k0, by show k ≤ 2; omega, by simp; omega, o1, c1⟩, MT⟩, ?_⟩⟩
 clear k0 k1 o1 c1 m1
 rintro ⟨n, on, m1⟩ ⟨n0, n1, hon, o1, c1⟩
 dsimp only
 have out : ∀ (sl : Sl) (h' : PH), PH.le h h' → RowIn h' sl 2 (on.map pairEnc) → K (.val (.slice sl.a sl.len sl.cap)) m1 h' := fun sl h' hle hrow => hK sl on m1 h' hle ⟨hrow, by omega⟩ (by omega) o1 (c1.mono hle)
 refine branch_dec (fun hn => branch_dec (fun hp => branch_dec (fun hq => ?_) (fun _ => out)) (fun _ => out)) (fun _ => out)
 refine ⟨cb, s.len, rfl, c1, fun x m2 x0 x1 o2 c2 => ⟨cb, t.len, rfl, c2, fun y m3 y0 y1 o3 c3 => ?_⟩⟩
 obtain ⟨b1, f1, e1, r1⟩ := hs.inb (n := x) x0 (by omega)
 obtain ⟨b2, f2, e2, r2⟩ := ht.inb (n := y) y0 (by omega)
 refine ⟨by omega, by omega, b1, f1, e1, x0, by omega, _, .imm r1, by omega, by omega, b2, f2, e2, y0, by omega, _, .imm r2, ?_⟩
 refine ⟨fun ⟨n', i, on', p, f, mx⟩ => n' = n ∧ on' = on ∧ mx = m3 ∧ i ≤ on.length, fun ⟨_, i, _, _, _, _⟩ => on.length - i, ⟨(n, 0, on, (x, y), a.getD x.toNat 0 == b.getD y.toNat 0, m3), ⟨rfl, rfl, rfl, by omega⟩, ?_⟩, ?_⟩
 · rw [List.length_map]; exact MT
 rintro ⟨n, i, on, p, f, m3⟩ ⟨rfl, rfl, rfl, hi⟩
 dsimp only
 refine branch_dec (fun hlt => ?_) (fun hge => ?_)
 · have hl : i < on.length := by omega
   have hget : (on.map pairEnc)[i]? = some (pairEnc on[i]) := by rw [List.getElem?_map, List.getElem?_eq_getElem hl]; rfl
   refine ⟨by omega, by rw [List.length_map]; omega, _, hget, on[i], rfl, branch_intro (fun _ => ⟨by omega, by omega, by omega, by omega, branch_intro (fun _ => ⟨by omega, by omega, by omega, by omega, (n, i + 1, on, p, _, m3), ⟨rfl, rfl, rfl, by show i + 1 ≤ on.length; omega⟩, by show on.length - (i + 1) < on.length - i; omega, MT⟩) (fun _ => ⟨(n, i + 1, on, p, _, m3), ⟨rfl, rfl, rfl, by show i + 1 ≤ on.length; omega⟩, by show on.length - (i + 1) < on.length - i; omega, MT⟩)⟩) (fun _ => ⟨(n, i + 1, on, p, _, m3), ⟨rfl, rfl, rfl, by show i + 1 ≤ on.length; omega⟩, by show on.length - (i + 1) < on.length - i; omega, MT⟩)⟩
 · have hw : IntKind.i64.wrap (n - 1) = n - 1 := wrap_id (by omega) (by omega)
   rw [hw]
   refine branch_intro (fun _ => ⟨by rw [List.length_map]; omega, by rw [List.length_map]; omega, (n - 1, on ++ [p], m3), ⟨by show 0 ≤ n - 1; omega, by show n - 1 ≤ 2; omega, by simp; omega, (o1.trans o2).trans o3, c3⟩, by show (n - 1).toNat < n.toNat; omega, ?_⟩) (fun _ => ⟨(n - 1, on, m3), ⟨by show 0 ≤ n - 1; omega, by show n - 1 ≤ 2; omega, by show (on.length : Int) ≤ 2 - (n - 1); omega, (o1.trans o2).trans o3, c3⟩, by show (n - 1).toNat < n.toNat; omega, MT⟩)
   rw [List.map_append]; exact MT
theorem f38_sound : Sound Tryz.prog 38 PairsW := by
 refine fn_sound (fn := Tryz.f38) (c := bodyOf Tryz.f38) Tryz.func38 rfl (by decide) ?_
 rintro cvs m h K ⟨cb, s, t, a, b, rfl, hc, hs, ht, l1, l2, hK⟩
 refine ⟨f38_ctx cb s t h, rfl, specs_cons intW specs_nil, ?_⟩
 rw [← f38_vc cb s t m h K]
 exact f38_ok hc hs ht l1 l2 hK
def NewS : Vc.Spec := fun cvs m h K => ∃ s cs, ∃ most : Nat, cvs = [cS s, cI most] ∧ RowIn h s 1 (bytesVal cs) ∧ s.len ≤ s.cap ∧ most ≤ 1000 ∧ ∀ cb m' h', PH.le h h' → m cb = none → MOther m m' cb → CaseOk m' h' cb → K (cP cb) m' h'
def f7_nice (s : Sl) (most : Nat) (m : MH) (h : PH) (K : CV → MH → PH → Prop) : Prop :=
 (0 <= if (↑most : Int) < ↑s.len then (↑most : Int) else (↑s.len : Int)) /\ (if (↑most : Int) < ↑s.len then (↑most : Int) else (↑s.len : Int)) <= (↑s.cap : Int) /\ ∃ (ys : List
 (List Value)), RowsOk 1 ys /\ SrcIn m h (Sl.mk s.a (if (↑most : Int) < ↑s.len then (↑most : Int) else (↑s.len : Int)).toNat s.cap) 1 ys /\ ys.length * 1 <= 140737488355328 /\
 ys.length <= 140737488355328 /\ ∀ (s : Sl) (h' : PH), h.le h' -> RowIn h' s 1 ys -> ∀ (b : Nat) (m' : MH), Unheld m h' b -> MUpd m m' b (Obj.cells (Array.mk [vQs s, vQi 0]) 68) ->
 K (cQp b 0) m' h'
theorem f7_vc (s : Sl) (most : Nat) (m : MH) (h : PH) (K : CV → MH → PH → Prop) : f7_nice s most m h K = (fnVC (ctx4 [] [] [] [] [68] [] false) Tryz.f7 (bodyOf Tryz.f7) (entry Tryz.f7.ntmps [cS s, cI most] m h) K) := by kernel_rfl
theorem rowsOk_bytes (l : List UInt8) : RowsOk 1 (bytesVal l) := by
 constructor
 · intro e he; obtain ⟨x, _, rfl⟩ := List.mem_map.1 he; rfl
 · intro e he u hu; obtain ⟨x, _, rfl⟩ := List.mem_map.1 he; simp at hu; subst hu; rfl
theorem RowIn.cut {s : Sl} (r : RowIn h s sz xs) (n : Nat) (hn : n ≤ xs.length) : RowIn h ⟨s.a, n, s.cap⟩ sz (xs.take n) := by
 refine ⟨by simp; omega, ?_, by have h1 := r.len; have h2 := r.cap; show n ≤ s.cap; omega⟩
 rcases r.row with e | ⟨b, o, ha, k⟩
 · left; rw [e]; simp
 · right
   refine ⟨b, o, ha, fun i e hi => ?_⟩
   rw [List.getElem?_take] at hi
   split at hi
   · exact k i e hi
   · cases hi
theorem f7_ok {s : Sl} {cs : List UInt8} {most : Nat} (hr : RowIn h s 1 (bytesVal cs)) (hc : s.len ≤ s.cap) (hm : most ≤ 1000) (hK : ∀ cb m' h', PH.le h h' → m cb = none → MOther m m' cb → CaseOk m' h' cb → K (cP cb) m' h') : f7_nice s most m h K := by
 have hl : s.len = cs.length := by have := hr.len; simpa [bytesVal] using this
 unfold f7_nice
 have hmin : (if (most : Int) < (s.len : Int) then (most : Int) else (s.len : Int)) = ((min most s.len : Nat) : Int) := by split <;> omega
 rw [hmin]
 have hcut := RowIn.cut hr (min most s.len) (by simp [bytesVal]; omega)
 refine ⟨by omega, by omega, bytesVal (cs.take (min most s.len)), rowsOk_bytes _, .imm ?_, by simp [bytesVal]; omega, by simp [bytesVal]; omega, fun s' h' hle hrow b m' hb hu => ?_⟩
 · rw [show bytesVal (cs.take (min most s.len)) = (bytesVal cs).take (min most s.len) by simp [bytesVal, List.map_take]]
   exact hcut
 · exact hK b m' h' hle hb.m_ ⟨hu.other⟩ ⟨_, ⟨⟨s', _, 0, hu.at_, hrow, by omega, by simp; omega, rfl⟩⟩⟩
theorem f7_sound : Sound Tryz.prog 7 NewS := by
 refine fn_sound (fn := Tryz.f7) (c := bodyOf Tryz.f7) Tryz.func7 rfl (by decide) ?_
 rintro cvs m h K ⟨s, cs, most, rfl, hr, hc, hm, hK⟩
 refine ⟨ctx4 [] [] [] [] [68] [] false, rfl, specs_nil, ?_⟩
 rw [← f7_vc s most m h K]
 exact f7_ok hr hc hm hK
def GrowS : Vc.Spec := fun cvs m h K => ∃ n : Nat, cvs = [.val (.slice none 0 0), cI n] ∧ n ≤ 1000 ∧ K (.lst 3 1 []) m h
def f101_ctx (ss : Sl) (m : MH) (h : PH) : Ctx :=
 ctx2 [(123, GrowS)] [(3, { A := Nat × Nat, st := fun ⟨i, n⟩ => mkSt 36 37 [(0, sv ss), (3, iv n), (9, sv ss), (10, iv ss.len), (11, iv i)] [] m h }),
  (11, { A := Nat × List Int, st := fun ⟨i, l⟩ => mkSt 36 37 [(6, .at (.lst 24)), (25, sv ss), (26, iv ss.len), (27, iv i)] [(24, .lst 3 1 (l.map eI))] m h })] [] [] false
def f123_nice (n : Nat) (m : MH) (h : PH) (K : CV → MH → PH → Prop) : Prop :=
 branch (decide (IntKind.i64.wrap ((↑n : Int) - IntKind.i64.wrap ((↑0 : Int) - (↑0 : Int))) > 0)) ((0 : Int) <= 0 /\ (0 : Int) <= 0 /\ 0 < IntKind.i64.wrap ((↑n : Int) - 0) /\
 IntKind.i64.wrap ((↑n : Int) - 0) * 8 <= 140737488355328 /\ IntKind.i64.wrap ((↑n : Int) - 0) <= 140737488355328 /\ (0 : Int) <= 0 /\ 0 <= (↑(List.replicate (IntKind.i64.wrap ((↑n
 : Int) - 0)).toNat [vQi 0]).length : Int) /\ K (CV.lst 3 1 []) m h) (K (CV.lst 3 1 []) m h)
theorem f123_vc (n : Nat) (m : MH) (h : PH) (K : CV → MH → PH → Prop) : f123_nice n m h K = (fnVC (ctx2 [] [] [] [] true) Tryz.f123 (bodyOf Tryz.f123) (entry Tryz.f123.ntmps [.val (.slice none 0 0), cI n] m h) K) := by kernel_rfl
def f101_nice (ss : Sl) (m : MH) (h : PH) (K : CV → MH → PH → Prop) : Prop :=
 ∃ (I : Nat × Nat -> Prop) (mu : Nat × Nat -> Nat), (∃ (x : Nat × Nat), I x /\ eQ (sQs ss) /\ sQi 0 = sQi ↑x.2 /\ eQ (sQs ss) /\ eQ (sQi ↑ss.len) /\ sQi 0 = sQi ↑x.1 /\ m = m /\ h =
 h /\ True) /\ ∀ (x : Nat × Nat), I x -> branch (decide ((↑x.1 : Int) < ↑ss.len)) (∃ (b off : Nat), ss.a = some (Addr.mk b off none) /\ 0 <= (↑x.1 : Int) /\ (↑x.1 : Int) < ↑ss.len
 /\ ∃ (y : Sl), RdAt m h b (off + (↑x.1 : Int).toNat * 1) [vQs y] /\ branch (decide (IntKind.i64.wrap ((↑x.2 : Int) + (↑y.len : Int)) < 0)) False (∃ (x_1 : Nat × Nat), I x_1 /\ mu
 x_1 < mu x /\ eQ (sQs ss) /\ sQi (IntKind.i64.wrap ((↑x.2 : Int) + (↑y.len : Int))) = sQi ↑x_1.2 /\ eQ (sQs ss) /\ eQ (sQi ↑ss.len) /\ sQi (IntKind.i64.wrap ((↑x.1 : Int) + 1)) =
 sQi ↑x_1.1 /\ m = m /\ h = h /\ True)) (∃ (n : Nat), [cQn, cQi ↑x.2] = [cQn, cQi ↑n] /\ n <= 1000 /\ ∃ (I : Nat × List Int -> Prop) (mu : Nat × List Int -> Nat), (∃ (x : Nat × List
 Int), I x /\ eL 24 /\ eQ (sQs ss) /\ eQ (sQi ↑ss.len) /\ sQi 0 = sQi ↑x.1 /\ some (Own.lst 3 1 []) = some (Own.lst 3 1 (List.map eI x.2)) /\ m = m /\ h = h /\ True) /\ ∀ (x : Nat ×
 List Int), I x -> branch (decide ((↑x.1 : Int) < ↑ss.len)) (∃ (b off : Nat), ss.a = some (Addr.mk b off none) /\ 0 <= (↑x.1 : Int) /\ (↑x.1 : Int) < ↑ss.len /\ ∃ (y : Sl), RdAt m h
 b (off + (↑x.1 : Int).toNat * 1) [vQs y] /\ ∃ (ys : List (List Value)), RowsOk 1 ys /\ RowIn h (Sl.mk y.a y.len y.cap) 1 ys /\ ((List.map eI x.2).length + ys.length) * 8 <=
 140737488355328 /\ (List.map eI x.2).length + ys.length <= 140737488355328 /\ ∃ (x_1 : Nat × List Int), I x_1 /\ mu x_1 < mu x /\ eL 24 /\ eQ (sQs ss) /\ eQ (sQi ↑ss.len) /\ sQi
 (IntKind.i64.wrap ((↑x.1 : Int) + 1)) = sQi ↑x_1.1 /\ some (Own.lst 3 1 (List.map eI x.2 ++ ys)) = some (Own.lst 3 1 (List.map eI x_1.2)) /\ m = m /\ h = h /\ True) (∀ (s : Sl) (h'
 : PH), h.le h' -> RowIn h' s 1 (List.map eI x.2) -> K (cQs s) m h'))
theorem f101_vc (ss : Sl) (m : MH) (h : PH) (K : CV → MH → PH → Prop) : f101_nice ss m h K = (fnVC (f101_ctx ss m h) Tryz.f101 (bodyOf Tryz.f101) (entry Tryz.f101.ntmps [cS ss] m h) K) := by kernel_rfl
theorem f123_ok {n : Nat} (hn : n ≤ 1000) (hK : K (.lst 3 1 []) m h) : f123_nice n m h K := by
 unfold f123_nice
 have h0 : IntKind.i64.wrap ((n : Int) - 0) = n := by rw [wrap_id (by omega) (by omega)]; omega
 have h1 : IntKind.i64.wrap ((n : Int) - IntKind.i64.wrap (0 - 0)) = n := by rw [show IntKind.i64.wrap (0 - 0) = 0 from by rw [wrap_id (by omega) (by omega)]; rfl, h0]
 rw [h0, h1]
 exact branch_dec (fun hp => ⟨by omega, by omega, by omega, by omega, by omega, by omega, by omega, hK⟩) (fun _ => hK)
theorem f123_sound : Sound Tryz.prog 123 GrowS := by
 refine fn_sound (fn := Tryz.f123) (c := bodyOf Tryz.f123) Tryz.func123 rfl (by decide) ?_
 rintro cvs m h K ⟨n, rfl, hn, hK⟩
 refine ⟨ctx2 [] [] [] [] true, rfl, specs_nil, ?_⟩
 rw [← f123_vc n m h K]
 exact f123_ok hn hK
def sumLen (ks : List (List Int)) : Nat := (ks.map List.length).sum
theorem sumLen_take {k : List Int} (hk : ks[i]? = some k) : sumLen (ks.take (i + 1)) = sumLen (ks.take i) + k.length := by
 unfold sumLen; rw [List.take_add_one, hk]; simp
theorem sumLen_le {ks : List (List Int)} (h : ∀ k ∈ ks, k.length ≤ 12) : ∀ i, sumLen (ks.take i) ≤ 12 * i
 | 0 => by simp [sumLen]
 | i + 1 => by
  have ih := sumLen_le h i
  cases e : ks[i]? with
  | none => rw [List.take_add_one, e]; simp [sumLen] at ih ⊢; omega
  | some k => rw [sumLen_take e]; have := h k (List.mem_of_getElem? e); omega
theorem f101_ok {ss : Sl} (hs : RepI h ss ks) (hl : ks.length ≤ 10) (h12 : ∀ k ∈ ks, k.length ≤ 12) (hK : ∀ sl h', PH.le h h' → Ints h' sl ks.flatten → K (cS sl) m h') : f101_nice ss m h K := by
 have hsl := RepL.slen hs
 refine ⟨fun ⟨i, n⟩ => i ≤ ks.length ∧ n = sumLen (ks.take i), fun ⟨i, _⟩ => ks.length - i, ⟨(0, 0), ⟨by omega, by simp [sumLen]⟩, MT⟩, ?_⟩
 rintro ⟨i, n⟩ ⟨hi, rfl⟩
 dsimp only
 have hb := sumLen_le h12 i
 refine branch_dec (fun hlt => ?_) (fun hge => ?_)
 · obtain ⟨k, hk⟩ := getx hsl hlt
   obtain ⟨b, o, sl, ea, r, hki⟩ := RepL.at hs hk
   have hkl := hki.slen
   have hk12 := h12 k (List.mem_of_getElem? hk)
   have hw : IntKind.i64.wrap ((sumLen (ks.take i) : Int) + (sl.len : Int)) = ((sumLen (ks.take (i + 1)) : Nat) : Int) := by
    rw [sumLen_take hk, wrap_id (by omega) (by omega)]; omega
   refine ⟨b, o, ea, by omega, hlt, sl, .imm r, ?_⟩
   rw [hw]
   exact branch_dec (fun hneg => by omega) (fun _ => ⟨(i + 1, sumLen (ks.take (i + 1))), ⟨by omega, rfl⟩, by show ks.length - (i + 1) < ks.length - i; omega, MT⟩)
 · refine ⟨sumLen (ks.take i), rfl, by omega, ?_⟩
   refine ⟨fun ⟨i, l⟩ => i ≤ ks.length ∧ l = (ks.take i).flatten, fun ⟨i, _⟩ => ks.length - i, ⟨(0, []), ⟨by omega, by simp⟩, MT⟩, ?_⟩
   clear hb hge hi
   rintro ⟨i, l⟩ ⟨hi, rfl⟩
   dsimp only
   have hfl : (ks.take i).flatten.length ≤ 12 * i := by have := sumLen_le h12 i; simpa [sumLen, List.length_flatten] using this
   refine branch_dec (fun hlt => ?_) (fun hge sl h' hle hrow => hK sl h' hle ⟨?_, ?_⟩)
   · obtain ⟨k, hk⟩ := getx hsl hlt
     obtain ⟨b, o, sl, ea, r, hki⟩ := RepL.at hs hk
     have hk12 := h12 k (List.mem_of_getElem? hk)
     refine ⟨b, o, ea, by omega, hlt, sl, .imm r, k.map eI, rowsOk_ints k, hki.row, ?_, ?_, (i + 1, (ks.take (i + 1)).flatten), ⟨by omega, rfl⟩, by show ks.length - (i + 1) < ks.length - i; omega, ?_⟩
     · rw [List.length_map, List.length_map]; omega
     · rw [List.length_map, List.length_map]; omega
     · rw [List.take_add_one, hk, Option.toList_some, List.flatten_append, List.map_append, List.flatten_cons, List.flatten_nil, List.append_nil]
       exact MT
   · rw [List.take_of_length_le (by omega)] at hrow; exact hrow
   · rw [List.take_of_length_le (by omega)] at hfl; omega
theorem f101_sound : Sound Tryz.prog 101 ConcatS := by
 refine fn_sound (fn := Tryz.f101) (c := bodyOf Tryz.f101) Tryz.func101 rfl (by decide) ?_
 rintro cvs m h K ⟨ss, ks, rfl, hs, hl, h12, hK⟩
 refine ⟨f101_ctx ss m h, rfl, specs_cons f123_sound specs_nil, ?_⟩
 rw [← f101_vc ss m h K]
 exact f101_ok hs hl h12 hK
theorem f65_sound : ∀ N, Sound Tryz.prog 65 (KindsQS N) := f65_all f101_sound
mutual
def visQ : Query → Nat → Int → Bool × Int
 | .mk _ _ _ _ _ _ _ _ args, k, n => if 24 < n + 1 ∨ k = 0 then (false, 0) else visQs args (k - 1) (n + 1)
def visQs : List Query → Nat → Int → Bool × Int
 | [], _, n => (true, n)
 | q :: qs, k, n => match visQ q k n with | (false, _) => (false, 0) | (true, n') => visQs qs k n'
end
mutual
def szQ : Query → Int
 | .mk _ _ _ _ _ _ _ _ args => 1 + szQs args
def szQs : List Query → Int
 | [] => 0
 | p :: ps => szQ p + szQs ps
end
mutual
theorem szQ_pos : ∀ p : Query, 1 ≤ szQ p
 | .mk _ _ _ _ _ _ _ _ args => by have := szQs_pos args; simp only [szQ]; omega
theorem szQs_pos : ∀ ps : List Query, 0 ≤ szQs ps
 | [] => by simp [szQs]
 | p :: ps => by have := szQ_pos p; have := szQs_pos ps; simp only [szQs]; omega
end
mutual
theorem nodesQ_eq : ∀ (p : Query) (n : Int), n ≤ 24 → (n + szQ p ≤ 24 → nodesQ p n = n + szQ p) ∧ (24 < n + szQ p → nodesQ p n = 25)
 | .mk _ _ _ _ _ _ _ _ args, n, h => by
  obtain ⟨h1, h2⟩ := nodesQs_eq args (n + 1) (by omega)
  simp only [nodesQ, szQ]
  exact ⟨fun e => by rw [h1 (by omega)]; omega, fun e => h2 (by omega)⟩
theorem nodesQs_eq : ∀ (ps : List Query) (n : Int), n ≤ 25 → (n + szQs ps ≤ 24 → nodesQs ps n = n + szQs ps) ∧ (24 < n + szQs ps → nodesQs ps n = 25)
 | [], n, h => by
  simp only [nodesQs, szQs]
  omega
 | p :: ps, n, h => by
  have h1 := szQ_pos p
  have h2 := szQs_pos ps
  simp only [nodesQs, szQs]
  by_cases h3 : n ≤ 24
  · rw [if_pos h3]
    have h4 := nodesQ_eq p n h3
    have h5 := (nodesQ_bound p n h3).2
    have h6 := nodesQs_eq ps _ h5
    by_cases h7 : n + szQ p ≤ 24
    · have h8 := h4.1 h7
      rw [h8] at h6 ⊢
      exact ⟨fun e => by rw [h6.1 (by omega)]; omega, fun e => h6.2 (by omega)⟩
    · have h8 := h4.2 (by omega)
      rw [h8] at h6 ⊢
      exact ⟨fun e => by omega, fun e => h6.2 (by omega)⟩
  · rw [if_neg h3]; omega
end
mutual
theorem visQ_eq : ∀ (p : Query) (k : Nat) (n : Int), n ≤ 24 → ((visQ p k n).1 = true ↔ n + szQ p ≤ 24 ∧ deeperQ p k = false) ∧ ((visQ p k n).1 = true → (visQ p k n).2 = n + szQ p)
 | .mk _ _ _ _ _ _ _ _ args, k, n, h => by
  have hp := szQs_pos args
  simp only [visQ, szQ]
  by_cases h0 : 24 < n + 1 ∨ k = 0
  · rw [if_pos h0]
    refine ⟨⟨fun e => (by cases e), fun e => ?_⟩, fun e => (by cases e)⟩
    rcases h0 with h0 | h0
    · omega
    · subst h0; simp [deeperQ] at e
  · rw [if_neg h0]
    obtain ⟨k', rfl⟩ : ∃ k', k = k' + 1 := ⟨k - 1, by omega⟩
    obtain ⟨h1, h2⟩ := visQs_eq args k' (n + 1) (by omega)
    simp only [deeperQ, Nat.add_sub_cancel]
    refine ⟨⟨fun e => ?_, fun e => h1.2 ⟨by omega, e.2⟩⟩, fun e => by have := h2 e; omega⟩
    have := h1.1 e
    exact ⟨by omega, this.2⟩
theorem visQs_eq : ∀ (ps : List Query) (k : Nat) (n : Int), n ≤ 24 → ((visQs ps k n).1 = true ↔ n + szQs ps ≤ 24 ∧ deeperQs ps k = false) ∧ ((visQs ps k n).1 = true → (visQs ps k n).2 = n + szQs ps)
 | [], k, n, h => by simp [visQs, szQs, deeperQs, h]
 | p :: ps, k, n, h => by
  obtain ⟨h1, h2⟩ := visQ_eq p k n h
  have hp := szQs_pos ps
  simp only [visQs, szQs, deeperQs]
  cases e : visQ p k n with
  | mk r n' =>
   rw [e] at h1 h2
   cases r with
   | false =>
    refine ⟨⟨fun e => (by cases e), fun e => ?_⟩, fun e => (by cases e)⟩
    have := h1.2 ⟨by omega, (Bool.or_eq_false_iff.1 e.2).1⟩
    cases this
   | true =>
    have h3 := h2 rfl
    have h1 := h1.1 rfl
    simp only at h3
    obtain ⟨h4, h5⟩ := visQs_eq ps k n' (by omega)
    refine ⟨⟨fun e => ?_, fun e => ?_⟩, fun e => by have := h5 e; simp only; omega⟩
    · have := h4.1 e
      exact ⟨by omega, by rw [h1.2, this.2]; rfl⟩
    · exact h4.2 ⟨by omega, (Bool.or_eq_false_iff.1 e.2).2⟩
end
theorem vis_small (q : Query) : (visQ q 8 0).1 = smallQ q := by
 have h1 := (visQ_eq q 8 0 (by omega)).1
 have h2 := nodesQ_eq q 0 (by omega)
 rw [Bool.eq_iff_iff, h1]
 simp only [smallQ, Bool.and_eq_true, decide_eq_true_eq, Bool.not_eq_true']
 refine and_congr_left fun _ => ⟨fun e => ?_, fun e => ?_⟩
 · rw [h2.1 (by omega)]; omega
 · by_cases h3 : 0 + szQ q ≤ 24
   · exact h3
   · rw [h2.2 (by omega)] at e; omega
def rangeOf : Code → Option (Code × Code)
 | .rangeFunc _ _ a b => some (a, b)
 | .seq x y => match rangeOf x with | some p => some p | none => rangeOf y
 | .block _ c => rangeOf c
 | _ => none
def rfA : Code := match rangeOf (bodyOf Tryz.f32) with | some p => p.1 | none => .skip
def rfB : Code := match rangeOf (bodyOf Tryz.f32) with | some p => p.2 | none => .skip
structure LR where
 fn : FuncId
 tmps : Array Value
 bn : Nat
 b6 : Nat
 b7 : Nat
 D : Nat
def recOf (R : LR) (st : LoopState) (pe : Option Code) : Loop := { state := st, pending := pe, fn := R.fn, tmps := R.tmps, params := #[37, 38], assign := rfA, body := rfB, defers := R.D }
def cellK : Obj := .cells #[.slice none 0 0] 39 (0, 0)
def cellE (n : Int) : Obj := .cells #[.int .i64 n] 50 (0, 0)
structure LoopAt (m : MH) (l : Nat) (R : LR) (n : Int) : Prop where
 loop : m l = some (.loop (recOf R .ready none))
 n_ : m R.bn = some (cell1 n)
 k_ : m R.b6 = some cellK
 e_ : m R.b7 = some (cellE 0)
 size : R.tmps.size = 53
 t11 : R.tmps[11]? = some (.pointer (some ⟨R.bn, 0, none⟩))
 t6 : R.tmps[6]? = some (.pointer (some ⟨R.b6, 0, none⟩))
 t7 : R.tmps[7]? = some (.pointer (some ⟨R.b7, 0, none⟩))
structure Stopped (m m' : MH) (l : Nat) (R : LR) : Prop where
 loop : m' l = some (.loop (recOf R .done (some .ret)))
 k_ : m' R.b6 = some cellK
 e_ : m' R.b7 = some (cellE 2)
 n_ : ∃ x, m' R.bn = some x
 other : ∀ b, b ≠ l → b ≠ R.bn → b ≠ R.b6 → b ≠ R.b7 → m' b = m b
theorem LoopAt.ne {l : Nat} {R : LR} {n : Int} (x : LoopAt m l R n) : l ≠ R.bn ∧ l ≠ R.b6 ∧ l ≠ R.b7 ∧ R.b6 ≠ R.bn ∧ R.b7 ≠ R.bn ∧ R.b6 ≠ R.b7 := by
 have h1 := x.loop
 have h2 := x.n_
 have h3 := x.k_
 have h4 := x.e_
 refine ⟨fun e => ?_, fun e => ?_, fun e => ?_, fun e => ?_, fun e => ?_, fun e => ?_⟩
 · rw [e, h2] at h1; cases h1
 · rw [e, h3] at h1; cases h1
 · rw [e, h4] at h1; cases h1
 · rw [e, h2] at h3; cases h3
 · rw [e, h2] at h4; cases h4
 · rw [e, h4] at h3; cases h3
theorem LoopAt.next {l : Nat} {R : LR} {n n' : Int} (x : LoopAt m l R n) (hu : MUpd m m' R.bn (cell1 n')) : LoopAt m' l R n' := by
 obtain ⟨h1, h2, h3, h4, h5, h6⟩ := x.ne
 exact ⟨by rw [hu.other l h1]; exact x.loop, hu.at_, by rw [hu.other _ h4]; exact x.k_, by rw [hu.other _ h5]; exact x.e_, x.size, x.t11, x.t6, x.t7⟩
theorem Stopped.from {m1 : MH} {l : Nat} {R : LR} {n' : Int} (hu : MUpd m m1 R.bn (cell1 n')) (h : Stopped m1 m' l R) : Stopped m m' l R :=
 ⟨h.loop, h.k_, h.e_, h.n_, fun b h1 h2 h3 h4 => (h.other b h1 h2 h3 h4).trans (hu.other b h2)⟩
def yv (l : Nat) : CV := .val (.func (.yield l) #[] #[])
def YS : Vc.Spec := fun cvs m h K => ∃ l level v R n, cvs = [yv l, cI level, aQ v] ∧ LoopAt m l R n ∧ 0 ≤ n ∧ n ≤ 24 ∧
 (∀ m', (24 < n + 1 ∨ 8 < level) → Stopped m m' l R → K (cB false) m' h) ∧ (∀ m', ¬ (24 < n + 1 ∨ 8 < level) → MUpd m m' R.bn (cell1 (n + 1)) → K (cB true) m' h)
def VisitS (N : Nat) : Vc.Spec := fun cvs m h K => ∃ v q, ∃ k l : Nat, ∃ R n, cvs = [aQ v, cI (9 - k), yv l] ∧ RepQ h q v ∧ SizeOf.sizeOf q < N ∧ k ≤ 9 ∧ LoopAt m l R n ∧ 0 ≤ n ∧ n ≤ 24 ∧
 (∀ m', (visQ q k n).1 = false → Stopped m m' l R → K (cB false) m' h) ∧ (∀ m', (visQ q k n).1 = true → MUpd m m' R.bn (cell1 (visQ q k n).2) → K (cB true) m' h)
def cPtr (b : Nat) : CV := .val (.pointer (some ⟨b, 0, none⟩))
def WalkS : Vc.Spec := fun cvs m h K => ∃ v q l bq R, cvs = [yv l, cPtr bq] ∧ m bq = some (.cells ⟨v.enc⟩ 43 (0, 0)) ∧ RepQ h q v ∧ LoopAt m l R 0 ∧
 (∀ m', (visQ q 8 0).1 = false → Stopped m m' l R → K (.tup []) m' h) ∧ (∀ m', (visQ q 8 0).1 = true → MUpd m m' R.bn (cell1 (visQ q 8 0).2) → K (.tup []) m' h)
def MakeWalkS : Vc.Spec := fun cvs m h K => ∃ v, cvs = [aQ v] ∧ ∀ b m', Unheld m h b → MUpd m m' b (.cells ⟨v.enc⟩ 43 (0, 0)) → K (.val (.func (.func 90) #[] #[.pointer (some ⟨b, 0, none⟩)])) m' h
def f91_ctx (N : Nat) (v : QV) (k l : Nat) (h : PH) : Ctx :=
 { ctx2 [(91, VisitS N)] [(4, { A := Nat × MH, st := fun ⟨i, m⟩ => mkSt 28 31 [(1, iv (9 - k)), (2, vv (.func (.yield l) #[] #[])), (15, sv v.args), (16, iv v.args.len), (17, iv i)] [] m h })] [] [] false with yield := some YS }
def f91_nice (N : Nat) (v : QV) (k l : Nat) (m : MH) (h : PH) (K : CV → MH → PH → Prop) : Prop :=
 YSound Tryz.prog YS /\ ∃ (l_1 : Nat) (level : Int), ∃ (v_1 : QV) (R : LR) (n : Int), [CV.val (Value.func (Fn.yield l) (Array.mk []) (Array.mk [])), cQi (9 - (↑k : Int)), cQa
 (QV.enc v)] = [CV.val (Value.func (Fn.yield l_1) (Array.mk []) (Array.mk [])), cQi level, cQa (QV.enc v_1)] /\ LoopAt m l_1 R n /\ 0 <= n /\ n <= 24 /\ (∀ (m' : MH), 24 < n + 1 ∨ 8
 < level -> Stopped m m' l_1 R -> K (cQb false) m' h) /\ ∀ (m' : MH), (24 < n + 1 ∨ 8 < level -> False) -> MUpd m m' R.bn (Obj.cells (Array.mk [vQi (n + 1)]) 3) -> ∃ (I : Nat × MH
 -> Prop) (mu : Nat × MH -> Nat), (∃ (x : Nat × MH), I x /\ eQ (sQi (9 - (↑k : Int))) /\ eQ (SV.at (At.val (Value.func (Fn.yield l) (Array.mk []) (Array.mk [])))) /\ eQ (sQs v.args)
 /\ eQ (sQi ↑v.args.len) /\ sQi 0 = sQi ↑x.1 /\ m' = x.2 /\ h = h /\ True) /\ ∀ (x : Nat × MH), I x -> branch (decide ((↑x.1 : Int) < ↑v.args.len)) (∃ (b off : Nat), v.args.a = some
 (Addr.mk b off none) /\ 0 <= (↑x.1 : Int) /\ (↑x.1 : Int) < ↑v.args.len /\ ∃ (y : QV), RdAt x.2 h b (off + (↑x.1 : Int).toNat * 21) (QV.enc y) /\ ∃ (v_2 : QV) (q : Query), ∃ (k_1
 l_2 : Nat) (R : LR) (n : Int), [cQa (QV.enc y), cQi (IntKind.i64.wrap (9 - (↑k : Int) + 1)), CV.val (Value.func (Fn.yield l) (Array.mk []) (Array.mk []))] = [cQa (QV.enc v_2), cQi
 (9 - (↑k_1 : Int)), CV.val (Value.func (Fn.yield l_2) (Array.mk []) (Array.mk []))] /\ RepQ h q v_2 /\ SizeOf.sizeOf q < N /\ k_1 <= 9 /\ LoopAt x.2 l_2 R n /\ 0 <= n /\ n <= 24 /\
 (∀ (m' : MH), (visQ q k_1 n).1 = false -> Stopped x.2 m' l_2 R -> K (cQb false) m' h) /\ ∀ (m' : MH), (visQ q k_1 n).1 = true -> MUpd x.2 m' R.bn (Obj.cells (Array.mk [vQi (visQ q
 k_1 n).2]) 3) -> ∃ (x_1 : Nat × MH), I x_1 /\ mu x_1 < mu x /\ eQ (sQi (9 - (↑k : Int))) /\ eQ (SV.at (At.val (Value.func (Fn.yield l) (Array.mk []) (Array.mk [])))) /\ eQ (sQs
 v.args) /\ eQ (sQi ↑v.args.len) /\ sQi (IntKind.i64.wrap ((↑x.1 : Int) + 1)) = sQi ↑x_1.1 /\ m' = x_1.2 /\ h = h /\ True) (K (cQb true) x.2 h)
theorem f91_vc (N : Nat) (v : QV) (k l : Nat) (m : MH) (h : PH) (K : CV → MH → PH → Prop) : f91_nice N v k l m h K = (fnVC (f91_ctx N v k l h) Tryz.f91 (bodyOf Tryz.f91) (entry Tryz.f91.ntmps [aQ v, cI (9 - k), yv l] m h) K) := by kernel_rfl
def f90_nice (N : Nat) (l bq : Nat) (m : MH) (h : PH) (K : CV → MH → PH → Prop) : Prop :=
 ∃ (y : QV), RdAt m h bq 0 (QV.enc y) /\ ∃ (v : QV) (q : Query), ∃ (k l_1 : Nat) (R : LR) (n : Int), [cQa (QV.enc y), cQi 1, CV.val (Value.func (Fn.yield l) (Array.mk []) (Array.mk
 []))] = [cQa (QV.enc v), cQi (9 - (↑k : Int)), CV.val (Value.func (Fn.yield l_1) (Array.mk []) (Array.mk []))] /\ RepQ h q v /\ SizeOf.sizeOf q < N /\ k <= 9 /\ LoopAt m l_1 R n /\
 0 <= n /\ n <= 24 /\ (∀ (m' : MH), (visQ q k n).1 = false -> Stopped m m' l_1 R -> K (CV.tup []) m' h) /\ ∀ (m' : MH), (visQ q k n).1 = true -> MUpd m m' R.bn (Obj.cells (Array.mk
 [vQi (visQ q k n).2]) 3) -> K (CV.tup []) m' h
theorem f90_vc (N : Nat) (l bq : Nat) (m : MH) (h : PH) (K : CV → MH → PH → Prop) : f90_nice N l bq m h K = (fnVC (ctx2 [(91, VisitS N)] [] [] [] false) Tryz.f90 (bodyOf Tryz.f90) (entry Tryz.f90.ntmps [yv l, cPtr bq] m h) K) := by kernel_rfl
def f64_nice (v : QV) (m : MH) (h : PH) (K : CV → MH → PH → Prop) : Prop :=
 ∀ (b : Nat) (m' : MH), Unheld m h b -> MUpd m m' b (Obj.cells (Array.mk (QV.enc v)) 43) -> K (CV.val (Value.func (Fn.func 90) (Array.mk []) (Array.mk [vQp b 0]))) m' h
theorem f64_vc (v : QV) (m : MH) (h : PH) (K : CV → MH → PH → Prop) : f64_nice v m h K = (fnVC (ctx2 [] [] [] [] false) Tryz.f64 (bodyOf Tryz.f64) (entry Tryz.f64.ntmps [aQ v] m h) K) := by kernel_rfl
theorem f91_ok (hY : YSound Tryz.prog YS) {l : Nat} {R : LR} {n : Int} (hq : RepQ h q v) (hN : SizeOf.sizeOf q < N + 1) (hk : k ≤ 9) (hL : LoopAt m l R n) (h0 : 0 ≤ n) (h1 : n ≤ 24)
 (hf : ∀ m', (visQ q k n).1 = false → Stopped m m' l R → K (cB false) m' h) (ht : ∀ m', (visQ q k n).1 = true → MUpd m m' R.bn (cell1 (visQ q k n).2) → K (cB true) m' h) : f91_nice N v k l m h K := by
 have hargs := hq.args
 have hlen := hargs.slen
 have hl := hargs.len
 refine ⟨hY, l, 9 - k, v, R, n, rfl, hL, h0, h1, fun m' hc hs => hf m' ?_ hs, fun m' hc hu => ?_⟩
 · cases q; simp only [visQ]; rw [if_pos (by omega)]
 have hc : ¬ (24 < n + 1 ∨ 8 < 9 - (k : Int)) := hc
 have hu' : MUpd m m' R.bn (cell1 (n + 1)) := hu
 have hv : visQ q k n = visQs q.args (k - 1) (n + 1) := by cases q; simp only [visQ, Query.args]; rw [if_neg (by omega)]
 rw [hv] at hf ht
 refine ⟨fun ⟨i, mx⟩ => ∃ n', i ≤ q.args.length ∧ 0 ≤ n' ∧ n' ≤ 24 ∧ MUpd m mx R.bn (cell1 n') ∧ visQs (q.args.drop i) (k - 1) n' = visQs q.args (k - 1) (n + 1), fun ⟨i, _⟩ => q.args.length - i, ⟨(0, m'), ⟨n + 1, by omega, by omega, by omega, hu', by simp⟩, MT⟩, ?_⟩
 rintro ⟨i, mx⟩ ⟨n', hi, hn0, hn1, hmx, he⟩
 dsimp only
 refine branch_dec (fun hlt => ?_) (fun hge => ?_)
 · obtain ⟨p, hp⟩ := getx hlen hlt
   obtain ⟨b, o, u, ea, hrd, hru⟩ := hargs.at hp
   have hd := drop_cons hp
   rw [hd, visQs] at he
   refine ⟨b, o, ea, by omega, hlt, u, .imm hrd, u, p, k - 1, l, R, n', ?_, hru, ?_, by omega, hL.next hmx, hn0, hn1, fun m2 hx hs => ?_, fun m2 hx hu2 => ?_⟩
   · rw [wrap_id (by omega) (by omega), show (9 - ((k - 1 : Nat) : Int)) = 9 - (k : Int) + 1 by omega]
   · have := qargs_lt (List.mem_of_getElem? hp); omega
   · refine hf m2 ?_ (hs.from hmx)
     rw [← he]
     cases e : visQ p (k - 1) n' with
     | mk r x => rw [e] at hx; simp only at hx; subst hx; rfl
   · have hu2' : MUpd mx m2 R.bn (cell1 (visQ p (k - 1) n').2) := hu2
     have hs := visQ_eq p (k - 1) n' hn1
     have hs1 := hs.1.1 hx
     have hs2 := hs.2 hx
     have hp1 := szQ_pos p
     cases e : visQ p (k - 1) n' with
     | mk r x =>
      rw [e] at hx he hs2 hu2'
      simp only at hx hs2 hu2'
      subst hx
      exact ⟨(i + 1, m2), ⟨x, by omega, by omega, by omega, hmx.trans hu2', he⟩, by show q.args.length - (i + 1) < q.args.length - i; omega, MT⟩
 · rw [List.drop_of_length_le (by omega), visQs] at he
   rw [← he] at ht
   exact ht mx rfl hmx
theorem f91_all (hY : YSound Tryz.prog YS) : ∀ N, Sound Tryz.prog 91 (VisitS N)
 | 0 => by
  refine fn_sound (fn := Tryz.f91) (c := bodyOf Tryz.f91) Tryz.func91 rfl (by decide) ?_
  rintro cvs m h K ⟨v, q, k, l, R, n, rfl, _, hN, _⟩
  omega
 | N + 1 => by
  refine fn_sound (fn := Tryz.f91) (c := bodyOf Tryz.f91) Tryz.func91 rfl (by decide) ?_
  rintro cvs m h K ⟨v, q, k, l, R, n, rfl, hq, hN, hk, hL, h0, h1, hf, ht⟩
  refine ⟨f91_ctx N v k l h, rfl, specs_cons (f91_all hY N) specs_nil, ?_⟩
  rw [← f91_vc N v k l m h K]
  exact f91_ok hY hq hN hk hL h0 h1 hf ht
theorem f90_sound (hY : YSound Tryz.prog YS) : Sound Tryz.prog 90 WalkS := by
 refine fn_sound (fn := Tryz.f90) (c := bodyOf Tryz.f90) Tryz.func90 rfl (by decide) ?_
 rintro cvs m h K ⟨v, q, l, bq, R, rfl, hb, hq, hL, hf, ht⟩
 refine ⟨ctx2 [(91, VisitS (SizeOf.sizeOf q + 1))] [] [] [] false, rfl, specs_cons (f91_all hY _) specs_nil, ?_⟩
 rw [← f90_vc (SizeOf.sizeOf q + 1) l bq m h K]
 exact ⟨v, .of_m hb rfl, v, q, 8, l, R, 0, rfl, hq, by omega, by omega, hL, by omega, by omega, hf, ht⟩
theorem f64_sound : Sound Tryz.prog 64 MakeWalkS := by
 refine fn_sound (fn := Tryz.f64) (c := bodyOf Tryz.f64) Tryz.func64 rfl (by decide) ?_
 rintro cvs m h K ⟨v, rfl, hK⟩
 refine ⟨ctx2 [] [] [] [] false, rfl, specs_nil, ?_⟩
 rw [← f64_vc v m h K]
 exact hK
end
end Go.Ps
