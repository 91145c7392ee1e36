/-
  Part 7 of a proof that a law of the given program returns true: a condition generator that is proved sound, and contracts of functions. No condition of its own. Own work, joined by a program (pack2.py).
-/
import Derived.Test.YtogokeienebdfaaGreatDoorMf
namespace Go.Ps
open Go Go.Vc Go.Proofs
noncomputable section
variable {K : CV → MH → PH → Prop} {m : MH} {h : PH} {s : Sch} {ps : List Int} {ts : List Step} {cb : Nat} {sc : SchV} {v : QV} {q : Query} {t : Step} {p : Pred} {l : List Int} {i : Nat} {N : Nat} {m' : MH} {h' : PH} {co : List Int} {gr : List Int} {od : List (Int × Bool)} {w : Pred} {ta : Int} {li : Int} {xs : List (List Value)} {sz : Nat} {k : Nat} {ks : List (List Int)} {rs : List Int} {r : Sl} {a : List Int} {b : Nat}
def fitB (a : Int) (n : Bool) (e : Int) : Bool := if n = true then decide (0 ≤ a) && decide (a < e) else a == 0
def FitsS : Vc.Spec := fun cvs m h K => ∃ a n e, cvs = [cI a, cB n, cI e] ∧ K (cB (fitB a n e)) m h
def ZeroPS : Vc.Spec := fun cvs m h K => ∃ v p, cvs = [aP v] ∧ RepP h p v ∧ ∀ r : Bool, (r = true ↔ p = zeroP) → K (cB r) m h
def UnusedTS : Vc.Spec := fun cvs m h K => ∃ v t, cvs = [aT v] ∧ RepSt h t v ∧ ∀ r : Bool, (r = true ↔ UnusedOk t.query) → K (cB r) m h
def f96_ctx (v : SV2) (m : MH) (h : PH) : Ctx :=
 ctx2 [(122, ZeroPS)] [] ([3, 5, 7, 9].map fun k => (k, { A := Unit, st := fun _ => mkSt 66 67 [(1, .at (.ptr 1 0))] [(1, .cells 60 (v.enc.map .val))] m h })) [] false
def f73_nice (op : Int) (m : MH) (h : PH) (K : CV → MH → PH → Prop) : Prop :=
 branch (op == 1) (K (cQi 0) m h) (branch (op == 2) (K (cQi 1) m h) (branch (op == 3) (K (cQi 1) m h) (branch (op == 9) (K (cQi 1) m h) (branch (op == 4) (K (cQi 2) m h) (branch (op
 == 5) (K (cQi 2) m h) (branch (op == 6) (K (cQi 2) m h) (branch (op == 7) (K (cQi 2) m h) (branch (op == 8) (K (cQi 2) m h) (branch (op == 10) (K (cQi 2) m h) (K (cQi (Int.negSucc
 0)) m h))))))))))
theorem f73_vc (op : Int) (m : MH) (h : PH) (K : CV → MH → PH → Prop) : f73_nice op m h K = (fnVC (ctx2 [] [] [] [] false) Tryz.f73 (bodyOf Tryz.f73) (entry Tryz.f73.ntmps [cI op] m h) K) := by kernel_rfl
def f95_nice (a : Int) (n : Bool) (e : Int) (m : MH) (h : PH) (K : CV → MH → PH → Prop) : Prop :=
 branch n (branch (decide (a ≥ 0)) (K (cQb (decide (a < e))) m h) (K (cQb false) m h)) (K (cQb (a == 0)) m h)
theorem f95_vc (a : Int) (n : Bool) (e : Int) (m : MH) (h : PH) (K : CV → MH → PH → Prop) : f95_nice a n e m h K = (fnVC (ctx2 [] [] [] [] false) Tryz.f95 (bodyOf Tryz.f95) (entry Tryz.f95.ntmps [cI a, cB n, cI e] m h) K) := by kernel_rfl
def f122_nice (v : PV) (m : MH) (h : PH) (K : CV → MH → PH → Prop) : Prop :=
 branch (v.op == 0) (branch (v.cmp == 0) (∃ (r : Bool), StructEq Tryz.prog 35 (Value.agg (Array.mk (OV.enc v.left))) (Value.agg (Array.mk [vQi 0, vQi 0, vQi 0, vQi 0, vQz])) r /\
 branch r (∃ (r : Bool), StructEq Tryz.prog 35 (Value.agg (Array.mk (OV.enc v.right))) (Value.agg (Array.mk [vQi 0, vQi 0, vQi 0, vQi 0, vQz])) r /\ branch r (K (cQb ((↑v.args.len :
 Int) == 0)) m h) (K (cQb false) m h)) (K (cQb false) m h)) (K (cQb false) m h)) (K (cQb false) m h)
theorem f122_vc (v : PV) (m : MH) (h : PH) (K : CV → MH → PH → Prop) : f122_nice v m h K = (fnVC (ctx2 [] [] [] [] false) Tryz.f122 (bodyOf Tryz.f122) (entry Tryz.f122.ntmps [aP v] m h) K) := by kernel_rfl
def f96_nice (v : SV2) (m : MH) (h : PH) (K : CV → MH → PH → Prop) : Prop :=
 ∃ (I : Unit -> Prop), branch (v.op != 1) (branch (v.table != 0) (K (cQb false) m h) (∃ (x : Unit), I x /\ eP 1 /\ eQ (oQ 60 (List.map At.val (SV2.enc v))) /\ m = m /\ h = h /\
 True)) (∃ (x : Unit), I x /\ eP 1 /\ eQ (oQ 60 (List.map At.val (SV2.enc v))) /\ m = m /\ h = h /\ True) /\ ∀ (x : Unit), I x -> ∃ (I : Unit -> Prop), branch (v.op != 2) (∃ (v_1 :
 PV) (p : Pred), [cQa (PV.enc v.where_)] = [cQa (PV.enc v_1)] /\ RepP h p v_1 /\ ∀ (r : Bool), (r = true ↔ p = Pred.mk 0 0 (OV.mk 0 0 (VV.mk 0 0 (ByteArray.mk (Array.mk []))))
 (OV.mk 0 0 (VV.mk 0 0 (ByteArray.mk (Array.mk [])))) []) -> branch (!r) (K (cQb false) m h) (∃ (x : Unit), I x /\ eP 1 /\ eQ (oQ 60 (List.map At.val (SV2.enc v))) /\ m = m /\ h = h
 /\ True)) (∃ (x : Unit), I x /\ eP 1 /\ eQ (oQ 60 (List.map At.val (SV2.enc v))) /\ m = m /\ h = h /\ True) /\ ∀ (x : Unit), I x -> ∃ (I : Unit -> Prop), branch (v.op != 3) (branch
 (decide ((↑v.columns.len : Int) > 0)) (K (cQb false) m h) (∃ (x : Unit), I x /\ eP 1 /\ eQ (oQ 60 (List.map At.val (SV2.enc v))) /\ m = m /\ h = h /\ True)) (∃ (x : Unit), I x /\
 eP 1 /\ eQ (oQ 60 (List.map At.val (SV2.enc v))) /\ m = m /\ h = h /\ True) /\ ∀ (x : Unit), I x -> ∃ (I : Unit -> Prop), branch (v.op != 4) (branch (v.op != 5) (branch (decide
 ((↑v.on.len : Int) > 0)) (K (cQb false) m h) (∃ (x : Unit), I x /\ eP 1 /\ eQ (oQ 60 (List.map At.val (SV2.enc v))) /\ m = m /\ h = h /\ True)) (∃ (x : Unit), I x /\ eP 1 /\ eQ (oQ
 60 (List.map At.val (SV2.enc v))) /\ m = m /\ h = h /\ True)) (∃ (x : Unit), I x /\ eP 1 /\ eQ (oQ 60 (List.map At.val (SV2.enc v))) /\ m = m /\ h = h /\ True) /\ ∀ (x : Unit), I x
 -> branch (v.op != 9) (branch (v.op != 10) (branch ((↑v.group.len : Int) == 0) (branch ((↑v.order.len : Int) == 0) (K (cQb (v.limit == 0)) m h) (K (cQb false) m h)) (K (cQb false)
 m h)) (K (cQb true) m h)) (K (cQb true) m h)
theorem f96_vc (v : SV2) (m : MH) (h : PH) (K : CV → MH → PH → Prop) : f96_nice v m h K = (fnVC (f96_ctx v m h) Tryz.f96 (bodyOf Tryz.f96) (entry Tryz.f96.ntmps [aT v] m h) K) := by kernel_rfl
theorem f73_ok {op : Int} (hK : K (cI (arity op)) m h) : f73_nice op m h K := by
 unfold f73_nice
 repeat' (first | (refine branch_intro (fun _ => ?_) (fun _ => ?_)) | (refine retI hK ?_; simp only [arity]; simp only [*, Bool.or_false, Bool.false_or, Bool.or_true, Bool.true_or, Bool.and_true, Bool.true_and, Bool.and_false, Bool.false_and, Bool.not_true, Bool.not_false, Bool.false_eq_true, if_true, if_false, ↓reduceIte]; done) | (refine retI hK ?_; simp only [arity]; simp only [*, Bool.or_false, Bool.false_or, Bool.or_true, Bool.true_or, Bool.and_true, Bool.true_and, Bool.and_false, Bool.false_and, Bool.not_true, Bool.not_false, Bool.false_eq_true, if_true, if_false, ↓reduceIte]; rfl))
theorem f73_sound : Sound Tryz.prog 73 ArityS := by
 refine fn_sound (fn := Tryz.f73) (c := bodyOf Tryz.f73) Tryz.func73 rfl (by decide) ?_
 rintro cvs m h K ⟨op, rfl, hK⟩
 refine ⟨ctx2 [] [] [] [] false, rfl, specs_nil, ?_⟩
 rw [← f73_vc op m h K]
 exact f73_ok hK
theorem f95_ok {a : Int} {n : Bool} {e : Int} (hK : K (cB (fitB a n e)) m h) : f95_nice a n e m h K := by
 unfold fitB at hK
 refine branch_intro (fun h1 => ?_) (fun h1 => ?_)
 · rw [if_pos h1] at hK
   refine branch_dec (fun h2 => retB hK ?_) (fun h2 => retB hK ?_)
   · rw [decide_eq_true h2]; rfl
   · rw [decide_eq_false h2]; rfl
 · rw [if_neg (by simp [h1])] at hK
   exact retB hK rfl
theorem f95_sound : Sound Tryz.prog 95 FitsS := by
 refine fn_sound (fn := Tryz.f95) (c := bodyOf Tryz.f95) Tryz.func95 rfl (by decide) ?_
 rintro cvs m h K ⟨a, n, e, rfl, hK⟩
 refine ⟨ctx2 [] [] [] [] false, rfl, specs_nil, ?_⟩
 rw [← f95_vc a n e m h K]
 exact f95_ok hK
theorem f122_ok {v : PV} (hp : RepP h p v) (hK : ∀ r : Bool, (r = true ↔ p = zeroP) → K (cB r) m h) : f122_nice v m h K := by
 obtain ⟨op, cmp, l, r, args⟩ := p
 obtain ⟨rfl, rfl, rfl, rfl, ha⟩ := hp.parts
 have l0 := len0 ha.slen
 have bad : ¬ (Pred.mk v.op v.cmp v.left v.right args = zeroP) → K (.val (.bool false)) m h := fun hn => hK false ⟨fun e => (by cases e), fun e => (hn e).elim⟩
 simp only [zeroP, Pred.mk.injEq] at hK bad
 refine branch_intro (fun h1 => branch_intro (fun h2 => ⟨_, eqO_law v.left zeroO, branch_intro (fun h3 => ⟨_, eqO_law v.right zeroO, branch_intro (fun h4 => hK _ ?_) (fun h4 => bad ?_)⟩) (fun h3 => bad ?_)⟩) (fun h2 => bad ?_)) (fun h1 => bad ?_)
 · rw [l0]
   exact ⟨fun e => ⟨by simpa using h1, by simpa using h2, eqO_iff.1 h3, eqO_iff.1 h4, e⟩, fun e => e.2.2.2.2⟩
 · intro e; rw [eqO_iff.2 e.2.2.2.1] at h4; cases h4
 · intro e; rw [eqO_iff.2 e.2.2.1] at h3; cases h3
 · intro e; rw [e.2.1] at h2; cases h2
 · intro e; rw [e.1] at h1; cases h1
theorem f122_sound : Sound Tryz.prog 122 ZeroPS := by
 refine fn_sound (fn := Tryz.f122) (c := bodyOf Tryz.f122) Tryz.func122 rfl (by decide) ?_
 rintro cvs m h K ⟨v, p, rfl, hp, hK⟩
 refine ⟨ctx2 [] [] [] [] false, rfl, specs_nil, ?_⟩
 rw [← f122_vc v m h K]
 exact f122_ok hp hK
theorem f96_ok {v : SV2} (x : RepSt h t v) (hK : ∀ r : Bool, (r = true ↔ UnusedOk t.query) → K (cB r) m h) : f96_nice v m h K := by
 obtain ⟨op, ta, w, co, on, gr, od, li, le, ri⟩ := t
 obtain ⟨e0, e1, xw, xc, xo, xg, xs, e2, _, _⟩ := x
 simp only at e0 e1 xw xc xo xg xs e2
 have l1 := len0 xc.slen
 have l2 := len0 xo.slen
 have l3 := len0 xg.slen
 have l4 := len0 xs.slen
 simp only [Step.query, UnusedOk] at hK
 subst e0 e1 e2
 have bad : ∀ {P : Prop}, ¬ P → ((v.op = 1 ∨ v.table = 0) ∧ (v.op = 2 ∨ w = zeroP) ∧ (v.op = 3 ∨ co = []) ∧ (v.op = 4 ∨ v.op = 5 ∨ on = []) ∧ (v.op = 9 ∨ v.op = 10 ∨ (gr = [] ∧ od = [] ∧ v.limit = 0)) → P) → K (.val (.bool false)) m h := fun hn hp => hK false ⟨fun e => (by cases e), fun e => (hn (hp e)).elim⟩
 have pos : ∀ {n : Nat} {α : Type} {l : List α}, n = l.length → ((n : Int) > 0 ↔ l ≠ []) := fun {n α l} e => by rw [e, ne_eq, ← List.length_eq_zero_iff]; omega
 refine ⟨fun _ => v.op = 1 ∨ v.table = 0, branch_intro (fun h1 => branch_intro (fun h2 => bad (P := v.op = 1 ∨ v.table = 0) ?_ fun e => e.1) (fun h2 => ⟨(), .inr (by simpa using h2), MT⟩)) (fun h1 => ⟨(), .inl (by simpa using h1), MT⟩), fun _ c1 => ?_⟩
 · rw [not_or]; exact ⟨by simpa using h1, by simpa using h2⟩
 refine ⟨fun _ => v.op = 2 ∨ w = zeroP, branch_intro (fun h1 => ⟨v.where_, w, rfl, xw, fun r hr => branch_intro (fun h2 => bad (P := v.op = 2 ∨ w = zeroP) ?_ fun e => e.2.1) (fun h2 => ⟨(), .inr (hr.1 (by simpa using h2)), MT⟩)⟩) (fun h1 => ⟨(), .inl (by simpa using h1), MT⟩), fun _ c2 => ?_⟩
 · rw [not_or]; refine ⟨by simpa using h1, fun e => ?_⟩
   rw [hr.2 e] at h2; cases h2
 refine ⟨fun _ => v.op = 3 ∨ co = [], branch_intro (fun h1 => branch_dec (fun h2 => bad (P := v.op = 3 ∨ co = []) ?_ fun e => e.2.2.1) (fun h2 => ⟨(), .inr ?_, MT⟩)) (fun h1 => ⟨(), .inl (by simpa using h1), MT⟩), fun _ c3 => ?_⟩
 · rw [not_or]; exact ⟨by simpa using h1, (pos xc.slen).1 h2⟩
 · exact Classical.byContradiction fun e => h2 ((pos xc.slen).2 e)
 refine ⟨fun _ => v.op = 4 ∨ v.op = 5 ∨ on = [], branch_intro (fun h1 => branch_intro (fun h1' => branch_dec (fun h2 => bad (P := v.op = 4 ∨ v.op = 5 ∨ on = []) ?_ fun e => e.2.2.2.1) (fun h2 => ⟨(), .inr (.inr ?_), MT⟩)) (fun h1' => ⟨(), .inr (.inl (by simpa using h1')), MT⟩)) (fun h1 => ⟨(), .inl (by simpa using h1), MT⟩), fun _ c4 => ?_⟩
 · rw [not_or, not_or]; exact ⟨by simpa using h1, by simpa using h1', (pos xo.slen).1 h2⟩
 · exact Classical.byContradiction fun e => h2 ((pos xo.slen).2 e)
 refine branch_intro (fun h1 => branch_intro (fun h2 => ?_) (fun h2 => hK true ⟨fun _ => ⟨c1, c2, c3, c4, .inr (.inl (by simpa using h2))⟩, fun _ => rfl⟩)) (fun h1 => hK true ⟨fun _ => ⟨c1, c2, c3, c4, .inl (by simpa using h1)⟩, fun _ => rfl⟩)
 have h1 : v.op ≠ 9 := by simpa using h1
 have h2 : v.op ≠ 10 := by simpa using h2
 have bad2 : ¬ (gr = [] ∧ od = [] ∧ v.limit = 0) → K (.val (.bool false)) m h := fun hn => bad hn fun e => (e.2.2.2.2.resolve_left h1).resolve_left h2
 refine branch_intro (fun h3 => branch_intro (fun h4 => hK _ ?_) (fun h4 => bad2 fun e => ?_)) (fun h3 => bad2 fun e => ?_)
 · rw [beq_iff_eq]
   exact ⟨fun e => ⟨c1, c2, c3, c4, .inr (.inr ⟨l3.1 h3, l4.1 h4, e⟩)⟩, fun e => ((e.2.2.2.2.resolve_left h1).resolve_left h2).2.2⟩
 · rw [l4.2 e.2.1] at h4; cases h4
 · rw [l3.2 e.1] at h3; cases h3
theorem f96_sound : Sound Tryz.prog 96 UnusedTS := by
 refine fn_sound (fn := Tryz.f96) (c := bodyOf Tryz.f96) Tryz.func96 rfl (by decide) ?_
 rintro cvs m h K ⟨v, t, rfl, x, hK⟩
 refine ⟨f96_ctx v m h, rfl, specs_cons f122_sound specs_nil, ?_⟩
 rw [← f96_vc v m h K]
 exact f96_ok x hK
open Classical in
def projR (a co : List Int) : List Int × Int := if co ≠ [] ∧ Good (fun _ c => inL a c = true) co then limK (co.map fun c => a.getD c.toNat 0) else errK 120
def ProjS : Vc.Spec := fun cvs m h K => ∃ s t a co, cvs = [cS s, cS t] ∧ Ints h s a ∧ Ints h t co ∧ KR K m h (projR a co)
def PairsFitS : Vc.Spec := fun cvs m h K => ∃ s t u a b on, cvs = [cS s, cS t, cS u] ∧ Ints h s a ∧ Ints h t b ∧ Pairs h u on ∧ a.length ≤ 1000 ∧ b.length ≤ 1000 ∧ ∀ r : Bool, (r = true ↔ Good (PairT a b) on) → K (cB r) m h
def OrderFitsS : Vc.Spec := fun cvs m h K => ∃ s v a t, cvs = [cS s, aT v] ∧ Ints h s a ∧ RepSt h t v ∧ a.length ≤ 1000 ∧ ∀ r : Bool, (r = true ↔ RankOk a t.group t.order t.limit) → K (cB r) m h
def eB (b : Bool) : List Value := [.bool b]
def f97_ctx (s t : Sl) (m : MH) (h : PH) : Ctx :=
 ctx2 [] [(4, { A := Nat, st := fun i => mkSt 51 53 [(0, sv s), (1, sv t), (14, sv t), (15, iv t.len), (16, iv i)] [] m h }),
  (13, { A := Nat × List Int, st := fun ⟨i, l⟩ => mkSt 51 53 [(0, sv s), (8, .at (.lst 34)), (35, sv t), (36, iv t.len), (37, iv i)] [(34, .lst 3 1 (l.map eI))] m h })] [] [] false
def f98_ctx (s t u : Sl) (m : MH) (h : PH) : Ctx :=
 ctx2 [] [(4, { A := Nat × List Bool × List Bool, st := fun ⟨i, x, y⟩ => mkSt 75 78 [(0, sv s), (1, sv t), (7, .at (.lst 15)), (8, .at (.lst 18)), (19, sv u), (20, iv u.len), (21, iv i)] [(15, .lst 4 1 (x.map eB)), (18, .lst 4 1 (y.map eB))] m h })]
  [(9, { A := Nat × List Bool × List Bool × Int × Int, st := fun ⟨i, x, y, a, b⟩ => mkSt 75 78 [(0, sv s), (1, sv t), (7, .at (.lst 15)), (8, .at (.lst 18)), (11, iv a), (12, iv b), (19, sv u), (20, iv u.len), (21, iv i)] [(15, .lst 4 1 (x.map eB)), (18, .lst 4 1 (y.map eB))] m h })] [] false
def f100_ctx (s : Sl) (v : SV2) (m : MH) (h : PH) : Ctx :=
 ctx2 [] [(3, { A := Nat × List Bool, st := fun ⟨i, x⟩ => mkSt 68 70 [(0, sv s), (3, .at (.ptr 3 0)), (5, .at (.lst 12)), (14, sv v.group), (15, iv v.group.len), (16, iv i)] [(3, .cells 60 (v.enc.map .val)), (12, .lst 4 1 (x.map eB))] m h }),
  (12, { A := Nat, st := fun i => mkSt 68 70 [(0, sv s), (3, .at (.ptr 3 0)), (43, sv v.order), (44, iv v.order.len), (45, iv i)] [(3, .cells 60 (v.enc.map .val))] m h })] [] [] false
def f97_nice (s t : Sl) (m : MH) (h : PH) (K : CV → MH → PH → Prop) : Prop :=
 branch ((↑t.len : Int) == 0) (K (CV.tup [cQn, cQi 120]) m h) (∃ (I : Nat -> Prop) (mu : Nat -> Nat), (∃ (x : Nat), I x /\ eQ (sQs s) /\ eQ (sQs t) /\ eQ (sQs t) /\ eQ (sQi ↑t.len)
 /\ sQi 0 = sQi ↑x /\ m = m /\ h = h /\ True) /\ ∀ (x : Nat), I x -> branch (decide ((↑x : Int) < ↑t.len)) (∃ (b off : Nat), t.a = some (Addr.mk b off none) /\ 0 <= (↑x : Int) /\
 (↑x : Int) < ↑t.len /\ ∃ (y : Int), RdAt m h b (off + (↑x : Int).toNat * 1) [vQi y] /\ branch (decide (y < 0)) (K (CV.tup [cQn, cQi 120]) m h) (branch (decide (y ≥ (↑s.len : Int)))
 (K (CV.tup [cQn, cQi 120]) m h) (∃ (x_1 : Nat), I x_1 /\ mu x_1 < mu x /\ eQ (sQs s) /\ eQ (sQs t) /\ eQ (sQs t) /\ eQ (sQi ↑t.len) /\ sQi (IntKind.i64.wrap ((↑x : Int) + 1)) = sQi
 ↑x_1 /\ m = m /\ h = h /\ True))) (branch (decide ((↑t.len : Int) > 12)) (K (CV.tup [cQn, cQi 2]) m h) (0 <= (↑t.len : Int) /\ (↑t.len : Int) <= ↑t.len /\ (↑t.len : Int) * 8 <=
 281474976710656 /\ (↑t.len : Int) <= 281474976710656 /\ ∃ (I : Nat × List Int -> Prop) (mu : Nat × List Int -> Nat), (∃ (x : Nat × List Int), I x /\ eQ (sQs s) /\ eL 34 /\ eQ (sQs
 t) /\ eQ (sQi ↑t.len) /\ sQi 0 = sQi ↑x.1 /\ some (Own.lst 3 1 (List.replicate (↑t.len : Int).toNat [vQi 0])) = some (Own.lst 3 1 (List.map eI x.2)) /\ m = m /\ h = h /\ True) /\ ∀
 (x : Nat × List Int), I x -> branch (decide ((↑x.1 : Int) < ↑t.len)) (∃ (b off : Nat), t.a = some (Addr.mk b off none) /\ 0 <= (↑x.1 : Int) /\ (↑x.1 : Int) < ↑t.len /\ ∃ (y : Int),
 RdAt m h b (off + (↑x.1 : Int).toNat * 1) [vQi y] /\ ∃ (b off : Nat), s.a = some (Addr.mk b off none) /\ 0 <= y /\ y < (↑s.len : Int) /\ ∃ (y_1 : Int), RdAt m h b (off + y.toNat *
 1) [vQi y_1] /\ 0 <= (↑x.1 : Int) /\ (↑x.1 : Int) < (↑(List.map eI x.2).length : Int) /\ ∃ (e : List Value), (List.map eI x.2)[(↑x.1 : Int).toNat]? = some e /\ 0 < e.length /\ ∃
 (x_1 : Nat × List Int), I x_1 /\ mu x_1 < mu x /\ eQ (sQs s) /\ eL 34 /\ eQ (sQs t) /\ eQ (sQi ↑t.len) /\ sQi (IntKind.i64.wrap ((↑x.1 : Int) + 1)) = sQi ↑x_1.1 /\ some (Own.lst 3
 1 ((List.map eI x.2).set (↑x.1 : Int).toNat (vQi y_1 :: (List.drop 1 e)))) = some (Own.lst 3 1 (List.map eI x_1.2)) /\ m = m /\ h = h /\ True) (∀ (s : Sl) (h' : PH), h.le h' ->
 RowIn h' s 1 (List.map eI x.2) -> K (CV.tup [cQs s, cQi 0]) m h'))))
theorem f97_vc (s t : Sl) (m : MH) (h : PH) (K : CV → MH → PH → Prop) : f97_nice s t m h K = (fnVC (f97_ctx s t m h) Tryz.f97 (bodyOf Tryz.f97) (entry Tryz.f97.ntmps [cS s, cS t] m h) K) := by kernel_rfl
def f98_nice (s t u : Sl) (m : MH) (h : PH) (K : CV → MH → PH → Prop) : Prop :=
 0 <= (↑s.len : Int) /\ (↑s.len : Int) <= ↑s.len /\ (↑s.len : Int) * 1 <= 281474976710656 /\ (↑s.len : Int) <= 281474976710656 /\ 0 <= (↑t.len : Int) /\ (↑t.len : Int) <= ↑t.len /\
 (↑t.len : Int) * 1 <= 281474976710656 /\ (↑t.len : Int) <= 281474976710656 /\ ∃ (I : Nat × List Bool × List Bool -> Prop) (mu : Nat × List Bool × List Bool -> Nat), (∃ (x : Nat ×
 List Bool × List Bool), I x /\ eQ (sQs s) /\ eQ (sQs t) /\ eL 15 /\ eL 18 /\ eQ (sQs u) /\ eQ (sQi ↑u.len) /\ sQi 0 = sQi ↑x.1 /\ some (Own.lst 4 1 (List.replicate (↑s.len :
 Int).toNat [Value.bool false])) = some (Own.lst 4 1 (List.map eB x.2.1)) /\ some (Own.lst 4 1 (List.replicate (↑t.len : Int).toNat [Value.bool false])) = some (Own.lst 4 1
 (List.map eB x.2.2)) /\ m = m /\ h = h /\ True) /\ ∀ (x : Nat × List Bool × List Bool), I x -> branch (decide ((↑x.1 : Int) < ↑u.len)) (∃ (b off : Nat), u.a = some (Addr.mk b off
 none) /\ 0 <= (↑x.1 : Int) /\ (↑x.1 : Int) < ↑u.len /\ ∃ (y : Int × Int), RdAt m h b (off + (↑x.1 : Int).toNat * 2) [vQi y.1, vQi y.2] /\ (0 : Int) <= 0 /\ (0 : Int) < 2 /\ (0 :
 Int) <= 1 /\ (1 : Int) < 2 /\ ∃ (I_1 : Nat × List Bool × List Bool × Int × Int -> Prop), branch (decide (y.1 < 0)) (K (cQb false) m h) (branch (decide (y.1 ≥ (↑s.len : Int))) (K
 (cQb false) m h) (branch (decide (y.2 < 0)) (K (cQb false) m h) (branch (decide (y.2 ≥ (↑t.len : Int))) (K (cQb false) m h) (∃ (x_1 : Nat × List Bool × List Bool × Int × Int), I_1
 x_1 /\ eQ (sQs s) /\ eQ (sQs t) /\ eL 15 /\ eL 18 /\ sQi y.1 = sQi x_1.2.2.2.1 /\ sQi y.2 = sQi x_1.2.2.2.2 /\ eQ (sQs u) /\ eQ (sQi ↑u.len) /\ sQi ↑x.1 = sQi ↑x_1.1 /\ some
 (Own.lst 4 1 (List.map eB x.2.1)) = some (Own.lst 4 1 (List.map eB x_1.2.1)) /\ some (Own.lst 4 1 (List.map eB x.2.2)) = some (Own.lst 4 1 (List.map eB x_1.2.2.1)) /\ m = m /\ h =
 h /\ True)))) /\ ∀ (x_1 : Nat × List Bool × List Bool × Int × Int), I_1 x_1 -> ∃ (b off : Nat), s.a = some (Addr.mk b off none) /\ 0 <= x_1.2.2.2.1 /\ x_1.2.2.2.1 < (↑s.len : Int)
 /\ ∃ (y : Int), RdAt m h b (off + x_1.2.2.2.1.toNat * 1) [vQi y] /\ ∃ (b off : Nat), t.a = some (Addr.mk b off none) /\ 0 <= x_1.2.2.2.2 /\ x_1.2.2.2.2 < (↑t.len : Int) /\ ∃ (y_1 :
 Int), RdAt m h b (off + x_1.2.2.2.2.toNat * 1) [vQi y_1] /\ branch (y != y_1) (K (cQb false) m h) (0 <= x_1.2.2.2.1 /\ x_1.2.2.2.1 < (↑(List.map eB x_1.2.1).length : Int) /\ ∃ (e :
 List Value), (List.map eB x_1.2.1)[x_1.2.2.2.1.toNat]? = some e /\ ∃ (y : Bool), List.take 1 (List.drop 0 e) = [Value.bool y] /\ branch y (K (cQb false) m h) (0 <= x_1.2.2.2.2 /\
 x_1.2.2.2.2 < (↑(List.map eB x_1.2.2.1).length : Int) /\ ∃ (e : List Value), (List.map eB x_1.2.2.1)[x_1.2.2.2.2.toNat]? = some e /\ ∃ (y : Bool), List.take 1 (List.drop 0 e) =
 [Value.bool y] /\ branch y (K (cQb false) m h) (0 <= x_1.2.2.2.1 /\ x_1.2.2.2.1 < (↑(List.map eB x_1.2.1).length : Int) /\ ∃ (e : List Value), (List.map eB
 x_1.2.1)[x_1.2.2.2.1.toNat]? = some e /\ 0 < e.length /\ 0 <= x_1.2.2.2.2 /\ x_1.2.2.2.2 < (↑(List.map eB x_1.2.2.1).length : Int) /\ ∃ (e_1 : List Value), (List.map eB
 x_1.2.2.1)[x_1.2.2.2.2.toNat]? = some e_1 /\ 0 < e_1.length /\ ∃ (x_2 : Nat × List Bool × List Bool), I x_2 /\ mu x_2 < mu x /\ eQ (sQs s) /\ eQ (sQs t) /\ eL 15 /\ eL 18 /\ eQ
 (sQs u) /\ eQ (sQi ↑u.len) /\ sQi (IntKind.i64.wrap ((↑x_1.1 : Int) + 1)) = sQi ↑x_2.1 /\ some (Own.lst 4 1 ((List.map eB x_1.2.1).set x_1.2.2.2.1.toNat (Value.bool true ::
 (List.drop 1 e)))) = some (Own.lst 4 1 (List.map eB x_2.2.1)) /\ some (Own.lst 4 1 ((List.map eB x_1.2.2.1).set x_1.2.2.2.2.toNat (Value.bool true :: (List.drop 1 e_1)))) = some
 (Own.lst 4 1 (List.map eB x_2.2.2)) /\ m = m /\ h = h /\ True)))) (K (cQb true) m h)
theorem f98_vc (s t u : Sl) (m : MH) (h : PH) (K : CV → MH → PH → Prop) : f98_nice s t u m h K = (fnVC (f98_ctx s t u m h) Tryz.f98 (bodyOf Tryz.f98) (entry Tryz.f98.ntmps [cS s, cS t, cS u] m h) K) := by kernel_rfl
def f100_nice (s : Sl) (v : SV2) (m : MH) (h : PH) (K : CV → MH → PH → Prop) : Prop :=
 0 <= (↑s.len : Int) /\ (↑s.len : Int) <= ↑s.len /\ (↑s.len : Int) * 1 <= 281474976710656 /\ (↑s.len : Int) <= 281474976710656 /\ ∃ (I : Nat × List Bool -> Prop) (mu : Nat × List
 Bool -> Nat), (∃ (x : Nat × List Bool), I x /\ eQ (sQs s) /\ eP 3 /\ eL 12 /\ eQ (sQs v.group) /\ eQ (sQi ↑v.group.len) /\ sQi 0 = sQi ↑x.1 /\ eQ (oQ 60 (List.map At.val (SV2.enc
 v))) /\ some (Own.lst 4 1 (List.replicate (↑s.len : Int).toNat [Value.bool false])) = some (Own.lst 4 1 (List.map eB x.2)) /\ m = m /\ h = h /\ True) /\ ∀ (x : Nat × List Bool), I
 x -> branch (decide ((↑x.1 : Int) < ↑v.group.len)) (∃ (b off : Nat), v.group.a = some (Addr.mk b off none) /\ 0 <= (↑x.1 : Int) /\ (↑x.1 : Int) < ↑v.group.len /\ ∃ (y : Int), RdAt
 m h b (off + (↑x.1 : Int).toNat * 1) [vQi y] /\ branch (decide (y < 0)) (K (cQb false) m h) (branch (decide (y ≥ (↑s.len : Int))) (K (cQb false) m h) (0 <= y /\ y < (↑(List.map eB
 x.2).length : Int) /\ ∃ (e : List Value), (List.map eB x.2)[y.toNat]? = some e /\ ∃ (y_1 : Bool), List.take 1 (List.drop 0 e) = [Value.bool y_1] /\ branch y_1 (K (cQb false) m h)
 (0 <= y /\ y < (↑(List.map eB x.2).length : Int) /\ ∃ (e : List Value), (List.map eB x.2)[y.toNat]? = some e /\ 0 < e.length /\ ∃ (x_1 : Nat × List Bool), I x_1 /\ mu x_1 < mu x /\
 eQ (sQs s) /\ eP 3 /\ eL 12 /\ eQ (sQs v.group) /\ eQ (sQi ↑v.group.len) /\ sQi (IntKind.i64.wrap ((↑x.1 : Int) + 1)) = sQi ↑x_1.1 /\ eQ (oQ 60 (List.map At.val (SV2.enc v))) /\
 some (Own.lst 4 1 ((List.map eB x.2).set y.toNat (Value.bool true :: (List.drop 1 e)))) = some (Own.lst 4 1 (List.map eB x_1.2)) /\ m = m /\ h = h /\ True)))) (branch (decide
 ((↑v.order.len : Int) > 12)) (K (cQb false) m h) (∃ (I : Nat -> Prop) (mu : Nat -> Nat), (∃ (x : Nat), I x /\ eQ (sQs s) /\ eP 3 /\ eQ (sQs v.order) /\ eQ (sQi ↑v.order.len) /\ sQi
 0 = sQi ↑x /\ eQ (oQ 60 (List.map At.val (SV2.enc v))) /\ m = m /\ h = h /\ True) /\ ∀ (x : Nat), I x -> branch (decide ((↑x : Int) < ↑v.order.len)) (∃ (b off : Nat), v.order.a =
 some (Addr.mk b off none) /\ 0 <= (↑x : Int) /\ (↑x : Int) < ↑v.order.len /\ ∃ (y : Int × Bool), RdAt m h b (off + (↑x : Int).toNat * 2) [vQi y.1, Value.bool y.2] /\ branch (decide
 (y.1 < 0)) (K (cQb false) m h) (branch (decide (y.1 ≥ (↑s.len : Int))) (K (cQb false) m h) (∃ (x_1 : Nat), I x_1 /\ mu x_1 < mu x /\ eQ (sQs s) /\ eP 3 /\ eQ (sQs v.order) /\ eQ
 (sQi ↑v.order.len) /\ sQi (IntKind.i64.wrap ((↑x : Int) + 1)) = sQi ↑x_1 /\ eQ (oQ 60 (List.map At.val (SV2.enc v))) /\ m = m /\ h = h /\ True))) (branch (decide (v.limit ≥ 0)) (K
 (cQb (decide (v.limit <= 100))) m h) (K (cQb false) m h))))
theorem f100_vc (s : Sl) (v : SV2) (m : MH) (h : PH) (K : CV → MH → PH → Prop) : f100_nice s v m h K = (fnVC (f100_ctx s v m h) Tryz.f100 (bodyOf Tryz.f100) (entry Tryz.f100.ntmps [cS s, aT v] m h) K) := by kernel_rfl
theorem KR.bad {r : List Int × Int} {e : Int} (hK : KR K m h r) (he : r = errK e) : K (.tup [.val (.slice none 0 0), .val (.int .i64 e)]) m h := hK.err (.refl _) he
theorem f97_ok {s t : Sl} (hs : Ints h s a) (ht : Ints h t co) (hK : KR K m h (projR a co)) : f97_nice s t m h K := by
 have sl := hs.slen
 have tl := ht.slen
 have tlen := ht.len
 unfold projR at hK
 refine branch_intro (fun h1 => hK.bad (if_neg fun e => e.1 ((len0 ht.slen).1 h1))) (fun h1 => ?_)
 have hne : co ≠ [] := fun e => by rw [(len0 ht.slen).2 e] at h1; cases h1
 refine ⟨fun i => i ≤ co.length ∧ GoodUpto (fun _ c => inL a c = true) co i, fun i => co.length - i, ⟨0, ⟨by omega, .zero⟩, MT⟩, fun i ⟨hi, hg⟩ => branch_dec (fun hlt => ?_) (fun hge => ?_)⟩
 · obtain ⟨c, hc⟩ := getx tl hlt
   obtain ⟨b, o, e, r⟩ := ht.at' hc
   refine ⟨b, o, e, by omega, hlt, c, .imm r, branch_dec (fun h2 => hK.bad (if_neg fun g => ?_)) (fun h2 => branch_dec (fun h3 => hK.bad (if_neg fun g => ?_)) (fun h3 => ⟨i + 1, ⟨by omega, hg.succ hc (inL_iff.2 ⟨by omega, by omega⟩)⟩, by show co.length - (i + 1) < co.length - i; omega, MT⟩))⟩
   · have := inL_iff.1 (g.2 i c hc); omega
   · have := inL_iff.1 (g.2 i c hc); omega
 have hgood := hg.all (by omega)
 rw [if_pos ⟨hne, hgood⟩] at hK
 refine branch_dec (fun h2 => hK.big (.refl _) rfl (by simp; omega)) (fun h2 => ⟨by omega, by omega, by omega, by omega, ?_⟩)
 refine ⟨fun ⟨i, l⟩ => i ≤ co.length ∧ l = ((co.take i).map fun c => a.getD c.toNat 0) ++ List.replicate (co.length - i) 0, fun ⟨i, _⟩ => co.length - i, ⟨(0, List.replicate co.length 0), ⟨by omega, by simp⟩, ?_⟩, ?_⟩
 · have : List.map eI (List.replicate co.length (0 : Int)) = List.replicate (Int.toNat (t.len : Int)) [vQi 0] := by rw [List.map_replicate, Int.toNat_natCast, tl]; rfl
   rw [this]; exact MT
 rintro ⟨i, l⟩ ⟨hi', rfl⟩
 dsimp only
 refine branch_dec (fun hlt => ?_) (fun hge sl' h' hle hr => hK.ok hle rfl (by simp; omega) ?_)
 · obtain ⟨c, hc⟩ := getx tl hlt
   obtain ⟨b, o, e, r⟩ := ht.at' hc
   have hin := inL_iff.1 (hgood i c hc)
   obtain ⟨b2, o2, e2, r2⟩ := hs.inb hin.1 hin.2
   refine ⟨b, o, e, by omega, hlt, c, .imm r, b2, o2, e2, hin.1, by omega, a.getD c.toNat 0, .imm r2, by omega, by simp; omega, eI 0, ?_, by simp [eI], (i + 1, ((co.take (i + 1)).map fun c => a.getD c.toNat 0) ++ List.replicate (co.length - (i + 1)) 0), ⟨by show i + 1 ≤ co.length; omega, rfl⟩, by show co.length - (i + 1) < co.length - i; omega, ?_⟩
   · rw [List.getElem?_map, Int.toNat_natCast, List.getElem?_append_right (by simp; omega), List.getElem?_replicate, if_pos (by simp; omega)]
     rfl
   · have e3 : co.length - i = (co.length - (i + 1)) + 1 := by omega
     have e4 : (List.map eI (((co.take i).map fun c => a.getD c.toNat 0) ++ List.replicate (co.length - i) 0)).set (Int.toNat (i : Int)) (vQi (a.getD c.toNat 0) :: ([] ++ List.drop 1 (eI 0))) = List.map eI (((co.take (i + 1)).map fun c => a.getD c.toNat 0) ++ List.replicate (co.length - (i + 1)) 0) := by
      have hl : ((co.take i).map fun c => a.getD c.toNat 0).length = i := by simp; omega
      rw [e3, List.replicate_succ, List.take_add_one, hc, Int.toNat_natCast]
      simp only [List.map_append, List.map_cons]
      have hl2 : (List.map eI ((co.take i).map fun c => a.getD c.toNat 0)).length = i := by rw [List.length_map]; exact hl
      rw [List.set_append_right _ _ (by omega), hl2, Nat.sub_self]
      simp [eI]
     rw [← e4]; exact MT
 · have : i = co.length := by omega
   subst this
   simpa using hr
theorem f97_sound : Sound Tryz.prog 97 ProjS := by
 refine fn_sound (fn := Tryz.f97) (c := bodyOf Tryz.f97) Tryz.func97 rfl (by decide) ?_
 rintro cvs m h K ⟨s, t, a, co, rfl, hs, ht, hK⟩
 refine ⟨f97_ctx s t m h, rfl, specs_nil, ?_⟩
 rw [← f97_vc s t m h K]
 exact f97_ok hs ht hK
structure Seen (n : Nat) (x : List Bool) (l : List Int) : Prop where
 len : x.length = n
 iff : ∀ k : Nat, k < n → (x[k]? = some true ↔ (k : Int) ∈ l)
theorem Seen.zero (n : Nat) : Seen n (List.replicate n false) [] := ⟨by simp, fun k hk => by rw [List.getElem?_replicate]; simp [hk]⟩
theorem Seen.map0 {n : Nat} {s : Sl} (h : s.len = n) : List.map eB (List.replicate n false) = List.replicate (Int.toNat (s.len : Int)) [Value.bool false] := by rw [List.map_replicate, Int.toNat_natCast, h]; rfl
theorem Seen.look {n : Nat} {x : List Bool} (h : Seen n x l) {c : Int} (h0 : 0 ≤ c) (h1 : c < n) : ∃ y, (List.map eB x)[c.toNat]? = some (eB y) ∧ (y = true ↔ c ∈ l) := by
 have hl := h.len
 have hk : c.toNat < x.length := by omega
 refine ⟨x[c.toNat], by rw [List.getElem?_map, List.getElem?_eq_getElem hk]; rfl, ?_⟩
 have := h.iff c.toNat (by omega)
 rw [List.getElem?_eq_getElem hk, show ((c.toNat : Nat) : Int) = c by omega] at this
 simpa using this
theorem Seen.set {n : Nat} {x : List Bool} (h : Seen n x l) {c : Int} (h0 : 0 ≤ c) (h1 : c < n) : Seen n (x.set c.toNat true) (l ++ [c]) := by
 refine ⟨by simpa using h.len, fun k hk => ?_⟩
 have hl := h.len
 rw [List.getElem?_set, List.mem_append, List.mem_singleton]
 by_cases e : c.toNat = k
 · subst e
   rw [if_pos rfl, if_pos (by omega)]
   exact ⟨fun _ => .inr (by omega), fun _ => rfl⟩
 · rw [if_neg e, h.iff k hk]
   exact ⟨.inl, fun h => h.elim id fun e => by omega⟩
theorem Seen.cells (x : List Bool) (k : Nat) (y : Bool) : (List.map eB x).set k (Value.bool true :: ([] ++ List.drop 1 (eB y))) = List.map eB (x.set k true) := by rw [List.map_set]; rfl
theorem f98_ok {s t u : Sl} {b : List Int} {on : List (Int × Int)} (ha : Ints h s a) (hb : Ints h t b) (hs : Pairs h u on) (al : a.length ≤ 1000) (bl : b.length ≤ 1000) (hK : ∀ r : Bool, (r = true ↔ Good (PairT a b) on) → K (cB r) m h) : f98_nice s t u m h K := by
 have sa := ha.slen
 have sb := hb.slen
 have so := hs.slen
 have solen := hs.len
 refine ⟨by omega, by omega, by omega, by omega, by omega, by omega, by omega, by omega, ?_⟩
 refine ⟨fun ⟨i, x, y⟩ => i ≤ on.length ∧ GoodUpto (PairT a b) on i ∧ Seen a.length x ((on.take i).map fun p => p.1) ∧ Seen b.length y ((on.take i).map fun p => p.2), fun ⟨i, _, _⟩ => on.length - i, ⟨(0, List.replicate a.length false, List.replicate b.length false), ⟨by omega, .zero, .zero _, .zero _⟩, ?_⟩, ?_⟩
 · rw [Seen.map0 sa, Seen.map0 sb]; exact MT
 rintro ⟨i, x, y⟩ ⟨hi, hg, hx, hy⟩
 dsimp only at hi hg hx hy ⊢
 refine branch_dec (fun hlt => ?_) (fun hge => hK true ⟨fun _ => hg.all (by omega), fun _ => rfl⟩)
 obtain ⟨p, hp⟩ := getx so hlt
 obtain ⟨b1, o1, e1, r1⟩ := hs.at hp
 have bad : ¬ PairT a b (on.take i) p → K (.val (.bool false)) m h := fun hn => hK false ⟨fun e => (by cases e), fun e => (Good.not hp hn e).elim⟩
 refine ⟨b1, o1, e1, by omega, hlt, p, .imm r1, by omega, by omega, by omega, by omega, fun ⟨i', x', y', c, d⟩ => i' = i ∧ x' = x ∧ y' = y ∧ c = p.1 ∧ d = p.2 ∧ inL a p.1 = true ∧ inL b p.2 = true, ?_, ?_⟩
 · refine branch_dec (fun h1 => bad fun g => ?_) (fun h1 => branch_dec (fun h2 => bad fun g => ?_) (fun h2 => branch_dec (fun h3 => bad fun g => ?_) (fun h3 => branch_dec (fun h4 => bad fun g => ?_) (fun h4 => ⟨(i, x, y, p.1, p.2), ⟨rfl, rfl, rfl, rfl, rfl, inL_iff.2 ⟨by omega, by omega⟩, inL_iff.2 ⟨by omega, by omega⟩⟩, MT⟩))))
   · have := inL_iff.1 g.1; omega
   · have := inL_iff.1 g.1; omega
   · have := inL_iff.1 g.2.1; omega
   · have := inL_iff.1 g.2.1; omega
 rintro ⟨i, x, y, c, d⟩ ⟨rfl, rfl, rfl, rfl, rfl, i1, i2⟩
 dsimp only
 have j1 := inL_iff.1 i1
 have j2 := inL_iff.1 i2
 obtain ⟨b2, o2, e2, r2⟩ := ha.inb j1.1 j1.2
 obtain ⟨b3, o3, e3, r3⟩ := hb.inb j2.1 j2.2
 obtain ⟨u1, k1, q1⟩ := hx.look j1.1 j1.2
 obtain ⟨u2, k2, q2⟩ := hy.look j2.1 j2.2
 have lx := hx.len
 have ly := hy.len
 refine ⟨b2, o2, e2, j1.1, by omega, _, .imm r2, b3, o3, e3, j2.1, by omega, _, .imm r3, branch_intro (fun h1 => bad fun g => ?_) (fun h1 => ⟨j1.1, by simp; omega, _, k1, u1, rfl, branch_intro (fun h2 => bad fun g => ?_) (fun h2 => ⟨j2.1, by simp; omega, _, k2, u2, rfl, branch_intro (fun h3 => bad fun g => ?_) (fun h3 => ?_)⟩)⟩)⟩
 · rw [g.2.2.1] at h1; simp at h1
 · obtain ⟨q, hq, e⟩ := List.mem_map.1 (q1.1 h2)
   exact (g.2.2.2 q hq).1 e
 · obtain ⟨q, hq, e⟩ := List.mem_map.1 (q2.1 h3)
   exact (g.2.2.2 q hq).2 e
 refine ⟨j1.1, by simp; omega, _, k1, by simp [eB], j2.1, by simp; omega, _, k2, by simp [eB], (i + 1, x.set p.1.toNat true, y.set p.2.toNat true), ⟨by show i + 1 ≤ on.length; omega, hg.succ hp ⟨i1, i2, by simpa using h1, fun q hq => ⟨fun e => ?_, fun e => ?_⟩⟩, ?_, ?_⟩, by show on.length - (i + 1) < on.length - i; omega, ?_⟩
 · rw [q1.2 (List.mem_map.2 ⟨q, hq, e⟩)] at h2; cases h2
 · rw [q2.2 (List.mem_map.2 ⟨q, hq, e⟩)] at h3; cases h3
 · rw [List.take_add_one, hp, List.map_append]; exact hx.set j1.1 j1.2
 · rw [List.take_add_one, hp, List.map_append]; exact hy.set j2.1 j2.2
 · rw [← Seen.cells x p.1.toNat u1, ← Seen.cells y p.2.toNat u2]; exact MT
theorem f98_sound : Sound Tryz.prog 98 PairsFitS := by
 refine fn_sound (fn := Tryz.f98) (c := bodyOf Tryz.f98) Tryz.func98 rfl (by decide) ?_
 rintro cvs m h K ⟨s, t, u, a, b, on, rfl, ha, hb, hs, al, bl, hK⟩
 refine ⟨f98_ctx s t u m h, rfl, specs_nil, ?_⟩
 rw [← f98_vc s t u m h K]
 exact f98_ok ha hb hs al bl hK
theorem f100_ok {s : Sl} {v : SV2} (ha : Ints h s a) (x : RepSt h t v) (al : a.length ≤ 1000) (hK : ∀ r : Bool, (r = true ↔ RankOk a t.group t.order t.limit) → K (cB r) m h) : f100_nice s v m h K := by
 have sa := ha.slen
 have sg := x.group_.slen
 have so := x.order_.slen
 have glen := x.group_.len
 have olen := x.order_.len
 have el := x.limit_
 have bad : ¬ RankOk a t.group t.order t.limit → K (.val (.bool false)) m h := fun hn => hK false ⟨fun e => (by cases e), fun e => (hn e).elim⟩
 refine ⟨by omega, by omega, by omega, by omega, ?_⟩
 refine ⟨fun ⟨i, u⟩ => i ≤ t.group.length ∧ GoodUpto (GroupT a) t.group i ∧ Seen a.length u (t.group.take i), fun ⟨i, _⟩ => t.group.length - i, ⟨(0, List.replicate a.length false), ⟨by omega, .zero, .zero _⟩, ?_⟩, ?_⟩
 · rw [Seen.map0 sa]; exact MT
 rintro ⟨i, u⟩ ⟨hi, hg, hu⟩
 dsimp only at hi hg hu ⊢
 have lu := hu.len
 refine branch_dec (fun hlt => ?_) (fun hge => ?_)
 · obtain ⟨c, hc⟩ := getx sg hlt
   obtain ⟨b1, o1, e1, r1⟩ := x.group_.at' hc
   have gbad : ¬ GroupT a (t.group.take i) c → K (.val (.bool false)) m h := fun hn => bad fun hh => Good.not hc hn hh.group_
   refine ⟨b1, o1, e1, by omega, hlt, c, .imm r1, branch_dec (fun h1 => gbad fun g => ?_) (fun h1 => branch_dec (fun h2 => gbad fun g => ?_) (fun h2 => ?_))⟩
   · have := inL_iff.1 g.1; omega
   · have := inL_iff.1 g.1; omega
   obtain ⟨y, k1, q1⟩ := hu.look (c := c) (by omega) (by omega)
   refine ⟨by omega, by simp; omega, _, k1, y, rfl, branch_intro (fun h3 => gbad fun g => g.2 (q1.1 h3)) (fun h3 => ⟨by omega, by simp; omega, _, k1, by simp [eB], (i + 1, u.set c.toNat true), ⟨by show i + 1 ≤ t.group.length; omega, hg.succ hc ⟨inL_iff.2 ⟨by omega, by omega⟩, fun e => ?_⟩, ?_⟩, by show t.group.length - (i + 1) < t.group.length - i; omega, ?_⟩)⟩
   · rw [q1.2 e] at h3; cases h3
   · rw [List.take_add_one, hc]; exact hu.set (by omega) (by omega)
   · rw [← Seen.cells u c.toNat y]; exact MT
 have gg := hg.all (by omega)
 clear hi hg hge hu lu
 refine branch_dec (fun h1 => bad fun hh => by have := hh.len_; omega) (fun h1 => ?_)
 refine ⟨fun i => i ≤ t.order.length ∧ GoodUpto (OrderT a) t.order i, fun i => t.order.length - i, ⟨0, ⟨by omega, .zero⟩, MT⟩, fun i ⟨hi, hoi⟩ => branch_dec (fun hlt => ?_) (fun hge => ?_)⟩
 · obtain ⟨c, hc⟩ := getx so hlt
   obtain ⟨b1, o1, e1, r1⟩ := x.order_.at hc
   have obad : ¬ OrderT a (t.order.take i) c → K (.val (.bool false)) m h := fun hn => bad fun hh => Good.not hc hn hh.order_
   refine ⟨b1, o1, e1, by omega, hlt, c, .imm r1, branch_dec (fun h2 => obad fun g => ?_) (fun h2 => branch_dec (fun h3 => obad fun g => ?_) (fun h3 => ⟨i + 1, ⟨by omega, hoi.succ hc (inL_iff.2 ⟨by omega, by omega⟩)⟩, by show t.order.length - (i + 1) < t.order.length - i; omega, MT⟩))⟩
   · have := inL_iff.1 (show inL a c.1 = true from g); omega
   · have := inL_iff.1 (show inL a c.1 = true from g); omega
 have oo := hoi.all (by omega)
 rw [el]
 refine branch_dec (fun h2 => hK _ ⟨fun e => ⟨gg, oo, by omega, h2, by simpa using e⟩, fun e => decide_eq_true e.high⟩) (fun h2 => bad fun hh => by have := hh.low; omega)
theorem f100_sound : Sound Tryz.prog 100 OrderFitsS := by
 refine fn_sound (fn := Tryz.f100) (c := bodyOf Tryz.f100) Tryz.func100 rfl (by decide) ?_
 rintro cvs m h K ⟨s, v, a, t, rfl, ha, x, al, hK⟩
 refine ⟨f100_ctx s v m h, rfl, specs_nil, ?_⟩
 rw [← f100_vc s v m h K]
 exact f100_ok ha x al hK
def argK (ks : List (List Int)) (a : Int) (n : Bool) : List Int := if n = true then ks.getD a.toNat [] else []
def stepR (s : Sch) (ks : List (List Int)) (t : Step) : List Int × Int :=
 if arity t.op < 0 ∨ fitB t.left (decide (arity t.op > 0)) ks.length = false ∨ fitB t.right (decide (arity t.op > 1)) ks.length = false then errK 120
 else if (nodeR s [] t.query (argK ks t.left (decide (arity t.op > 0))) (argK ks t.right (decide (arity t.op > 1)))).2 = 100 then errK 120
 else nodeR s [] t.query (argK ks t.left (decide (arity t.op > 0))) (argK ks t.right (decide (arity t.op > 1)))
def CheckStepS : Vc.Spec := fun cvs m h K => ∃ sc kk v s ss ks t, cvs = [aS sc, cS kk, aT v] ∧ RepS h s sc ∧ small8 s ∧ RepSt h t v ∧ MRow m kk 39 1 (ss.map eS) ∧ Slices h ss ks ∧ (∀ k ∈ ks, k.length ≤ 12) ∧ ∀ r, fin r = stepR s ks t → KR K m h r
def f72_ctx (sc : SchV) (kk : Sl) (v : SV2) (m : MH) (h : PH) : Ctx :=
 ctx2 [(73, ArityS), (95, FitsS), (96, UnusedTS), (62, KindsOfS), (63, PredCheckS), (97, ProjS), (98, PairsFitS), (99, SameInts), (100, OrderFitsS), (101, ConcatS), (67, CloneIS)] []
  [(4, { A := Int, st := fun n => mkSt 132 135 [(1, sv kk), (3, .at (.ptr 3 0)), (5, .at (.ptr 5 0)), (8, iv n)] [(3, .cells 28 (sc.enc.map .val)), (5, .cells 60 (v.enc.map .val))] m h }),
   (9, { A := Int × Sl, st := fun ⟨n, l⟩ => mkSt 132 135 [(1, sv kk), (3, .at (.ptr 3 0)), (5, .at (.ptr 5 0)), (8, iv n), (9, sv l), (10, .at (.val (.slice none 0 0)))] [(3, .cells 28 (sc.enc.map .val)), (5, .cells 60 (v.enc.map .val))] m h }),
   (11, { A := Sl × Sl, st := fun ⟨l, r⟩ => mkSt 132 135 [(3, .at (.ptr 3 0)), (5, .at (.ptr 5 0)), (9, sv l), (10, sv r)] [(3, .cells 28 (sc.enc.map .val)), (5, .cells 60 (v.enc.map .val))] m h }),
   (34, { A := Sl × Sl × Bool, st := fun ⟨l, r, b⟩ => mkSt 132 135 [(5, .at (.ptr 5 0)), (9, sv l), (10, sv r), (11, bv b)] [(5, .cells 60 (v.enc.map .val))] m h })] [] false
def f72_nice (sc : SchV) (kk : Sl) (v : SV2) (m : MH) (h : PH) (K : CV → MH → PH → Prop) : Prop :=
 ∃ (op : Int), [cQi v.op] = [cQi op] /\ ∃ (I : Int -> Prop), branch (decide (arity op < 0)) (K (CV.tup [cQn, cQi 120]) m h) (∃ (a : Int) (n : Bool) (e : Int), [cQi v.left, cQb
 (decide (arity op > 0)), cQi ↑kk.len] = [cQi a, cQb n, cQi e] /\ branch (!fitB a n e) (K (CV.tup [cQn, cQi 120]) m h) (∃ (a : Int) (n : Bool) (e : Int), [cQi v.right, cQb (decide
 (arity op > 1)), cQi ↑kk.len] = [cQi a, cQb n, cQi e] /\ branch (!fitB a n e) (K (CV.tup [cQn, cQi 120]) m h) (∃ (x : Int), I x /\ eQ (sQs kk) /\ eP 3 /\ eP 5 /\ sQi (arity op) =
 sQi x /\ eQ (oQ 28 [aQi sc.version, aQs sc.tables]) /\ eQ (oQ 60 (List.map At.val (SV2.enc v))) /\ m = m /\ h = h /\ True))) /\ ∀ (x : Int), I x -> ∃ (v_1 : SV2) (t : Step), [cQa
 (SV2.enc v)] = [cQa (SV2.enc v_1)] /\ RepSt h t v_1 /\ ∀ (r : Bool), (r = true ↔ UnusedOk (Query.mk t.op t.table t.wher t.columns t.on t.group t.order t.limit [])) -> branch (!r)
 (K (CV.tup [cQn, cQi 120]) m h) (∃ (I : Int × Sl -> Prop), branch (decide (x > 0)) (∃ (b off : Nat), kk.a = some (Addr.mk b off none) /\ 0 <= v.left /\ v.left < (↑kk.len : Int) /\
 ∃ (y : Sl), RdAt m h b (off + v.left.toNat * 1) [vQs y] /\ ∃ (x_1 : Int × Sl), I x_1 /\ eQ (sQs kk) /\ eP 3 /\ eP 5 /\ sQi x = sQi x_1.1 /\ sQs y = sQs x_1.2 /\ eQ (sQn) /\ eQ (oQ
 28 [aQi sc.version, aQs sc.tables]) /\ eQ (oQ 60 (List.map At.val (SV2.enc v))) /\ m = m /\ h = h /\ True) (∃ (x_1 : Int × Sl), I x_1 /\ eQ (sQs kk) /\ eP 3 /\ eP 5 /\ sQi x = sQi
 x_1.1 /\ sQn = sQs x_1.2 /\ eQ (sQn) /\ eQ (oQ 28 [aQi sc.version, aQs sc.tables]) /\ eQ (oQ 60 (List.map At.val (SV2.enc v))) /\ m = m /\ h = h /\ True) /\ ∀ (x : Int × Sl), I x
 -> ∃ (I : Sl × Sl -> Prop), branch (decide (x.1 > 1)) (∃ (b off : Nat), kk.a = some (Addr.mk b off none) /\ 0 <= v.right /\ v.right < (↑kk.len : Int) /\ ∃ (y : Sl), RdAt m h b (off
 + v.right.toNat * 1) [vQs y] /\ ∃ (x_1 : Sl × Sl), I x_1 /\ eP 3 /\ eP 5 /\ sQs x.2 = sQs x_1.1 /\ sQs y = sQs x_1.2 /\ eQ (oQ 28 [aQi sc.version, aQs sc.tables]) /\ eQ (oQ 60
 (List.map At.val (SV2.enc v))) /\ m = m /\ h = h /\ True) (∃ (x_1 : Sl × Sl), I x_1 /\ eP 3 /\ eP 5 /\ sQs x.2 = sQs x_1.1 /\ sQn = sQs x_1.2 /\ eQ (oQ 28 [aQi sc.version, aQs
 sc.tables]) /\ eQ (oQ 60 (List.map At.val (SV2.enc v))) /\ m = m /\ h = h /\ True) /\ ∀ (x : Sl × Sl), I x -> ∃ (I : Sl × Sl × Bool -> Prop), branch (v.op == 1) (branch (decide
 (v.table < 0)) (K (CV.tup [cQn, cQi 120]) m h) (branch (decide (v.table ≥ (↑sc.tables.len : Int))) (K (CV.tup [cQn, cQi 120]) m h) (∃ (v_2 : SchV) (s : Sch) (t : Int), [cQa [vQi
 sc.version, vQs sc.tables], cQi v.table] = [cQa [vQi v_2.version, vQs v_2.tables], cQi t] /\ RepS h s v_2 /\ small8 s /\ ∀ (sl : Sl) (h' : PH), h.le h' -> Ints h' sl (kindsT s t)
 -> K (CV.tup [cQs sl, cQi 0]) m h'))) (branch (v.op == 2) (∃ (s t : Sl) (v_2 : PV), ∃ (cols params : List Int) (p : Pred), [cQs x.1, cQn, cQa (PV.enc v.where_)] = [cQs s, cQs t,
 cQa (PV.enc v_2)] /\ Ints h s cols /\ Ints h t params /\ RepP h p v_2 /\ branch (predErr cols params p != 0) (K (CV.tup [cQn, cQi (predErr cols params p)]) m h) (∃ (x_1 : Sl × Sl ×
 Bool), I x_1 /\ eP 5 /\ sQs x.1 = sQs x_1.1 /\ sQs x.2 = sQs x_1.2.1 /\ sQb true = sQb x_1.2.2 /\ eQ (oQ 60 (List.map At.val (SV2.enc v))) /\ m = m /\ h = h /\ True)) (branch (v.op
 == 3) (∃ (s t : Sl), ∃ (a co : List Int), [cQs x.1, cQs v.columns] = [cQs s, cQs t] /\ Ints h s a /\ Ints h t co /\ ∀ (sl : Sl) (h' : PH), h.le h' -> Ints h' sl (projR a co).1 -> K
 (CV.tup [cQs sl, CV.val (vQi (projR a co).2)]) m h') (branch (v.op == 4) (∃ (s t : Sl) (u : Sl), ∃ (a b : List Int) (on : List (Int × Int)), [cQs x.1, cQs x.2, cQs v.on] = [cQs s,
 cQs t, cQs u] /\ Ints h s a /\ Ints h t b /\ Pairs h u on /\ a.length <= 1000 /\ b.length <= 1000 /\ ∀ (r : Bool), (r = true ↔ Good (PairT a b) on) -> ∃ (x_1 : Sl × Sl × Bool), I
 x_1 /\ eP 5 /\ sQs x.1 = sQs x_1.1 /\ sQs x.2 = sQs x_1.2.1 /\ sQb r = sQb x_1.2.2 /\ eQ (oQ 60 (List.map At.val (SV2.enc v))) /\ m = m /\ h = h /\ True) (branch (v.op == 5) (∃ (s
 t : Sl) (u : Sl), ∃ (a b : List Int) (on : List (Int × Int)), [cQs x.1, cQs x.2, cQs v.on] = [cQs s, cQs t, cQs u] /\ Ints h s a /\ Ints h t b /\ Pairs h u on /\ a.length <= 1000
 /\ b.length <= 1000 /\ ∀ (r : Bool), (r = true ↔ Good (PairT a b) on) -> ∃ (x_1 : Sl × Sl × Bool), I x_1 /\ eP 5 /\ sQs x.1 = sQs x_1.1 /\ sQs x.2 = sQs x_1.2.1 /\ sQb r = sQb
 x_1.2.2 /\ eQ (oQ 60 (List.map At.val (SV2.enc v))) /\ m = m /\ h = h /\ True) (branch (v.op == 6) (∃ (s t : Sl), ∃ (a b : List Int), [cQs x.1, cQs x.2] = [cQs s, cQs t] /\ Ints h
 s a /\ Ints h t b /\ ∀ (r : Bool), (r = true ↔ a = b) -> ∃ (x_1 : Sl × Sl × Bool), I x_1 /\ eP 5 /\ sQs x.1 = sQs x_1.1 /\ sQs x.2 = sQs x_1.2.1 /\ sQb r = sQb x_1.2.2 /\ eQ (oQ 60
 (List.map At.val (SV2.enc v))) /\ m = m /\ h = h /\ True) (branch (v.op == 7) (∃ (s t : Sl), ∃ (a b : List Int), [cQs x.1, cQs x.2] = [cQs s, cQs t] /\ Ints h s a /\ Ints h t b /\
 ∀ (r : Bool), (r = true ↔ a = b) -> ∃ (x_1 : Sl × Sl × Bool), I x_1 /\ eP 5 /\ sQs x.1 = sQs x_1.1 /\ sQs x.2 = sQs x_1.2.1 /\ sQb r = sQb x_1.2.2 /\ eQ (oQ 60 (List.map At.val
 (SV2.enc v))) /\ m = m /\ h = h /\ True) (branch (v.op == 8) (∃ (s t : Sl), ∃ (a b : List Int), [cQs x.1, cQs x.2] = [cQs s, cQs t] /\ Ints h s a /\ Ints h t b /\ ∀ (r : Bool), (r
 = true ↔ a = b) -> ∃ (x_1 : Sl × Sl × Bool), I x_1 /\ eP 5 /\ sQs x.1 = sQs x_1.1 /\ sQs x.2 = sQs x_1.2.1 /\ sQb r = sQb x_1.2.2 /\ eQ (oQ 60 (List.map At.val (SV2.enc v))) /\ m =
 m /\ h = h /\ True) (branch (v.op == 9) (∃ (s : Sl) (v_2 : SV2), ∃ (a : List Int) (t : Step), [cQs x.1, cQa (SV2.enc v)] = [cQs s, cQa (SV2.enc v_2)] /\ Ints h s a /\ RepSt h t v_2
 /\ a.length <= 1000 /\ ∀ (r : Bool), (r = true ↔ RankOk a t.group t.order t.limit) -> ∃ (x_1 : Sl × Sl × Bool), I x_1 /\ eP 5 /\ sQs x.1 = sQs x_1.1 /\ sQs x.2 = sQs x_1.2.1 /\ sQb
 r = sQb x_1.2.2 /\ eQ (oQ 60 (List.map At.val (SV2.enc v))) /\ m = m /\ h = h /\ True) (branch (v.op == 10) (∃ (s t : Sl), ∃ (a b : List Int), [cQs x.1, cQs x.2] = [cQs s, cQs t]
 /\ Ints h s a /\ Ints h t b /\ ∀ (r : Bool), (r = true ↔ a = b) -> branch r (∃ (s : Sl) (v_2 : SV2), ∃ (a : List Int) (t : Step), [cQs x.1, cQa (SV2.enc v)] = [cQs s, cQa (SV2.enc
 v_2)] /\ Ints h s a /\ RepSt h t v_2 /\ a.length <= 1000 /\ ∀ (r : Bool), (r = true ↔ RankOk a t.group t.order t.limit) -> ∃ (x_1 : Sl × Sl × Bool), I x_1 /\ eP 5 /\ sQs x.1 = sQs
 x_1.1 /\ sQs x.2 = sQs x_1.2.1 /\ sQb r = sQb x_1.2.2 /\ eQ (oQ 60 (List.map At.val (SV2.enc v))) /\ m = m /\ h = h /\ True) (∃ (x_1 : Sl × Sl × Bool), I x_1 /\ eP 5 /\ sQs x.1 =
 sQs x_1.1 /\ sQs x.2 = sQs x_1.2.1 /\ sQb false = sQb x_1.2.2 /\ eQ (oQ 60 (List.map At.val (SV2.enc v))) /\ m = m /\ h = h /\ True)) (∃ (x_1 : Sl × Sl × Bool), I x_1 /\ eP 5 /\
 sQs x.1 = sQs x_1.1 /\ sQs x.2 = sQs x_1.2.1 /\ sQb true = sQb x_1.2.2 /\ eQ (oQ 60 (List.map At.val (SV2.enc v))) /\ m = m /\ h = h /\ True)))))))))) /\ ∀ (x : Sl × Sl × Bool), I
 x -> branch (!x.2.2) (K (CV.tup [cQn, cQi 120]) m h) (branch (v.op == 4) (∀ (s : Sl) (h' : PH), h.le h' -> RowIn h' s 1 [[vQs x.1], [vQs x.2.1]] -> ∃ (ss : Sl) (ks : List (List
 Int)), [cQs s] = [cQs ss] /\ RepI h' ss ks /\ ks.length <= 10 /\ (∀ (k : List Int), List.Mem k ks -> k.length <= 12) /\ ∀ (sl : Sl) (h'_1 : PH), h'.le h'_1 -> Ints h'_1 sl
 ks.flatten -> K (CV.tup [cQs sl, cQi 0]) m h'_1) (∃ (s : Sl) (l : List Int), [cQs x.1] = [cQs s] /\ Ints h s l /\ ∀ (s' : Sl) (h' : PH), h.le h' -> Ints h' s' l -> K (CV.tup [cQs
 s', cQi 0]) m h')))
theorem f72_vc (sc : SchV) (kk : Sl) (v : SV2) (m : MH) (h : PH) (K : CV → MH → PH → Prop) : f72_nice sc kk v m h K = (fnVC (f72_ctx sc kk v m h) Tryz.f72 (bodyOf Tryz.f72) (entry Tryz.f72.ntmps [aS sc, cS kk, aT v] m h) K) := by kernel_rfl
theorem MRow.rdAt {m : MH} {h : PH} {s : Sl} {E sz : Nat} {xs : List (List Value)} (r : MRow m s E sz xs) {i : Nat} {e : List Value} (hi : xs[i]? = some e) : ∃ b o, s.a = some ⟨b, o, none⟩ ∧ RdAt m h b (o + i * sz) e := by
 rcases r.ex with ⟨_, rfl⟩ | ⟨b, cap, cur, rfl, hm, _, _, _, ht⟩
 · simp at hi
 · refine ⟨b, 0, rfl, .lent cur E (0, 0) hm ?_⟩
   apply List.ext_getElem?
   intro j
   rw [List.getElem?_take]
   by_cases hj : j < e.length
   · rw [if_pos hj, List.getElem?_drop, Nat.zero_add]
     have h1 := flatten_get r.rows.len hi j e[j] (List.getElem?_eq_getElem hj)
     rw [← ht, List.getElem?_take] at h1
     split at h1
     · rw [h1, List.getElem?_eq_getElem hj]
     · cases h1
   · rw [if_neg hj, List.getElem?_eq_none (by omega)]
theorem kind_rd {kk : Sl} {ss : List Sl} (r : MRow m kk 39 1 (ss.map eS)) (hs : Slices h ss ks) {a : Int} (h0 : 0 ≤ a) (h1 : a < ks.length) : ∃ b o sl, kk.a = some ⟨b, o, none⟩ ∧ RdAt m h b (o + a.toNat * 1) [.slice sl.a sl.len sl.cap] ∧ Ints h sl (ks.getD a.toNat []) := by
 have hk : a.toNat < ks.length := by omega
 have hk' : a.toNat < ss.length := by rw [hs.1]; exact hk
 obtain ⟨b, o, e, rd⟩ := MRow.rdAt (h := h) r (i := a.toNat) (e := eS ss[a.toNat]) (by rw [List.getElem?_map, List.getElem?_eq_getElem hk']; rfl)
 refine ⟨b, o, ss[a.toNat], e, rd, ?_⟩
 rw [List.getD_eq_getElem?_getD, List.getElem?_eq_getElem hk]
 exact hs.2 a.toNat _ _ (List.getElem?_eq_getElem hk') (List.getElem?_eq_getElem hk)
theorem argK_len (h : ∀ k ∈ ks, k.length ≤ 12) (a : Int) (n : Bool) : (argK ks a n).length ≤ 12 := by
 unfold argK
 split
 · rw [List.getD_eq_getElem?_getD]
   cases e : ks[a.toNat]? with
   | none => simp
   | some k => exact h k (List.mem_of_getElem? e)
 · simp
open Classical in
theorem f72_ok {sc : SchV} {kk : Sl} {v : SV2} {s : Sch} {ss : List Sl} {ks : List (List Int)} {t : Step} {m : MH} {h : PH} {K : CV → MH → PH → Prop} (hs : RepS h s sc) (h8 : small8 s) (x : RepSt h t v) (hr : MRow m kk 39 1 (ss.map eS)) (hss : Slices h ss ks) (h12 : ∀ k ∈ ks, k.length ≤ 12)
 (hT0 : ∀ r, fin r = stepR s ks t → KR K m h r) : f72_nice sc kk v m h K := by
 have hT : Tst K m h (stepR s ks t) := ⟨hT0⟩
 clear hT0
 have kl : kk.len = ks.length := by
  have := MRow.slen hr
  rw [List.length_map] at this
  rw [this, hss.1]
 have ex := x
 have htl := hs.tables.slen
 obtain ⟨op, ta, w, co, on, gr, od, li, le, ri⟩ := t
 obtain ⟨e0, e1, xw, xc, xo, xg, xs, e2, e3, e4⟩ := x
 simp only at e0 e1 xw xc xo xg xs e2 e3 e4
 subst e0 e1 e2 e3 e4
 have a12 := argK_len h12 v.left (decide (arity v.op > 0))
 have b12 := argK_len h12 v.right (decide (arity v.op > 1))
 have hstep0 : stepR s ks ⟨v.op, v.table, w, co, on, gr, od, v.limit, v.left, v.right⟩ = if arity v.op < 0 ∨ fitB v.left (decide (arity v.op > 0)) ks.length = false ∨ fitB v.right (decide (arity v.op > 1)) ks.length = false then errK 120
  else if (nodeR s [] (.mk v.op v.table w co on gr od v.limit []) (argK ks v.left (decide (arity v.op > 0))) (argK ks v.right (decide (arity v.op > 1)))).2 = 100 then errK 120
  else nodeR s [] (.mk v.op v.table w co on gr od v.limit []) (argK ks v.left (decide (arity v.op > 0))) (argK ks v.right (decide (arity v.op > 1))) := rfl
 generalize hA : argK ks v.left (decide (arity v.op > 0)) = A at hstep0 a12
 generalize hB : argK ks v.right (decide (arity v.op > 1)) = B at hstep0 b12
 generalize stepR s ks ⟨v.op, v.table, w, co, on, gr, od, v.limit, v.left, v.right⟩ = R at hT hstep0
 refine ⟨v.op, rfl, fun n => n = arity v.op ∧ ¬ (arity v.op < 0 ∨ fitB v.left (decide (arity v.op > 0)) ks.length = false ∨ fitB v.right (decide (arity v.op > 1)) ks.length = false), branch_dec (fun h1 => hT.err (by rw [hstep0, if_pos (.inl h1)]) (by decide) (.refl _)) (fun h1 => ⟨v.left, _, (kk.len : Int), rfl, branch_intro (fun h2 => ?_) (fun h2 => ⟨v.right, _, (kk.len : Int), rfl, branch_intro (fun h3 => ?_) (fun h3 => ⟨arity v.op, ⟨rfl, ?_⟩, MT⟩)⟩)⟩), ?_⟩
 · rw [kl] at h2
   exact hT.err (by rw [hstep0, if_pos (.inr (.inl (by simpa using h2)))]) (by decide) (.refl _)
 · rw [kl] at h3
   exact hT.err (by rw [hstep0, if_pos (.inr (.inr (by simpa using h3)))]) (by decide) (.refl _)
 · rw [kl] at h2 h3
   rintro (e | e | e)
   · exact h1 e
   · rw [e] at h2; cases h2
   · rw [e] at h3; cases h3
 rintro n ⟨rfl, hok⟩
 rw [if_neg hok] at hstep0
 have hok1 : ¬ arity v.op < 0 := fun e => hok (.inl e)
 refine ⟨v, _, rfl, ex, fun r hru => branch_intro (fun h1 => hT.err ?_ (e := 120) (by decide) (.refl _)) (fun h1 => ?_)⟩
 · have hn : ¬ UnusedOk (.mk v.op v.table w co on gr od v.limit []) := fun e => by rw [hru.2 e] at h1; cases h1
   have e : nodeR s [] (.mk v.op v.table w co on gr od v.limit []) A B = errK 100 := by
    unfold nodeR
    exact if_pos (.inr hn)
   rw [hstep0, e]
   rfl
 have hu : UnusedOk (.mk v.op v.table w co on gr od v.limit []) := hru.1 (by simpa using h1)
 clear hru h1 r
 have nd : nodeR s [] (.mk v.op v.table w co on gr od v.limit []) A B = if v.op = 1 then (if 0 ≤ v.table ∧ v.table < s.tables.length then limK (kindsT s v.table) else errK 100)
  else if v.op = 2 then (if predErr A [] w = 0 then limK A else errK (predErr A [] w))
  else if v.op = 3 then (if co ≠ [] ∧ Good (fun _ c => inL A c = true) co then limK (co.map fun c => A.getD c.toNat 0) else errK 100)
  else if v.op = 4 then (if Good (PairT A B) on then limK (A ++ B) else errK 100)
  else if v.op = 5 then (if Good (PairT A B) on then limK A else errK 100)
  else if v.op = 9 then (if RankOk A gr od v.limit then limK A else errK 100)
  else if v.op = 10 then (if A = B ∧ RankOk A gr od v.limit then limK A else errK 100)
  else (if A = B then limK A else errK 100) := by
  unfold nodeR
  exact if_neg (fun e => e.elim hok1 fun e => e hu)
 have l100 : ∀ l, (limK l).2 ≠ 100 := fun l => by unfold limK; split <;> simp
 have okR : ∀ {l}, nodeR s [] (.mk v.op v.table w co on gr od v.limit []) A B = limK l → R = limK l := fun {l} e => by rw [hstep0, e, if_neg (l100 l)]
 have badR : nodeR s [] (.mk v.op v.table w co on gr od v.limit []) A B = errK 100 → R = errK 120 := fun e => by rw [hstep0, e]; rfl
 have errR : ∀ {e}, e ≠ 100 → nodeR s [] (.mk v.op v.table w co on gr od v.limit []) A B = errK e → R = errK e := fun {e} h0 e1 => by rw [hstep0, e1, if_neg (by simpa [errK] using h0)]
 clear hstep0
 refine ⟨fun ⟨n, l⟩ => n = arity v.op ∧ Ints h l A, branch_dec (fun h1 => ?_) (fun h1 => ⟨(arity v.op, ⟨none, 0, 0⟩), ⟨rfl, ?_⟩, MT⟩), ?_⟩
 · have hf : fitB v.left (decide (arity v.op > 0)) ks.length = true := by
    cases e : fitB v.left (decide (arity v.op > 0)) ks.length with
    | true => rfl
    | false => exact (hok (.inr (.inl e))).elim
   unfold fitB at hf
   rw [if_pos (decide_eq_true h1)] at hf
   simp only [Bool.and_eq_true, decide_eq_true_eq] at hf
   obtain ⟨b, o, sl, e, rd, hi⟩ := kind_rd hr hss hf.1 hf.2
   refine ⟨b, o, e, hf.1, by omega, sl, rd, (arity v.op, sl), ⟨rfl, ?_⟩, MT⟩
   rw [← hA, argK, if_pos (decide_eq_true h1)]; exact hi
 · rw [← hA, argK, if_neg (by simpa using h1)]; exact ⟨.nil _ _, by simp⟩
 rintro ⟨n, l⟩ ⟨rfl, hl⟩
 dsimp only
 refine ⟨fun ⟨l, r⟩ => Ints h l A ∧ Ints h r B, branch_dec (fun h1 => ?_) (fun h1 => ⟨(l, ⟨none, 0, 0⟩), ⟨hl, ?_⟩, MT⟩), ?_⟩
 · have hf : fitB v.right (decide (arity v.op > 1)) ks.length = true := by
    cases e : fitB v.right (decide (arity v.op > 1)) ks.length with
    | true => rfl
    | false => exact (hok (.inr (.inr e))).elim
   unfold fitB at hf
   rw [if_pos (decide_eq_true h1)] at hf
   simp only [Bool.and_eq_true, decide_eq_true_eq] at hf
   obtain ⟨b, o, sl, e, rd, hi⟩ := kind_rd hr hss hf.1 hf.2
   refine ⟨b, o, e, hf.1, by omega, sl, rd, (l, sl), ⟨hl, ?_⟩, MT⟩
   rw [← hB, argK, if_pos (decide_eq_true h1)]; exact hi
 · rw [← hB, argK, if_neg (by simpa using h1)]; exact ⟨.nil _ _, by simp⟩
 clear hl l
 rintro ⟨l, r⟩ ⟨hl, hrr⟩
 dsimp only
 have good : ∀ b : Bool, (b = true → R = limK (if v.op = 4 then A ++ B else A)) → (b = false → R = errK 120) → ∃ x : Sl × Sl × Bool, ((fun ⟨l, r, b⟩ => Ints h l A ∧ Ints h r B ∧ (b = true → R = limK (if v.op = 4 then A ++ B else A)) ∧ (b = false → R = errK 120) : Sl × Sl × Bool → Prop)) x ∧ (l, r, b) = x := fun b g1 g2 => ⟨_, ⟨hl, hrr, g1, g2⟩, rfl⟩
 refine ⟨fun ⟨l, r, b⟩ => Ints h l A ∧ Ints h r B ∧ (b = true → R = limK (if v.op = 4 then A ++ B else A)) ∧ (b = false → R = errK 120), ?_, ?_⟩
 · refine branch_intro (fun c1 => ?_) (fun c1 => branch_intro (fun c2 => ?_) (fun c2 => branch_intro (fun c3 => ?_) (fun c3 => ?_)))
   · have c1 : v.op = 1 := by simpa using c1
     rw [if_pos c1] at nd
     refine branch_dec (fun h1 => hT.err (badR (by rw [nd, if_neg (by omega)])) (by decide) (.refl _)) (fun h1 => branch_dec (fun h2 => hT.err (badR (by rw [nd, if_neg (by omega)])) (by decide) (.refl _)) (fun h2 => ⟨sc, s, v.table, rfl, hs, h8, fun sl h' hle hi => hT.ok (okR (by rw [nd, if_pos (by omega)])) hle hi⟩))
   · have c1 : ¬ v.op = 1 := by simpa using c1
     have c2 : v.op = 2 := by simpa using c2
     rw [if_neg c1, if_pos c2] at nd
     have hne : predErr A [] w ≠ 100 := by unfold predErr; repeat' split
                                           all_goals decide
     refine ⟨l, ⟨none, 0, 0⟩, v.where_, A, [], w, rfl, hl, ⟨.nil _ _, by simp⟩, xw, branch_intro (fun h1 => ?_) (fun h1 => ⟨(l, r, true), ⟨hl, hrr, fun _ => ?_, fun e => (by cases e)⟩, MT⟩)⟩
     · have h1 : predErr A [] w ≠ 0 := by simpa using h1
       exact hT.err (errR hne (by rw [nd, if_neg h1])) h1 (.refl _)
     · rw [if_neg (by omega)]
       exact okR (by rw [nd, if_pos (by simpa using h1)])
   · have c1 : ¬ v.op = 1 := by simpa using c1
     have c2 : ¬ v.op = 2 := by simpa using c2
     have c3 : v.op = 3 := by simpa using c3
     rw [if_neg c1, if_neg c2, if_pos c3] at nd
     refine ⟨l, v.columns, A, co, rfl, hl, xc, ?_⟩
     unfold projR
     split
     · rename_i e
       have hR : R = limK (co.map fun c => A.getD c.toNat 0) := okR (by rw [nd, if_pos e])
       refine hT.all _ ?_
       rw [hR]
       unfold limK
       split
       · rename_i h1
         show fin (_, 0) = _
         rw [fin_lim, limK, if_pos h1]
       · exact fin_err (e := 2) (by decide)
     · rename_i e
       refine hT.all _ ?_
       rw [badR (by rw [nd, if_neg e])]
       exact fin_err (by decide)
   have c1 : ¬ v.op = 1 := by simpa using c1
   have c2 : ¬ v.op = 2 := by simpa using c2
   have c3 : ¬ v.op = 3 := by simpa using c3
   rw [if_neg c1, if_neg c2, if_neg c3] at nd
   refine branch_intro (fun c4 => ?_) (fun c4 => branch_intro (fun c5 => ?_) (fun c5 => ?_))
   · have c4 : v.op = 4 := by simpa using c4
     rw [if_pos c4] at nd
     refine ⟨l, r, v.on, A, B, on, rfl, hl, hrr, xo, by omega, by omega, fun z hz => ⟨(l, r, z), ⟨hl, hrr, fun e => ?_, fun e => ?_⟩, MT⟩⟩
     · rw [if_pos c4]; exact okR (by rw [nd, if_pos (hz.1 e)])
     · exact badR (by rw [nd, if_neg (fun g => by rw [hz.2 g] at e; cases e)])
   · have c4 : ¬ v.op = 4 := by simpa using c4
     have c5 : v.op = 5 := by simpa using c5
     rw [if_neg c4, if_pos c5] at nd
     refine ⟨l, r, v.on, A, B, on, rfl, hl, hrr, xo, by omega, by omega, fun z hz => ⟨(l, r, z), ⟨hl, hrr, fun e => ?_, fun e => ?_⟩, MT⟩⟩
     · rw [if_neg c4]; exact okR (by rw [nd, if_pos (hz.1 e)])
     · exact badR (by rw [nd, if_neg (fun g => by rw [hz.2 g] at e; cases e)])
   have c4 : ¬ v.op = 4 := by simpa using c4
   have c5 : ¬ v.op = 5 := by simpa using c5
   rw [if_neg c4, if_neg c5] at nd
   simp only [if_neg c4]
   have set_case : ¬ v.op = 9 → ¬ v.op = 10 → ∀ z : Bool, (z = true ↔ A = B) → ∃ x : Sl × Sl × Bool, (Ints h x.1 A ∧ Ints h x.2.1 B ∧ (x.2.2 = true → R = limK A) ∧ (x.2.2 = false → R = errK 120)) ∧ x = (l, r, z) := fun n9 n10 z hz => by
    rw [if_neg n9, if_neg n10] at nd
    exact ⟨(l, r, z), ⟨hl, hrr, fun e => okR (by rw [nd, if_pos (hz.1 e)]), fun e => badR (by rw [nd, if_neg (fun g => by rw [hz.2 g] at e; cases e)])⟩, rfl⟩
   have doset : ¬ v.op = 9 → ¬ v.op = 10 → ∃ (s : Sl) (t : Sl) (a : List Int) (b : List Int), [cQs l, cQs r] = [cQs s, cQs t] ∧ Ints h s a ∧ Ints h t b ∧ ∀ z : Bool, (z = true ↔ a = b) → ∃ x : Sl × Sl × Bool, (Ints h x.1 A ∧ Ints h x.2.1 B ∧ (x.2.2 = true → R = limK A) ∧ (x.2.2 = false → R = errK 120)) ∧ x = (l, r, z) := fun n9 n10 => ⟨l, r, A, B, rfl, hl, hrr, set_case n9 n10⟩
   refine branch_intro (fun c6 => ?_) (fun c6 => branch_intro (fun c7 => ?_) (fun c7 => branch_intro (fun c8 => ?_) (fun c8 => ?_)))
   · have c6 : v.op = 6 := by simpa using c6
     refine ⟨l, r, A, B, rfl, hl, hrr, fun z hz => ?_⟩
     obtain ⟨_, g, rfl⟩ := set_case (by omega) (by omega) z hz
     exact ⟨(l, r, z), g, MT⟩
   · have c7 : v.op = 7 := by simpa using c7
     refine ⟨l, r, A, B, rfl, hl, hrr, fun z hz => ?_⟩
     obtain ⟨_, g, rfl⟩ := set_case (by omega) (by omega) z hz
     exact ⟨(l, r, z), g, MT⟩
   · have c8 : v.op = 8 := by simpa using c8
     refine ⟨l, r, A, B, rfl, hl, hrr, fun z hz => ?_⟩
     obtain ⟨_, g, rfl⟩ := set_case (by omega) (by omega) z hz
     exact ⟨(l, r, z), g, MT⟩
   clear set_case doset good
   refine branch_intro (fun c9 => ?_) (fun c9 => branch_intro (fun c10 => ?_) (fun c10 => ?_))
   · have c9 : v.op = 9 := by simpa using c9
     rw [if_pos c9] at nd
     refine ⟨l, v, A, _, rfl, hl, ex, by omega, fun z hz => ⟨(l, r, z), ⟨hl, hrr, fun e => okR (by rw [nd, if_pos (hz.1 e)]), fun e => badR (by rw [nd, if_neg (fun g => by rw [hz.2 g] at e; cases e)])⟩, MT⟩⟩
   · have c9 : ¬ v.op = 9 := by simpa using c9
     have c10 : v.op = 10 := by simpa using c10
     rw [if_neg c9, if_pos c10] at nd
     refine ⟨l, r, A, B, rfl, hl, hrr, fun y hy => branch_intro (fun y1 => ⟨l, v, A, _, rfl, hl, ex, by omega, fun z hz => ⟨(l, r, z), ⟨hl, hrr, fun e => okR (by rw [nd, if_pos ⟨hy.1 y1, hz.1 e⟩]), fun e => badR (by rw [nd, if_neg (fun g => by rw [hz.2 g.2] at e; cases e)])⟩, MT⟩⟩) (fun y1 => ⟨(l, r, false), ⟨hl, hrr, (fun e => (by cases e)), fun e => badR (by rw [nd, if_neg (fun g => by rw [hy.2 g.1] at y1; cases y1)])⟩, MT⟩)⟩
   · exfalso
     have c6 : ¬ v.op = 6 := by simpa using c6
     have c7 : ¬ v.op = 7 := by simpa using c7
     have c8 : ¬ v.op = 8 := by simpa using c8
     have c9 : ¬ v.op = 9 := by simpa using c9
     have c10 : ¬ v.op = 10 := by simpa using c10
     refine hok1 ?_
     unfold arity
     simp [c1, c2, c3, c4, c5, c6, c7, c8, c9, c10]
 clear good hl hrr l r
 rintro ⟨l, r, b⟩ ⟨hl, hrr, g1, g2⟩
 dsimp only at g1 g2 ⊢
 refine branch_intro (fun h1 => hT.err (g2 (by simpa using h1)) (by decide) (.refl _)) (fun h1 => ?_)
 have g := g1 (by simpa using h1)
 refine branch_intro (fun c4 => fun sl h' hle hrow => ?_) (fun c4 => ⟨l, A, rfl, hl, fun s' h' hle hi => ?_⟩)
 · rw [if_pos (by simpa using c4)] at g
   refine ⟨sl, [A, B], rfl, ⟨⟨[l, r], hrow, rfl, fun i k e => ?_⟩, by simp⟩, by simp, fun k hk => ?_, fun sl2 h2 le2 hi => hT.ok g (hle.trans le2) (by simpa using hi)⟩
   · match i, e with
     | 0, e => simp at e; subst e; exact ⟨l, rfl, hl.mono hle⟩
     | 1, e => simp at e; subst e; exact ⟨r, rfl, hrr.mono hle⟩
     | i + 2, e => simp at e
   · rcases List.mem_cons.1 hk with rfl | hk
     · exact a12
     · simp at hk; subst hk; exact b12
 · rw [if_neg (by simpa using c4)] at g
   exact hT.ok g hle hi
theorem f72_sound : Sound Tryz.prog 72 CheckStepS := by
 refine fn_sound (fn := Tryz.f72) (c := bodyOf Tryz.f72) Tryz.func72 rfl (by decide) ?_
 rintro cvs m h K ⟨sc, kk, v, s, ss, ks, t, rfl, hs, h8, x, hr, hss, h12, hT⟩
 refine ⟨f72_ctx sc kk v m h, rfl, specs_cons f73_sound (specs_cons f95_sound (specs_cons f96_sound (specs_cons f62_sound (specs_cons f63_sound (specs_cons f97_sound (specs_cons f98_sound (specs_cons f99_sound (specs_cons f100_sound (specs_cons f101_sound (specs_cons f67_sound specs_nil)))))))))), ?_⟩
 rw [← f72_vc sc kk v m h K]
 exact f72_ok hs h8 x hr hss h12 hT
def stepsR (s : Sch) : List (List Int) → List Step → List (List Int) × Int
 | ks, [] => (ks, 0)
 | ks, t :: ts => if (stepR s ks t).2 = 0 then stepsR s (ks ++ [(stepR s ks t).1]) ts else (ks, (stepR s ks t).2)
def planErr (s : Sch) (ts : List Step) (rs : List Int) : Int :=
 if schErr s ≠ 0 then schErr s else if 1024 < ts.length ∨ 32 < rs.length then 2 else if (stepsR s [] ts).2 ≠ 0 then (stepsR s [] ts).2 else if rs.all (fun r => decide (0 ≤ r) && decide (r < ts.length)) = true then 0 else 120
structure RepPlan (h : PH) (p r : Sl) (ts : List Step) (rs : List Int) : Prop where
 steps : ∃ vs, RowIn h p 22 (vs.map SV2.enc) ∧ Steps h vs ts
 roots : Ints h r rs
 len : ts.length ≤ 1000000000
def PlanCheckS : Vc.Spec := fun cvs m h K => ∃ sc p r s ts rs, cvs = [aS sc, aPl p r] ∧ RepS h s sc ∧ RepPlan h p r ts rs ∧ ∀ kk, K (.tup [cS kk, cI (planErr s ts rs)]) m h
def f44_ctx (sc : SchV) (p r : Sl) : Ctx :=
 ctx4 [(31, SchCheckS), (72, CheckStepS)]
  [(8, { A := Nat × Sl × MH × PH, st := fun ⟨i, kk, m, h⟩ => mkSt 76 78 [(2, .at (.ptr 2 0)), (3, .at (.ptr 3 0)), (7, sv kk), (34, sv p), (35, iv p.len), (36, iv i)] [(2, .cells 28 (sc.enc.map .val)), (3, .cells 49 [.val (.slice p.a p.len p.cap), .val (.slice r.a r.len r.cap)])] m h }),
   (18, { A := Nat × Sl × MH × PH, st := fun ⟨i, kk, m, h⟩ => mkSt 76 78 [(3, .at (.ptr 3 0)), (7, sv kk), (59, sv r), (60, iv r.len), (61, iv i)] [(3, .cells 49 [.val (.slice p.a p.len p.cap), .val (.slice r.a r.len r.cap)])] m h })] [] [] [1108, 2108] [] false
def f44_nice (sc : SchV) (p r : Sl) (m : MH) (h : PH) (K : CV → MH → PH → Prop) : Prop :=
 ∃ (v : SchV) (s : Sch), [cQa [vQi sc.version, vQs sc.tables]] = [cQa [vQi v.version, vQs v.tables]] /\ RepS h s v /\ branch (schErr s != 0) (K (CV.tup [cQn, cQi (schErr s)]) m h)
 (branch (decide ((↑p.len : Int) > 1024)) (K (CV.tup [cQn, cQi 2]) m h) (branch (decide ((↑r.len : Int) > 32)) (K (CV.tup [cQn, cQi 2]) m h) ((0 : Int) <= 0 /\ 0 <= (↑p.len : Int)
 /\ (↑p.len : Int) * 24 <= 281474976710656 /\ (↑p.len : Int) <= 281474976710656 /\ ∀ (s : Sl) (m' : MH), MNew m m' h s 39 1 [] -> ∃ (I : Nat × Sl × MH × PH -> Prop) (mu : Nat × Sl ×
 MH × PH -> Nat), (∃ (x : Nat × Sl × MH × PH), I x /\ eP 2 /\ eP 3 /\ sQs s = sQs x.2.1 /\ eQ (sQs p) /\ eQ (sQi ↑p.len) /\ sQi 0 = sQi ↑x.1 /\ eQ (oQ 28 [aQi sc.version, aQs
 sc.tables]) /\ eQ (oQ 49 [aQs p, aQs r]) /\ m' = x.2.2.1 /\ h = x.2.2.2 /\ True) /\ ∀ (x : Nat × Sl × MH × PH), I x -> branch (decide ((↑x.1 : Int) < ↑p.len)) (∃ (b off : Nat), p.a
 = some (Addr.mk b off none) /\ 0 <= (↑x.1 : Int) /\ (↑x.1 : Int) < ↑p.len /\ ∃ (y : SV2), RdAt x.2.2.1 x.2.2.2 b (off + (↑x.1 : Int).toNat * 22) (SV2.enc y) /\ ∃ (sc_1 : SchV) (kk
 : Sl), ∃ (v : SV2) (s : Sch), ∃ (ss : List Sl) (ks : List (List Int)) (t : Step), [cQa [vQi sc.version, vQs sc.tables], cQs x.2.1, cQa (SV2.enc y)] = [cQa [vQi sc_1.version, vQs
 sc_1.tables], cQs kk, cQa (SV2.enc v)] /\ RepS x.2.2.2 s sc_1 /\ small8 s /\ RepSt x.2.2.2 t v /\ MRow x.2.2.1 kk 39 1 (List.map eS ss) /\ Slices x.2.2.2 ss ks /\ (∀ (k : List
 Int), List.Mem k ks -> k.length <= 12) /\ ∀ (r_1 : List Int × Int), fin r_1 = stepR s ks t -> ∀ (sl : Sl) (h' : PH), x.2.2.2.le h' -> Ints h' sl r_1.1 -> branch (r_1.2 != 0) (K
 (CV.tup [cQn, cQi r_1.2]) x.2.2.1 h') (branch (decide ((↑sl.len : Int) > 12)) (K (CV.tup [cQn, cQi 2]) x.2.2.1 h') (∃ (xs : List (List Value)), MRow x.2.2.1 (Sl.mk x.2.1.a
 x.2.1.len x.2.1.cap) 39 1 xs /\ (xs.length + 1) * 24 <= 140737488355328 /\ xs.length < 140737488355328 /\ ∀ (s' : Sl) (m' : MH), MGrown x.2.2.1 m' (Sl.mk x.2.1.a x.2.1.len
 x.2.1.cap) s' 39 1 (xs ++ [[vQs sl]]) -> ∃ (x_1 : Nat × Sl × MH × PH), I x_1 /\ mu x_1 < mu x /\ eP 2 /\ eP 3 /\ sQs s' = sQs x_1.2.1 /\ eQ (sQs p) /\ eQ (sQi ↑p.len) /\ sQi
 (IntKind.i64.wrap ((↑x.1 : Int) + 1)) = sQi ↑x_1.1 /\ eQ (oQ 28 [aQi sc.version, aQs sc.tables]) /\ eQ (oQ 49 [aQs p, aQs r]) /\ m' = x_1.2.2.1 /\ h' = x_1.2.2.2 /\ True))) (∃ (I :
 Nat × Sl × MH × PH -> Prop) (mu : Nat × Sl × MH × PH -> Nat), (∃ (x_1 : Nat × Sl × MH × PH), I x_1 /\ eP 3 /\ sQs x.2.1 = sQs x_1.2.1 /\ eQ (sQs r) /\ eQ (sQi ↑r.len) /\ sQi 0 =
 sQi ↑x_1.1 /\ eQ (oQ 49 [aQs p, aQs r]) /\ x.2.2.1 = x_1.2.2.1 /\ x.2.2.2 = x_1.2.2.2 /\ True) /\ ∀ (x : Nat × Sl × MH × PH), I x -> branch (decide ((↑x.1 : Int) < ↑r.len)) (∃ (b
 off : Nat), r.a = some (Addr.mk b off none) /\ 0 <= (↑x.1 : Int) /\ (↑x.1 : Int) < ↑r.len /\ ∃ (y : Int), RdAt x.2.2.1 x.2.2.2 b (off + (↑x.1 : Int).toNat * 1) [vQi y] /\ branch
 (decide (y < 0)) (K (CV.tup [cQn, cQi 120]) x.2.2.1 x.2.2.2) (branch (decide (y ≥ (↑p.len : Int))) (K (CV.tup [cQn, cQi 120]) x.2.2.1 x.2.2.2) (∃ (x_1 : Nat × Sl × MH × PH), I x_1
 /\ mu x_1 < mu x /\ eP 3 /\ sQs x.2.1 = sQs x_1.2.1 /\ eQ (sQs r) /\ eQ (sQi ↑r.len) /\ sQi (IntKind.i64.wrap ((↑x.1 : Int) + 1)) = sQi ↑x_1.1 /\ eQ (oQ 49 [aQs p, aQs r]) /\
 x.2.2.1 = x_1.2.2.1 /\ x.2.2.2 = x_1.2.2.2 /\ True))) (K (CV.tup [cQs x.2.1, cQi 0]) x.2.2.1 x.2.2.2)))))
theorem f44_vc (sc : SchV) (p r : Sl) (m : MH) (h : PH) (K : CV → MH → PH → Prop) : f44_nice sc p r m h K = (fnVC (f44_ctx sc p r) Tryz.f44 (bodyOf Tryz.f44) (entry Tryz.f44.ntmps [aS sc, aPl p r] m h) K) := by kernel_rfl
theorem sch8 (h : schErr s = 0) : small8 s := fun t ht => by
 obtain ⟨i, hi⟩ := List.mem_iff_getElem?.1 ht
 have hl : SchLim s := Classical.byContradiction fun hn => by rw [schErr_lim hn] at h; cases h
 exact (hl.2 i t hi).1
structure KRow (m0 m : MH) (h : PH) (kk : Sl) (ks : List (List Int)) : Prop where
 sub : Sub m0 m
 fresh : ∀ b i, kk.a = some ⟨b, i, none⟩ → m0 b = none
 ex : ∃ ss, MRow m kk 39 1 (ss.map eS) ∧ Slices h ss ks
 le12 : ∀ k ∈ ks, k.length ≤ 12
theorem KRow.new {s : Sl} (x : MNew m m' h s 39 1 []) : KRow m m' h s [] := by
 refine ⟨fun b o e => ?_, fun b i e => (x.fresh b i e).m_, ⟨[], x.row, rfl, fun j s k e => by simp at e⟩, fun k hk => by simp at hk⟩
 rw [x.other b (fun i e2 => by have := (x.fresh b i e2).m_; rw [e] at this; cases this)]; exact e
theorem KRow.grown {m0 : MH} {kk sl : Sl} {k : List Int} (r : KRow m0 m h kk ks) (le : PH.le h h') (hi : Ints h' sl k) (hk : k.length ≤ 12) :
 ∃ xs, MRow m ⟨kk.a, kk.len, kk.cap⟩ 39 1 xs ∧ xs.length = ks.length ∧ ∀ s' m', MGrown m m' ⟨kk.a, kk.len, kk.cap⟩ s' 39 1 (xs ++ [[.slice sl.a sl.len sl.cap]]) → KRow m0 m' h' s' (ks ++ [k]) := by
 obtain ⟨ss, h1, h2⟩ := r.ex
 refine ⟨_, h1, by rw [List.length_map, h2.1], fun s' m' g => ⟨fun b o e => g.other b o (r.sub b o e) (fun i e2 => ?_), fun b i e => ?_, ⟨ss ++ [sl], ?_, (h2.mono le).snoc hi⟩, fun x hx => ?_⟩⟩
 · rw [r.fresh b i e2] at e; cases e
 · rcases g.fresh b i e with e2 | ⟨j, e2⟩
   · cases e3 : m0 b with
     | none => rfl
     | some o => rw [r.sub b o e3] at e2; cases e2
   · exact r.fresh b j e2
 · rw [List.map_append]; exact g.row
 · rcases List.mem_append.1 hx with h3 | h3
   · exact r.le12 x h3
   · simp at h3; subst h3; exact hk
theorem Steps.at' {p : Sl} {vs : List SV2} (r : RowIn h p 22 (vs.map SV2.enc)) (s : Steps h vs ts) (hi : ts[i]? = some t) : ∃ b o v, p.a = some ⟨b, o, none⟩ ∧ RdCells h b (o + i * 22) (SV2.enc v) ∧ RepSt h t v := by
 obtain ⟨v, h1, h2⟩ := s.2 i t hi
 obtain ⟨b, o, e, k⟩ := r.get (i := i) (e := SV2.enc v) (by simp [h1])
 exact ⟨b, o, v, e, k, h2⟩
theorem Steps.slen' {p : Sl} {vs : List SV2} (r : RowIn h p 22 (vs.map SV2.enc)) (s : Steps h vs ts) : p.len = ts.length := by
 have := r.len
 simp at this
 rw [this, s.1]
theorem RepPlan.at {p : Sl} (x : RepPlan h p r ts rs) (hi : ts[i]? = some t) : ∃ b o v, p.a = some ⟨b, o, none⟩ ∧ RdCells h b (o + i * 22) (SV2.enc v) ∧ RepSt h t v := by
 obtain ⟨vs, h1, h2⟩ := x.steps
 exact Steps.at' h1 h2 hi
theorem RepPlan.slen {p : Sl} (x : RepPlan h p r ts rs) : p.len = ts.length ∧ p.len ≤ p.cap := by
 obtain ⟨vs, h1, h2⟩ := x.steps
 exact ⟨Steps.slen' h1 h2, h1.cap⟩
theorem RepPlan.mono {p : Sl} (x : RepPlan h p r ts rs) (le : PH.le h h') : RepPlan h' p r ts rs := by
 obtain ⟨vs, h1, h2, h3⟩ := x.steps
 exact ⟨⟨vs, h1.mono le, h2, fun i t e => let ⟨v, e1, e2⟩ := h3 i t e; ⟨v, e1, e2.mono le⟩⟩, x.roots.mono le, x.len⟩
theorem fin_cases (r : List Int × Int) : (r.2 ≠ 0 ∧ fin r = errK r.2) ∨ (r.2 = 0 ∧ 12 < r.1.length ∧ fin r = errK 2) ∨ (r.2 = 0 ∧ r.1.length ≤ 12 ∧ fin r = (r.1, 0)) := by
 unfold fin
 by_cases h : r.2 = 0
 · rw [if_pos h]
   unfold limK
   by_cases h2 : r.1.length ≤ 12
   · rw [if_pos h2]; exact .inr (.inr ⟨h, h2, rfl⟩)
   · rw [if_neg h2]; exact .inr (.inl ⟨h, by omega, rfl⟩)
 · rw [if_neg h]; exact .inl ⟨h, rfl⟩
theorem planErr_steps {s : Sch} {ts : List Step} {rs : List Int} (h1 : schErr s = 0) (h2 : ¬ (1024 < ts.length ∨ 32 < rs.length)) : planErr s ts rs = if (stepsR s [] ts).2 ≠ 0 then (stepsR s [] ts).2 else if rs.all (fun r => decide (0 ≤ r) && decide (r < ts.length)) = true then 0 else 120 := by
 unfold planErr
 rw [if_neg (by simpa using h1), if_neg h2]
theorem stepsR_cons (hi : ts[i]? = some t) : stepsR s ks (ts.drop i) = if (stepR s ks t).2 = 0 then stepsR s (ks ++ [(stepR s ks t).1]) (ts.drop (i + 1)) else (ks, (stepR s ks t).2) := by
 have hl := (List.getElem?_eq_some_iff.1 hi)
 obtain ⟨hl, e⟩ := hl
 rw [List.drop_eq_getElem_cons hl, e]
 rfl
theorem f44_ok {p : Sl} (hs : RepS h s sc) (x : RepPlan h p r ts rs) (hK : ∀ kk, K (.tup [cS kk, cI (planErr s ts rs)]) m h) : f44_nice sc p r m h (Weak h K) := by
 have pl := x.slen.1
 have rl := x.roots.slen
 have tlen := x.len
 have rlen := x.roots.len
 have done : ∀ {mx : MH} {hx : PH} {e : Int} {kk : Sl}, Sub m mx → PH.le h hx → planErr s ts rs = e → Weak h K (.tup [cS kk, cI e]) mx hx := fun {mx hx e kk} h1 h2 h3 => .out h1 h2 (by rw [← h3]; exact hK kk)
 refine ⟨sc, s, rfl, hs, branch_intro (fun h1 => ?_) (fun h1 => ?_)⟩
 · have h1 : schErr s ≠ 0 := by simpa using h1
   exact done (kk := ⟨none, 0, 0⟩) (Sub.refl m) (.refl _) (by unfold planErr; rw [if_pos h1])
 have h1 : schErr s = 0 := by simpa using h1
 refine branch_dec (fun h2 => ?_) (fun h2 => branch_dec (fun h3 => ?_) (fun h3 => ⟨by omega, by omega, by omega, by omega, fun k0 m1 hk0 => ?_⟩))
 · exact done (kk := ⟨none, 0, 0⟩) (Sub.refl m) (.refl _) (by unfold planErr; rw [if_neg (by simpa using h1), if_pos (by omega)])
 · exact done (kk := ⟨none, 0, 0⟩) (Sub.refl m) (.refl _) (by unfold planErr; rw [if_neg (by simpa using h1), if_pos (by omega)])
 have hpe := planErr_steps (s := s) (ts := ts) (rs := rs) h1 (by omega)
 refine ⟨fun ⟨i, kk, mx, hx⟩ => i ≤ ts.length ∧ PH.le h hx ∧ ∃ ks, KRow m mx hx kk ks ∧ ks.length = i ∧ stepsR s ks (ts.drop i) = stepsR s [] ts, fun ⟨i, _⟩ => ts.length - i, ⟨(0, k0, m1, h), ⟨by omega, .refl _, [], .new hk0, rfl, rfl⟩, MT⟩, ?_⟩
 rintro ⟨i, kk, mx, hx⟩ ⟨hi, hle, ks, hkr, hkl, hst⟩
 dsimp only
 refine branch_dec (fun hlt => ?_) (fun hge => ?_)
 · obtain ⟨t, ht⟩ := getx pl hlt
   obtain ⟨b, o, v, e, rd, rv⟩ := (x.mono hle).at ht
   obtain ⟨ss, hm, hss⟩ := hkr.ex
   rw [stepsR_cons ht] at hst
   refine ⟨b, o, e, by omega, hlt, v, .imm rd, sc, kk, v, s, ss, ks, t, rfl, hs.mono hle, sch8 h1, rv, hm, hss, hkr.le12, fun q hq sl h' le' hi' => ?_⟩
   have hsl := hi'.slen
   rcases fin_cases q with ⟨c1, c2⟩ | ⟨c1, c2, c3⟩ | ⟨c1, c2, c3⟩
   · rw [hq] at c2
     rw [c2, if_neg (by simpa [errK] using c1)] at hst
     refine branch_intro (fun _ => done (kk := ⟨none, 0, 0⟩) hkr.sub (hle.trans le') ?_) (fun h4 => ?_)
     · rw [hpe, ← hst, if_pos (by simpa [errK] using c1)]; rfl
     · exact absurd (by simpa using h4) c1
   · rw [hq] at c3
     rw [c3, if_neg (by simp [errK])] at hst
     refine branch_intro (fun h4 => absurd c1 (by simpa using h4)) (fun _ => branch_dec (fun _ => done (kk := ⟨none, 0, 0⟩) hkr.sub (hle.trans le') ?_) (fun h4 => by omega))
     rw [hpe, ← hst, if_pos (by simp [errK])]; rfl
   · rw [hq] at c3
     rw [c3, if_pos rfl] at hst
     refine branch_intro (fun h4 => absurd c1 (by simpa using h4)) (fun _ => branch_dec (fun h4 => by omega) (fun _ => ?_))
     obtain ⟨xs, hxs, hxl, hg⟩ := hkr.grown le' hi' c2
     exact ⟨xs, hxs, by omega, by omega, fun s' m' g => ⟨(i + 1, s', m', h'), ⟨by show i + 1 ≤ ts.length; omega, hle.trans le', ks ++ [q.1], hg s' m' g, by simp [hkl], hst⟩, by show ts.length - (i + 1) < ts.length - i; omega, MT⟩⟩
 have hd : ts.drop i = [] := List.drop_of_length_le (by omega)
 rw [hd] at hst
 have h0 : (stepsR s [] ts).2 = 0 := by rw [← hst]; rfl
 rw [h0, if_neg (by decide)] at hpe
 clear hst hd
 refine ⟨fun ⟨j, k', m', h'⟩ => j ≤ rs.length ∧ k' = kk ∧ m' = mx ∧ h' = hx ∧ (rs.take j).all (fun r => decide (0 ≤ r) && decide (r < ts.length)) = true, fun ⟨j, _⟩ => rs.length - j, ⟨(0, kk, mx, hx), ⟨by omega, rfl, rfl, rfl, by simp⟩, MT⟩, ?_⟩
 rintro ⟨j, kk, mx, hx⟩ ⟨hj, rfl, rfl, rfl, hall⟩
 dsimp only
 refine branch_dec (fun hlt => ?_) (fun hge => ?_)
 · obtain ⟨q, hq⟩ := getx rl hlt
   obtain ⟨b, o, e, rd⟩ := (x.roots.mono hle).at' hq
   have bad : ¬ (0 ≤ q ∧ q < ts.length) → planErr s ts rs = 120 := fun hn => by
    rw [hpe, if_neg]
    intro e2
    have := List.all_eq_true.1 e2 q (List.mem_of_getElem? hq)
    simp only [Bool.and_eq_true, decide_eq_true_eq] at this
    exact hn this
   refine ⟨b, o, e, by omega, hlt, q, .imm rd, branch_dec (fun h4 => done (kk := ⟨none, 0, 0⟩) hkr.sub hle (bad (by omega))) (fun h4 => branch_dec (fun h5 => done (kk := ⟨none, 0, 0⟩) hkr.sub hle (bad (by omega))) (fun h5 => ⟨(j + 1, kk, mx, hx), ⟨by show j + 1 ≤ rs.length; omega, rfl, rfl, rfl, ?_⟩, by show rs.length - (j + 1) < rs.length - j; omega, MT⟩))⟩
   rw [all_take hq, hall, Bool.true_and, Bool.and_eq_true]
   exact ⟨decide_eq_true (by omega), decide_eq_true (by omega)⟩
 · rw [List.take_of_length_le (by omega)] at hall
   exact done hkr.sub hle (by rw [hpe, if_pos hall])
theorem f44_sound : Sound Tryz.prog 44 PlanCheckS := by
 refine fn_sound' (fn := Tryz.f44) (c := bodyOf Tryz.f44) Tryz.func44 rfl (by decide) ?_
 rintro cvs m h K ⟨sc, p, r, s, ts, rs, rfl, hs, x, hK⟩
 refine ⟨f44_ctx sc p r, rfl, specs_cons f31_sound (specs_cons f72_sound specs_nil), ?_⟩
 rw [← f44_vc sc p r m h _]
 exact f44_ok hs x hK
def argsT (t : Step) : List Int := [t.left, t.right].take (arity t.op).toNat
def zeroQ : Query := .mk 0 0 zeroP [] [] [] [] 0 []
def expandQ : Nat → List Step → Nat → Query
 | 0, _, _ => zeroQ
 | n + 1, ts, i => match ts[i]? with
  | none => zeroQ
  | some t => .mk t.op t.table t.wher t.columns t.on t.group t.order t.limit ((argsT t).map fun a => expandQ n ts a.toNat)
def expandF (ts : List Step) (i : Nat) : Query := expandQ (i + 1) ts i
def StepsOk (ts : List Step) : Prop := ∀ (i : Nat) t, ts[i]? = some t → 0 ≤ arity t.op ∧ ∀ a ∈ argsT t, 0 ≤ a ∧ a < i
def expErr (s : Sch) (ts : List Step) (rs : List Int) (i : Int) : Int := if planErr s ts rs ≠ 0 then planErr s ts rs else if i < 0 ∨ (ts.length : Int) ≤ i then 1 else if smallQ (expandF ts i.toNat) = true then 0 else 2
def StepArgsS : Vc.Spec := fun cvs m h K => ∃ v t, cvs = [aT v] ∧ RepSt h t v ∧ 0 ≤ arity t.op ∧ ∀ sl h', PH.le h h' → Ints h' sl (argsT t) → K (cS sl) m h'
def ExpandS (N : Nat) : Vc.Spec := fun cvs m h K => ∃ p r ts rs, ∃ i : Nat, cvs = [aPl p r, cI i] ∧ RepPlan h p r ts rs ∧ StepsOk ts ∧ i < ts.length ∧ i < N ∧ ∀ v h', PH.le h h' → RepQ h' (expandF ts i) v → K (aQ v) m h'
def ExpandA : Vc.Spec := fun cvs m h K => ∃ p r ts rs, ∃ i : Nat, cvs = [aPl p r, cI i] ∧ RepPlan h p r ts rs ∧ StepsOk ts ∧ i < ts.length ∧ ∀ v h', PH.le h h' → RepQ h' (expandF ts i) v → K (aQ v) m h'
def ExpandTopS : Vc.Spec := fun cvs m h K => ∃ sc p r s ts rs i, cvs = [aS sc, aPl p r, cI i] ∧ RepS h s sc ∧ RepPlan h p r ts rs ∧ (expErr s ts rs i ≠ 0 → K (.tup [aQ zeroQV, cI (expErr s ts rs i)]) m h) ∧
 (expErr s ts rs i = 0 → ∀ v h', PH.le h h' → RepQ h' (expandF ts i.toNat) v → K (.tup [aQ v, cI 0]) m h')
def f46_ctx (N : Nat) (p r : Sl) (m : MH) : Ctx :=
 ctx2 [(66, CopyPA), (67, CloneIS), (68, ClonePS), (69, CloneSS), (45, StepArgsS), (46, ExpandS N)]
  [(4, { A := Nat × QV × Sl × List QV × PH, st := fun ⟨j, w, a, us, h⟩ => mkSt 53 55 [(2, .at (.ptr 2 0)), (4, .at (.ptr 4 0)), (6, .at (.ptr 6 0)), (37, sv a), (38, iv a.len), (39, iv j)] [(2, .cells 49 [.val (.slice p.a p.len p.cap), .val (.slice r.a r.len r.cap)]), (4, .cells 43 (zeroQV.enc.map .val)), (6, .cells 43 ((w.enc.take 20).map .val ++ [.lst 49])), (49, .lst 43 21 (us.map QV.enc))] m h })]
  [(3, { A := QV × SV2 × PH, st := fun ⟨w, t, h⟩ => mkSt 53 55 [(2, .at (.ptr 2 0)), (4, .at (.ptr 4 0)), (5, .at (.ptr 5 0)), (6, .at (.ptr 6 0))] [(2, .cells 49 [.val (.slice p.a p.len p.cap), .val (.slice r.a r.len r.cap)]), (4, .cells 43 (zeroQV.enc.map .val)), (5, .cells 60 (t.enc.map .val)), (6, .cells 43 ((w.enc.take 20).map .val ++ [.val (.slice none 0 0)]))] m h })] [] false
def f22_ctx (p r : Sl) (i : Int) (m : MH) : Ctx :=
 ctx2 [(44, PlanCheckS), (45, StepArgsS), (46, ExpandA)]
  [(9, { A := Nat × Sl × List Int × List Int × PH, st := fun ⟨j, c, ns, ds, h⟩ => mkSt 110 113 [(2, iv i), (4, .at (.ptr 4 0)), (6, .at (.ptr 6 0)), (10, .at (.lst 38)), (11, .at (.lst 41)), (46, sv c), (47, iv c.len), (48, iv j)] [(4, .cells 49 [.val (.slice p.a p.len p.cap), .val (.slice r.a r.len r.cap)]), (6, .cells 43 (zeroQV.enc.map .val)), (38, .lst 3 1 (ns.map eI)), (41, .lst 3 1 (ds.map eI))] m h }),
   (13, { A := Nat × Nat × Sl × Sl × List Int × List Int × PH, st := fun ⟨j, k, c, a, ns, ds, h⟩ => mkSt 110 113 [(2, iv i), (4, .at (.ptr 4 0)), (6, .at (.ptr 6 0)), (10, .at (.lst 38)), (11, .at (.lst 41)), (12, iv j), (46, sv c), (47, iv c.len), (48, iv j), (60, sv a), (61, iv a.len), (62, iv k)] [(4, .cells 49 [.val (.slice p.a p.len p.cap), .val (.slice r.a r.len r.cap)]), (6, .cells 43 (zeroQV.enc.map .val)), (38, .lst 3 1 (ns.map eI)), (41, .lst 3 1 (ds.map eI))] m h })]
  [(21, { A := Unit × PH, st := fun ⟨_, h⟩ => mkSt 110 113 [(2, iv i), (4, .at (.ptr 4 0)), (6, .at (.ptr 6 0))] [(4, .cells 49 [.val (.slice p.a p.len p.cap), .val (.slice r.a r.len r.cap)]), (6, .cells 43 (zeroQV.enc.map .val))] m h })] [] false
def f45_nice (v : SV2) (m : MH) (h : PH) (K : CV → MH → PH → Prop) : Prop :=
 (∃ (op : Int), [cQi v.op] = [cQi op] /\ 0 <= arity op /\ arity op <= 2 /\ ∀ (s : Sl) (h' : PH), h.le h' -> RowIn h' s 1 (List.take (arity op).toNat [[vQi v.left], [vQi v.right]])
 -> K (cQs s) m h') /\ ∃ (op : Int), [cQi v.op] = [cQi op] /\ 0 <= arity op /\ arity op <= 2 /\ ∀ (s : Sl) (h' : PH), h.le h' -> RowIn h' s 1 (List.take (arity op).toNat [[vQi
 v.left], [vQi v.right]]) -> K (cQs s) m h'
theorem f45_vc (v : SV2) (m : MH) (h : PH) (K : CV → MH → PH → Prop) : f45_nice v m h K = (fnVC (ctx2 [(73, ArityS)] [] [] [] false) Tryz.f45 (bodyOf Tryz.f45) (entry Tryz.f45.ntmps [aT v] m h) K) := by kernel_rfl
def f46_nice (N : Nat) (p r : Sl) (i : Nat) (m : MH) (h : PH) (K : CV → MH → PH → Prop) : Prop :=
 ∃ (b off : Nat), p.a = some (Addr.mk b off none) /\ 0 <= (↑i : Int) /\ (↑i : Int) < ↑p.len /\ ∃ (y : SV2), RdAt m h b (off + (↑i : Int).toNat * 22) (SV2.enc y) /\ ∃ (I : QV × SV2 ×
 PH -> Prop), ((∃ (v : PV) (p_1 : Pred), [cQa (PV.enc y.where_)] = [cQa (PV.enc v)] /\ RepP h p_1 v /\ ∀ (v' : PV) (h' : PH), h.le h' -> RepP h' p_1 v' -> (∃ (s : Sl) (l : List
 Int), [cQs y.columns] = [cQs s] /\ Ints h' s l /\ ∀ (s' : Sl) (h'_1 : PH), h'.le h'_1 -> Ints h'_1 s' l -> (∃ (s : Sl) (l : List (Int × Int)), [cQs y.on] = [cQs s] /\ Pairs h'_1 s
 l /\ ∀ (s'_1 : Sl) (h' : PH), h'_1.le h' -> Pairs h' s'_1 l -> (∃ (s : Sl) (l : List Int), [cQs y.group] = [cQs s] /\ Ints h' s l /\ ∀ (s'_2 : Sl) (h'_2 : PH), h'.le h'_2 -> Ints
 h'_2 s'_2 l -> (∃ (s : Sl) (l : List (Int × Bool)), [cQs y.order] = [cQs s] /\ Sorts h'_2 s l /\ ∀ (s'_3 : Sl) (h' : PH), h'_2.le h' -> Sorts h' s'_3 l -> ∃ (x : QV × SV2 × PH), I
 x /\ eP 2 /\ eP 4 /\ eP 5 /\ eP 6 /\ eQ (oQ 49 [aQs p, aQs r]) /\ eQ (oQ 43 zQ) /\ oQ 60 (List.map At.val (SV2.enc y)) = oQ 60 (List.map At.val (SV2.enc x.2.1)) /\ oQ 43 (aQi y.op
 :: aQi y.table :: pQ v' [aQs s', aQs s'_1, aQs s'_2, aQs s'_3, aQi y.limit, aQn]) = oQ 43 (qQ x.1 (aQn)) /\ m = m /\ h' = x.2.2 /\ True) /\ ∃ (s : Sl) (l : List (Int × Bool)), [cQs
 y.order] = [cQs s] /\ Sorts h'_2 s l /\ ∀ (s'_3 : Sl) (h' : PH), h'_2.le h' -> Sorts h' s'_3 l -> ∃ (x : QV × SV2 × PH), I x /\ eP 2 /\ eP 4 /\ eP 5 /\ eP 6 /\ eQ (oQ 49 [aQs p,
 aQs r]) /\ eQ (oQ 43 zQ) /\ oQ 60 (List.map At.val (SV2.enc y)) = oQ 60 (List.map At.val (SV2.enc x.2.1)) /\ oQ 43 (aQi y.op :: aQi y.table :: pQ v' [aQs s', aQs s'_1, aQs s'_2,
 aQs s'_3, aQi y.limit, aQn]) = oQ 43 (qQ x.1 (aQn)) /\ m = m /\ h' = x.2.2 /\ True) /\ ∃ (s : Sl) (l : List Int), [cQs y.group] = [cQs s] /\ Ints h' s l /\ ∀ (s'_2 : Sl) (h'_2 :
 PH), h'.le h'_2 -> Ints h'_2 s'_2 l -> ∃ (s : Sl) (l : List (Int × Bool)), [cQs y.order] = [cQs s] /\ Sorts h'_2 s l /\ ∀ (s'_3 : Sl) (h' : PH), h'_2.le h' -> Sorts h' s'_3 l -> ∃
 (x : QV × SV2 × PH), I x /\ eP 2 /\ eP 4 /\ eP 5 /\ eP 6 /\ eQ (oQ 49 [aQs p, aQs r]) /\ eQ (oQ 43 zQ) /\ oQ 60 (List.map At.val (SV2.enc y)) = oQ 60 (List.map At.val (SV2.enc
 x.2.1)) /\ oQ 43 (aQi y.op :: aQi y.table :: pQ v' [aQs s', aQs s'_1, aQs s'_2, aQs s'_3, aQi y.limit, aQn]) = oQ 43 (qQ x.1 (aQn)) /\ m = m /\ h' = x.2.2 /\ True) /\ ∃ (s : Sl) (l
 : List (Int × Int)), [cQs y.on] = [cQs s] /\ Pairs h'_1 s l /\ ∀ (s'_1 : Sl) (h' : PH), h'_1.le h' -> Pairs h' s'_1 l -> ∃ (s : Sl) (l : List Int), [cQs y.group] = [cQs s] /\ Ints
 h' s l /\ ∀ (s'_2 : Sl) (h'_2 : PH), h'.le h'_2 -> Ints h'_2 s'_2 l -> ∃ (s : Sl) (l : List (Int × Bool)), [cQs y.order] = [cQs s] /\ Sorts h'_2 s l /\ ∀ (s'_3 : Sl) (h' : PH),
 h'_2.le h' -> Sorts h' s'_3 l -> ∃ (x : QV × SV2 × PH), I x /\ eP 2 /\ eP 4 /\ eP 5 /\ eP 6 /\ eQ (oQ 49 [aQs p, aQs r]) /\ eQ (oQ 43 zQ) /\ oQ 60 (List.map At.val (SV2.enc y)) =
 oQ 60 (List.map At.val (SV2.enc x.2.1)) /\ oQ 43 (aQi y.op :: aQi y.table :: pQ v' [aQs s', aQs s'_1, aQs s'_2, aQs s'_3, aQi y.limit, aQn]) = oQ 43 (qQ x.1 (aQn)) /\ m = m /\ h' =
 x.2.2 /\ True) /\ ∃ (s : Sl) (l : List Int), [cQs y.columns] = [cQs s] /\ Ints h' s l /\ ∀ (s' : Sl) (h'_1 : PH), h'.le h'_1 -> Ints h'_1 s' l -> ∃ (s : Sl) (l : List (Int × Int)),
 [cQs y.on] = [cQs s] /\ Pairs h'_1 s l /\ ∀ (s'_1 : Sl) (h' : PH), h'_1.le h' -> Pairs h' s'_1 l -> ∃ (s : Sl) (l : List Int), [cQs y.group] = [cQs s] /\ Ints h' s l /\ ∀ (s'_2 :
 Sl) (h'_2 : PH), h'.le h'_2 -> Ints h'_2 s'_2 l -> ∃ (s : Sl) (l : List (Int × Bool)), [cQs y.order] = [cQs s] /\ Sorts h'_2 s l /\ ∀ (s'_3 : Sl) (h' : PH), h'_2.le h' -> Sorts h'
 s'_3 l -> ∃ (x : QV × SV2 × PH), I x /\ eP 2 /\ eP 4 /\ eP 5 /\ eP 6 /\ eQ (oQ 49 [aQs p, aQs r]) /\ eQ (oQ 43 zQ) /\ oQ 60 (List.map At.val (SV2.enc y)) = oQ 60 (List.map At.val
 (SV2.enc x.2.1)) /\ oQ 43 (aQi y.op :: aQi y.table :: pQ v' [aQs s', aQs s'_1, aQs s'_2, aQs s'_3, aQi y.limit, aQn]) = oQ 43 (qQ x.1 (aQn)) /\ m = m /\ h' = x.2.2 /\ True) /\ ∃ (v
 : PV) (p_1 : Pred), [cQa (PV.enc y.where_)] = [cQa (PV.enc v)] /\ RepP h p_1 v /\ ∀ (v' : PV) (h' : PH), h.le h' -> RepP h' p_1 v' -> ∃ (s : Sl) (l : List Int), [cQs y.columns] =
 [cQs s] /\ Ints h' s l /\ ∀ (s' : Sl) (h'_1 : PH), h'.le h'_1 -> Ints h'_1 s' l -> ∃ (s : Sl) (l : List (Int × Int)), [cQs y.on] = [cQs s] /\ Pairs h'_1 s l /\ ∀ (s'_1 : Sl) (h' :
 PH), h'_1.le h' -> Pairs h' s'_1 l -> ∃ (s : Sl) (l : List Int), [cQs y.group] = [cQs s] /\ Ints h' s l /\ ∀ (s'_2 : Sl) (h'_2 : PH), h'.le h'_2 -> Ints h'_2 s'_2 l -> ∃ (s : Sl)
 (l : List (Int × Bool)), [cQs y.order] = [cQs s] /\ Sorts h'_2 s l /\ ∀ (s'_3 : Sl) (h' : PH), h'_2.le h' -> Sorts h' s'_3 l -> ∃ (x : QV × SV2 × PH), I x /\ eP 2 /\ eP 4 /\ eP 5
 /\ eP 6 /\ eQ (oQ 49 [aQs p, aQs r]) /\ eQ (oQ 43 zQ) /\ oQ 60 (List.map At.val (SV2.enc y)) = oQ 60 (List.map At.val (SV2.enc x.2.1)) /\ oQ 43 (aQi y.op :: aQi y.table :: pQ v'
 [aQs s', aQs s'_1, aQs s'_2, aQs s'_3, aQi y.limit, aQn]) = oQ 43 (qQ x.1 (aQn)) /\ m = m /\ h' = x.2.2 /\ True) /\ ∀ (x : QV × SV2 × PH), I x -> ∃ (v : SV2) (t : Step), [cQa
 (SV2.enc x.2.1)] = [cQa (SV2.enc v)] /\ RepSt x.2.2 t v /\ 0 <= arity t.op /\ ∀ (sl : Sl) (h' : PH), x.2.2.le h' -> Ints h' sl (argsT t) -> ∃ (I : Nat × QV × Sl × List QV × PH ->
 Prop) (mu : Nat × QV × Sl × List QV × PH -> Nat), (∃ (x_1 : Nat × QV × Sl × List QV × PH), I x_1 /\ eP 2 /\ eP 4 /\ eP 6 /\ sQs sl = sQs x_1.2.2.1 /\ sQi ↑sl.len = sQi
 ↑x_1.2.2.1.len /\ sQi 0 = sQi ↑x_1.1 /\ eQ (oQ 49 [aQs p, aQs r]) /\ eQ (oQ 43 zQ) /\ oQ 43 (qQ x.1 (At.lst 49)) = oQ 43 (qQ x_1.2.1 (At.lst 49)) /\ some (Own.lst 43 21 []) = some
 (Own.lst 43 21 (List.map QV.enc x_1.2.2.2.1)) /\ m = m /\ h' = x_1.2.2.2.2 /\ True) /\ ∀ (x : Nat × QV × Sl × List QV × PH), I x -> branch (decide ((↑x.1 : Int) < ↑x.2.2.1.len)) (∃
 (b off : Nat), x.2.2.1.a = some (Addr.mk b off none) /\ 0 <= (↑x.1 : Int) /\ (↑x.1 : Int) < ↑x.2.2.1.len /\ ∃ (y : Int), RdAt m x.2.2.2.2 b (off + (↑x.1 : Int).toNat * 1) [vQi y]
 /\ ∃ (p_1 r_1 : Sl) (ts : List Step), ∃ (rs : List Int) (i : Nat), [cQa [vQs p, vQs r], cQi y] = [cQa [vQs p_1, vQs r_1], cQi ↑i] /\ RepPlan x.2.2.2.2 p_1 r_1 ts rs /\ StepsOk ts
 /\ i < ts.length /\ i < N /\ ∀ (v : QV) (h' : PH), x.2.2.2.2.le h' -> RepQ h' (expandF ts i) v -> ((List.map QV.enc x.2.2.2.1).length + 1) * 280 <= 140737488355328 /\ (List.map
 QV.enc x.2.2.2.1).length < 140737488355328 /\ ∃ (x_1 : Nat × QV × Sl × List QV × PH), I x_1 /\ mu x_1 < mu x /\ eP 2 /\ eP 4 /\ eP 6 /\ sQs x.2.2.1 = sQs x_1.2.2.1 /\ sQi
 ↑x.2.2.1.len = sQi ↑x_1.2.2.1.len /\ sQi (IntKind.i64.wrap ((↑x.1 : Int) + 1)) = sQi ↑x_1.1 /\ eQ (oQ 49 [aQs p, aQs r]) /\ eQ (oQ 43 zQ) /\ oQ 43 (qQ x.2.1 (At.lst 49)) = oQ 43
 (qQ x_1.2.1 (At.lst 49)) /\ some (Own.lst 43 21 (List.map QV.enc x.2.2.2.1 ++ [(QV.enc v)])) = some (Own.lst 43 21 (List.map QV.enc x_1.2.2.2.1)) /\ m = m /\ h' = x_1.2.2.2.2 /\
 True) (∀ (s : Sl) (h' : PH), x.2.2.2.2.le h' -> RowIn h' s 21 (List.map QV.enc x.2.2.2.1) -> K (cQa [vQi x.2.1.op, vQi x.2.1.table, vQi x.2.1.where_.op, vQi x.2.1.where_.cmp, vQi
 x.2.1.where_.left.kind, vQi x.2.1.where_.left.index, vQi x.2.1.where_.left.value.kind, vQi x.2.1.where_.left.value.int, Value.string x.2.1.where_.left.value.text, vQi
 x.2.1.where_.right.kind, vQi x.2.1.where_.right.index, vQi x.2.1.where_.right.value.kind, vQi x.2.1.where_.right.value.int, Value.string x.2.1.where_.right.value.text, vQs
 x.2.1.where_.args, vQs x.2.1.columns, vQs x.2.1.on, vQs x.2.1.group, vQs x.2.1.order, vQi x.2.1.limit, vQs s]) m h')
theorem f46_vc (N : Nat) (p r : Sl) (i : Nat) (m : MH) (h : PH) (K : CV → MH → PH → Prop) : f46_nice N p r i m h K = (fnVC (f46_ctx N p r m) Tryz.f46 (bodyOf Tryz.f46) (entry Tryz.f46.ntmps [aPl p r, cI i] m h) K) := by kernel_rfl
def f22_nice (sc : SchV) (p r : Sl) (i : Int) (m : MH) (h : PH) (K : CV → MH → PH → Prop) : Prop :=
 ∃ (sc_1 : SchV), ∃ (p_1 r_1 : Sl) (s : Sch), ∃ (ts : List Step) (rs : List Int), [cQa [vQi sc.version, vQs sc.tables], cQa [vQs p, vQs r]] = [cQa [vQi sc_1.version, vQs
 sc_1.tables], cQa [vQs p_1, vQs r_1]] /\ RepS h s sc_1 /\ RepPlan h p_1 r_1 ts rs /\ ∀ (kk : Sl), branch (planErr s ts rs != 0) (K (CV.tup [cQa zV, cQi (planErr s ts rs)]) m h)
 (branch (decide (i < 0)) (K (CV.tup [cQa zV, cQi 1]) m h) (branch (decide (i ≥ (↑p.len : Int))) (K (CV.tup [cQa zV, cQi 1]) m h) (0 <= IntKind.i64.wrap (i + 1) /\ IntKind.i64.wrap
 (i + 1) <= IntKind.i64.wrap (i + 1) /\ IntKind.i64.wrap (i + 1) * 8 <= 281474976710656 /\ IntKind.i64.wrap (i + 1) <= 281474976710656 /\ 0 <= IntKind.i64.wrap (i + 1) /\
 IntKind.i64.wrap (i + 1) <= IntKind.i64.wrap (i + 1) /\ IntKind.i64.wrap (i + 1) * 8 <= 281474976710656 /\ IntKind.i64.wrap (i + 1) <= 281474976710656 /\ 0 <= IntKind.i64.wrap (i +
 1) /\ IntKind.i64.wrap (i + 1) <= (↑p.cap : Int) /\ ∃ (I : Nat × Sl × List Int × List Int × PH -> Prop) (mu : Nat × Sl × List Int × List Int × PH -> Nat), (∃ (x : Nat × Sl × List
 Int × List Int × PH), I x /\ eQ (sQi i) /\ eP 4 /\ eP 6 /\ eL 38 /\ eL 41 /\ SV.at (At.val (Value.slice p.a (IntKind.i64.wrap (i + 1)).toNat p.cap)) = sQs x.2.1 /\ sQi
 (↑(IntKind.i64.wrap (i + 1)).toNat : Int) = sQi ↑x.2.1.len /\ sQi 0 = sQi ↑x.1 /\ eQ (oQ 49 [aQs p, aQs r]) /\ eQ (oQ 43 zQ) /\ some (Own.lst 3 1 (List.replicate (IntKind.i64.wrap
 (i + 1)).toNat [vQi 0])) = some (Own.lst 3 1 (List.map eI x.2.2.1)) /\ some (Own.lst 3 1 (List.replicate (IntKind.i64.wrap (i + 1)).toNat [vQi 0])) = some (Own.lst 3 1 (List.map eI
 x.2.2.2.1)) /\ m = m /\ h = x.2.2.2.2 /\ True) /\ ∀ (x : Nat × Sl × List Int × List Int × PH), I x -> branch (decide ((↑x.1 : Int) < ↑x.2.1.len)) (∃ (b off : Nat), x.2.1.a = some
 (Addr.mk b off none) /\ 0 <= (↑x.1 : Int) /\ (↑x.1 : Int) < ↑x.2.1.len /\ ∃ (y : SV2), RdAt m x.2.2.2.2 b (off + (↑x.1 : Int).toNat * 22) (SV2.enc y) /\ 0 <= (↑x.1 : Int) /\ (↑x.1
 : Int) < (↑(List.map eI x.2.2.1).length : Int) /\ ∃ (e : List Value), (List.map eI x.2.2.1)[(↑x.1 : Int).toNat]? = some e /\ 0 < e.length /\ 0 <= (↑x.1 : Int) /\ (↑x.1 : Int) <
 (↑(List.map eI x.2.2.2.1).length : Int) /\ ∃ (e_1 : List Value), (List.map eI x.2.2.2.1)[(↑x.1 : Int).toNat]? = some e_1 /\ 0 < e_1.length /\ ∃ (v : SV2) (t : Step), [cQa (SV2.enc
 y)] = [cQa (SV2.enc v)] /\ RepSt x.2.2.2.2 t v /\ 0 <= arity t.op /\ ∀ (sl : Sl) (h' : PH), x.2.2.2.2.le h' -> Ints h' sl (argsT t) -> ∃ (I_1 : Nat × Nat × Sl × Sl × List Int ×
 List Int × PH -> Prop) (mu_1 : Nat × Nat × Sl × Sl × List Int × List Int × PH -> Nat), (∃ (x_1 : Nat × Nat × Sl × Sl × List Int × List Int × PH), I_1 x_1 /\ eQ (sQi i) /\ eP 4 /\
 eP 6 /\ eL 38 /\ eL 41 /\ sQi ↑x.1 = sQi ↑x_1.1 /\ sQs x.2.1 = sQs x_1.2.2.1 /\ sQi ↑x.2.1.len = sQi ↑x_1.2.2.1.len /\ sQi ↑x.1 = sQi ↑x_1.1 /\ sQs sl = sQs x_1.2.2.2.1 /\ sQi
 ↑sl.len = sQi ↑x_1.2.2.2.1.len /\ sQi 0 = sQi ↑x_1.2.1 /\ eQ (oQ 49 [aQs p, aQs r]) /\ eQ (oQ 43 zQ) /\ some (Own.lst 3 1 ((List.map eI x.2.2.1).set (↑x.1 : Int).toNat (vQi 1 ::
 (List.drop 1 e)))) = some (Own.lst 3 1 (List.map eI x_1.2.2.2.2.1)) /\ some (Own.lst 3 1 ((List.map eI x.2.2.2.1).set (↑x.1 : Int).toNat (vQi 1 :: (List.drop 1 e_1)))) = some
 (Own.lst 3 1 (List.map eI x_1.2.2.2.2.2.1)) /\ m = m /\ h' = x_1.2.2.2.2.2.2 /\ True) /\ ∀ (x_1 : Nat × Nat × Sl × Sl × List Int × List Int × PH), I_1 x_1 -> branch (decide
 ((↑x_1.2.1 : Int) < ↑x_1.2.2.2.1.len)) (∃ (b off : Nat), x_1.2.2.2.1.a = some (Addr.mk b off none) /\ 0 <= (↑x_1.2.1 : Int) /\ (↑x_1.2.1 : Int) < ↑x_1.2.2.2.1.len /\ ∃ (y : Int),
 RdAt m x_1.2.2.2.2.2.2 b (off + (↑x_1.2.1 : Int).toNat * 1) [vQi y] /\ 0 <= (↑x_1.1 : Int) /\ (↑x_1.1 : Int) < (↑(List.map eI x_1.2.2.2.2.1).length : Int) /\ ∃ (e : List Value),
 (List.map eI x_1.2.2.2.2.1)[(↑x_1.1 : Int).toNat]? = some e /\ ∃ (y_1 : Int), List.take 1 (List.drop 0 e) = [vQi y_1] /\ 0 <= y /\ y < (↑(List.map eI x_1.2.2.2.2.1).length : Int)
 /\ ∃ (e : List Value), (List.map eI x_1.2.2.2.2.1)[y.toNat]? = some e /\ ∃ (y_2 : Int), List.take 1 (List.drop 0 e) = [vQi y_2] /\ 0 <= (↑x_1.1 : Int) /\ (↑x_1.1 : Int) <
 (↑(List.map eI x_1.2.2.2.2.1).length : Int) /\ ∃ (e : List Value), (List.map eI x_1.2.2.2.2.1)[(↑x_1.1 : Int).toNat]? = some e /\ 0 < e.length /\ 0 <= (↑x_1.1 : Int) /\ (↑x_1.1 :
 Int) < (↑(List.map eI x_1.2.2.2.2.2.1).length : Int) /\ ∃ (e_2 : List Value), (List.map eI x_1.2.2.2.2.2.1)[(↑x_1.1 : Int).toNat]? = some e_2 /\ ∃ (y_3 : Int), List.take 1
 (List.drop 0 e_2) = [vQi y_3] /\ 0 <= y /\ y < (↑(List.map eI x_1.2.2.2.2.2.1).length : Int) /\ ∃ (e_3 : List Value), (List.map eI x_1.2.2.2.2.2.1)[y.toNat]? = some e_3 /\ ∃ (y :
 Int), List.take 1 (List.drop 0 e_3) = [vQi y] /\ 0 <= (↑x_1.1 : Int) /\ (↑x_1.1 : Int) < (↑(List.map eI x_1.2.2.2.2.2.1).length : Int) /\ ∃ (e_4 : List Value), (List.map eI
 x_1.2.2.2.2.2.1)[(↑x_1.1 : Int).toNat]? = some e_4 /\ 0 < e_4.length /\ ∃ (x : Nat × Nat × Sl × Sl × List Int × List Int × PH), I_1 x /\ mu_1 x < mu_1 x_1 /\ eQ (sQi i) /\ eP 4 /\
 eP 6 /\ eL 38 /\ eL 41 /\ sQi ↑x_1.1 = sQi ↑x.1 /\ sQs x_1.2.2.1 = sQs x.2.2.1 /\ sQi ↑x_1.2.2.1.len = sQi ↑x.2.2.1.len /\ sQi ↑x_1.1 = sQi ↑x.1 /\ sQs x_1.2.2.2.1 = sQs x.2.2.2.1
 /\ sQi ↑x_1.2.2.2.1.len = sQi ↑x.2.2.2.1.len /\ sQi (IntKind.i64.wrap ((↑x_1.2.1 : Int) + 1)) = sQi ↑x.2.1 /\ eQ (oQ 49 [aQs p, aQs r]) /\ eQ (oQ 43 zQ) /\ some (Own.lst 3 1
 ((List.map eI x_1.2.2.2.2.1).set (↑x_1.1 : Int).toNat (vQi (if 25 < IntKind.i64.wrap (y_1 + y_2) then 25 else IntKind.i64.wrap (y_1 + y_2)) :: (List.drop 1 e)))) = some (Own.lst 3
 1 (List.map eI x.2.2.2.2.1)) /\ some (Own.lst 3 1 ((List.map eI x_1.2.2.2.2.2.1).set (↑x_1.1 : Int).toNat (vQi (if IntKind.i64.wrap (y + 1) > y_3 then IntKind.i64.wrap (y + 1) else
 y_3) :: (List.drop 1 e_4)))) = some (Own.lst 3 1 (List.map eI x.2.2.2.2.2.1)) /\ m = m /\ x_1.2.2.2.2.2.2 = x.2.2.2.2.2.2 /\ True) (∃ (x_2 : Nat × Sl × List Int × List Int × PH), I
 x_2 /\ mu x_2 < mu x /\ eQ (sQi i) /\ eP 4 /\ eP 6 /\ eL 38 /\ eL 41 /\ sQs x_1.2.2.1 = sQs x_2.2.1 /\ sQi ↑x_1.2.2.1.len = sQi ↑x_2.2.1.len /\ sQi (IntKind.i64.wrap ((↑x_1.1 :
 Int) + 1)) = sQi ↑x_2.1 /\ eQ (oQ 49 [aQs p, aQs r]) /\ eQ (oQ 43 zQ) /\ some (Own.lst 3 1 (List.map eI x_1.2.2.2.2.1)) = some (Own.lst 3 1 (List.map eI x_2.2.2.1)) /\ some
 (Own.lst 3 1 (List.map eI x_1.2.2.2.2.2.1)) = some (Own.lst 3 1 (List.map eI x_2.2.2.2.1)) /\ m = m /\ x_1.2.2.2.2.2.2 = x_2.2.2.2.2 /\ True)) (∃ (I : Unit × PH -> Prop), (0 <= i
 /\ i < (↑(List.map eI x.2.2.1).length : Int) /\ ∃ (e : List Value), (List.map eI x.2.2.1)[i.toNat]? = some e /\ ∃ (y : Int), List.take 1 (List.drop 0 e) = [vQi y] /\ branch (decide
 (y > 24)) (K (CV.tup [cQa zV, cQi 2]) m x.2.2.2.2) (0 <= i /\ i < (↑(List.map eI x.2.2.2.1).length : Int) /\ ∃ (e : List Value), (List.map eI x.2.2.2.1)[i.toNat]? = some e /\ ∃ (y
 : Int), List.take 1 (List.drop 0 e) = [vQi y] /\ branch (decide (y > 8)) (K (CV.tup [cQa zV, cQi 2]) m x.2.2.2.2) (∃ (x_1 : Unit × PH), I x_1 /\ eQ (sQi i) /\ eP 4 /\ eP 6 /\ eQ
 (oQ 49 [aQs p, aQs r]) /\ eQ (oQ 43 zQ) /\ m = m /\ x.2.2.2.2 = x_1.2 /\ True))) /\ ∀ (x : Unit × PH), I x -> ∃ (p_2 r_2 : Sl) (ts : List Step), ∃ (rs : List Int) (i_1 : Nat), [cQa
 [vQs p, vQs r], cQi i] = [cQa [vQs p_2, vQs r_2], cQi ↑i_1] /\ RepPlan x.2 p_2 r_2 ts rs /\ StepsOk ts /\ i_1 < ts.length /\ ∀ (v : QV) (h' : PH), x.2.le h' -> RepQ h' (expandF ts
 i_1) v -> K (CV.tup [cQa (QV.enc v), cQi 0]) m h'))))
theorem f22_vc (sc : SchV) (p r : Sl) (i : Int) (m : MH) (h : PH) (K : CV → MH → PH → Prop) : f22_nice sc p r i m h K = (fnVC (f22_ctx p r i m) Tryz.f22 (bodyOf Tryz.f22) (entry Tryz.f22.ntmps [aS sc, aPl p r, cI i] m h) K) := by kernel_rfl
theorem expandQ_same {ts : List Step} (ok : StepsOk ts) : ∀ (n n' i : Nat), i < n → i < n' → expandQ n ts i = expandQ n' ts i
 | 0, _, _, h, _ => by omega
 | _ + 1, 0, _, _, h => by omega
 | n + 1, n' + 1, i, h1, h2 => by
  simp only [expandQ]
  cases e : ts[i]? with
  | none => rfl
  | some t =>
   have : (argsT t).map (fun a => expandQ n ts a.toNat) = (argsT t).map (fun a => expandQ n' ts a.toNat) := List.map_congr_left fun a ha => by
    have := (ok i t e).2 a ha
    exact expandQ_same ok n n' a.toNat (by omega) (by omega)
   simp only [this]
def argsF (ts : List Step) (t : Step) : List Query := (argsT t).map fun a => expandF ts a.toNat
theorem expandF_eq (ok : StepsOk ts) (ht : ts[i]? = some t) : expandF ts i = .mk t.op t.table t.wher t.columns t.on t.group t.order t.limit (argsF ts t) := by
 unfold expandF
 simp only [expandQ, ht]
 have : (argsT t).map (fun a => expandQ i ts a.toNat) = argsF ts t := List.map_congr_left fun a ha => by
  have := (ok i t ht).2 a ha
  exact expandQ_same ok _ _ _ (by omega) (by omega)
 rw [this]
mutual
def dpQ : Query → Int
 | .mk _ _ _ _ _ _ _ _ args => 1 + dpQs args
def dpQs : List Query → Int
 | [] => 0
 | p :: ps => max (dpQ p) (dpQs ps)
end
theorem dpQs_pos : ∀ ps : List Query, 0 ≤ dpQs ps
 | [] => by simp [dpQs]
 | p :: ps => by have := dpQs_pos ps; simp only [dpQs]; omega
mutual
theorem deeper_iff : ∀ (p : Query) (k : Nat), deeperQ p k = true ↔ (k : Int) < dpQ p
 | .mk _ _ _ _ _ _ _ _ args, 0 => by have := dpQs_pos args; simp only [deeperQ, dpQ, true_iff]; omega
 | .mk _ _ _ _ _ _ _ _ args, k + 1 => by simp only [deeperQ, dpQ]; rw [deepers_iff args k]; omega
theorem deepers_iff : ∀ (ps : List Query) (k : Nat), deeperQs ps k = true ↔ (k : Int) < dpQs ps
 | [], k => by simp only [deeperQs, dpQs, Bool.false_eq_true, false_iff]; omega
 | p :: ps, k => by simp only [deeperQs, dpQs, Bool.or_eq_true]; rw [deeper_iff p k, deepers_iff ps k]; omega
end
theorem small_iff : smallQ q = true ↔ szQ q ≤ 24 ∧ dpQ q ≤ 8 := by
 rw [← vis_small, (visQ_eq q 8 0 (by omega)).1]
 have := deeper_iff q 8
 cases e : deeperQ q 8
 · rw [e] at this; simp at this; simp; omega
 · rw [e] at this; simp at this; simp; omega
theorem szQs_snoc (l : List Query) (q : Query) : szQs (l ++ [q]) = szQs l + szQ q := by
 induction l with
 | nil => simp [szQs]
 | cons x l ih => simp only [List.cons_append, szQs, ih]; omega
theorem dpQs_snoc (l : List Query) (q : Query) : dpQs (l ++ [q]) = max (dpQs l) (dpQ q) := by
 induction l with
 | nil => simp only [List.nil_append, dpQs]; have : 0 ≤ dpQ q := by cases q; rename_i a; have := dpQs_pos a; simp only [dpQ]; omega
          omega
 | cons x l ih => simp only [List.cons_append, dpQs, ih]; omega
theorem dpQ_le (ok : StepsOk ts) : ∀ (i : Nat), i < ts.length → dpQ (expandF ts i) ≤ i + 1 := by
 intro i
 induction i using Nat.strongRecOn with
 | _ i ih =>
  intro hi
  have ht : ts[i]? = some ts[i] := List.getElem?_eq_getElem hi
  rw [expandF_eq ok ht]
  simp only [dpQ]
  have : ∀ l : List Int, (∀ a ∈ l, 0 ≤ a ∧ a < i) → dpQs (l.map fun a => expandF ts a.toNat) ≤ i := by
   intro l
   induction l with
   | nil => intro _; simp only [List.map_nil, dpQs]; omega
   | cons a l ih2 =>
    intro h
    have h1 := h a (by simp)
    have h2 := ih2 fun b hb => h b (by simp [hb])
    have h3 := ih a.toNat (by omega) (by omega)
    simp only [List.map_cons, dpQs]
    omega
  have := this (argsT ts[i]) (ok i _ ht).2
  unfold argsF
  omega
theorem stepR_fit (h : (stepR s ks t).2 = 0) : 0 ≤ arity t.op ∧ ∀ a ∈ argsT t, 0 ≤ a ∧ a < ks.length := by
 unfold stepR at h
 split at h
 · cases h
 rename_i hok
 have h2 := arity_le t.op
 have h0 : 0 ≤ arity t.op := Classical.byContradiction fun e => hok (.inl (by omega))
 have fl : fitB t.left (decide (arity t.op > 0)) ks.length = true := by
  cases e : fitB t.left (decide (arity t.op > 0)) ks.length with
  | true => rfl
  | false => exact (hok (.inr (.inl e))).elim
 have fr : fitB t.right (decide (arity t.op > 1)) ks.length = true := by
  cases e : fitB t.right (decide (arity t.op > 1)) ks.length with
  | true => rfl
  | false => exact (hok (.inr (.inr e))).elim
 refine ⟨h0, fun a ha => ?_⟩
 unfold argsT at ha
 obtain ⟨n, hn⟩ : ∃ n : Nat, arity t.op = n := ⟨(arity t.op).toNat, by omega⟩
 rw [hn, Int.toNat_natCast] at ha
 unfold fitB at fl fr
 match n, hn, ha with
 | 0, _, ha => simp at ha
 | 1, hn, ha =>
  simp at ha
  subst ha
  rw [if_pos (decide_eq_true (by omega))] at fl
  simpa using fl
 | 2, hn, ha =>
  simp at ha
  rw [if_pos (decide_eq_true (by omega))] at fl fr
  rcases ha with rfl | rfl
  · simpa using fl
  · simpa using fr
 | n + 3, hn, _ => omega
theorem stepsR_get {s : Sch} : ∀ (ts : List Step) (ks : List (List Int)), (stepsR s ks ts).2 = 0 → ∀ (i : Nat) t, ts[i]? = some t → ∃ ks', ks'.length = ks.length + i ∧ (stepR s ks' t).2 = 0
 | [], _, _, i, t, e => by simp at e
 | u :: ts, ks, h, i, t, e => by
  simp only [stepsR] at h
  split at h
  · rename_i h1
    match i, e with
    | 0, e => simp at e; subst e; exact ⟨ks, by omega, h1⟩
    | i + 1, e =>
     obtain ⟨ks', h2, h3⟩ := stepsR_get ts _ h i t (by simpa using e)
     exact ⟨ks', by simp at h2; omega, h3⟩
  · rename_i h1; exact absurd h h1
theorem planErr_zero (h : planErr s ts rs = 0) : schErr s = 0 ∧ ts.length ≤ 1024 ∧ rs.length ≤ 32 ∧ (stepsR s [] ts).2 = 0 ∧ ∀ r ∈ rs, 0 ≤ r ∧ r < ts.length := by
 unfold planErr at h
 split at h
 · rename_i h1; exact absurd h h1
 rename_i h1
 split at h
 · cases h
 rename_i h2
 split at h
 · rename_i h3; exact absurd h h3
 rename_i h3
 split at h
 · rename_i h4
   refine ⟨by simpa using h1, by omega, by omega, by simpa using h3, fun r hr => ?_⟩
   simpa using List.all_eq_true.1 h4 r hr
 · cases h
theorem plan_ok (h : planErr s ts rs = 0) : StepsOk ts := fun i t e => by
 obtain ⟨ks, h1, h2⟩ := stepsR_get ts [] (planErr_zero h).2.2.2.1 i t e
 obtain ⟨h3, h4⟩ := stepR_fit h2
 simp only [List.length_nil, Nat.zero_add] at h1
 exact ⟨h3, fun a ha => by have := h4 a ha; omega⟩
theorem f45_ok {v : SV2} (x : RepSt h t v) (h0 : 0 ≤ arity t.op) (hK : ∀ sl h', PH.le h h' → Ints h' sl (argsT t) → K (cS sl) m h') : f45_nice v m h K := by
 have e := x.op_
 have hl : (argsT t).length ≤ 17592186044416 := by unfold argsT; simp; omega
 have main : ∃ op : Int, [cQi v.op] = [cQi op] ∧ 0 ≤ arity op ∧ arity op ≤ 2 ∧ ∀ (s : Sl) (h' : PH), h.le h' → RowIn h' s 1 (List.take (arity op).toNat [[vQi v.left], [vQi v.right]]) → K (cQs s) m h' := by
  refine ⟨v.op, rfl, by rw [e]; exact h0, arity_le _, fun s h' le r => hK s h' le ⟨?_, hl⟩⟩
  rw [e, x.left_, x.right_] at r
  unfold argsT
  rw [List.map_take]
  exact r
 exact ⟨main, main⟩
theorem f45_sound : Sound Tryz.prog 45 StepArgsS := by
 refine fn_sound (fn := Tryz.f45) (c := bodyOf Tryz.f45) Tryz.func45 rfl (by decide) ?_
 rintro cvs m h K ⟨v, t, rfl, x, h0, hK⟩
 refine ⟨ctx2 [(73, ArityS)] [] [] [] false, rfl, specs_cons f73_sound specs_nil, ?_⟩
 rw [← f45_vc v m h K]
 exact f45_ok x h0 hK
theorem f46_ok {p : Sl} (x : RepPlan h p r ts rs) (ok : StepsOk ts) (hi : i < ts.length) (hN : i < N + 1) (hK : ∀ v h', PH.le h h' → RepQ h' (expandF ts i) v → K (aQ v) m h') : f46_nice N p r i m h K := by
 obtain ⟨t, ht⟩ : ∃ t, ts[i]? = some t := ⟨_, List.getElem?_eq_getElem hi⟩
 obtain ⟨b, o, y, e, rd, rv⟩ := x.at ht
 have pl := x.slen.1
 obtain ⟨a0, hargs⟩ := ok i t ht
 rw [expandF_eq ok ht] at hK
 have hal : (argsT t).length ≤ 2 := by unfold argsT; simp; omega
 refine ⟨b, o, e, by omega, by omega, y, .imm rd, fun ⟨w, u, hx⟩ => PH.le h hx ∧ RepSt hx t u ∧ RepQ hx t.query w, ?_, ?_⟩
 · repeat' (first
    | (refine ⟨y.where_, t.wher, rfl, rv.where_, fun v1 h1 le1 r1 => ?_⟩)
    | (refine ⟨y.columns, t.columns, rfl, rv.columns_.mono le1, fun s2 h2 le2 r2 => ?_⟩)
    | (refine ⟨y.on, t.on, rfl, rv.on_.mono (le1.trans le2), fun s3 h3 le3 r3 => ?_⟩)
    | (refine ⟨y.group, t.group, rfl, rv.group_.mono ((le1.trans le2).trans le3), fun s4 h4 le4 r4 => ?_⟩)
    | (refine ⟨y.order, t.order, rfl, rv.order_.mono (((le1.trans le2).trans le3).trans le4), fun s5 h5 le5 r5 => ?_⟩)
    | (exact ⟨(⟨y.op, y.table, v1, s2, s3, s4, s5, y.limit, ⟨none, 0, 0⟩⟩, y, h5), ⟨(((le1.trans le2).trans le3).trans le4).trans le5, rv.mono ((((le1.trans le2).trans le3).trans le4).trans le5), QParts.rep ⟨rv.op_, rv.table_, r1.mono (((le2.trans le3).trans le4).trans le5), r2.mono ((le3.trans le4).trans le5), r3.mono (le4.trans le5), r4.mono le5, r5, rv.limit_, .nil _ _ _ _⟩⟩, MT⟩)
    | apply And.intro)
 rintro ⟨w, u, hx⟩ ⟨hle, ru, rq⟩
 refine ⟨u, t, rfl, ru, a0, fun sl h2 le2 hsl => ?_⟩
 have al := hsl.slen
 refine ⟨fun ⟨j, w', a, us, hy⟩ => w' = w ∧ a = sl ∧ j ≤ (argsT t).length ∧ PH.le h2 hy ∧ us.length = j ∧ ∀ (k : Nat) c, ((argsT t).take j)[k]? = some c → ∃ u, us[k]? = some u ∧ RepQ hy (expandF ts c.toNat) u, fun ⟨j, _⟩ => (argsT t).length - j, ⟨(0, w, sl, [], h2), ⟨rfl, rfl, by omega, .refl _, rfl, fun k c e => by simp at e⟩, MT⟩, ?_⟩
 rintro ⟨j, w, a, us, hy⟩ ⟨rfl, rfl, hj, hly, hul, hus⟩
 dsimp only
 refine branch_dec (fun hlt => ?_) (fun hge s' h' le' hrow => hK ⟨w.op, w.table, w.where_, w.columns, w.on, w.group, w.order, w.limit, s'⟩ h' (((hle.trans le2).trans hly).trans le') ?_)
 · obtain ⟨c, hc⟩ := getx al hlt
   obtain ⟨b1, o1, e1, r1⟩ := (hsl.mono hly).at' hc
   have hcb := hargs c (List.mem_of_getElem? hc)
   refine ⟨b1, o1, e1, by omega, hlt, c, .imm r1, p, r, ts, rs, c.toNat, by rw [show ((c.toNat : Nat) : Int) = c by omega], x.mono ((hle.trans le2).trans hly), ok, by omega, by omega, fun v' h' le' rq' => ⟨by simp; omega, by simp; omega, (j + 1, w, a, us ++ [v'], h'), ⟨rfl, rfl, by omega, hly.trans le', by simp [hul], fun k d hd => ?_⟩, by show (argsT t).length - (j + 1) < (argsT t).length - j; omega, ?_⟩⟩
   · rw [List.take_add_one, hc] at hd
     by_cases hk : k < j
     · rw [List.getElem?_append_left (by simp; omega)] at hd
       obtain ⟨u', h1, h2⟩ := hus k d hd
       exact ⟨u', by rw [List.getElem?_append_left (by omega)]; exact h1, h2.mono le'⟩
     · rw [List.getElem?_append_right (by simp; omega)] at hd
       have hkl := (List.getElem?_eq_some_iff.1 hd).1
       simp at hkl
       have : k = j := by omega
       subst this
       simp only [List.length_take, Nat.min_eq_left hj, Nat.sub_self] at hd
       simp at hd
       subst hd
       exact ⟨v', by rw [List.getElem?_append_right (by omega), hul]; simp, rq'⟩
   · rw [List.map_append]; exact MT
 · rw [List.take_of_length_le (by omega)] at hus
   have q := (rq.mono ((le2.trans hly).trans le')).parts
   refine QParts.rep ⟨q.op_, q.table_, q.where_, q.columns_, q.on_, q.group_, q.order_, q.limit_, ⟨us, hrow, ?_, fun k z hz => ?_⟩, ?_⟩
   · unfold argsF; rw [List.length_map]; omega
   · unfold argsF at hz
     rw [List.getElem?_map, Option.map_eq_some_iff] at hz
     obtain ⟨c, hc, rfl⟩ := hz
     obtain ⟨u', h1, h2⟩ := hus k c hc
     exact ⟨u', h1, h2.mono le'⟩
   · unfold argsF; rw [List.length_map]; omega
theorem f46_all : ∀ N, Sound Tryz.prog 46 (ExpandS N)
 | 0 => by
  refine fn_sound (fn := Tryz.f46) (c := bodyOf Tryz.f46) Tryz.func46 rfl (by decide) ?_
  rintro cvs m h K ⟨p, r, ts, rs, i, rfl, _, _, _, hN, _⟩
  omega
 | N + 1 => by
  refine fn_sound (fn := Tryz.f46) (c := bodyOf Tryz.f46) Tryz.func46 rfl (by decide) ?_
  rintro cvs m h K ⟨p, r, ts, rs, i, rfl, x, ok, hi, hN, hK⟩
  refine ⟨f46_ctx N p r m, rfl, specs_cons f66_sound (specs_cons f67_sound (specs_cons f68_sound (specs_cons f69_sound (specs_cons f45_sound (specs_cons (f46_all N) specs_nil))))), ?_⟩
  rw [← f46_vc N p r i m h K]
  exact f46_ok x ok hi hN hK
theorem f46_sound : Sound Tryz.prog 46 ExpandA := sound_of_all f46_all fun _ _ _ _ ⟨p, r, ts, rs, i, e, h1, h2, h3, h4⟩ => ⟨i + 1, p, r, ts, rs, i, e, h1, h2, h3, by omega, h4⟩
def nN (ts : List Step) (k : Nat) : Int := min (szQ (expandF ts k)) 25
def dN (ts : List Step) (k : Nat) : Int := dpQ (expandF ts k)
theorem setI (l : List Int) (j : Nat) (x y : Int) : (List.map eI l).set (Int.toNat (j : Int)) (vQi x :: ([] ++ List.drop 1 (eI y))) = List.map eI (l.set j x) := by rw [List.map_set]; rfl
theorem getI {j : Nat} {x : Int} (h : l[j]? = some x) : (List.map eI l)[j]? = some (eI x) := by rw [List.getElem?_map, h]; rfl
theorem f22_ok {p : Sl} {i : Int} (hs : RepS h s sc) (x : RepPlan h p r ts rs) (hE : expErr s ts rs i ≠ 0 → K (.tup [aQ zeroQV, cI (expErr s ts rs i)]) m h)
 (hK : expErr s ts rs i = 0 → ∀ v h', PH.le h h' → RepQ h' (expandF ts i.toNat) v → K (.tup [aQ v, cI 0]) m h') : f22_nice sc p r i m h (Weak h K) := by
 have pl := x.slen
 have tlen := x.len
 have ee : ∀ {e : Int} {hx : PH}, PH.le h hx → e ≠ 0 → expErr s ts rs i = e → Weak h K (.tup [aQ zeroQV, cI e]) m hx := fun {e hx} le h0 he => .out (Sub.refl m) le (by rw [← he] at h0 ⊢; exact hE h0)
 refine ⟨sc, p, r, s, ts, rs, rfl, hs, x, fun kk => branch_intro (fun h1 => ?_) (fun h1 => branch_dec (fun h2 => ?_) (fun h2 => branch_dec (fun h3 => ?_) (fun h3 => ?_)))⟩
 · have h1 : planErr s ts rs ≠ 0 := by simpa using h1
   exact ee (.refl _) h1 (by unfold expErr; rw [if_pos h1])
 · have h1 : planErr s ts rs = 0 := by simpa using h1
   exact ee (.refl _) (by decide) (by unfold expErr; rw [if_neg (by simpa using h1), if_pos (.inl h2)])
 · have h1 : planErr s ts rs = 0 := by simpa using h1
   exact ee (.refl _) (by decide) (by unfold expErr; rw [if_neg (by simpa using h1), if_pos (.inr (by omega))])
 have h1 : planErr s ts rs = 0 := by simpa using h1
 have ok := plan_ok h1
 obtain ⟨n, rfl⟩ : ∃ n : Nat, i = n := ⟨i.toNat, by omega⟩
 have hn : n < ts.length := by omega
 have hexp : expErr s ts rs n = if smallQ (expandF ts n) = true then 0 else 2 := by
  unfold expErr
  rw [if_neg (by simpa using h1), if_neg (by omega), Int.toNat_natCast]
 rw [Int.toNat_natCast] at hK
 have hw : IntKind.i64.wrap ((n : Int) + 1) = (n : Int) + 1 := wrap_id (by omega) (by omega)
 have hw2 : ((n : Int) + 1).toNat = n + 1 := by omega
 rw [hw, hw2]
 refine ⟨by omega, by omega, by omega, by omega, by omega, by omega, by omega, by omega, by omega, by omega, ?_⟩
 refine ⟨fun ⟨j, c, ns, ds, hx⟩ => j ≤ n + 1 ∧ c = ⟨p.a, n + 1, p.cap⟩ ∧ PH.le h hx ∧ ns.length = n + 1 ∧ ds.length = n + 1 ∧ ∀ k, k < j → ns[k]? = some (nN ts k) ∧ ds[k]? = some (dN ts k), fun ⟨j, _⟩ => n + 1 - j, ⟨(0, ⟨p.a, n + 1, p.cap⟩, List.replicate (n + 1) 0, List.replicate (n + 1) 0, h), ⟨by omega, rfl, .refl _, by simp, by simp, fun k hk => by omega⟩, ?_⟩, ?_⟩
 · rw [show List.map eI (List.replicate (n + 1) (0 : Int)) = List.replicate (n + 1) [vQi 0] by rw [List.map_replicate]; rfl]
   exact MT
 rintro ⟨j, c, ns, ds, hx⟩ ⟨hj, rfl, hle, nl, dl, hnd⟩
 dsimp only at hj nl dl hnd ⊢
 refine branch_dec (fun hlt => ?_) (fun hge => ?_)
 · have hjn : j < n + 1 := by omega
   obtain ⟨t, ht⟩ : ∃ t, ts[j]? = some t := ⟨_, List.getElem?_eq_getElem (by omega)⟩
   obtain ⟨b, o, v, e, rd, rv⟩ := (x.mono hle).at ht
   obtain ⟨a0, hargs⟩ := ok j t ht
   have hex := expandF_eq ok ht
   obtain ⟨n0, hn0⟩ : ∃ n0, ns[j]? = some n0 := ⟨_, List.getElem?_eq_getElem (by omega)⟩
   obtain ⟨d0, hd0⟩ : ∃ d0, ds[j]? = some d0 := ⟨_, List.getElem?_eq_getElem (by omega)⟩
   refine ⟨b, o, e, by omega, hlt, v, .imm rd, by omega, by simp; omega, eI n0, getI hn0, by simp [eI], by omega, by simp; omega, eI d0, getI hd0, by simp [eI], v, t, rfl, rv, a0, fun sl h' le' hsl => ?_⟩
   have al := hsl.slen
   have hal : (argsT t).length ≤ 2 := by unfold argsT; simp; omega
   refine ⟨fun ⟨j', k, c', a, ns', ds', hy⟩ => j' = j ∧ c' = ⟨p.a, n + 1, p.cap⟩ ∧ a = sl ∧ hy = h' ∧ k ≤ (argsT t).length ∧ ns'.length = n + 1 ∧ ds'.length = n + 1 ∧ (∀ q, q < j → ns'[q]? = some (nN ts q) ∧ ds'[q]? = some (dN ts q)) ∧ ns'[j]? = some (min (1 + szQs ((argsF ts t).take k)) 25) ∧ ds'[j]? = some (1 + dpQs ((argsF ts t).take k)), fun ⟨_, k, _⟩ => (argsT t).length - k, ⟨(j, 0, ⟨p.a, n + 1, p.cap⟩, sl, ns.set j 1, ds.set j 1, h'), ⟨rfl, rfl, rfl, rfl, by omega, by simpa using nl, by simpa using dl, fun q hq => ?_, ?_, ?_⟩, ?_⟩, ?_⟩
   · rw [List.getElem?_set_ne (by omega), List.getElem?_set_ne (by omega)]; exact hnd q hq
   · rw [List.getElem?_set_self (by omega)]; simp [szQs]; decide
   · rw [List.getElem?_set_self (by omega)]; simp [dpQs]
   · rw [← setI ns j 1 n0, ← setI ds j 1 d0]; exact MT
   rintro ⟨j, k, c, a, ns', ds', hy⟩ ⟨rfl, rfl, rfl, rfl, hk, nl', dl', hnd', hnj, hdj⟩
   dsimp only at hk nl' dl' hnd' hnj hdj ⊢
   refine branch_dec (fun hlt2 => ?_) (fun hge2 => ?_)
   · obtain ⟨c, hc⟩ := getx al hlt2
     obtain ⟨b1, o1, e1, r1⟩ := hsl.at' hc
     have hcb := hargs c (List.mem_of_getElem? hc)
     obtain ⟨hnc, hdc⟩ := hnd' c.toNat (by omega)
     have hfk : (argsF ts t)[k]? = some (expandF ts c.toNat) := by unfold argsF; rw [List.getElem?_map, hc]; rfl
     have s1 : szQs ((argsF ts t).take (k + 1)) = szQs ((argsF ts t).take k) + szQ (expandF ts c.toNat) := by rw [List.take_add_one, hfk]; exact szQs_snoc _ _
     have s2 : dpQs ((argsF ts t).take (k + 1)) = max (dpQs ((argsF ts t).take k)) (dpQ (expandF ts c.toNat)) := by rw [List.take_add_one, hfk]; exact dpQs_snoc _ _
     have p1 := szQs_pos ((argsF ts t).take k)
     have p2 := szQ_pos (expandF ts c.toNat)
     have p3 := dpQs_pos ((argsF ts t).take k)
     have p4 := dpQ_le ok c.toNat (by omega)
     have p5 : 0 ≤ dpQ (expandF ts c.toNat) := by cases expandF ts c.toNat; rename_i z; have := dpQs_pos z; simp only [dpQ]; omega
     have e2 : min (1 + szQs ((argsF ts t).take (k + 1))) 25 = if 25 < IntKind.i64.wrap (min (1 + szQs ((argsF ts t).take k)) 25 + nN ts c.toNat) then 25 else IntKind.i64.wrap (min (1 + szQs ((argsF ts t).take k)) 25 + nN ts c.toNat) := by
      unfold nN
      rw [wrap_id (by omega) (by omega), s1]
      split <;> omega
     have e3 : 1 + dpQs ((argsF ts t).take (k + 1)) = if IntKind.i64.wrap (dN ts c.toNat + 1) > 1 + dpQs ((argsF ts t).take k) then IntKind.i64.wrap (dN ts c.toNat + 1) else 1 + dpQs ((argsF ts t).take k) := by
      unfold dN
      rw [wrap_id (by omega) (by omega), s2]
      split <;> omega
     refine ⟨b1, o1, e1, by omega, hlt2, c, .imm r1, by omega, by simp; omega, _, getI hnj, _, rfl, hcb.1, by simp; omega, _, getI hnc, _, rfl, by omega, by simp; omega, _, getI hnj, by simp [eI], by omega, by simp; omega, _, getI hdj, _, rfl, hcb.1, by simp; omega, _, getI hdc, _, rfl, by omega, by simp; omega, _, getI hdj, by simp [eI], ?_⟩
     rw [← e2, ← e3]
     refine ⟨(j, k + 1, ⟨p.a, n + 1, p.cap⟩, a, ns'.set j (min (1 + szQs ((argsF ts t).take (k + 1))) 25), ds'.set j (1 + dpQs ((argsF ts t).take (k + 1))), hy), ⟨rfl, rfl, rfl, rfl, by show k + 1 ≤ _; omega, by simpa using nl', by simpa using dl', fun q hq => ?_, ?_, ?_⟩, by show (argsT t).length - (k + 1) < (argsT t).length - k; omega, ?_⟩
     · rw [List.getElem?_set_ne (by omega), List.getElem?_set_ne (by omega)]; exact hnd' q hq
     · rw [List.getElem?_set_self (by omega)]
     · rw [List.getElem?_set_self (by omega)]
     · rw [← setI ns' j _ (min (1 + szQs ((argsF ts t).take k)) 25), ← setI ds' j _ (1 + dpQs ((argsF ts t).take k))]; exact MT
   · have htk : (argsF ts t).take k = argsF ts t := List.take_of_length_le (by unfold argsF; rw [List.length_map]; omega)
     rw [htk] at hnj hdj
     refine ⟨(j + 1, ⟨p.a, n + 1, p.cap⟩, ns', ds', hy), ⟨by show j + 1 ≤ n + 1; omega, rfl, hle.trans le', nl', dl', fun q hq => ?_⟩, by show n + 1 - (j + 1) < n + 1 - j; omega, MT⟩
     by_cases hqj : q = j
     · subst hqj
       unfold nN dN
       rw [hex]
       exact ⟨hnj, hdj⟩
     · exact hnd' q (by omega)
 have hjn : j = n + 1 := by omega
 subst hjn
 obtain ⟨hn1, hd1⟩ := hnd n (by omega)
 have p1 := szQ_pos (expandF ts n)
 refine ⟨fun ⟨_, hy⟩ => PH.le h hy ∧ smallQ (expandF ts n) = true, ⟨by omega, by simp; omega, _, getI hn1, _, rfl, branch_dec (fun h4 => ?_) (fun h4 => ⟨by omega, by simp; omega, _, getI hd1, _, rfl, branch_dec (fun h5 => ?_) (fun h5 => ⟨((), hx), ⟨hle, ?_⟩, MT⟩)⟩)⟩, ?_⟩
 · unfold nN at h4
   exact ee hle (by decide) (by rw [hexp, if_neg (fun e => by have := small_iff.1 e; omega)])
 · unfold dN at h5
   exact ee hle (by decide) (by rw [hexp, if_neg (fun e => by have := small_iff.1 e; omega)])
 · unfold nN at h4
   unfold dN at h5
   exact small_iff.2 ⟨by omega, by omega⟩
 rintro ⟨_, hy⟩ ⟨hle2, hsm⟩
 refine ⟨p, r, ts, rs, n, rfl, x.mono hle2, ok, hn, fun v h' le' rq => ⟨m, h', fun _ _ e => e, hle2.trans le', .refl _, hK (by rw [hexp, if_pos hsm]) v h' (hle2.trans le') rq⟩⟩
theorem f22_sound : Sound Tryz.prog 22 ExpandTopS := by
 refine fn_sound' (fn := Tryz.f22) (c := bodyOf Tryz.f22) Tryz.func22 rfl (by decide) ?_
 rintro cvs m h K ⟨sc, p, r, s, ts, rs, i, rfl, hs, x, hE, hK⟩
 refine ⟨f22_ctx p r i m, rfl, specs_cons f44_sound (specs_cons f45_sound (specs_cons f46_sound specs_nil)), ?_⟩
 rw [← f22_vc sc p r i m h _]
 exact f22_ok hs x hE hK
structure GoodQ (s : Sch) (q : Query) : Prop where
 kinds : (kindsQ s [] q).2 = 0
 small : smallQ q = true
 ints : QI q
theorem szQs_mem : ∀ {l : List Query} {a : Query}, a ∈ l → szQ a ≤ szQs l ∧ dpQ a ≤ dpQs l
 | x :: l, a, h => by
  have h1 := szQs_pos l
  have h2 := szQ_pos x
  rcases List.mem_cons.1 h with rfl | h
  · simp only [szQs, dpQs]; omega
  · have := szQs_mem h; simp only [szQs, dpQs]; omega
theorem GoodQ.arg {op : Int} {on : List (Int × Int)} {args : List Query} (g : GoodQ s (.mk op ta w co on gr od li args)) {a : Query} (ha : a ∈ args) : GoodQ s a := by
 refine ⟨(kindsQ_parts g.kinds).1 a ha, ?_, (qi_iff.1 g.ints).2 a ha⟩
 have h1 := small_iff.1 g.small
 have h2 := szQs_mem ha
 simp only [szQ, dpQ] at h1
 exact small_iff.2 ⟨by omega, by omega⟩
def stepArgsFit (i : Nat) (t : Step) : Prop := fitB t.left (decide (arity t.op > 0)) i = true ∧ fitB t.right (decide (arity t.op > 1)) i = true
structure Inv (s : Sch) (ts : List Step) : Prop where
 ar : ∀ (i : Nat) t, ts[i]? = some t → 0 ≤ arity t.op
 fit : ∀ (i : Nat) t, ts[i]? = some t → stepArgsFit i t
 nodup : (ts.map keyOf).Nodup
 good : ∀ i, i < ts.length → GoodQ s (expandF ts i)
theorem fit_args (h0 : 0 ≤ arity t.op) (h : stepArgsFit i t) : ∀ a ∈ argsT t, 0 ≤ a ∧ a < i := by
 intro a ha
 have h2 := arity_le t.op
 obtain ⟨fl, fr⟩ := h
 unfold argsT at ha
 obtain ⟨n, hn⟩ : ∃ n : Nat, arity t.op = n := ⟨(arity t.op).toNat, by omega⟩
 rw [hn, Int.toNat_natCast] at ha
 unfold fitB at fl fr
 match n, hn, ha with
 | 0, _, ha => simp at ha
 | 1, hn, ha =>
  simp at ha
  subst ha
  rw [if_pos (decide_eq_true (by omega))] at fl
  simpa using fl
 | 2, hn, ha =>
  simp at ha
  rw [if_pos (decide_eq_true (by omega))] at fl fr
  rcases ha with rfl | rfl
  · simpa using fl
  · simpa using fr
 | n + 3, hn, _ => omega
theorem Inv.ok (v : Inv s ts) : StepsOk ts := fun i t e => ⟨v.ar i t e, fit_args (v.ar i t e) (v.fit i t e)⟩
theorem expand_prefix {ts' : List Step} (hp : ts <+: ts') (ok : StepsOk ts') : ∀ i, i < ts.length → expandF ts' i = expandF ts i := by
 have ok1 : StepsOk ts := fun i t e => ok i t (prefix_get hp e)
 intro i
 induction i using Nat.strongRecOn with
 | _ i ih =>
  intro hi
  have ht : ts[i]? = some ts[i] := List.getElem?_eq_getElem hi
  rw [expandF_eq ok1 ht, expandF_eq ok (prefix_get hp ht)]
  have : argsF ts' ts[i] = argsF ts ts[i] := List.map_congr_left fun a ha => by
   have := (ok1 i _ ht).2 a ha
   exact ih a.toNat (by omega) (by omega)
  rw [this]
theorem stepI_of (v : Inv s ts) (ht : ts[i]? = some t) : StepI t := by
 have hi := (List.getElem?_eq_some_iff.1 ht).1
 have g := (v.good i hi).ints
 rw [expandF_eq v.ok ht, qi_iff] at g
 obtain ⟨h1, h2, h3, h4, h5⟩ := g.1
 exact ⟨h1, h2, h3, h4, h5⟩
theorem inv_add {s : Sch} {ts ts' : List Step} {t : Step} {k : Nat} {q : Query} (v : Inv s ts) (h0 : 0 ≤ arity t.op) (hf : stepArgsFit ts.length t) (g : GoodQ s q) (hq : q = .mk t.op t.table t.wher t.columns t.on t.group t.order t.limit (argsF ts t)) (h : AddT t ts ts' k) :
 Inv s ts' ∧ ts <+: ts' ∧ k < ts'.length ∧ expandF ts' k = q := by
 have hI : StepI t := by
  have := g.ints
  rw [hq, qi_iff] at this
  obtain ⟨h1, h2, h3, h4, h5⟩ := this.1
  exact ⟨h1, h2, h3, h4, h5⟩
 rcases h with ⟨x, hx, e, rfl⟩ | ⟨hno, rfl, rfl⟩
 · have hxt : x = t := key_inj (stepI_of v hx) hI e
   subst hxt
   exact ⟨v, List.prefix_refl _, (List.getElem?_eq_some_iff.1 hx).1, by rw [expandF_eq v.ok hx, hq]⟩
 · have hcase : ∀ (i : Nat) u, (ts ++ [t])[i]? = some u → ts[i]? = some u ∨ (i = ts.length ∧ u = t) := fun i u e => by
    by_cases hi : i < ts.length
    · rw [List.getElem?_append_left hi] at e; exact .inl e
    · rw [List.getElem?_append_right (by omega)] at e
      have hil := (List.getElem?_eq_some_iff.1 e).1
      simp at hil
      have : i = ts.length := by omega
      subst this
      simp at e
      exact .inr ⟨rfl, e.symm⟩
   have har : ∀ (i : Nat) u, (ts ++ [t])[i]? = some u → 0 ≤ arity u.op := fun i u e => by
    rcases hcase i u e with e | ⟨_, rfl⟩
    · exact v.ar i u e
    · exact h0
   have hfit : ∀ (i : Nat) u, (ts ++ [t])[i]? = some u → stepArgsFit i u := fun i u e => by
    rcases hcase i u e with e | ⟨rfl, rfl⟩
    · exact v.fit i u e
    · exact hf
   have ok' : StepsOk (ts ++ [t]) := fun i u e => ⟨har i u e, fit_args (har i u e) (hfit i u e)⟩
   have hp : ts <+: ts ++ [t] := List.prefix_append _ _
   have hlast : expandF (ts ++ [t]) ts.length = q := by
    rw [expandF_eq ok' (t := t) (by simp), hq]
    have : argsF (ts ++ [t]) t = argsF ts t := List.map_congr_left fun a ha => by
     have := fit_args h0 hf a ha
     exact expand_prefix hp ok' a.toNat (by omega)
    rw [this]
   refine ⟨⟨har, hfit, ?_, fun i hi => ?_⟩, hp, by simp, hlast⟩
   · rw [List.map_append, List.nodup_append]
     refine ⟨v.nodup, by simp, fun a ha b hb => ?_⟩
     obtain ⟨x, hx, rfl⟩ := List.mem_map.1 ha
     simp at hb
     rw [hb]; exact hno x hx
   · by_cases hi' : i < ts.length
     · rw [expand_prefix hp ok' i hi']; exact v.good i hi'
     · have : i = ts.length := by simp at hi; omega
       rw [this, hlast]; exact g
theorem fitB_arg {a e : Int} (h0 : 0 ≤ a) (h1 : a < e) : fitB a true e = true := by unfold fitB; rw [if_pos rfl]; simp [h0, h1]
theorem inv_query {s : Sch} : ∀ (q : Query) {ts ts' : List Step} {k : Nat}, GoodQ s q → Inv s ts → AddQ q ts ts' k → Inv s ts' ∧ ts <+: ts' ∧ k < ts'.length ∧ expandF ts' k = q
 | .mk op ta w co on gr od li args, ts, ts', k, g, v, h => by
  rw [addQ_iff] at h
  obtain ⟨ts1, l, ts2, r, h1, h2, h3⟩ := h
  have hal := (kindsQ_parts g.kinds).2.1
  have h2le := arity_le op
  match args, g, h1, h2, hal with
  | [], g, h1, h2, hal =>
   obtain ⟨rfl, rfl⟩ := h1
   obtain ⟨rfl, rfl⟩ := h2
   simp at hal
   refine inv_add (t := ⟨op, ta, w, co, on, gr, od, li, 0, 0⟩) v (by show 0 ≤ arity op; omega) ⟨?_, ?_⟩ g ?_ h3
   · show fitB 0 (decide (arity op > 0)) _ = true
     rw [decide_eq_false (by omega)]; rfl
   · show fitB 0 (decide (arity op > 1)) _ = true
     rw [decide_eq_false (by omega)]; rfl
   · have : argsT ⟨op, ta, w, co, on, gr, od, li, 0, 0⟩ = [] := by unfold argsT; rw [← hal]; rfl
     unfold argsF; rw [this]; rfl
  | [a], g, h1, h2, hal =>
   obtain ⟨rfl, rfl⟩ := h2
   simp at hal
   obtain ⟨v1, p1, k1, e1⟩ := inv_query a (g.arg (by simp)) v h1
   have : argsT ⟨op, ta, w, co, on, gr, od, li, (l : Nat), 0⟩ = [(l : Int)] := by unfold argsT; rw [← hal]; rfl
   have main := fun hf hq => inv_add (t := ⟨op, ta, w, co, on, gr, od, li, (l : Nat), 0⟩) (q := .mk op ta w co on gr od li [a]) v1 (by show 0 ≤ arity op; omega) hf g hq h3
   have main2 := fun hf hq => (⟨(main hf hq).1, p1.trans (main hf hq).2.1, (main hf hq).2.2⟩ : _ ∧ _ ∧ _)
   refine main2 ⟨?_, ?_⟩ ?_
   · show fitB l (decide (arity op > 0)) _ = true
     rw [decide_eq_true (by omega)]; exact fitB_arg (by omega) (by omega)
   · show fitB 0 (decide (arity op > 1)) _ = true
     rw [decide_eq_false (by omega)]; rfl
   · unfold argsF; rw [this, List.map_cons, List.map_nil, Int.toNat_natCast, e1]
  | [a, b], g, h1, h2, hal =>
   simp at hal
   obtain ⟨v1, p1, k1, e1⟩ := inv_query a (g.arg (by simp)) v h1
   obtain ⟨v2, p2, k2, e2⟩ := inv_query b (g.arg (by simp)) v1 h2
   have hl2 : l < ts2.length := Nat.lt_of_lt_of_le k1 p2.length_le
   have : argsT ⟨op, ta, w, co, on, gr, od, li, (l : Nat), (r : Nat)⟩ = [(l : Int), (r : Int)] := by unfold argsT; rw [← hal]; rfl
   have main := fun hf hq => inv_add (t := ⟨op, ta, w, co, on, gr, od, li, (l : Nat), (r : Nat)⟩) (q := .mk op ta w co on gr od li [a, b]) v2 (by show 0 ≤ arity op; omega) hf g hq h3
   have main2 := fun hf hq => (⟨(main hf hq).1, (p1.trans p2).trans (main hf hq).2.1, (main hf hq).2.2⟩ : _ ∧ _ ∧ _)
   refine main2 ⟨?_, ?_⟩ ?_
   · show fitB l (decide (arity op > 0)) _ = true
     rw [decide_eq_true (by omega)]; exact fitB_arg (by omega) (by omega)
   · show fitB r (decide (arity op > 1)) _ = true
     rw [decide_eq_true (by omega)]; exact fitB_arg (by omega) (by omega)
   · unfold argsF; rw [this, List.map_cons, List.map_cons, List.map_nil, Int.toNat_natCast, Int.toNat_natCast, expand_prefix p2 v2.ok l k1, e1, e2]
  | a :: b :: c :: rest, _, _, _, hal => simp at hal; omega
theorem inv_nil (s : Sch) : Inv s [] := ⟨fun i t e => by simp at e, fun i t e => by simp at e, by simp, fun i hi => by simp at hi⟩
theorem inv_all {s : Sch} : ∀ {qs : List Query} {ts ts' : List Step} {ks : List Nat}, (∀ q ∈ qs, GoodQ s q) → Inv s ts → AddAll qs ts ts' ks → Inv s ts' ∧ ts <+: ts' ∧ ks.length = qs.length ∧ ∀ (i : Nat) q k, qs[i]? = some q → ks[i]? = some k → k < ts'.length ∧ expandF ts' k = q
 | [], ts, ts', ks, _, v, h => by
  obtain ⟨rfl, rfl⟩ := h
  exact ⟨v, List.prefix_refl _, rfl, fun i q k e => by simp at e⟩
 | q :: qs, ts, ts', ks, hg, v, h => by
  obtain ⟨ts1, k, ks', h1, h2, rfl⟩ := h
  obtain ⟨v1, p1, k1, e1⟩ := inv_query q (hg q (by simp)) v h1
  obtain ⟨v2, p2, l2, e2⟩ := inv_all (fun x hx => hg x (by simp [hx])) v1 h2
  refine ⟨v2, p1.trans p2, by simp [l2], fun i x kx hx hkx => ?_⟩
  cases i with
  | zero =>
   simp at hx hkx
   subst hx hkx
   exact ⟨Nat.lt_of_lt_of_le k1 p2.length_le, by rw [expand_prefix p2 v2.ok k k1, e1]⟩
  | succ i =>
   simp at hx hkx
   exact e2 i x kx hx hkx
theorem take_get {m : Nat} (h : i < m) : (ts.take m)[i]? = ts[i]? := by rw [List.getElem?_take, if_pos h]
theorem args_first {us us1 : List Step} {m l : Nat} (hargs : ∀ a ∈ argsT t, 0 ≤ a ∧ a < m) (hC : ∀ j, j < m → ∀ us1 l, AddQ (expandF ts j) us us1 l → us1 = us ∧ l = j) (h : First (argsF ts t) us us1 l) (hl : arity t.op = 0 → t.left = 0) (h0 : 0 ≤ arity t.op) : us1 = us ∧ (l : Int) = t.left := by
 have h2 := arity_le t.op
 obtain ⟨n, hn⟩ : ∃ n : Nat, arity t.op = n := ⟨(arity t.op).toNat, by omega⟩
 unfold argsF at h
 unfold argsT at hargs h
 rw [hn, Int.toNat_natCast] at hargs h
 match n, hn, hargs, h with
 | 0, hn, _, h =>
  obtain ⟨rfl, rfl⟩ := h
  exact ⟨rfl, by rw [hl hn]; rfl⟩
 | n + 1, hn, hargs, h =>
  have ha := hargs t.left (by simp)
  simp only [List.take_succ_cons, List.map_cons, First] at h
  obtain ⟨rfl, rfl⟩ := hC t.left.toNat (by omega) _ _ h
  exact ⟨rfl, by omega⟩
theorem args_second {us us1 : List Step} {m r : Nat} (hargs : ∀ a ∈ argsT t, 0 ≤ a ∧ a < m) (hC : ∀ j, j < m → ∀ us1 l, AddQ (expandF ts j) us us1 l → us1 = us ∧ l = j) (h : Second (argsF ts t) us us1 r) (hr : arity t.op ≤ 1 → t.right = 0) (h0 : 0 ≤ arity t.op) : us1 = us ∧ (r : Int) = t.right := by
 have h2 := arity_le t.op
 obtain ⟨n, hn⟩ : ∃ n : Nat, arity t.op = n := ⟨(arity t.op).toNat, by omega⟩
 unfold argsF at h
 unfold argsT at hargs h
 rw [hn, Int.toNat_natCast] at hargs h
 match n, hn, hargs, h with
 | 0, hn, _, h =>
  obtain ⟨rfl, rfl⟩ := h
  exact ⟨rfl, by rw [hr (by omega)]; rfl⟩
 | 1, hn, _, h =>
  obtain ⟨rfl, rfl⟩ := h
  exact ⟨rfl, by rw [hr (by omega)]; rfl⟩
 | n + 2, hn, hargs, h =>
  have ha := hargs t.right (by simp)
  simp only [List.take_succ_cons, List.map_cons, Second] at h
  obtain ⟨rfl, rfl⟩ := hC t.right.toNat (by omega) _ _ h
  exact ⟨rfl, by omega⟩
theorem fit_zero (h : stepArgsFit i t) : (arity t.op = 0 → t.left = 0) ∧ (arity t.op ≤ 1 → t.right = 0) := by
 obtain ⟨fl, fr⟩ := h
 unfold fitB at fl fr
 refine ⟨fun e => ?_, fun e => ?_⟩
 · rw [if_neg (by simp; omega)] at fl; simpa using fl
 · rw [if_neg (by simp; omega)] at fr; simpa using fr
theorem step_eta (t : Step) {l r : Int} (hl : l = t.left) (hr : r = t.right) : (⟨t.op, t.table, t.wher, t.columns, t.on, t.group, t.order, t.limit, l, r⟩ : Step) = t := by subst hl hr; rfl
theorem found (v : Inv s ts) : ∀ (j m : Nat), j < m → m ≤ ts.length → ∀ us1 l, AddQ (expandF ts j) (ts.take m) us1 l → us1 = ts.take m ∧ l = j := by
 intro j
 induction j using Nat.strongRecOn with
 | _ j ih =>
  intro m hj hm us1 l h
  have ht : ts[j]? = some ts[j] := List.getElem?_eq_getElem (by omega)
  generalize ts[j] = t at ht
  rw [expandF_eq v.ok ht, addQ_iff] at h
  obtain ⟨u1, a, u2, b, h1, h2, h3⟩ := h
  have hz := fit_zero (v.fit j t ht)
  have h0 := v.ar j t ht
  have hargs := (v.ok j t ht).2
  have hC : ∀ q, q < j → ∀ us1 l, AddQ (expandF ts q) (ts.take m) us1 l → us1 = ts.take m ∧ l = q := fun q hq us1 l hh => ih q hq m (by omega) hm us1 l hh
  obtain ⟨rfl, ea⟩ := args_first hargs hC h1 hz.1 h0
  obtain ⟨rfl, eb⟩ := args_second hargs hC h2 hz.2 h0
  rw [step_eta t ea eb] at h3
  rcases h3 with ⟨x, hx, e, rfl⟩ | ⟨hno, _, _⟩
  · refine ⟨rfl, ?_⟩
    have hlt := (List.getElem?_eq_some_iff.1 hx).1
    rw [List.length_take] at hlt
    rw [take_get (by omega)] at hx
    exact nodup_idx v.nodup hx ht e
  · exact (hno t (List.mem_of_getElem? (i := j) (by rw [take_get hj]; exact ht)) rfl).elim
theorem added (v : Inv s ts) (hi : i < ts.length) {us1 : List Step} {l : Nat} (h : AddQ (expandF ts i) (ts.take i) us1 l) : us1 = ts.take (i + 1) ∧ l = i := by
 have ht : ts[i]? = some ts[i] := List.getElem?_eq_getElem hi
 generalize ts[i] = t at ht
 rw [expandF_eq v.ok ht, addQ_iff] at h
 obtain ⟨u1, a, u2, b, h1, h2, h3⟩ := h
 have hz := fit_zero (v.fit i t ht)
 have h0 := v.ar i t ht
 have hargs := (v.ok i t ht).2
 have hC : ∀ q, q < i → ∀ us1 l, AddQ (expandF ts q) (ts.take i) us1 l → us1 = ts.take i ∧ l = q := fun q hq us1 l hh => found v q i hq (by omega) us1 l hh
 obtain ⟨rfl, ea⟩ := args_first hargs hC h1 hz.1 h0
 obtain ⟨rfl, eb⟩ := args_second hargs hC h2 hz.2 h0
 rw [step_eta t ea eb] at h3
 rcases h3 with ⟨x, hx, e, _⟩ | ⟨_, rfl, rfl⟩
 · exfalso
   have hlt := (List.getElem?_eq_some_iff.1 hx).1
   rw [List.length_take] at hlt
   rw [take_get (by omega)] at hx
   have := nodup_idx v.nodup hx ht e
   omega
 · exact ⟨by rw [List.take_add_one, ht]; rfl, by rw [List.length_take]; omega⟩
theorem again_all {s : Sch} {ts : List Step} (v : Inv s ts) : ∀ (n i : Nat) {us : List Step} {ks : List Nat}, i + n = ts.length → AddAll ((List.range' i n).map (expandF ts)) (ts.take i) us ks → us = ts ∧ ks = List.range' i n
 | 0, i, us, ks, hn, h => by
  obtain ⟨rfl, rfl⟩ := h
  exact ⟨List.take_of_length_le (by omega), rfl⟩
 | n + 1, i, us, ks, hn, h => by
  obtain ⟨u1, k, ks', h1, h2, rfl⟩ := h
  obtain ⟨rfl, rfl⟩ := added v (by omega) h1
  obtain ⟨rfl, rfl⟩ := again_all v n (k + 1) (by omega) h2
  exact ⟨rfl, rfl⟩
theorem nodeR_args (s : Sch) (ps : List Int) (op ta : Int) (w : Pred) (co : List Int) (on : List (Int × Int)) (gr : List Int) (od : List (Int × Bool)) (li : Int) (args : List Query) (a b : List Int) : nodeR s ps (.mk op ta w co on gr od li args) a b = nodeR s ps (.mk op ta w co on gr od li []) a b := by
 unfold nodeR
 rfl
theorem kindsQ_node {op : Int} {on : List (Int × Int)} {args : List Query} (h : (kindsQ s [] (.mk op ta w co on gr od li args)).2 = 0) :
 kindsQ s [] (.mk op ta w co on gr od li args) = nodeR s [] (.mk op ta w co on gr od li []) ((args.map fun q => (kindsQ s [] q).1).getD 0 []) ((args.map fun q => (kindsQ s [] q).1).getD 1 []) := by
 obtain ⟨h1, h2, _⟩ := kindsQ_parts h
 have e : kindsQs s [] args = (args.map (fun q => (kindsQ s [] q).1), 0) := kindsQs_ok (by
  rw [List.map_map]
  exact List.map_congr_left fun q hq => Prod.ext rfl (h1 q hq))
 simp only [kindsQ, e, if_true]
 rw [if_pos (by rw [List.length_map]; exact h2), nodeR_args]
theorem argK_get {n : Nat} {a : Int} (h0 : 0 ≤ a) (h1 : a < n) : argK ((List.range n).map fun j => (kindsQ s [] (expandF ts j)).1) a true = (kindsQ s [] (expandF ts a.toNat)).1 := by
 unfold argK
 rw [if_pos rfl, List.getD_eq_getElem?_getD, List.getElem?_map, List.getElem?_range (by omega)]
 rfl
theorem step_kinds (v : Inv s ts) (ht : ts[i]? = some t) : stepR s ((List.range i).map fun j => (kindsQ s [] (expandF ts j)).1) t = ((kindsQ s [] (expandF ts i)).1, 0) := by
 have hi := (List.getElem?_eq_some_iff.1 ht).1
 have g := (v.good i hi).kinds
 have e1 := expandF_eq v.ok ht
 rw [e1] at g ⊢
 have hk := kindsQ_node g
 have h0 := v.ar i t ht
 have h2 := arity_le t.op
 have hf := v.fit i t ht
 have hargs := (v.ok i t ht).2
 have hl : ((List.range i).map fun j => (kindsQ s [] (expandF ts j)).1).length = i := by simp
 have ab : argK ((List.range i).map fun j => (kindsQ s [] (expandF ts j)).1) t.left (decide (arity t.op > 0)) = ((argsF ts t).map fun q => (kindsQ s [] q).1).getD 0 [] ∧ argK ((List.range i).map fun j => (kindsQ s [] (expandF ts j)).1) t.right (decide (arity t.op > 1)) = ((argsF ts t).map fun q => (kindsQ s [] q).1).getD 1 [] := by
  obtain ⟨n, hn⟩ : ∃ n : Nat, arity t.op = n := ⟨(arity t.op).toNat, by omega⟩
  unfold argsF
  unfold argsT at hargs ⊢
  rw [hn, Int.toNat_natCast] at hargs ⊢
  match n, hn, hargs with
  | 0, _, _ => exact ⟨rfl, rfl⟩
  | 1, hn, hargs =>
   have h3 := hargs t.left (by simp)
   exact ⟨argK_get h3.1 h3.2, rfl⟩
  | 2, hn, hargs =>
   have h3 := hargs t.left (by simp)
   have h4 := hargs t.right (by simp)
   exact ⟨argK_get h3.1 h3.2, argK_get h4.1 h4.2⟩
  | n + 3, hn, _ => omega
 have hno : nodeR s [] t.query (argK ((List.range i).map fun j => (kindsQ s [] (expandF ts j)).1) t.left (decide (arity t.op > 0))) (argK ((List.range i).map fun j => (kindsQ s [] (expandF ts j)).1) t.right (decide (arity t.op > 1))) = kindsQ s [] (.mk t.op t.table t.wher t.columns t.on t.group t.order t.limit (argsF ts t)) := by
  rw [hk, ab.1, ab.2]; rfl
 unfold stepR
 rw [hno, hl, if_neg, if_neg (by rw [g]; decide)]
 · exact Prod.ext rfl g
 · rintro (e | e | e)
   · omega
   · rw [hf.1] at e; cases e
   · rw [hf.2] at e; cases e
theorem steps_kinds {s : Sch} {ts : List Step} (v : Inv s ts) : ∀ (n i : Nat), i + n = ts.length → (stepsR s ((List.range i).map fun j => (kindsQ s [] (expandF ts j)).1) (ts.drop i)).2 = 0
 | 0, i, hn => by
  rw [List.drop_of_length_le (by omega)]; rfl
 | n + 1, i, hn => by
  have ht : ts[i]? = some ts[i] := List.getElem?_eq_getElem (by omega)
  rw [stepsR_cons ht, step_kinds v ht, if_pos rfl]
  have := steps_kinds v n (i + 1) (by omega)
  rwa [List.range_succ, List.map_append] at this
theorem plan_valid {ks : List Nat} (v : Inv s ts) (hs : schErr s = 0) (hl : ts.length ≤ 1024) (hk : ks.length ≤ 32) (hb : ∀ k ∈ ks, k < ts.length) : planErr s ts (ks.map fun (k : Nat) => (k : Int)) = 0 := by
 rw [planErr_steps hs (by rw [List.length_map]; omega), if_neg, if_pos]
 · rw [List.all_eq_true]
   intro r hr
   obtain ⟨k, hk', rfl⟩ := List.mem_map.1 hr
   have := hb k hk'
   simp; omega
 · have := steps_kinds v ts.length 0 (by omega)
   simpa using this
theorem query_good (h : (queryR s [] q).2 = 0) (w : QW q) : GoodQ s q := by
 obtain ⟨_, _, h3, h4⟩ := query_kinds h
 exact ⟨h4, h3, kinds_I (by simp) q h4 w⟩
theorem good_query (hs : schErr s = 0) (g : GoodQ s q) : (queryR s [] q).2 = 0 := by
 unfold queryR
 rw [if_pos hs, if_pos (by simp), if_pos g.small]
 exact g.kinds
theorem addAll_len : ∀ {qs : List Query} {ts ts' : List Step} {ks : List Nat}, AddAll qs ts ts' ks → (∀ q ∈ qs, szQ q ≤ 24) → ts'.length ≤ ts.length + 24 * qs.length
 | [], ts, ts', ks, h, _ => by obtain ⟨rfl, rfl⟩ := h; simp
 | q :: qs, ts, ts', ks, h, hq => by
  obtain ⟨ts1, k, ks', h1, h2, rfl⟩ := h
  have := addQ_len q h1
  have := addAll_len h2 fun x hx => hq x (by simp [hx])
  have := hq q (by simp)
  simp; omega
def BegunS : Vc.Spec := fun cvs m h K => cvs = [] ∧ TabM m ∧ K (cB true) m h
def SharesS : Vc.Spec := fun cvs m h K => ∃ s cs, cvs = [cS s] ∧ RowIn h s 1 (bytesVal cs) ∧ s.len ≤ s.cap ∧ TabM m ∧ ∀ m' h', Sub m m' → K (cB true) m' h'
def f16_nice (m : MH) (h : PH) (K : CV → MH → PH → Prop) : Prop :=
 ∀ (s : Sl) (h' : PH), h.le h' -> RowIn h' s 2 [[Value.string (ByteArray.mk (Array.mk [OfNat.ofNat 105, OfNat.ofNat 100])), vQi 4]] -> ∀ (s_1 : Sl) (h'_1 : PH), h'.le h'_1 -> RowIn
 h'_1 s_1 21 [[vQi 1, vQi 0, vQi 0, vQi 0, vQi 0, vQi 0, vQi 0, vQi 0, vQz, vQi 0, vQi 0, vQi 0, vQi 0, vQz, vQn, vQn, vQn, vQn, vQn, vQi 0, vQn]] -> ∀ (s_2 : Sl) (h' : PH), h'_1.le
 h' -> RowIn h' s_2 21 [[vQi 2, vQi 0, vQi 1, vQi 0, vQi 0, vQi 0, vQi 0, vQi 0, vQz, vQi 0, vQi 0, vQi 0, vQi 0, vQz, vQn, vQn, vQn, vQn, vQn, vQi 0, vQs s_1], [vQi 2, vQi 0, vQi
 1, vQi 0, vQi 0, vQi 0, vQi 0, vQi 0, vQz, vQi 0, vQi 0, vQi 0, vQi 0, vQz, vQn, vQn, vQn, vQn, vQn, vQi 0, vQs s_1]] -> ∀ (s_3 : Sl) (h'_2 : PH), h'.le h'_2 -> RowIn h'_2 s_3 5
 [[Value.string (ByteArray.mk (Array.mk [OfNat.ofNat 116])), vQs s, vQi 1, vQn, vQn]] -> ∀ (s : Sl) (h' : PH), h'_2.le h' -> RowIn h' s 21 [[vQi 6, vQi 0, vQi 0, vQi 0, vQi 0, vQi
 0, vQi 0, vQi 0, vQz, vQi 0, vQi 0, vQi 0, vQi 0, vQz, vQn, vQn, vQn, vQn, vQn, vQi 0, vQs s_2]] -> ∃ (sc : SchV) (sl : Sl), ∃ (s_4 : Sch) (qs : List Query), [cQa [vQi 0, vQs s_3],
 cQs s] = [cQa [vQi sc.version, vQs sc.tables], cQs sl] /\ RepS h' s_4 sc /\ RepQl h' sl qs /\ TabM m /\ (∀ (q : Query), List.Mem q qs -> (queryR s_4 [] q).2 = 0 -> QKeyOk q) /\
 ((compErr s_4 qs = 0 -> False) -> branch (compErr s_4 qs == 0) (K (cQb false) m h') (K (cQb false) m h')) /\ (compErr s_4 qs = 0 -> ∀ (p r : Sl) (ts : List Step) (ks : List Nat)
 (h'_3 : PH), h'.le h'_3 -> AddAll qs [] ts ks -> PlanAt h'_3 p r ts ks -> branch ((↑p.len : Int) == 3) (branch ((↑r.len : Int) == 1) (∃ (b off : Nat), r.a = some (Addr.mk b off
 none) /\ (0 : Int) <= 0 /\ 0 < (↑r.len : Int) /\ ∃ (y : Int), RdAt m h'_3 b (off + 0) [vQi y] /\ branch (y == 2) (∃ (b off : Nat), p.a = some (Addr.mk b off none) /\ (0 : Int) <= 2
 /\ 2 < (↑p.len : Int) /\ ∃ (y : Int), RdAt m h'_3 b (off + 44 + 20) [vQi y] /\ branch (y == 1) (∃ (b off : Nat), p.a = some (Addr.mk b off none) /\ (0 : Int) <= 2 /\ 2 < (↑p.len :
 Int) /\ ∃ (y : Int), RdAt m h'_3 b (off + 44 + 21) [vQi y] /\ K (cQb (y == 1)) m h'_3) (K (cQb false) m h'_3)) (K (cQb false) m h'_3)) (K (cQb false) m h'_3)) (K (cQb false) m
 h'_3))
theorem f16_vc (m : MH) (h : PH) (K : CV → MH → PH → Prop) : f16_nice m h K = (fnVC (ctx2 [(14, CompileS)] [] [] [] false) Tryz.f16 (bodyOf Tryz.f16) (entry Tryz.f16.ntmps [] m h) K) := by kernel_rfl
def GoodFrom {α : Type} (T : List α → α → Prop) : List α → List α → Prop
 | _, [] => True
 | pre, x :: r => T pre x ∧ GoodFrom T (pre ++ [x]) r
theorem goodFrom {α : Type} {T : List α → α → Prop} : ∀ {l pre : List α}, GoodFrom T pre l → ∀ (j : Nat) x, l[j]? = some x → T (pre ++ l.take j) x
 | [], _, _, j, x, e => by simp at e
 | y :: r, pre, h, 0, x, e => by simp at e; subst e; simpa using h.1
 | y :: r, pre, h, j + 1, x, e => by
  have := goodFrom h.2 j x (by simpa using e)
  simpa using this
theorem good_of {α : Type} {T : List α → α → Prop} {l : List α} (h : GoodFrom T [] l) : Good T l := fun j x e => by simpa using goodFrom h j x e
theorem good_take {α : Type} {T : List α → α → Prop} {l : List α} (h : Good T l) (n : Nat) : Good T (l.take n) := fun j x e => by
 rw [List.getElem?_take] at e
 split at e
 · rename_i hj
   rw [List.take_take, Nat.min_eq_left (by omega)]
   exact h j x e
 · cases e
theorem sch_ok (h8 : s.tables.length ≤ 8) (hl : ∀ t ∈ s.tables, t.columns.length ≤ 8 ∧ t.refs = [] ∧ t.checks = []) (v0 : 0 ≤ s.version) (v1 : s.version ≤ 1000) (hg : Good TabT s.tables) : schErr s = 0 := by
 have lim : SchLim s := ⟨h8, fun j t e => by
  obtain ⟨h1, h2, h3⟩ := hl t (List.mem_of_getElem? e)
  exact ⟨h1, by simp [h2], by simp [h3]⟩⟩
 have ok : SchOk s := ⟨v0, v1, hg, fun j t e => by
  obtain ⟨h1, h2, h3⟩ := hl t (List.mem_of_getElem? e)
  unfold RefsT
  rw [h2]
  intro i x e2
  simp at e2⟩
 rw [schErr_ok lim ok]
 refine firstErr_zero _ fun e he => ?_
 obtain ⟨i, _, he⟩ := List.mem_flatMap.1 he
 unfold tabErrs at he
 split at he
 · rename_i t ht
   obtain ⟨h1, h2, h3⟩ := hl t (List.mem_of_getElem? ht)
   rw [h3] at he
   simp at he
 · simp at he
theorem plain_good {id : Int} (h : id = 4 ∨ id = 5) : Good TabT (plainTabs id) := by
 have hk : colKind id = true := by rcases h with rfl | rfl <;> rfl
 refine good_of ⟨⟨?_, ?_, ?_, ?_, good_of ⟨⟨?_, ?_, ?_⟩, ⟨?_, ?_, ?_⟩, trivial⟩⟩, ⟨?_, ?_, ?_, ?_, good_of ⟨⟨?_, ?_, ?_⟩, ⟨?_, ?_, ?_⟩, ⟨?_, ?_, ?_⟩, ⟨?_, ?_, ?_⟩, trivial⟩⟩, ⟨?_, ?_, ?_, ?_, good_of ⟨⟨?_, ?_, ?_⟩, ⟨?_, ?_, ?_⟩, trivial⟩⟩, ⟨?_, ?_, ?_, ?_, good_of ⟨⟨?_, ?_, ?_⟩, trivial⟩⟩, trivial⟩
 all_goals first | exact hk | rfl | (simp; done) | decide
theorem plain_ok (h : PlainSch s) : schErr s = 0 ∧ s.tables ≠ [] := by
 obtain ⟨ver, n, id, v0, v1, n2, n4, hid, rfl⟩ := h.ex
 refine ⟨sch_ok (by simp [plainTabs]; omega) (fun t ht => ?_) v0 (by show ver ≤ 1000; omega) (good_take (plain_good hid) n), fun e => ?_⟩
 · have ht := List.mem_of_mem_take ht
   simp only [plainTabs, List.mem_cons, List.not_mem_nil, or_false] at ht
   rcases ht with rfl | rfl | rfl | rfl <;> exact ⟨by simp, rfl, rfl⟩
 · have := congrArg List.length e
   simp [plainTabs] at this
   omega
def bS : Sch := ⟨0, [⟨⟨⟨[116]⟩⟩, [⟨⟨⟨[105, 100]⟩⟩, 4⟩], 1, [], []⟩]⟩
def bScan : Query := .mk 1 0 zeroP [] [] [] [] 0 []
def bTrue : Pred := .mk 1 0 zeroO zeroO []
def bF : Query := .mk 2 0 bTrue [] [] [] [] 0 [bScan]
def bU : Query := .mk 6 0 zeroP [] [] [] [] 0 [bF, bF]
theorem bS_ok : schErr bS = 0 := sch_ok (by decide) (fun t ht => by simp [bS] at ht; subst ht; exact ⟨by simp, rfl, rfl⟩) (by decide) (by decide) (by
 refine good_of ⟨⟨?_, ?_, ?_, ?_, good_of ⟨⟨?_, ?_, ?_⟩, trivial⟩⟩, trivial⟩
 all_goals first | rfl | (simp; done) | decide)
theorem set_kinds {op : Int} (ho : op = 6 ∨ op = 7 ∨ op = 8) (h : (kindsQ s ps q).2 = 0) : (kindsQ s ps (.mk op 0 zeroP [] [] [] [] 0 [q, q])).2 = 0 := by
 have hl := kindsQ_len s ps q
 have e : kindsQ s ps q = ((kindsQ s ps q).1, 0) := Prod.ext rfl h
 have e2 : kindsQs s ps [q, q] = ([(kindsQ s ps q).1, (kindsQ s ps q).1], 0) := kindsQs_ok (by simp; exact e)
 simp only [kindsQ, e2, if_true]
 have e3 : ((2 : Nat) : Int) = arity op := by rcases ho with rfl | rfl | rfl <;> decide
 simp only [List.length_cons, List.length_nil]
 rw [if_pos e3]
 unfold nodeR
 dsimp only
 rw [if_neg (by rw [← e3]; simp [UnusedOk])]
 rw [if_neg (by omega), if_neg (by omega), if_neg (by omega), if_neg (by omega), if_neg (by omega), if_neg (by omega), if_neg (by omega), if_pos (by simp)]
 simp only [List.getD_cons_zero]
 unfold limK
 rw [if_pos hl]
theorem bU_ok : (queryR bS [] bU).2 = 0 := by
 have h1 : (queryR bS [] bScan).2 = 0 := scan_ok bS_ok (by decide) (by decide) (by decide)
 have h2 := (query_kinds h1).2.2.2
 have h3 : (kindsQ bS [] bF).2 = 0 := by
  have hl := kindsQ_len bS [] bScan
  have e : kindsQ bS [] bScan = ((kindsQ bS [] bScan).1, 0) := Prod.ext rfl h2
  have e2 : kindsQs bS [] [bScan] = ([(kindsQ bS [] bScan).1], 0) := kindsQs_ok (by simp; exact e)
  have e4 : kindsQ bS [] bF = nodeR bS [] bF (kindsQ bS [] bScan).1 [] := by
   show kindsQ bS [] (.mk 2 0 bTrue [] [] [] [] 0 [bScan]) = _
   simp only [kindsQ, e2, if_true]
   rw [if_pos (by decide)]
   rfl
  have e5 : (kindsQ bS [] bScan).1 = [4] := by
   have e6 : kindsQ bS [] bScan = nodeR bS [] bScan [] [] := by
    show kindsQ bS [] (.mk 1 0 zeroP [] [] [] [] 0 []) = _
    simp only [kindsQ, kindsQs, if_true]
    rfl
   rw [e6]
   unfold nodeR bScan
   dsimp only
   rw [if_neg (by simp [UnusedOk, arity]), if_pos rfl, if_pos (by decide)]
   rfl
  have e7 : predErr [4] [] bTrue = 0 := by
   have e8 : validF [4] [] bTrue = true := by
    have : eqO zeroO zeroO = true := eqO_iff.2 rfl
    simp [bTrue, validF, plainF, this]
   unfold predErr
   rw [e8, if_neg (by decide), if_neg (by decide)]
   rfl
  rw [e4, e5]
  unfold nodeR bF
  dsimp only
  rw [if_neg (by simp [UnusedOk, arity]), if_neg (by decide), if_pos rfl, if_pos e7]
  rfl
 have h4 := set_kinds (.inl rfl) h3
 have e2 : smallQ bU = true := by rfl
 unfold queryR
 rw [if_pos bS_ok, if_pos (by decide), if_pos e2]
 exact h4
theorem bU_plan {ks : List Nat} (h : AddAll [bU] [] ts ks) : ks = [2] ∧ ts.length = 3 ∧ ∃ t, ts[2]? = some t ∧ t.left = 1 ∧ t.right = 1 := by
 obtain ⟨t1, k1, _, h1, ⟨rfl, rfl⟩, rfl⟩ := h
 unfold bU at h1
 rw [addQ_iff] at h1
 obtain ⟨u1, l, u2, r, g1, g2, g3⟩ := h1
 have n0 : (([] : List Step).map keyOf).Nodup := by simp
 have g1 : AddQ bF [] u1 l := g1
 have n1 := (addQ_nodup bF n0 g1).1
 obtain ⟨rfl, rfl⟩ := again bF n0 g1 (List.prefix_refl _) n1 g2
 unfold bF at g1
 rw [addQ_iff] at g1
 obtain ⟨v1, l1, v2, r1, f1, ⟨rfl, rfl⟩, f3⟩ := g1
 have f1 : AddQ bScan [] v2 l1 := f1
 unfold bScan at f1
 rw [addQ_iff] at f1
 obtain ⟨w1, l2, w2, r2, ⟨rfl, rfl⟩, ⟨rfl, rfl⟩, f5⟩ := f1
 rcases f5 with ⟨x, hx, _⟩ | ⟨_, rfl, rfl⟩
 · simp at hx
 rcases f3 with ⟨x, hx, e, _⟩ | ⟨_, rfl, rfl⟩
 · exfalso
   have := (key_parts e).1
   cases r with
   | zero => simp at hx; subst hx; simp at this
   | succ i => simp at hx
 rcases g3 with ⟨x, hx, e, _⟩ | ⟨_, rfl, rfl⟩
 · exfalso
   have := (key_parts e).1
   match k1, hx with
   | 0, hx => simp at hx; subst hx; simp at this
   | 1, hx => simp at hx; subst hx; simp at this
   | i + 2, hx => simp at hx
 exact ⟨rfl, rfl, _, rfl, rfl, rfl⟩
theorem comp_ok {qs : List Query} (hl : qs.length ≤ 32) (hs : schErr s = 0) : compErr s qs = firstErr (qs.map fun q => (queryR s [] q).2) := by
 unfold compErr
 rw [if_neg (by omega), if_neg (by simp [hs])]
theorem repQl_two {h : PH} {s : Sl} {v : QV} {q : Query} (r : RowIn h s 21 [QV.enc v, QV.enc v]) (hq : RepQ h q v) : RepQl h s [q, q] := ⟨⟨[v, v], r, rfl, fun i x e => by
 match i, e with
 | 0, e => simp at e; subst e; exact ⟨v, rfl, hq⟩
 | 1, e => simp at e; subst e; exact ⟨v, rfl, hq⟩
 | i + 2, e => simp at e⟩, by simp⟩
theorem Steps.at {p : Sl} {vs : List SV2} (r : RowIn h p 22 (vs.map SV2.enc)) (s : Steps h vs ts) (hi : ts[i]? = some t) : ∃ b o v, p.a = some ⟨b, o, none⟩ ∧ RdCells h b (o + i * 22) (SV2.enc v) ∧ RepSt h t v := by
 obtain ⟨v, h1, h2⟩ := s.2 i t hi
 obtain ⟨b, o, e, k⟩ := r.get (i := i) (e := SV2.enc v) (by simp [h1])
 exact ⟨b, o, v, e, k, h2⟩
theorem Steps.slen {p : Sl} {vs : List SV2} (r : RowIn h p 22 (vs.map SV2.enc)) (s : Steps h vs ts) : p.len = ts.length := by
 have := r.len
 simp at this
 rw [this, s.1]
theorem f16_ok (ht : TabM m) (hK : K (cB true) m h) : f16_nice m h (Weak h K) := by
 intro s1 h1 le1 r1 s2 h2 le2 r2 s3 h3 le3 r3 s4 h4 le4 r4 s5 h5 le5 r5
 have rs : RepQ h5 bScan ⟨1, 0, zeroPV, nilS, nilS, nilS, nilS, 0, nilS⟩ := scan_rep h5 0
 have rf : RepQ h5 bF ⟨2, 0, ⟨1, 0, zeroO, zeroO, nilS⟩, nilS, nilS, nilS, nilS, 0, s2⟩ := filter_rep (leaf_rep rfl) (repQl_one (v := ⟨1, 0, zeroPV, nilS, nilS, nilS, nilS, 0, nilS⟩) (r2.mono ((le3.trans le4).trans le5)) rs)
 have ru : RepQ h5 bU ⟨6, 0, zeroPV, nilS, nilS, nilS, nilS, 0, s3⟩ := QParts.rep ⟨rfl, rfl, zeroP_rep h5, ints_nil h5, pairs_nil h5, ints_nil h5, sorts_nil h5, rfl, repQl_two (v := ⟨2, 0, ⟨1, 0, zeroO, zeroO, nilS⟩, nilS, nilS, nilS, nilS, 0, s2⟩) (r3.mono (le4.trans le5)) rf⟩
 have rt : RepTab h5 ⟨⟨⟨[116]⟩⟩, [⟨⟨⟨[105, 100]⟩⟩, 4⟩], 1, [], []⟩ ⟨⟨⟨[116]⟩⟩, s1, 1, nilS, nilS⟩ := ⟨rfl, cols_of (l := [⟨_, _⟩]) (r1.mono (((le2.trans le3).trans le4).trans le5)) (by simp), rfl, RepL.nil _ _ _ _, RepL.nil _ _ _ _⟩
 have rS : RepS h5 bS ⟨0, s4⟩ := ⟨rfl, ⟨⟨[⟨⟨⟨[116]⟩⟩, s1, 1, nilS, nilS⟩], r4.mono le5, rfl, fun i x e => by
  match i, e with
  | 0, e => simp [bS] at e; subst e; exact ⟨_, rfl, rt⟩
  | i + 1, e => simp [bS] at e⟩, by simp [bS]⟩⟩
 have hce : compErr bS [bU] = 0 := by
  rw [comp_ok (by decide) bS_ok]
  simp [firstErr, bU_ok]
 refine ⟨⟨0, s4⟩, s5, bS, [bU], rfl, rS, repQl_one (v := ⟨6, 0, zeroPV, nilS, nilS, nilS, nilS, 0, s3⟩) r5 ru, ht, fun q _ hq => query_key hq, fun hn => (hn hce).elim, fun _ p r ts ks h6 le6 hadd hp => ?_⟩
 obtain ⟨rfl, htl, t, h2t, tl, tr⟩ := bU_plan hadd
 obtain ⟨vs, hrow, hst⟩ := hp.steps
 have hpl := Steps.slen hrow hst
 have hrl := hp.roots.slen
 obtain ⟨b1, o1, e1, q1⟩ := hp.roots.at (i := 0) (x := 2) rfl
 obtain ⟨b2, o2, v, e2, q2, rv⟩ := Steps.at hrow hst h2t
 have hle := ((((le1.trans le2).trans le3).trans le4).trans le5).trans le6
 have hrl : r.len = 1 := by simpa using hrl
 rw [hpl, htl, hrl]
 refine branch_intro (fun _ => branch_intro (fun _ => ⟨b1, o1, e1, by omega, by omega, 2, .imm q1, branch_intro (fun _ => ⟨b2, o2, e2, by omega, by omega, v.left, .imm (RdCells.part q2 20 1), branch_intro (fun _ => ⟨b2, o2, e2, by omega, by omega, v.right, .imm (RdCells.part q2 21 1), ?_⟩) (fun e => ?_)⟩) (fun e => ?_)⟩) (fun e => ?_)) (fun e => ?_)
 · rw [rv.right_, tr]; exact .out (Sub.refl m) hle hK
 · rw [rv.left_, tl] at e; cases e
 · cases e
 · cases e
 · cases e
theorem f16_sound : Sound Tryz.prog 16 BegunS := by
 refine fn_sound' (fn := Tryz.f16) (c := bodyOf Tryz.f16) Tryz.func16 rfl (by decide) ?_
 rintro cvs m h K ⟨rfl, ht, hK⟩
 refine ⟨ctx2 [(14, CompileS)] [] [] [] false, rfl, specs_cons f14_sound specs_nil, ?_⟩
 rw [← f16_vc m h _]
 exact f16_ok ht hK
theorem TabM.new (ht : TabM m) (hc : m cb = none) (o : MOther m m' cb) : TabM m' := by
 obtain ⟨T, fz, h1, h2, e⟩ := ht
 refine ⟨T, fz, h1, h2, ?_⟩
 rw [o.other 0 (fun e2 => by rw [← e2, e] at hc; cases hc)]; exact e
def Reps (h : PH) (xs : List QV) (qs : List Query) : Prop := qs.length = xs.length ∧ ∀ (i : Nat) q, qs[i]? = some q → ∃ v, xs[i]? = some v ∧ RepQ h q v
def QAll (s : Sch) (ps : List Int) (qs : List Query) : Prop := ∀ q ∈ qs, QW q ∧ (queryR s ps q).2 = 0
def QueriesW : Vc.Spec := fun cvs m h K => ∃ cb sc p s ps most deep, cvs = [cP cb, aS sc, cS p, cI most, cI deep] ∧ CaseOk m h cb ∧ RepS h s sc ∧ schErr s = 0 ∧ s.tables ≠ [] ∧ Ints h p ps ∧ ps.length ≤ 1000 ∧ ps.all colKind = true ∧ 0 ≤ most ∧ most ≤ 30 ∧ 0 ≤ deep ∧ deep ≤ 900 ∧
 ∀ xs qs m' h', PH.le h h' → Reps h' xs qs → QAll s ps qs → (qs.length : Int) ≤ most → MOther m m' cb → CaseOk m' h' cb → K (.lst 43 21 (xs.map QV.enc)) m' h'
def f9_ctx (cb : Nat) (sc : SchV) (p : Sl) (deep : Int) : Ctx :=
 ctx2 [(12, IntW), (18, QueryW 1000), (10, BoolW), (26, QueryCheckS), (27, PredicateW)]
  [(3, { A := Int × List QV × MH × PH, st := fun ⟨n, xs, m, h⟩ => mkSt 73 78 [(0, pv cb), (2, sv p), (4, iv deep), (6, .at (.ptr 6 0)), (11, .at (.lst 71)), (12, iv n)] [(6, .cells 28 (sc.enc.map .val)), (71, .lst 43 21 (xs.map QV.enc))] m h })]
  [(7, { A := Int × List QV × QV × Bool × MH × PH, st := fun ⟨n, xs, q, b, m, h⟩ => mkSt 73 78 [(0, pv cb), (2, sv p), (4, iv deep), (6, .at (.ptr 6 0)), (11, .at (.lst 71)), (12, iv n), (13, .at (.ptr 13 0)), (37, bv b)] [(6, .cells 28 (sc.enc.map .val)), (13, .cells 43 (q.enc.map .val)), (71, .lst 43 21 (xs.map QV.enc))] m h }),
   (12, { A := Int × List QV × QV × MH × PH, st := fun ⟨n, xs, q, m, h⟩ => mkSt 73 78 [(0, pv cb), (2, sv p), (4, iv deep), (6, .at (.ptr 6 0)), (11, .at (.lst 71)), (12, iv n), (13, .at (.ptr 13 0))] [(6, .cells 28 (sc.enc.map .val)), (13, .cells 43 (q.enc.map .val)), (71, .lst 43 21 (xs.map QV.enc))] m h })] [] true
def f9_nice (cb : Nat) (sc : SchV) (p : Sl) (most deep : Int) (m : MH) (h : PH) (K : CV → MH → PH → Prop) : Prop :=
 ∃ (cb_1 : Nat) (n : Int), [cQp cb 0, cQi (IntKind.i64.wrap (most + 1))] = [cQp cb_1 0, cQi n] /\ CaseOk m h cb_1 /\ ∀ (k : Int) (m' : MH), 0 <= k -> k < n ∨ k = 0 -> MOther m m'
 cb_1 -> CaseOk m' h cb_1 -> ∃ (I : Int × List QV × MH × PH -> Prop) (mu : Int × List QV × MH × PH -> Nat), (∃ (x : Int × List QV × MH × PH), I x /\ eQ (sQo cb 0) /\ eQ (sQs p) /\
 eQ (sQi deep) /\ eP 6 /\ eL 71 /\ sQi k = sQi x.1 /\ eQ (oQ 28 [aQi sc.version, aQs sc.tables]) /\ some (Own.lst 43 21 []) = some (Own.lst 43 21 (List.map QV.enc x.2.1)) /\ m' =
 x.2.2.1 /\ h = x.2.2.2 /\ True) /\ ∀ (x : Int × List QV × MH × PH), I x -> branch (decide (x.1 > 0)) (∃ (cb_2 : Nat) (sc_1 : SchV), ∃ (p_1 : Sl) (s : Sch), ∃ (ps : List Int)
 (deep_1 : Int), [cQp cb 0, cQa [vQi sc.version, vQs sc.tables], cQs p, cQi deep] = [cQp cb_2 0, cQa [vQi sc_1.version, vQs sc_1.tables], cQs p_1, cQi deep_1] /\ CaseOk x.2.2.1
 x.2.2.2 cb_2 /\ RepS x.2.2.2 s sc_1 /\ schErr s = 0 /\ (s.tables = [] -> False) /\ Ints x.2.2.2 p_1 ps /\ ps.length <= 1000 /\ ps.all colKind = true /\ Int.negSucc 0 <= deep_1 /\
 deep_1 <= 1000 /\ (deep_1 + 1).toNat < 1000 /\ ∀ (w : QV) (q : Query) (m' : MH) (h' : PH), x.2.2.2.le h' -> RepQ h' q w -> QW q -> (queryR s ps q).2 = 0 -> MOther x.2.2.1 m' cb_2
 -> CaseOk m' h' cb_2 -> ∃ (I_1 : Int × List QV × QV × MH × PH -> Prop), (∃ (I : Int × List QV × QV × Bool × MH × PH -> Prop), branch (decide ((↑(List.map QV.enc x.2.1).length :
 Int) > 0)) (∃ (cb_3 : Nat) (n : Int), [cQp cb 0, cQi 4] = [cQp cb_3 0, cQi n] /\ 0 <= n /\ n <= 1000 /\ CaseOk m' h' cb_3 /\ ∀ (r : Bool) (m'_1 : MH), MOther m' m'_1 cb_3 -> CaseOk
 m'_1 h' cb_3 -> ∃ (x_1 : Int × List QV × QV × Bool × MH × PH), I x_1 /\ eQ (sQo cb 0) /\ eQ (sQs p) /\ eQ (sQi deep) /\ eP 6 /\ eL 71 /\ sQi x.1 = sQi x_1.1 /\ eP 13 /\ sQb r = sQb
 x_1.2.2.2.1 /\ eQ (oQ 28 [aQi sc.version, aQs sc.tables]) /\ oQ 43 (List.map At.val (QV.enc w)) = oQ 43 (List.map At.val (QV.enc x_1.2.2.1)) /\ some (Own.lst 43 21 (List.map QV.enc
 x.2.1)) = some (Own.lst 43 21 (List.map QV.enc x_1.2.1)) /\ m'_1 = x_1.2.2.2.2.1 /\ h' = x_1.2.2.2.2.2 /\ True) (∃ (x_1 : Int × List QV × QV × Bool × MH × PH), I x_1 /\ eQ (sQo cb
 0) /\ eQ (sQs p) /\ eQ (sQi deep) /\ eP 6 /\ eL 71 /\ sQi x.1 = sQi x_1.1 /\ eP 13 /\ sQb false = sQb x_1.2.2.2.1 /\ eQ (oQ 28 [aQi sc.version, aQs sc.tables]) /\ oQ 43 (List.map
 At.val (QV.enc w)) = oQ 43 (List.map At.val (QV.enc x_1.2.2.1)) /\ some (Own.lst 43 21 (List.map QV.enc x.2.1)) = some (Own.lst 43 21 (List.map QV.enc x_1.2.1)) /\ m' =
 x_1.2.2.2.2.1 /\ h' = x_1.2.2.2.2.2 /\ True) /\ ∀ (x : Int × List QV × QV × Bool × MH × PH), I x -> branch x.2.2.2.1 ((0 : Int) <= 0 /\ 0 < (↑(List.map QV.enc x.2.1).length : Int)
 /\ ∃ (e : List Value), (List.map QV.enc x.2.1)[0]? = some e /\ ∃ (y : QV), List.take 21 (List.drop 0 e) = (QV.enc y) /\ ∃ (sc_2 : SchV) (p_2 : Sl), ∃ (v : QV) (s : Sch), ∃ (ps :
 List Int) (q : Query), [cQa [vQi sc.version, vQs sc.tables], cQs p, cQa (QV.enc y)] = [cQa [vQi sc_2.version, vQs sc_2.tables], cQs p_2, cQa (QV.enc v)] /\ RepS x.2.2.2.2.2 s sc_2
 /\ Ints x.2.2.2.2.2 p_2 ps /\ RepQ x.2.2.2.2.2 q v /\ ∀ (sl : Sl) (h' : PH), x.2.2.2.2.2.le h' -> Ints h' sl (queryR s ps q).1 -> (0 : Int) <= 0 /\ 0 < (↑(List.map QV.enc
 x.2.1).length : Int) /\ ∃ (e : List Value), (List.map QV.enc x.2.1)[0]? = some e /\ ∃ (y : QV), List.take 21 (List.drop 0 e) = (QV.enc y) /\ ((∃ (e : List Value), (List.map QV.enc
 x.2.1)[0]? = some e /\ List.take 21 (List.drop 0 e) = (QV.enc y)) /\ ∃ (cb_3 : Nat), ∃ (s t : Sl), ∃ (cols params : List Int) (deep_2 : Nat), [cQp cb 0, cQs sl, cQs p, cQi 1] =
 [cQp cb_3 0, cQs s, cQs t, cQi ↑deep_2] /\ CaseOk x.2.2.2.2.1 h' cb_3 /\ Ints h' s cols /\ Ints h' t params /\ cols.length <= 1000 /\ params.length <= 1000 /\ deep_2 <= 1000 /\ ∀
 (v : PV) (p_3 : Pred) (m' : MH) (h'_1 : PH), h'.le h'_1 -> RepP h'_1 p_3 v -> PredW p_3 -> MOther x.2.2.2.2.1 m' cb_3 -> CaseOk m' h'_1 cb_3 -> ∀ (s : Sl) (h' : PH), h'_1.le h' ->
 RowIn h' s 21 [(QV.enc y)] -> ∃ (sc_3 : SchV) (p_4 : Sl), ∃ (v_1 : QV) (s_1 : Sch), ∃ (ps : List Int) (q : Query), [cQa [vQi sc.version, vQs sc.tables], cQs p, cQa [vQi 2, vQi 0,
 vQi v.op, vQi v.cmp, vQi v.left.kind, vQi v.left.index, vQi v.left.value.kind, vQi v.left.value.int, Value.string v.left.value.text, vQi v.right.kind, vQi v.right.index, vQi
 v.right.value.kind, vQi v.right.value.int, Value.string v.right.value.text, vQs v.args, vQn, vQn, vQn, vQn, vQi 0, vQs s]] = [cQa [vQi sc_3.version, vQs sc_3.tables], cQs p_4, cQa
 (QV.enc v_1)] /\ RepS h' s_1 sc_3 /\ Ints h' p_4 ps /\ RepQ h' q v_1 /\ ∀ (sl : Sl) (h'_2 : PH), h'.le h'_2 -> Ints h'_2 sl (queryR s_1 ps q).1 -> branch ((queryR s_1 ps q).2 != 0)
 ((0 : Int) <= 0 /\ 0 < (↑(List.map QV.enc x.2.1).length : Int) /\ ∃ (e : List Value), (List.map QV.enc x.2.1)[0]? = some e /\ ∃ (y : QV), List.take 21 (List.drop 0 e) = (QV.enc y)
 /\ ∃ (x_1 : Int × List QV × QV × MH × PH), I_1 x_1 /\ eQ (sQo cb 0) /\ eQ (sQs p) /\ eQ (sQi deep) /\ eP 6 /\ eL 71 /\ sQi x.1 = sQi x_1.1 /\ eP 13 /\ eQ (oQ 28 [aQi sc.version,
 aQs sc.tables]) /\ oQ 43 (List.map At.val (QV.enc y)) = oQ 43 (List.map At.val (QV.enc x_1.2.2.1)) /\ some (Own.lst 43 21 (List.map QV.enc x.2.1)) = some (Own.lst 43 21 (List.map
 QV.enc x_1.2.1)) /\ m' = x_1.2.2.2.1 /\ h'_2 = x_1.2.2.2.2 /\ True) (∃ (x_1 : Int × List QV × QV × MH × PH), I_1 x_1 /\ eQ (sQo cb 0) /\ eQ (sQs p) /\ eQ (sQi deep) /\ eP 6 /\ eL
 71 /\ sQi x.1 = sQi x_1.1 /\ eP 13 /\ eQ (oQ 28 [aQi sc.version, aQs sc.tables]) /\ oQ 43 (aQi 2 :: aQi 0 :: pQ v [aQn, aQn, aQn, aQn, aQi 0, aQs s]) = oQ 43 (List.map At.val
 (QV.enc x_1.2.2.1)) /\ some (Own.lst 43 21 (List.map QV.enc x.2.1)) = some (Own.lst 43 21 (List.map QV.enc x_1.2.1)) /\ m' = x_1.2.2.2.1 /\ h'_2 = x_1.2.2.2.2 /\ True)) /\ (∃ (e :
 List Value), (List.map QV.enc x.2.1)[0]? = some e /\ List.take 21 (List.drop 0 e) = (QV.enc y)) /\ ∃ (cb_3 : Nat), ∃ (s t : Sl), ∃ (cols params : List Int) (deep_2 : Nat), [cQp cb
 0, cQs sl, cQs p, cQi 1] = [cQp cb_3 0, cQs s, cQs t, cQi ↑deep_2] /\ CaseOk x.2.2.2.2.1 h' cb_3 /\ Ints h' s cols /\ Ints h' t params /\ cols.length <= 1000 /\ params.length <=
 1000 /\ deep_2 <= 1000 /\ ∀ (v : PV) (p_3 : Pred) (m' : MH) (h'_1 : PH), h'.le h'_1 -> RepP h'_1 p_3 v -> PredW p_3 -> MOther x.2.2.2.2.1 m' cb_3 -> CaseOk m' h'_1 cb_3 -> ∀ (s :
 Sl) (h' : PH), h'_1.le h' -> RowIn h' s 21 [(QV.enc y)] -> ∃ (sc_3 : SchV) (p_4 : Sl), ∃ (v_1 : QV) (s_1 : Sch), ∃ (ps : List Int) (q : Query), [cQa [vQi sc.version, vQs
 sc.tables], cQs p, cQa [vQi 2, vQi 0, vQi v.op, vQi v.cmp, vQi v.left.kind, vQi v.left.index, vQi v.left.value.kind, vQi v.left.value.int, Value.string v.left.value.text, vQi
 v.right.kind, vQi v.right.index, vQi v.right.value.kind, vQi v.right.value.int, Value.string v.right.value.text, vQs v.args, vQn, vQn, vQn, vQn, vQi 0, vQs s]] = [cQa [vQi
 sc_3.version, vQs sc_3.tables], cQs p_4, cQa (QV.enc v_1)] /\ RepS h' s_1 sc_3 /\ Ints h' p_4 ps /\ RepQ h' q v_1 /\ ∀ (sl : Sl) (h'_2 : PH), h'.le h'_2 -> Ints h'_2 sl (queryR s_1
 ps q).1 -> branch ((queryR s_1 ps q).2 != 0) ((0 : Int) <= 0 /\ 0 < (↑(List.map QV.enc x.2.1).length : Int) /\ ∃ (e : List Value), (List.map QV.enc x.2.1)[0]? = some e /\ ∃ (y :
 QV), List.take 21 (List.drop 0 e) = (QV.enc y) /\ ∃ (x_1 : Int × List QV × QV × MH × PH), I_1 x_1 /\ eQ (sQo cb 0) /\ eQ (sQs p) /\ eQ (sQi deep) /\ eP 6 /\ eL 71 /\ sQi x.1 = sQi
 x_1.1 /\ eP 13 /\ eQ (oQ 28 [aQi sc.version, aQs sc.tables]) /\ oQ 43 (List.map At.val (QV.enc y)) = oQ 43 (List.map At.val (QV.enc x_1.2.2.1)) /\ some (Own.lst 43 21 (List.map
 QV.enc x.2.1)) = some (Own.lst 43 21 (List.map QV.enc x_1.2.1)) /\ m' = x_1.2.2.2.1 /\ h'_2 = x_1.2.2.2.2 /\ True) (∃ (x_1 : Int × List QV × QV × MH × PH), I_1 x_1 /\ eQ (sQo cb 0)
 /\ eQ (sQs p) /\ eQ (sQi deep) /\ eP 6 /\ eL 71 /\ sQi x.1 = sQi x_1.1 /\ eP 13 /\ eQ (oQ 28 [aQi sc.version, aQs sc.tables]) /\ oQ 43 (aQi 2 :: aQi 0 :: pQ v [aQn, aQn, aQn, aQn,
 aQi 0, aQs s]) = oQ 43 (List.map At.val (QV.enc x_1.2.2.1)) /\ some (Own.lst 43 21 (List.map QV.enc x.2.1)) = some (Own.lst 43 21 (List.map QV.enc x_1.2.1)) /\ m' = x_1.2.2.2.1 /\
 h'_2 = x_1.2.2.2.2 /\ True)) (∃ (x_1 : Int × List QV × QV × MH × PH), I_1 x_1 /\ eQ (sQo cb 0) /\ eQ (sQs p) /\ eQ (sQi deep) /\ eP 6 /\ eL 71 /\ sQi x.1 = sQi x_1.1 /\ eP 13 /\ eQ
 (oQ 28 [aQi sc.version, aQs sc.tables]) /\ oQ 43 (List.map At.val (QV.enc x.2.2.1)) = oQ 43 (List.map At.val (QV.enc x_1.2.2.1)) /\ some (Own.lst 43 21 (List.map QV.enc x.2.1)) =
 some (Own.lst 43 21 (List.map QV.enc x_1.2.1)) /\ x.2.2.2.2.1 = x_1.2.2.2.1 /\ x.2.2.2.2.2 = x_1.2.2.2.2 /\ True)) /\ ∀ (x_1 : Int × List QV × QV × MH × PH), I_1 x_1 -> ((List.map
 QV.enc x_1.2.1).length + 1) * 280 <= 140737488355328 /\ (List.map QV.enc x_1.2.1).length < 140737488355328 /\ ∃ (x_2 : Int × List QV × MH × PH), I x_2 /\ mu x_2 < mu x /\ eQ (sQo
 cb 0) /\ eQ (sQs p) /\ eQ (sQi deep) /\ eP 6 /\ eL 71 /\ sQi (IntKind.i64.wrap (x_1.1 - 1)) = sQi x_2.1 /\ eQ (oQ 28 [aQi sc.version, aQs sc.tables]) /\ some (Own.lst 43 21
 (List.map QV.enc x_1.2.1 ++ [(QV.enc x_1.2.2.1)])) = some (Own.lst 43 21 (List.map QV.enc x_2.2.1)) /\ x_1.2.2.2.1 = x_2.2.2.1 /\ x_1.2.2.2.2 = x_2.2.2.2 /\ True) (K (CV.lst 43 21
 (List.map QV.enc x.2.1)) x.2.2.1 x.2.2.2)
theorem f9_vc (cb : Nat) (sc : SchV) (p : Sl) (most deep : Int) (m : MH) (h : PH) (K : CV → MH → PH → Prop) : f9_nice cb sc p most deep m h K = (fnVC (f9_ctx cb sc p deep) Tryz.f9 (bodyOf Tryz.f9) (entry Tryz.f9.ntmps [cP cb, aS sc, cS p, cI most, cI deep] m h) K) := by kernel_rfl
theorem Reps.mono {xs : List QV} {qs : List Query} (r : Reps h xs qs) (le : PH.le h h') : Reps h' xs qs := ⟨r.1, fun i q e => let ⟨v, e1, e2⟩ := r.2 i q e; ⟨v, e1, e2.mono le⟩⟩
theorem Reps.snoc {xs : List QV} {qs : List Query} (r : Reps h xs qs) (hq : RepQ h q v) : Reps h (xs ++ [v]) (qs ++ [q]) := by
 refine ⟨by simp [r.1], fun i x e => ?_⟩
 have hl := r.1
 by_cases hi : i < qs.length
 · rw [List.getElem?_append_left hi] at e
   obtain ⟨u, e1, e2⟩ := r.2 i x e
   exact ⟨u, by rw [List.getElem?_append_left (by omega)]; exact e1, e2⟩
 · rw [List.getElem?_append_right (by omega)] at e
   have hil := (List.getElem?_eq_some_iff.1 e).1
   simp at hil
   have : i = qs.length := by omega
   subst this
   simp at e
   subst e
   exact ⟨v, by rw [List.getElem?_append_right (by omega), hl]; simp, hq⟩
theorem f9_ok {p : Sl} {most deep : Int} (hc : CaseOk m h cb) (hs : RepS h s sc) (he : schErr s = 0) (hne : s.tables ≠ []) (hp : Ints h p ps) (hpl : ps.length ≤ 1000) (hpk : ps.all colKind = true) (m0 : 0 ≤ most) (m1 : most ≤ 30) (d0 : 0 ≤ deep) (d1 : deep ≤ 900)
 (hK : ∀ xs qs m' h', PH.le h h' → Reps h' xs qs → QAll s ps qs → (qs.length : Int) ≤ most → MOther m m' cb → CaseOk m' h' cb → K (.lst 43 21 (xs.map QV.enc)) m' h') : f9_nice cb sc p most deep m h K := by
 have hw : IntKind.i64.wrap (most + 1) = most + 1 := wrap_id (by omega) (by omega)
 unfold f9_nice
 rw [hw]
 refine ⟨cb, _, rfl, hc, fun k m1' k0 k1 o1 c1 => ?_⟩
 refine ⟨fun ⟨n, xs, mx, hx⟩ => 0 ≤ n ∧ n ≤ most ∧ PH.le h hx ∧ MOther m mx cb ∧ CaseOk mx hx cb ∧ ∃ qs, Reps hx xs qs ∧ QAll s ps qs ∧ (qs.length : Int) ≤ most - n, fun ⟨n, _, _, _⟩ => n.toNat, ⟨(k, [], m1', h), ⟨k0, by show k ≤ most; omega, .refl _, o1, c1, [], ⟨rfl, fun i q e => by simp at e⟩, fun q hq => by simp at hq, by simp; omega⟩, MT⟩, ?_⟩
 clear o1 c1 k0 k1 m1' hw
 rintro ⟨n, xs, mx, hx⟩ ⟨n0, n1, hle, ox, cx, qs, rp, qall, hql⟩
 dsimp only
 have hxl : xs.length = qs.length := rp.1.symm
 refine branch_dec (fun hn => ?_) (fun hn => hK xs qs mx hx hle rp qall (by omega) ox cx)
 refine ⟨cb, sc, p, s, ps, deep, rfl, cx, hs.mono hle, he, hne, hp.mono hle, hpl, hpk, by show -1 ≤ deep; omega, by omega, by omega, fun w q m2 h2 le2 rq qw qok o2 c2 => ?_⟩
 refine ⟨fun ⟨n', xs', q', my, hy⟩ => n' = n ∧ xs' = xs ∧ PH.le h2 hy ∧ MOther mx my cb ∧ CaseOk my hy cb ∧ ∃ q, RepQ hy q q' ∧ QW q ∧ (queryR s ps q).2 = 0, ?_, ?_⟩
 · refine ⟨fun ⟨n', xs', q', b, my, hy⟩ => n' = n ∧ xs' = xs ∧ q' = w ∧ hy = h2 ∧ (b = true → 0 < xs.length) ∧ MOther mx my cb ∧ CaseOk my h2 cb, branch_dec (fun hl => ⟨cb, 4, rfl, by omega, by omega, c2, fun r m3 o3 c3 => ⟨(n, xs, w, r, m3, h2), ⟨rfl, rfl, rfl, rfl, fun _ => by simpa using hl, o2.trans o3, c3⟩, MT⟩⟩) (fun _ => ⟨(n, xs, w, false, m2, h2), ⟨rfl, rfl, rfl, rfl, (fun e => (by cases e)), o2, c2⟩, MT⟩), ?_⟩
   rintro ⟨n, xs, w, b, my, h2⟩ ⟨rfl, rfl, rfl, rfl, hb, oy, cy⟩
   dsimp only
   refine branch_intro (fun e => ?_) (fun _ => ⟨(n, xs, w, my, h2), ⟨rfl, rfl, .refl _, oy, cy, q, rq, qw, qok⟩, MT⟩)
   have hpos := hb e
   have hq0 : qs[0]? = some (qs[0]'(by omega)) := List.getElem?_eq_getElem _
   obtain ⟨v0, hv0, rv0⟩ := rp.2 0 _ hq0
   obtain ⟨qw0, qok0⟩ := qall _ (List.mem_of_getElem? hq0)
   have hget : (xs.map QV.enc)[0]? = some (QV.enc v0) := by rw [List.getElem?_map, hv0]; rfl
   have hlen : (0 : Int) < ((xs.map QV.enc).length : Int) := by simp; omega
   have fin : ∀ (pv : PV) (pp : Pred) (s1 : Sl) (m5 : MH) (h5 : PH), PH.le h2 h5 → RepP h5 pp pv → PredW pp → RowIn h5 s1 21 [QV.enc v0] → RepQ h5 (.mk 2 0 pp [] [] [] [] 0 [qs[0]'(by omega)]) ⟨2, 0, pv, nilS, nilS, nilS, nilS, 0, s1⟩ ∧ QW (.mk 2 0 pp [] [] [] [] 0 [qs[0]'(by omega)]) := fun pv pp s1 m5 h5 l1 l2 l3 l4 => ⟨filter_rep l2 (repQl_one l4 (rv0.mono (le2.trans l1))), qw_one l3 qw0⟩
   refine ⟨by omega, hlen, _, hget, v0, rfl, sc, p, v0, s, ps, _, rfl, hs.mono (hle.trans le2), hp.mono (hle.trans le2), rv0.mono le2, fun kk h3 le3 ik => ?_⟩
   have hkl := queryR_len s ps (qs[0]'(by omega))
   generalize (queryR s ps (qs[0]'(by omega))).fst = ks at ik hkl
   have tail : ∀ (pv : PV) (pp : Pred) (m5 : MH) (h5 : PH), PH.le h3 h5 → RepP h5 pp pv → PredW pp → MOther my m5 cb → CaseOk m5 h5 cb → True := fun _ _ _ _ _ _ _ _ _ => trivial
   refine ⟨by omega, hlen, _, hget, v0, rfl, ⟨⟨_, hget, rfl⟩, cb, kk, p, ks, ps, 1, rfl, cy.mono le3, ik, hp.mono ((hle.trans le2).trans le3), by omega, hpl, by omega, fun pv pp m5 h5 le5 rpp wpp o5 c5 s1 h6 le6 r6 => ?_⟩, ⟨_, hget, rfl⟩, cb, kk, p, ks, ps, 1, rfl, cy.mono le3, ik, hp.mono ((hle.trans le2).trans le3), by omega, hpl, by omega, fun pv pp m5 h5 le5 rpp wpp o5 c5 s1 h6 le6 r6 => ?_⟩
   all_goals
    have l6 := (le3.trans le5).trans le6
    obtain ⟨f1, f2⟩ := fin pv pp s1 m5 h6 l6 (rpp.mono le6) wpp r6
    refine ⟨sc, p, ⟨2, 0, pv, nilS, nilS, nilS, nilS, 0, s1⟩, s, ps, _, rfl, hs.mono ((hle.trans le2).trans l6), hp.mono ((hle.trans le2).trans l6), f1, fun sl h7 le7 _ => branch_intro (fun e2 => ?_) (fun e2 => ?_)⟩
    · exact ⟨by omega, hlen, _, hget, v0, rfl, (n, xs, v0, m5, h7), ⟨rfl, rfl, l6.trans le7, oy.trans o5, c5.mono (le6.trans le7), _, rv0.mono ((le2.trans l6).trans le7), qw0, qok0⟩, MT⟩
    · exact ⟨(n, xs, ⟨2, 0, pv, nilS, nilS, nilS, nilS, 0, s1⟩, m5, h7), ⟨rfl, rfl, l6.trans le7, oy.trans o5, c5.mono (le6.trans le7), _, f1.mono le7, f2, by simpa using e2⟩, MT⟩
 · rintro ⟨n, xs, q', my, hy⟩ ⟨rfl, rfl, ley, oy, cy, q2, rq2, qw2, qok2⟩
   dsimp only
   have hw : IntKind.i64.wrap (n - 1) = n - 1 := wrap_id (by omega) (by omega)
   rw [hw]
   refine ⟨by simp; omega, by simp; omega, (n - 1, xs ++ [q'], my, hy), ⟨by show 0 ≤ n - 1; omega, by show n - 1 ≤ most; omega, (hle.trans le2).trans ley, ox.trans oy, cy, qs ++ [q2], (rp.mono (le2.trans ley)).snoc rq2, fun x hx => ?_, by simp; omega⟩, by show (n - 1).toNat < n.toNat; omega, ?_⟩
   · rcases List.mem_append.1 hx with h1 | h1
     · exact qall x h1
     · simp at h1; subst h1; exact ⟨qw2, qok2⟩
   · rw [List.map_append]; exact MT
theorem f9_sound : Sound Tryz.prog 9 QueriesW := by
 refine fn_sound (fn := Tryz.f9) (c := bodyOf Tryz.f9) Tryz.func9 rfl (by decide) ?_
 rintro cvs m h K ⟨cb, sc, p, s, ps, most, deep, rfl, hc, hs, he, hne, hp, hpl, hpk, m0, m1, d0, d1, hK⟩
 refine ⟨f9_ctx cb sc p deep, rfl, specs_cons intW (specs_cons (f18_all 1000) (specs_cons f10_sound (specs_cons f26_sound (specs_cons f27_sound specs_nil)))), ?_⟩
 rw [← f9_vc cb sc p most deep m h K]
 exact f9_ok hc hs he hne hp hpl hpk m0 m1 d0 d1 hK
def SamePlanS : Vc.Spec := fun cvs m h K => ∃ p r p' r' ts rs ts' rs', cvs = [aPl p r, aPl p' r'] ∧ RepPlan h p r ts rs ∧ RepPlan h p' r' ts' rs' ∧ ∀ b : Bool, (b = true ↔ ts = ts' ∧ rs = rs') → K (cB b) m h
def CompileOkS : Vc.Spec := fun cvs m h K => ∃ sc sl s qs, cvs = [aS sc, cS sl] ∧ RepS h s sc ∧ RepQl h sl qs ∧ TabM m ∧ (∀ q ∈ qs, (queryR s [] q).2 = 0 → QKeyOk q) ∧ compErr s qs = 0 ∧ ∀ p r ts ks h', PH.le h h' → AddAll qs [] ts ks → PlanAt h' p r ts ks → K (.tup [aPl p r, cI 0]) m h'
def ExpandOkS : Vc.Spec := fun cvs m h K => ∃ sc p r s ts rs i, cvs = [aS sc, aPl p r, cI i] ∧ RepS h s sc ∧ RepPlan h p r ts rs ∧ expErr s ts rs i = 0 ∧ ∀ v h', PH.le h h' → RepQ h' (expandF ts i.toNat) v → K (.tup [aQ v, cI 0]) m h'
def f17_ctx (p r p' r' : Sl) (m : MH) (h : PH) : Ctx :=
 ctx2 [(36, SameInts), (20, SameTS)] [(4, { A := Nat, st := fun i => mkSt 40 42 [(2, .at (.ptr 2 0)), (3, .at (.ptr 3 0)), (23, iv p.len), (24, iv i)] [(2, .cells 49 [.val (.slice p.a p.len p.cap), .val (.slice r.a r.len r.cap)]), (3, .cells 49 [.val (.slice p'.a p'.len p'.cap), .val (.slice r'.a r'.len r'.cap)])] m h })] [] [] false
def f6_ctx : Ctx :=
 ctx2 [(7, NewS), (8, PlainW), (9, QueriesW), (14, CompileOkS), (22, ExpandOkS), (24, EqQA), (16, BegunS), (17, SamePlanS)]
  [(8, { A := Nat × SchV × Sl × Sl × Sl × MH × PH, st := fun ⟨i, v, l, p, r, m, h⟩ => mkSt 116 117 [(4, .at (.ptr 4 0)), (6, .at (.ptr 6 0)), (41, sv l), (42, iv l.len), (43, iv i)] [(4, .cells 28 (v.enc.map .val)), (6, .cells 49 [.val (.slice p.a p.len p.cap), .val (.slice r.a r.len r.cap)])] m h }),
   (19, { A := Nat × SchV × Sl × Sl × List QV × List Int × MH × PH, st := fun ⟨i, v, p, r, qs, rs, m, h⟩ => mkSt 116 117 [(4, .at (.ptr 4 0)), (6, .at (.ptr 6 0)), (12, .at (.lst 91)), (13, .at (.lst 95)), (75, iv p.len), (76, iv i)] [(4, .cells 28 (v.enc.map .val)), (6, .cells 49 [.val (.slice p.a p.len p.cap), .val (.slice r.a r.len r.cap)]), (91, .lst 43 21 (qs.map QV.enc)), (95, .lst 3 1 (rs.map eI))] m h })] [] [] false
def f17_nice (p r p' r' : Sl) (m : MH) (h : PH) (K : CV → MH → PH → Prop) : Prop :=
 branch ((↑p.len : Int) != ↑p'.len) (K (cQb false) m h) (∃ (s t : Sl), ∃ (a b : List Int), [cQs r, cQs r'] = [cQs s, cQs t] /\ Ints h s a /\ Ints h t b /\ ∀ (r_1 : Bool), (r_1 =
 true ↔ a = b) -> branch (!r_1) (K (cQb false) m h) (∃ (I : Nat -> Prop) (mu : Nat -> Nat), (∃ (x : Nat), I x /\ eP 2 /\ eP 3 /\ eQ (sQi ↑p.len) /\ sQi 0 = sQi ↑x /\ eQ (oQ 49 [aQs
 p, aQs r]) /\ eQ (oQ 49 [aQs p', aQs r']) /\ m = m /\ h = h /\ True) /\ ∀ (x : Nat), I x -> branch (decide ((↑x : Int) < ↑p.len)) (∃ (b off : Nat), p.a = some (Addr.mk b off none)
 /\ 0 <= (↑x : Int) /\ (↑x : Int) < ↑p.len /\ ∃ (y : SV2), RdAt m h b (off + (↑x : Int).toNat * 22) (SV2.enc y) /\ ∃ (b off : Nat), p'.a = some (Addr.mk b off none) /\ 0 <= (↑x :
 Int) /\ (↑x : Int) < ↑p'.len /\ ∃ (y_1 : SV2), RdAt m h b (off + (↑x : Int).toNat * 22) (SV2.enc y_1) /\ ∃ (v w : SV2), ∃ (t u : Step), [cQa (SV2.enc y), cQa (SV2.enc y_1)] = [cQa
 (SV2.enc v), cQa (SV2.enc w)] /\ RepSt h t v /\ RepSt h u w /\ ∀ (r_2 : Bool), (r_2 = true ↔ t = u) -> branch (!r_2) (K (cQb false) m h) (∃ (x_1 : Nat), I x_1 /\ mu x_1 < mu x /\
 eP 2 /\ eP 3 /\ eQ (sQi ↑p.len) /\ sQi (IntKind.i64.wrap ((↑x : Int) + 1)) = sQi ↑x_1 /\ eQ (oQ 49 [aQs p, aQs r]) /\ eQ (oQ 49 [aQs p', aQs r']) /\ m = m /\ h = h /\ True)) (K
 (cQb true) m h)))
theorem f17_vc (p r p' r' : Sl) (m : MH) (h : PH) (K : CV → MH → PH → Prop) : f17_nice p r p' r' m h K = (fnVC (f17_ctx p r p' r' m h) Tryz.f17 (bodyOf Tryz.f17) (entry Tryz.f17.ntmps [aPl p r, aPl p' r'] m h) K) := by kernel_rfl
def f6_nice (s : Sl) (m : MH) (h : PH) (K : CV → MH → PH → Prop) : Prop :=
 ∃ (s_1 : Sl) (cs : List UInt8) (most : Nat), [cQs s, cQi 220] = [cQs s_1, cQi ↑most] /\ RowIn h s_1 1 (bytesVal cs) /\ s_1.len <= s_1.cap /\ most <= 1000 /\ ∀ (cb : Nat) (m' : MH)
 (h' : PH), h.le h' -> m cb = none -> MOther m m' cb -> CaseOk m' h' cb -> ∃ (cb_1 : Nat), [cQp cb 0] = [cQp cb_1 0] /\ CaseOk m' h' cb_1 /\ ∀ (s : Sch) (v : SchV) (m'_1 : MH) (h'_1
 : PH), PlainSch s -> RepS h'_1 s v -> h'.le h'_1 -> MOther m' m'_1 cb_1 -> CaseOk m'_1 h'_1 cb_1 -> ∃ (cb_2 : Nat) (sc : SchV), ∃ (p : Sl) (s : Sch) (ps : List Int), ∃ (most deep :
 Int), [cQp cb 0, cQa [vQi v.version, vQs v.tables], cQn, cQi 3, cQi 2] = [cQp cb_2 0, cQa [vQi sc.version, vQs sc.tables], cQs p, cQi most, cQi deep] /\ CaseOk m'_1 h'_1 cb_2 /\
 RepS h'_1 s sc /\ schErr s = 0 /\ (s.tables = [] -> False) /\ Ints h'_1 p ps /\ ps.length <= 1000 /\ ps.all colKind = true /\ 0 <= most /\ most <= 30 /\ 0 <= deep /\ deep <= 900 /\
 ∀ (xs : List QV) (qs : List Query) (m' : MH) (h' : PH), h'_1.le h' -> Reps h' xs qs -> QAll s ps qs -> (↑qs.length : Int) <= most -> MOther m'_1 m' cb_2 -> CaseOk m' h' cb_2 -> ∀
 (s : Sl) (h'_2 : PH), h'.le h'_2 -> RowIn h'_2 s 21 (List.map QV.enc xs) -> ∃ (sc : SchV) (sl : Sl), ∃ (s_2 : Sch) (qs : List Query), [cQa [vQi v.version, vQs v.tables], cQs s] =
 [cQa [vQi sc.version, vQs sc.tables], cQs sl] /\ RepS h'_2 s_2 sc /\ RepQl h'_2 sl qs /\ TabM m' /\ (∀ (q : Query), List.Mem q qs -> (queryR s_2 [] q).2 = 0 -> QKeyOk q) /\ compErr
 s_2 qs = 0 /\ ∀ (p r : Sl) (ts : List Step) (ks : List Nat) (h' : PH), h'_2.le h' -> AddAll qs [] ts ks -> PlanAt h' p r ts ks -> branch ((↑r.len : Int) != ↑s.len) (K (cQb false)
 m' h') (∃ (I : Nat × SchV × Sl × Sl × Sl × MH × PH -> Prop) (mu : Nat × SchV × Sl × Sl × Sl × MH × PH -> Nat), (∃ (x : Nat × SchV × Sl × Sl × Sl × MH × PH), I x /\ eP 4 /\ eP 6 /\
 sQs s = sQs x.2.2.1 /\ sQi ↑s.len = sQi ↑x.2.2.1.len /\ sQi 0 = sQi ↑x.1 /\ oQ 28 [aQi v.version, aQs v.tables] = oQ 28 [aQi x.2.1.version, aQs x.2.1.tables] /\ oQ 49 [aQs p, aQs
 r] = oQ 49 [aQs x.2.2.2.1, aQs x.2.2.2.2.1] /\ m' = x.2.2.2.2.2.1 /\ h' = x.2.2.2.2.2.2 /\ True) /\ ∀ (x : Nat × SchV × Sl × Sl × Sl × MH × PH), I x -> branch (decide ((↑x.1 : Int)
 < ↑x.2.2.1.len)) (∃ (b off : Nat), x.2.2.1.a = some (Addr.mk b off none) /\ 0 <= (↑x.1 : Int) /\ (↑x.1 : Int) < ↑x.2.2.1.len /\ ∃ (y : QV), RdAt x.2.2.2.2.2.1 x.2.2.2.2.2.2 b (off
 + (↑x.1 : Int).toNat * 21) (QV.enc y) /\ ∃ (b off : Nat), x.2.2.2.2.1.a = some (Addr.mk b off none) /\ 0 <= (↑x.1 : Int) /\ (↑x.1 : Int) < ↑x.2.2.2.2.1.len /\ ∃ (y_1 : Int), RdAt
 x.2.2.2.2.2.1 x.2.2.2.2.2.2 b (off + (↑x.1 : Int).toNat * 1) [vQi y_1] /\ (∃ (sc : SchV), ∃ (p r : Sl) (s : Sch), ∃ (ts : List Step) (rs : List Int) (i : Int), [cQa [vQi
 x.2.1.version, vQs x.2.1.tables], cQa [vQs x.2.2.2.1, vQs x.2.2.2.2.1], cQi y_1] = [cQa [vQi sc.version, vQs sc.tables], cQa [vQs p, vQs r], cQi i] /\ RepS x.2.2.2.2.2.2 s sc /\
 RepPlan x.2.2.2.2.2.2 p r ts rs /\ expErr s ts rs i = 0 /\ ∀ (v : QV) (h' : PH), x.2.2.2.2.2.2.le h' -> RepQ h' (expandF ts i.toNat) v -> RdAt x.2.2.2.2.2.1 h' b (off + (↑x.1 :
 Int).toNat * 1) [vQi y_1] /\ ∃ (v_1 w : QV), ∃ (p q : Query), [cQa (QV.enc v), cQa (QV.enc y)] = [cQa (QV.enc v_1), cQa (QV.enc w)] /\ RepQ h' p v_1 /\ RepQ h' q w /\ ∀ (r : Bool),
 (r = true ↔ p = q) -> branch (!r) (K (cQb false) x.2.2.2.2.2.1 h') (∃ (x_1 : Nat × SchV × Sl × Sl × Sl × MH × PH), I x_1 /\ mu x_1 < mu x /\ eP 4 /\ eP 6 /\ sQs x.2.2.1 = sQs
 x_1.2.2.1 /\ sQi ↑x.2.2.1.len = sQi ↑x_1.2.2.1.len /\ sQi (IntKind.i64.wrap ((↑x.1 : Int) + 1)) = sQi ↑x_1.1 /\ oQ 28 [aQi x.2.1.version, aQs x.2.1.tables] = oQ 28 [aQi
 x_1.2.1.version, aQs x_1.2.1.tables] /\ oQ 49 [aQs x.2.2.2.1, aQs x.2.2.2.2.1] = oQ 49 [aQs x_1.2.2.2.1, aQs x_1.2.2.2.2.1] /\ x.2.2.2.2.2.1 = x_1.2.2.2.2.2.1 /\ h' =
 x_1.2.2.2.2.2.2 /\ True)) /\ RdAt x.2.2.2.2.2.1 x.2.2.2.2.2.2 b (off + (↑x.1 : Int).toNat * 1) [vQi y_1] /\ ∃ (sc : SchV), ∃ (p r : Sl) (s : Sch), ∃ (ts : List Step) (rs : List
 Int) (i : Int), [cQa [vQi x.2.1.version, vQs x.2.1.tables], cQa [vQs x.2.2.2.1, vQs x.2.2.2.2.1], cQi y_1] = [cQa [vQi sc.version, vQs sc.tables], cQa [vQs p, vQs r], cQi i] /\
 RepS x.2.2.2.2.2.2 s sc /\ RepPlan x.2.2.2.2.2.2 p r ts rs /\ expErr s ts rs i = 0 /\ ∀ (v : QV) (h' : PH), x.2.2.2.2.2.2.le h' -> RepQ h' (expandF ts i.toNat) v -> ∃ (v_1 w : QV),
 ∃ (p q : Query), [cQa (QV.enc v), cQa (QV.enc y)] = [cQa (QV.enc v_1), cQa (QV.enc w)] /\ RepQ h' p v_1 /\ RepQ h' q w /\ ∀ (r : Bool), (r = true ↔ p = q) -> branch (!r) (K (cQb
 false) x.2.2.2.2.2.1 h') (∃ (x_1 : Nat × SchV × Sl × Sl × Sl × MH × PH), I x_1 /\ mu x_1 < mu x /\ eP 4 /\ eP 6 /\ sQs x.2.2.1 = sQs x_1.2.2.1 /\ sQi ↑x.2.2.1.len = sQi
 ↑x_1.2.2.1.len /\ sQi (IntKind.i64.wrap ((↑x.1 : Int) + 1)) = sQi ↑x_1.1 /\ oQ 28 [aQi x.2.1.version, aQs x.2.1.tables] = oQ 28 [aQi x_1.2.1.version, aQs x_1.2.1.tables] /\ oQ 49
 [aQs x.2.2.2.1, aQs x.2.2.2.2.1] = oQ 49 [aQs x_1.2.2.2.1, aQs x_1.2.2.2.2.1] /\ x.2.2.2.2.2.1 = x_1.2.2.2.2.2.1 /\ h' = x_1.2.2.2.2.2.2 /\ True)) (branch (decide ((↑x.2.2.2.1.len
 : Int) > 32)) (([] : List CV) = [] /\ TabM x.2.2.2.2.2.1 /\ K (cQb true) x.2.2.2.2.2.1 x.2.2.2.2.2.2) (∃ (I : Nat × SchV × Sl × Sl × List QV × List Int × MH × PH -> Prop) (mu : Nat
 × SchV × Sl × Sl × List QV × List Int × MH × PH -> Nat), (∃ (x_1 : Nat × SchV × Sl × Sl × List QV × List Int × MH × PH), I x_1 /\ eP 4 /\ eP 6 /\ eL 91 /\ eL 95 /\ sQi
 ↑x.2.2.2.1.len = sQi ↑x_1.2.2.1.len /\ sQi 0 = sQi ↑x_1.1 /\ oQ 28 [aQi x.2.1.version, aQs x.2.1.tables] = oQ 28 [aQi x_1.2.1.version, aQs x_1.2.1.tables] /\ oQ 49 [aQs x.2.2.2.1,
 aQs x.2.2.2.2.1] = oQ 49 [aQs x_1.2.2.1, aQs x_1.2.2.2.1] /\ some (Own.lst 43 21 []) = some (Own.lst 43 21 (List.map QV.enc x_1.2.2.2.2.1)) /\ some (Own.lst 3 1 []) = some (Own.lst
 3 1 (List.map eI x_1.2.2.2.2.2.1)) /\ x.2.2.2.2.2.1 = x_1.2.2.2.2.2.2.1 /\ x.2.2.2.2.2.2 = x_1.2.2.2.2.2.2.2 /\ True) /\ ∀ (x : Nat × SchV × Sl × Sl × List QV × List Int × MH ×
 PH), I x -> branch (decide ((↑x.1 : Int) < ↑x.2.2.1.len)) (∃ (sc : SchV), ∃ (p r : Sl) (s : Sch), ∃ (ts : List Step) (rs : List Int) (i : Int), [cQa [vQi x.2.1.version, vQs
 x.2.1.tables], cQa [vQs x.2.2.1, vQs x.2.2.2.1], cQi ↑x.1] = [cQa [vQi sc.version, vQs sc.tables], cQa [vQs p, vQs r], cQi i] /\ RepS x.2.2.2.2.2.2.2 s sc /\ RepPlan
 x.2.2.2.2.2.2.2 p r ts rs /\ expErr s ts rs i = 0 /\ ∀ (v : QV) (h' : PH), x.2.2.2.2.2.2.2.le h' -> RepQ h' (expandF ts i.toNat) v -> ((List.map QV.enc x.2.2.2.2.1).length + 1) *
 280 <= 140737488355328 /\ (List.map QV.enc x.2.2.2.2.1).length < 140737488355328 /\ ((List.map eI x.2.2.2.2.2.1).length + 1) * 8 <= 140737488355328 /\ (List.map eI
 x.2.2.2.2.2.1).length < 140737488355328 /\ ∃ (x_1 : Nat × SchV × Sl × Sl × List QV × List Int × MH × PH), I x_1 /\ mu x_1 < mu x /\ eP 4 /\ eP 6 /\ eL 91 /\ eL 95 /\ sQi
 ↑x.2.2.1.len = sQi ↑x_1.2.2.1.len /\ sQi (IntKind.i64.wrap ((↑x.1 : Int) + 1)) = sQi ↑x_1.1 /\ oQ 28 [aQi x.2.1.version, aQs x.2.1.tables] = oQ 28 [aQi x_1.2.1.version, aQs
 x_1.2.1.tables] /\ oQ 49 [aQs x.2.2.1, aQs x.2.2.2.1] = oQ 49 [aQs x_1.2.2.1, aQs x_1.2.2.2.1] /\ some (Own.lst 43 21 (List.map QV.enc x.2.2.2.2.1 ++ [(QV.enc v)])) = some (Own.lst
 43 21 (List.map QV.enc x_1.2.2.2.2.1)) /\ some (Own.lst 3 1 (List.map eI x.2.2.2.2.2.1 ++ [[vQi ↑x.1]])) = some (Own.lst 3 1 (List.map eI x_1.2.2.2.2.2.1)) /\ x.2.2.2.2.2.2.1 =
 x_1.2.2.2.2.2.2.1 /\ h' = x_1.2.2.2.2.2.2.2 /\ True) (∀ (s : Sl) (h' : PH), x.2.2.2.2.2.2.2.le h' -> RowIn h' s 21 (List.map QV.enc x.2.2.2.2.1) -> ∃ (sc : SchV) (sl : Sl), ∃ (s_3
 : Sch) (qs : List Query), [cQa [vQi x.2.1.version, vQs x.2.1.tables], cQs s] = [cQa [vQi sc.version, vQs sc.tables], cQs sl] /\ RepS h' s_3 sc /\ RepQl h' sl qs /\ TabM
 x.2.2.2.2.2.2.1 /\ (∀ (q : Query), List.Mem q qs -> (queryR s_3 [] q).2 = 0 -> QKeyOk q) /\ compErr s_3 qs = 0 /\ ∀ (p r : Sl) (ts : List Step) (ks : List Nat) (h'_3 : PH), h'.le
 h'_3 -> AddAll qs [] ts ks -> PlanAt h'_3 p r ts ks -> ([] : List CV) = [] /\ TabM x.2.2.2.2.2.2.1 /\ ∀ (s : Sl) (h' : PH), h'_3.le h' -> RowIn h' s 1 (List.map eI x.2.2.2.2.2.1)
 -> ∃ (p_1 r_1 : Sl), ∃ (p' r' : Sl) (ts : List Step), ∃ (rs : List Int) (ts' : List Step) (rs' : List Int), [cQa [vQs p, vQs r], cQa [vQs x.2.2.1, vQs s]] = [cQa [vQs p_1, vQs
 r_1], cQa [vQs p', vQs r']] /\ RepPlan h' p_1 r_1 ts rs /\ RepPlan h' p' r' ts' rs' /\ ∀ (b : Bool), (b = true ↔ ts = ts' /\ rs = rs') -> K (cQb b) x.2.2.2.2.2.2.1 h'))))
theorem f6_vc (s : Sl) (m : MH) (h : PH) (K : CV → MH → PH → Prop) : f6_nice s m h K = (fnVC f6_ctx Tryz.f6 (bodyOf Tryz.f6) (entry Tryz.f6.ntmps [cS s] m h) K) := by kernel_rfl
theorem sound_weaken {f : FuncId} {S S' : Vc.Spec} (h : Sound Tryz.prog f S) (hs : ∀ cvs m h K, S' cvs m h K → S cvs m h K) : Sound Tryz.prog f S' := sound_of_all (fun _ : Nat => h) fun cvs m h K x => ⟨0, hs cvs m h K x⟩
theorem f14_good : Sound Tryz.prog 14 CompileOkS := sound_weaken f14_sound fun _ _ _ _ ⟨sc, sl, s, qs, e, h1, h2, h3, h4, h5, h6⟩ => ⟨sc, sl, s, qs, e, h1, h2, h3, h4, fun hn => (hn h5).elim, fun _ => h6⟩
theorem f22_good : Sound Tryz.prog 22 ExpandOkS := sound_weaken f22_sound fun _ _ _ _ ⟨sc, p, r, s, ts, rs, i, e, h1, h2, h3, h4⟩ => ⟨sc, p, r, s, ts, rs, i, e, h1, h2, fun hn => (hn h3).elim, fun _ => h4⟩
theorem f17_ok {p p' r' : Sl} {ts' : List Step} {rs' : List Int} (x : RepPlan h p r ts rs) (y : RepPlan h p' r' ts' rs') (hK : ∀ b : Bool, (b = true ↔ ts = ts' ∧ rs = rs') → K (cB b) m h) : f17_nice p r p' r' m h K := by
 have xl := x.slen.1
 have yl := y.slen.1
 have tl := x.len
 have bad : ¬ (ts = ts' ∧ rs = rs') → K (.val (.bool false)) m h := fun hn => hK false ⟨fun e => (by cases e), fun e => (hn e).elim⟩
 refine branch_intro (fun h1 => bad fun e => ?_) (fun h1 => ⟨r, r', rs, rs', rfl, x.roots, y.roots, fun b hb => branch_intro (fun h2 => bad fun e => ?_) (fun h2 => ?_)⟩)
 · have h1 : (p.len : Int) ≠ p'.len := by simpa using h1
   rw [e.1] at xl; omega
 · rw [hb.2 e.2] at h2; cases h2
 have hl : ts.length = ts'.length := by
  have h1 : (p.len : Int) = p'.len := by simpa using h1
  omega
 have hrs := hb.1 (by simpa using h2)
 refine ⟨fun i => i ≤ ts.length ∧ ts.take i = ts'.take i, fun i => ts.length - i, ⟨0, ⟨by omega, by simp⟩, MT⟩, fun i ⟨hi, heq⟩ => branch_dec (fun hlt => ?_) (fun hge => hK true ⟨fun _ => ⟨?_, hrs⟩, fun _ => rfl⟩)⟩
 · obtain ⟨t, ht⟩ := getx xl hlt
   obtain ⟨u, hu⟩ : ∃ u, ts'[i]? = some u := ⟨_, List.getElem?_eq_getElem (by omega)⟩
   obtain ⟨b1, o1, v, e1, r1, q1⟩ := x.at ht
   obtain ⟨b2, o2, w, e2, r2, q2⟩ := y.at hu
   refine ⟨b1, o1, e1, by omega, hlt, v, .imm r1, b2, o2, e2, by omega, by omega, w, .imm r2, v, w, t, u, rfl, q1, q2, fun c hc => branch_intro (fun h3 => bad fun e => ?_) (fun h3 => ⟨i + 1, ⟨by omega, ?_⟩, by show ts.length - (i + 1) < ts.length - i; omega, MT⟩)⟩
   · rw [e.1, hu] at ht
     cases ht
     rw [hc.2 rfl] at h3; cases h3
   · rw [List.take_add_one, List.take_add_one, heq, ht, hu, hc.1 (by simpa using h3)]
 · rwa [List.take_of_length_le (by omega), List.take_of_length_le (by omega)] at heq
theorem f17_sound : Sound Tryz.prog 17 SamePlanS := by
 refine fn_sound (fn := Tryz.f17) (c := bodyOf Tryz.f17) Tryz.func17 rfl (by decide) ?_
 rintro cvs m h K ⟨p, r, p', r', ts, rs, ts', rs', rfl, x, y, hK⟩
 refine ⟨f17_ctx p r p' r' m h, rfl, specs_cons f36_sound (specs_cons f20_sound specs_nil), ?_⟩
 rw [← f17_vc p r p' r' m h K]
 exact f17_ok x y hK
theorem f6_ok {s : Sl} {cs : List UInt8} (hr : RowIn h s 1 (bytesVal cs)) (hcap : s.len ≤ s.cap) (ht : TabM m) (hK : ∀ m' h', Sub m m' → K (cB true) m' h') : f6_nice s m h K := by
 refine ⟨s, cs, 220, rfl, hr, hcap, by omega, fun cb m1 h1 le1 hcb o1 c1 => ⟨cb, rfl, c1, fun sc v m2 h2 hpl rS le2 o2 c2 => ?_⟩⟩
 obtain ⟨hse, hne⟩ := plain_ok hpl
 refine ⟨cb, v, nilS, sc, [], 3, 2, rfl, c2, rS, hse, hne, ints_nil _, by simp, by simp, by omega, by omega, by omega, by omega, fun xs qs m3 h3 le3 rp qall ql o3 c3 sl h4 le4 r4 => ?_⟩
 have ho3 := (o1.trans o2).trans o3
 have ht3 : TabM m3 := ht.new hcb ho3
 have hsub : Sub m m3 := fun b o e => by rw [ho3.other b (fun e2 => by rw [e2, hcb] at e; cases e)]; exact e
 have hq3 : qs.length ≤ 3 := by omega
 have rl : RepQl h4 sl qs := ⟨⟨xs, r4, rp.1, fun i x e => let ⟨v, e1, e2⟩ := rp.2 i x e; ⟨v, e1, e2.mono le4⟩⟩, by omega⟩
 have hgood : ∀ q ∈ qs, GoodQ sc q := fun q hq => query_good (qall q hq).2 (qall q hq).1
 have hce : compErr sc qs = 0 := by
  rw [comp_ok (by omega) hse]
  refine firstErr_zero _ fun e he => ?_
  obtain ⟨q, hq, rfl⟩ := List.mem_map.1 he
  exact (qall q hq).2
 refine ⟨v, sl, sc, qs, rfl, rS.mono (le3.trans le4), rl, ht3, fun q _ e => query_key e, hce, fun p r ts ks h5 le5 hadd hp => ?_⟩
 obtain ⟨hinv, _, hkl, hroot⟩ := inv_all hgood (inv_nil sc) hadd
 have htl := addAll_len hadd (fun q hq => (small_iff.1 (hgood q hq).small).1)
 simp only [List.length_nil, Nat.zero_add] at htl
 have hrep : RepPlan h5 p r ts (ks.map fun (k : Nat) => (k : Int)) := ⟨hp.steps, hp.roots, by omega⟩
 have hkb : ∀ k ∈ ks, k < ts.length := fun k hk => by
  obtain ⟨i, hi⟩ := List.mem_iff_getElem?.1 hk
  have hil := (List.getElem?_eq_some_iff.1 hi).1
  exact (hroot i _ k (List.getElem?_eq_getElem (by omega)) hi).1
 have hval : planErr sc ts (ks.map fun (k : Nat) => (k : Int)) = 0 := plan_valid hinv hse (by omega) (by omega) hkb
 have hexp : ∀ i : Nat, i < ts.length → expErr sc ts (ks.map fun (k : Nat) => (k : Int)) i = 0 := fun i hi => by
  unfold expErr
  rw [if_neg (by simpa using hval), if_neg (by omega), Int.toNat_natCast, if_pos (hinv.good i hi).small]
 have hrl := hp.roots.slen
 rw [List.length_map] at hrl
 have hsl := rl.slen
 have hpl := hrep.slen.1
 refine branch_intro (fun hb => ?_) (fun _ => ?_)
 · have hb : (r.len : Int) ≠ sl.len := by simpa using hb
   omega
 refine ⟨fun ⟨i, v', l, p', r', mx, hx⟩ => v' = v ∧ l = sl ∧ p' = p ∧ r' = r ∧ mx = m3 ∧ i ≤ qs.length ∧ PH.le h5 hx, fun ⟨i, _⟩ => qs.length - i, ⟨(0, v, sl, p, r, m3, h5), ⟨rfl, rfl, rfl, rfl, rfl, by omega, .refl _⟩, MT⟩, ?_⟩
 rintro ⟨i, v, l, p, r, mx, hx⟩ ⟨rfl, rfl, rfl, rfl, rfl, hi, hle⟩
 dsimp only
 refine branch_dec (fun hlt => ?_) (fun hge => branch_dec (fun _ => ⟨rfl, ht3, hK _ _ hsub⟩) (fun h32 => ?_))
 · obtain ⟨q, hq⟩ := getx hsl hlt
   obtain ⟨k, hk⟩ : ∃ k, ks[i]? = some k := ⟨_, List.getElem?_eq_getElem (by omega)⟩
   obtain ⟨b1, o1, w, e1, d1, q1⟩ := (rl.mono (le5.trans hle)).at hq
   obtain ⟨b2, o2, e2, d2⟩ := (hp.roots.mono hle).at' (i := i) (x := (k : Int)) (by rw [List.getElem?_map, hk]; rfl)
   obtain ⟨hkt, hek⟩ := hroot i q k hq hk
   have call : ∀ {Q : QV → PH → Prop}, (∀ u h', PH.le hx h' → RepQ h' (expandF ts k) u → Q u h') → ∃ sc' p' r' s' ts' rs' i', [cQa [vQi v.version, vQs v.tables], cQa [vQs p, vQs r], cQi (k : Int)] = [cQa [vQi (SchV.version sc'), vQs sc'.tables], cQa [vQs p', vQs r'], cQi i'] ∧ RepS hx s' sc' ∧ RepPlan hx p' r' ts' rs' ∧ expErr s' ts' rs' i' = 0 ∧ ∀ u h', PH.le hx h' → RepQ h' (expandF ts' i'.toNat) u → Q u h' := fun {Q} hQ =>
    ⟨v, p, r, sc, ts, _, k, rfl, rS.mono (((le3.trans le4).trans le5).trans hle), hrep.mono hle, hexp k hkt, hQ⟩
   have cont : ∀ u h', PH.le hx h' → RepQ h' (expandF ts k) u → RepQ h' q u := fun u h' _ hu => by rw [← hek]; exact hu
   refine ⟨b1, o1, e1, by omega, hlt, w, .imm d1, b2, o2, e2, by omega, by omega, k, .imm d2, call fun u h' le' hu => ⟨.imm (d2.mono le'), u, w, q, q, rfl, cont u h' le' hu, q1.mono le', fun c hc => branch_intro (fun h1 => ?_) (fun _ => ⟨(i + 1, v, l, p, r, mx, h'), ⟨rfl, rfl, rfl, rfl, rfl, by omega, hle.trans le'⟩, by show qs.length - (i + 1) < qs.length - i; omega, MT⟩)⟩, .imm d2, call fun u h' le' hu => ⟨u, w, q, q, rfl, cont u h' le' hu, q1.mono le', fun c hc => branch_intro (fun h1 => ?_) (fun _ => ⟨(i + 1, v, l, p, r, mx, h'), ⟨rfl, rfl, rfl, rfl, rfl, by omega, hle.trans le'⟩, by show qs.length - (i + 1) < qs.length - i; omega, MT⟩)⟩⟩
   all_goals rw [hc.2 rfl] at h1; cases h1
 have h32 : ts.length ≤ 32 := by omega
 refine ⟨fun ⟨i, v', p', r', us, rs, mx', hy⟩ => v' = v ∧ p' = p ∧ r' = r ∧ mx' = mx ∧ i ≤ ts.length ∧ PH.le hx hy ∧ rs = (List.range i).map (fun (k : Nat) => (k : Int)) ∧ us.length = i ∧ ∀ j, j < i → ∃ u, us[j]? = some u ∧ RepQ hy (expandF ts j) u, fun ⟨i, _⟩ => ts.length - i, ⟨(0, v, p, r, [], [], mx, hx), ⟨rfl, rfl, rfl, rfl, by omega, .refl _, rfl, rfl, fun j hj => by omega⟩, MT⟩, ?_⟩
 clear hi hge
 rintro ⟨i, v, p, r, us, rs, mx, hy⟩ ⟨rfl, rfl, rfl, rfl, hi, hly, rfl, hul, hus⟩
 dsimp only
 refine branch_dec (fun hlt => ?_) (fun hge s2 h6 le6 r6 => ?_)
 · have hil : i < ts.length := by omega
   refine ⟨v, p, r, sc, ts, _, i, rfl, rS.mono ((((le3.trans le4).trans le5).trans hle).trans hly), hrep.mono (hle.trans hly), hexp i hil, fun u h' le' hu => ⟨by simp; omega, by simp; omega, by simp; omega, by simp; omega, (i + 1, v, p, r, us ++ [u], (List.range (i + 1)).map (fun (k : Nat) => (k : Int)), mx, h'), ⟨rfl, rfl, rfl, rfl, by omega, hly.trans le', rfl, by simp [hul], fun j hj => ?_⟩, by show ts.length - (i + 1) < ts.length - i; omega, ?_⟩⟩
   · by_cases hji : j < i
     · obtain ⟨u', g1, g2⟩ := hus j hji
       exact ⟨u', by rw [List.getElem?_append_left (by omega)]; exact g1, g2.mono le'⟩
     · have : j = i := by omega
       subst this
       exact ⟨u, by rw [List.getElem?_append_right (by omega), hul]; simp, hu⟩
   · rw [List.range_succ, List.map_append, List.map_append, List.map_append]
     exact MT
 have hin : i = ts.length := by omega
 subst hin
 have hle6 := (((((le3.trans le4).trans le5).trans hle).trans hly).trans le6)
 have rl2 : RepQl h6 s2 ((List.range ts.length).map (expandF ts)) := ⟨⟨us, r6, by simp [hul], fun j x e => by
  rw [List.getElem?_map, Option.map_eq_some_iff] at e
  obtain ⟨a, ha, rfl⟩ := e
  have hal := (List.getElem?_eq_some_iff.1 ha).1
  rw [List.length_range] at hal
  rw [List.getElem?_range hal] at ha
  cases ha
  obtain ⟨u, g1, g2⟩ := hus j hal
  exact ⟨u, g1, g2.mono le6⟩⟩, by simp; omega⟩
 have hall : ∀ q ∈ (List.range ts.length).map (expandF ts), (queryR sc [] q).2 = 0 := fun q hq => by
  obtain ⟨j, hj, rfl⟩ := List.mem_map.1 hq
  exact good_query hse (hinv.good j (List.mem_range.1 hj))
 refine ⟨v, s2, sc, (List.range ts.length).map (expandF ts), rfl, rS.mono hle6, rl2, ht3, fun q _ e => query_key e, ?_, fun p2 r2 ts2 ks2 h7 le7 hadd2 hp2 => ⟨rfl, ht3, fun s3 h8 le8 r8 => ?_⟩⟩
 · rw [comp_ok (by simp; omega) hse]
   refine firstErr_zero _ fun e he => ?_
   obtain ⟨q, hq, rfl⟩ := List.mem_map.1 he
   exact hall q hq
 rw [List.range_eq_range'] at hadd2 r8
 obtain ⟨rfl, rfl⟩ := again_all hinv ts.length 0 (by omega) hadd2
 have hpl8 := (((hle.trans hly).trans le6).trans le7).trans le8
 have rep2 : RepPlan h8 p2 r2 ts2 ((List.range' 0 ts2.length).map fun (k : Nat) => (k : Int)) := RepPlan.mono ⟨hp2.steps, hp2.roots, by omega⟩ le8
 have rep3 : RepPlan h8 p s3 ts2 ((List.range' 0 ts2.length).map fun (k : Nat) => (k : Int)) := ⟨(hrep.mono hpl8).steps, ⟨r8, by simp; omega⟩, by omega⟩
 refine ⟨p2, r2, p, s3, ts2, _, ts2, _, rfl, rep2, rep3, fun b hb => ?_⟩
 rw [hb.2 ⟨rfl, rfl⟩]
 exact hK _ _ hsub
theorem f6_sound : Sound Tryz.prog 6 SharesS := by
 refine fn_sound (fn := Tryz.f6) (c := bodyOf Tryz.f6) Tryz.func6 rfl (by decide) ?_
 rintro cvs m h K ⟨s, cs, rfl, hr, hcap, ht, hK⟩
 refine ⟨f6_ctx, rfl, specs_cons f7_sound (specs_cons f8_sound (specs_cons f9_sound (specs_cons f14_good (specs_cons f22_good (specs_cons f24_sound (specs_cons f16_sound (specs_cons f17_sound specs_nil))))))), ?_⟩
 rw [← f6_vc s m h K]
 exact f6_ok hr hcap ht hK
end
end Go.Ps
