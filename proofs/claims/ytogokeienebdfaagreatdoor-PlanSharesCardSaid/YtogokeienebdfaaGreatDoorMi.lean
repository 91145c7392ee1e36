/-
  Part 9 of a proof that a law of the given program returns true: a condition generator that is proved sound, and contracts of functions. No condition of its own. Own work, joined by program (pack.py).
-/
import Derived.Test.YtogokeienebdfaaGreatDoorMh
namespace Go.Ps
open Go Go.Vc Go.Proofs
def KQ (K : CV → MH → PH → Prop) (m : MH) (h : PH) (cb : Nat) : Prop := ∀ w q m' h', PH.le h h' → RepQ h' q w → MOther m m' cb → CaseOk m' h' cb → K (aQ w) m' h'
def ShapedW : Vc.Spec := fun cvs m h K => ∃ cb sc p k v s ps ks q, cvs = [cP cb, aS sc, cS p, cS k, aQ v] ∧ CaseOk m h cb ∧ RepS h s sc ∧ small8 s ∧ s.tables.length ≤ 1000 ∧ Ints h p ps ∧ ps.length ≤ 1000 ∧ Ints h k ks ∧ ks.length ≤ 1000 ∧ RepQ h q v ∧ KQ K m h cb
noncomputable def f39_ctx (cb : Nat) (sc : SchV) (p k : Sl) (v : QV) : Ctx :=
  ctx2 [(12, IntW), (52, KindsOfS), (37, ScanS), (10, BoolW), (27, PredicateW)]
   [(3, { A := Int × Nat × MH × PH, st := fun ⟨f, n, m, h⟩ => mkSt 112 117 [(0, pv cb), (2, sv p), (3, sv k), (6, .at (.ptr 6 0)), (9, .at (.ptr 9 0)), (10, .at (.ptr 10 0)), (11, iv f), (12, iv n)] [(6, .cells 28 (sc.enc.map .val)), (9, .cells 43 (v.enc.map .val)), (10, .cells 43 (zeroQV.enc.map .val))] m h }),
    (9, { A := Int × Nat × Int × Sl × List Int × Nat × MH × PH, st := fun ⟨f, n, t, have_, cols, i, m, h⟩ => mkSt 112 117 [(0, pv cb), (2, sv p), (3, sv k), (6, .at (.ptr 6 0)), (9, .at (.ptr 9 0)), (10, .at (.ptr 10 0)), (11, iv f), (12, iv n), (13, iv t), (14, sv have_), (15, .at (.lst 75)), (45, sv k), (46, iv k.len), (47, iv i)] [(6, .cells 28 (sc.enc.map .val)), (9, .cells 43 (v.enc.map .val)), (10, .cells 43 (zeroQV.enc.map .val)), (75, .lst 3 1 (cols.map eI))] m h }),
    (13, { A := Int × Nat × Int × Sl × List Int × Nat × Int × Int × Nat × MH × PH, st := fun ⟨f, n, t, have_, cols, i, kind, fr, j, m, h⟩ => mkSt 112 117 [(0, pv cb), (2, sv p), (3, sv k), (6, .at (.ptr 6 0)), (9, .at (.ptr 9 0)), (10, .at (.ptr 10 0)), (11, iv f), (12, iv n), (13, iv t), (14, sv have_), (15, .at (.lst 75)), (17, iv kind), (18, iv fr), (45, sv k), (46, iv k.len), (47, iv i), (56, iv have_.len), (57, iv j)] [(6, .cells 28 (sc.enc.map .val)), (9, .cells 43 (v.enc.map .val)), (10, .cells 43 (zeroQV.enc.map .val)), (75, .lst 3 1 (cols.map eI))] m h })] [] [] false
def f39_nice (cb : Nat) (sc : SchV) (p k : Sl) (v : QV) (m : MH) (h : PH) (K : CV → MH → PH → Prop) : Prop :=
    ∃ (cb_1 : Nat), ∃ (n : Int), [cQp cb 0, cQi (IntKind.i64.wrap ((↑sc.tables.len : Int) + 1))] = [cQp cb_1 0, cQi n] /\ CaseOk m h cb_1 /\ ∀ (k_1 : Int) (m' : MH), 0 <= k_1 -> k_1 < 
    n ∨ k_1 = 0 -> MOther m m' cb_1 -> CaseOk m' h cb_1 -> ∃ (I : Int × Nat × MH × PH -> Prop), ∃ (mu : Int × Nat × MH × PH -> Nat), (∃ (x : Int × Nat × MH × PH), I x /\ eQ (sQo cb 0) 
    /\ eQ (sQs p) /\ eQ (sQs k) /\ eQ (sQp 6 0) /\ eQ (sQp 9 0) /\ eQ (sQp 10 0) /\ sQi k_1 = sQi x.1 /\ sQi 0 = sQi (↑x.2.1 : Int) /\ eQ (oQ 28 [aQi sc.version, aQs sc.tables]) /\ eQ 
    (oQ 43 (List.map At.val (QV.enc v))) /\ eQ (oQ 43 zQ) /\ m' = x.2.2.1 /\ h = x.2.2.2 /\ True) /\ ∀ (x : Int × Nat × MH × PH), I x -> branch (decide ((↑x.2.1 : Int) < 
    (↑sc.tables.len : Int))) (((↑sc.tables.len : Int) = 0 -> False) /\ ∃ (v_1 : SchV), ∃ (s : Sch), ∃ (t : Int), [cQa [vQi sc.version, vQs sc.tables], cQi ((IntKind.i64.wrap (x.1 + 
    (↑x.2.1 : Int))).tmod (↑sc.tables.len : Int))] = [cQa [vQi v_1.version, vQs v_1.tables], cQi t] /\ RepS x.2.2.2 s v_1 /\ small8 s /\ ∀ (sl : Sl) (h' : PH), x.2.2.2.le h' -> Ints h' 
    sl (kindsT s t) -> ∃ (I_1 : Int × Nat × Int × Sl × List Int × Nat × MH × PH -> Prop), ∃ (mu_1 : Int × Nat × Int × Sl × List Int × Nat × MH × PH -> Nat), (∃ (x_1 : Int × Nat × Int × 
    Sl × List Int × Nat × MH × PH), I_1 x_1 /\ eQ (sQo cb 0) /\ eQ (sQs p) /\ eQ (sQs k) /\ eQ (sQp 6 0) /\ eQ (sQp 9 0) /\ eQ (sQp 10 0) /\ sQi x.1 = sQi x_1.1 /\ sQi (↑x.2.1 : Int) = 
    sQi (↑x_1.2.1 : Int) /\ sQi ((IntKind.i64.wrap (x.1 + (↑x.2.1 : Int))).tmod (↑sc.tables.len : Int)) = sQi x_1.2.2.1 /\ sQs sl = sQs x_1.2.2.2.1 /\ eQ (sQl 75) /\ eQ (sQs k) /\ eQ 
    (sQi (↑k.len : Int)) /\ sQi 0 = sQi (↑x_1.2.2.2.2.2.1 : Int) /\ eQ (oQ 28 [aQi sc.version, aQs sc.tables]) /\ eQ (oQ 43 (List.map At.val (QV.enc v))) /\ eQ (oQ 43 zQ) /\ some 
    (Own.lst 3 1 []) = some (Own.lst 3 1 (List.map eI x_1.2.2.2.2.1)) /\ x.2.2.1 = x_1.2.2.2.2.2.2.1 /\ h' = x_1.2.2.2.2.2.2.2 /\ True) /\ ∀ (x_1 : Int × Nat × Int × Sl × List Int × 
    Nat × MH × PH), I_1 x_1 -> branch (decide ((↑x_1.2.2.2.2.2.1 : Int) < (↑k.len : Int))) (∃ (b : Nat), ∃ (off : Nat), k.a = some (Addr.mk b off none) /\ 0 <= (↑x_1.2.2.2.2.2.1 : Int) 
    /\ (↑x_1.2.2.2.2.2.1 : Int) < (↑k.len : Int) /\ ∃ (y : Int), RdAt x_1.2.2.2.2.2.2.1 x_1.2.2.2.2.2.2.2 b (off + (↑x_1.2.2.2.2.2.1 : Int).toNat * 1) [vQi y] /\ ∃ (cb_2 : Nat), ∃ (n : 
    Int), [cQp cb 0, cQi (↑x_1.2.2.2.1.len : Int)] = [cQp cb_2 0, cQi n] /\ CaseOk x_1.2.2.2.2.2.2.1 x_1.2.2.2.2.2.2.2 cb_2 /\ ∀ (k_2 : Int) (m' : MH), 0 <= k_2 -> k_2 < n ∨ k_2 = 0 -> 
    MOther x_1.2.2.2.2.2.2.1 m' cb_2 -> CaseOk m' x_1.2.2.2.2.2.2.2 cb_2 -> ∃ (I : Int × Nat × Int × Sl × List Int × Nat × Int × Int × Nat × MH × PH -> Prop), ∃ (mu : Int × Nat × Int × 
    Sl × List Int × Nat × Int × Int × Nat × MH × PH -> Nat), (∃ (x : Int × Nat × Int × Sl × List Int × Nat × Int × Int × Nat × MH × PH), I x /\ eQ (sQo cb 0) /\ eQ (sQs p) /\ eQ (sQs 
    k) /\ eQ (sQp 6 0) /\ eQ (sQp 9 0) /\ eQ (sQp 10 0) /\ sQi x_1.1 = sQi x.1 /\ sQi (↑x_1.2.1 : Int) = sQi (↑x.2.1 : Int) /\ sQi x_1.2.2.1 = sQi x.2.2.1 /\ sQs x_1.2.2.2.1 = sQs 
    x.2.2.2.1 /\ eQ (sQl 75) /\ sQi y = sQi x.2.2.2.2.2.2.1 /\ sQi k_2 = sQi x.2.2.2.2.2.2.2.1 /\ eQ (sQs k) /\ eQ (sQi (↑k.len : Int)) /\ sQi (↑x_1.2.2.2.2.2.1 : Int) = sQi 
    (↑x.2.2.2.2.2.1 : Int) /\ sQi (↑x_1.2.2.2.1.len : Int) = sQi (↑x.2.2.2.1.len : Int) /\ sQi 0 = sQi (↑x.2.2.2.2.2.2.2.2.1 : Int) /\ eQ (oQ 28 [aQi sc.version, aQs sc.tables]) /\ eQ 
    (oQ 43 (List.map At.val (QV.enc v))) /\ eQ (oQ 43 zQ) /\ some (Own.lst 3 1 (List.map eI x_1.2.2.2.2.1)) = some (Own.lst 3 1 (List.map eI x.2.2.2.2.1)) /\ m' = x.2.2.2.2.2.2.2.2.2.1 
    /\ x_1.2.2.2.2.2.2.2 = x.2.2.2.2.2.2.2.2.2.2 /\ True) /\ ∀ (x : Int × Nat × Int × Sl × List Int × Nat × Int × Int × Nat × MH × PH), I x -> branch (decide ((↑x.2.2.2.2.2.2.2.2.1 : 
    Int) < (↑x.2.2.2.1.len : Int))) (((↑x.2.2.2.1.len : Int) = 0 -> False) /\ ∃ (b : Nat), ∃ (off : Nat), x.2.2.2.1.a = some (Addr.mk b off none) /\ 0 <= (IntKind.i64.wrap 
    (x.2.2.2.2.2.2.2.1 + (↑x.2.2.2.2.2.2.2.2.1 : Int))).tmod (↑x.2.2.2.1.len : Int) /\ (IntKind.i64.wrap (x.2.2.2.2.2.2.2.1 + (↑x.2.2.2.2.2.2.2.2.1 : Int))).tmod (↑x.2.2.2.1.len : Int) 
    < (↑x.2.2.2.1.len : Int) /\ ∃ (y : Int), RdAt x.2.2.2.2.2.2.2.2.2.1 x.2.2.2.2.2.2.2.2.2.2 b (off + ((IntKind.i64.wrap (x.2.2.2.2.2.2.2.1 + (↑x.2.2.2.2.2.2.2.2.1 : Int))).tmod 
    (↑x.2.2.2.1.len : Int)).toNat * 1) [vQi y] /\ branch (y == x.2.2.2.2.2.2.1) (((List.map eI x.2.2.2.2.1).length + 1) * 8 <= 140737488355328 /\ (List.map eI x.2.2.2.2.1).length < 
    140737488355328 /\ ∃ (y : Int × Nat × Int × Sl × List Int × Nat × MH × PH), I_1 y /\ mu_1 y < mu_1 x_1 /\ eQ (sQo cb 0) /\ eQ (sQs p) /\ eQ (sQs k) /\ eQ (sQp 6 0) /\ eQ (sQp 9 0) 
    /\ eQ (sQp 10 0) /\ sQi x.1 = sQi y.1 /\ sQi (↑x.2.1 : Int) = sQi (↑y.2.1 : Int) /\ sQi x.2.2.1 = sQi y.2.2.1 /\ sQs x.2.2.2.1 = sQs y.2.2.2.1 /\ eQ (sQl 75) /\ eQ (sQs k) /\ eQ 
    (sQi (↑k.len : Int)) /\ sQi (IntKind.i64.wrap ((↑x.2.2.2.2.2.1 : Int) + 1)) = sQi (↑y.2.2.2.2.2.1 : Int) /\ eQ (oQ 28 [aQi sc.version, aQs sc.tables]) /\ eQ (oQ 43 (List.map At.val 
    (QV.enc v))) /\ eQ (oQ 43 zQ) /\ some (Own.lst 3 1 (List.map eI x.2.2.2.2.1 ++ [[vQi ((IntKind.i64.wrap (x.2.2.2.2.2.2.2.1 + (↑x.2.2.2.2.2.2.2.2.1 : Int))).tmod (↑x.2.2.2.1.len : 
    Int))]])) = some (Own.lst 3 1 (List.map eI y.2.2.2.2.1)) /\ x.2.2.2.2.2.2.2.2.2.1 = y.2.2.2.2.2.2.1 /\ x.2.2.2.2.2.2.2.2.2.2 = y.2.2.2.2.2.2.2 /\ True) (∃ (y : Int × Nat × Int × Sl 
    × List Int × Nat × Int × Int × Nat × MH × PH), I y /\ mu y < mu x /\ eQ (sQo cb 0) /\ eQ (sQs p) /\ eQ (sQs k) /\ eQ (sQp 6 0) /\ eQ (sQp 9 0) /\ eQ (sQp 10 0) /\ sQi x.1 = sQi y.1 
    /\ sQi (↑x.2.1 : Int) = sQi (↑y.2.1 : Int) /\ sQi x.2.2.1 = sQi y.2.2.1 /\ sQs x.2.2.2.1 = sQs y.2.2.2.1 /\ eQ (sQl 75) /\ sQi x.2.2.2.2.2.2.1 = sQi y.2.2.2.2.2.2.1 /\ sQi 
    x.2.2.2.2.2.2.2.1 = sQi y.2.2.2.2.2.2.2.1 /\ eQ (sQs k) /\ eQ (sQi (↑k.len : Int)) /\ sQi (↑x.2.2.2.2.2.1 : Int) = sQi (↑y.2.2.2.2.2.1 : Int) /\ sQi (↑x.2.2.2.1.len : Int) = sQi 
    (↑y.2.2.2.1.len : Int) /\ sQi (IntKind.i64.wrap ((↑x.2.2.2.2.2.2.2.2.1 : Int) + 1)) = sQi (↑y.2.2.2.2.2.2.2.2.1 : Int) /\ eQ (oQ 28 [aQi sc.version, aQs sc.tables]) /\ eQ (oQ 43 
    (List.map At.val (QV.enc v))) /\ eQ (oQ 43 zQ) /\ some (Own.lst 3 1 (List.map eI x.2.2.2.2.1)) = some (Own.lst 3 1 (List.map eI y.2.2.2.2.1)) /\ x.2.2.2.2.2.2.2.2.2.1 = 
    y.2.2.2.2.2.2.2.2.2.1 /\ x.2.2.2.2.2.2.2.2.2.2 = y.2.2.2.2.2.2.2.2.2.2 /\ True)) (∃ (y : Int × Nat × Int × Sl × List Int × Nat × MH × PH), I_1 y /\ mu_1 y < mu_1 x_1 /\ eQ (sQo cb 
    0) /\ eQ (sQs p) /\ eQ (sQs k) /\ eQ (sQp 6 0) /\ eQ (sQp 9 0) /\ eQ (sQp 10 0) /\ sQi x.1 = sQi y.1 /\ sQi (↑x.2.1 : Int) = sQi (↑y.2.1 : Int) /\ sQi x.2.2.1 = sQi y.2.2.1 /\ sQs 
    x.2.2.2.1 = sQs y.2.2.2.1 /\ eQ (sQl 75) /\ eQ (sQs k) /\ eQ (sQi (↑k.len : Int)) /\ sQi (IntKind.i64.wrap ((↑x.2.2.2.2.2.1 : Int) + 1)) = sQi (↑y.2.2.2.2.2.1 : Int) /\ eQ (oQ 28 
    [aQi sc.version, aQs sc.tables]) /\ eQ (oQ 43 (List.map At.val (QV.enc v))) /\ eQ (oQ 43 zQ) /\ some (Own.lst 3 1 (List.map eI x.2.2.2.2.1)) = some (Own.lst 3 1 (List.map eI 
    y.2.2.2.2.1)) /\ x.2.2.2.2.2.2.2.2.2.1 = y.2.2.2.2.2.2.1 /\ x.2.2.2.2.2.2.2.2.2.2 = y.2.2.2.2.2.2.2 /\ True)) (branch (x_1.1 == (↑sc.tables.len : Int)) (∃ (y : Int × Nat × MH × 
    PH), I y /\ mu y < mu x /\ eQ (sQo cb 0) /\ eQ (sQs p) /\ eQ (sQs k) /\ eQ (sQp 6 0) /\ eQ (sQp 9 0) /\ eQ (sQp 10 0) /\ sQi x_1.1 = sQi y.1 /\ sQi (IntKind.i64.wrap ((↑x_1.2.1 : 
    Int) + 1)) = sQi (↑y.2.1 : Int) /\ eQ (oQ 28 [aQi sc.version, aQs sc.tables]) /\ eQ (oQ 43 (List.map At.val (QV.enc v))) /\ eQ (oQ 43 zQ) /\ x_1.2.2.2.2.2.2.1 = y.2.2.1 /\ 
    x_1.2.2.2.2.2.2.2 = y.2.2.2 /\ True) (branch (decide ((↑(List.map eI x_1.2.2.2.2.1).length : Int) < (↑k.len : Int))) (∃ (y : Int × Nat × MH × PH), I y /\ mu y < mu x /\ eQ (sQo cb 
    0) /\ eQ (sQs p) /\ eQ (sQs k) /\ eQ (sQp 6 0) /\ eQ (sQp 9 0) /\ eQ (sQp 10 0) /\ sQi x_1.1 = sQi y.1 /\ sQi (IntKind.i64.wrap ((↑x_1.2.1 : Int) + 1)) = sQi (↑y.2.1 : Int) /\ eQ 
    (oQ 28 [aQi sc.version, aQs sc.tables]) /\ eQ (oQ 43 (List.map At.val (QV.enc v))) /\ eQ (oQ 43 zQ) /\ x_1.2.2.2.2.2.2.1 = y.2.2.1 /\ x_1.2.2.2.2.2.2.2 = y.2.2.2 /\ True) (∃ (t : 
    Int), [cQi x_1.2.2.1] = [cQi t] /\ ∃ (cb_2 : Nat), ∃ (n : Int), [cQp cb 0, cQi 2] = [cQp cb_2 0, cQi n] /\ 0 <= n /\ n <= 1000 /\ CaseOk x_1.2.2.2.2.2.2.1 x_1.2.2.2.2.2.2.2 cb_2 /\ 
    ∀ (r : Bool) (m' : MH), MOther x_1.2.2.2.2.2.2.1 m' cb_2 -> CaseOk m' x_1.2.2.2.2.2.2.2 cb_2 -> branch r ((∃ (cb_3 : Nat), ∃ (s : Sl), ∃ (t_1 : Sl), ∃ (cols : List Int), ∃ (params 
    : List Int), ∃ (deep : Nat), [cQp cb 0, cQs x_1.2.2.2.1, cQs p, cQi 1] = [cQp cb_3 0, cQs s, cQs t_1, cQi (↑deep : Int)] /\ CaseOk m' x_1.2.2.2.2.2.2.2 cb_3 /\ Ints 
    x_1.2.2.2.2.2.2.2 s cols /\ Ints x_1.2.2.2.2.2.2.2 t_1 params /\ cols.length <= 1000 /\ params.length <= 1000 /\ deep <= 1000 /\ ∀ (v : PV) (p : Pred) (m'_1 : MH) (h' : PH), 
    x_1.2.2.2.2.2.2.2.le h' -> RepP h' p v -> PredW p -> MOther m' m'_1 cb_3 -> CaseOk m'_1 h' cb_3 -> ∀ (s : Sl) (h'_1 : PH), h'.le h'_1 -> RowIn h'_1 s 21 [[vQi 1, vQi t, vQi 0, vQi 
    0, vQi 0, vQi 0, vQi 0, vQi 0, vQz, vQi 0, vQi 0, vQi 0, vQi 0, vQz, vQn, vQn, vQn, vQn, vQn, vQi 0, vQn]] -> ∀ (s_1 : Sl) (h' : PH), h'_1.le h' -> RowIn h' s_1 1 (List.map eI 
    x_1.2.2.2.2.1) -> ∀ (s_2 : Sl) (h'_2 : PH), h'.le h'_2 -> RowIn h'_2 s_2 21 [[vQi 2, vQi 0, vQi v.op, vQi v.cmp, vQi v.left.kind, vQi v.left.index, vQi v.left.value.kind, vQi 
    v.left.value.int, Value.string v.left.value.text, vQi v.right.kind, vQi v.right.index, vQi v.right.value.kind, vQi v.right.value.int, Value.string v.right.value.text, vQs v.args, 
    vQn, vQn, vQn, vQn, vQi 0, vQs s]] -> K (cQa [vQi 3, vQi 0, vQi 0, vQi 0, vQi 0, vQi 0, vQi 0, vQi 0, vQz, vQi 0, vQi 0, vQi 0, vQi 0, vQz, vQn, vQs s_1, vQn, vQn, vQn, vQi 0, vQs 
    s_2]) m'_1 h'_2) /\ ∃ (cb_3 : Nat), ∃ (s : Sl), ∃ (t_1 : Sl), ∃ (cols : List Int), ∃ (params : List Int), ∃ (deep : Nat), [cQp cb 0, cQs x_1.2.2.2.1, cQs p, cQi 1] = [cQp cb_3 0, 
    cQs s, cQs t_1, cQi (↑deep : Int)] /\ CaseOk m' x_1.2.2.2.2.2.2.2 cb_3 /\ Ints x_1.2.2.2.2.2.2.2 s cols /\ Ints x_1.2.2.2.2.2.2.2 t_1 params /\ cols.length <= 1000 /\ params.length 
    <= 1000 /\ deep <= 1000 /\ ∀ (v : PV) (p : Pred) (m'_1 : MH) (h' : PH), x_1.2.2.2.2.2.2.2.le h' -> RepP h' p v -> PredW p -> MOther m' m'_1 cb_3 -> CaseOk m'_1 h' cb_3 -> ∀ (s : 
    Sl) (h'_1 : PH), h'.le h'_1 -> RowIn h'_1 s 21 [[vQi 1, vQi t, vQi 0, vQi 0, vQi 0, vQi 0, vQi 0, vQi 0, vQz, vQi 0, vQi 0, vQi 0, vQi 0, vQz, vQn, vQn, vQn, vQn, vQn, vQi 0, vQn]] 
    -> ∀ (s_1 : Sl) (h' : PH), h'_1.le h' -> RowIn h' s_1 1 (List.map eI x_1.2.2.2.2.1) -> ∀ (s_2 : Sl) (h'_2 : PH), h'.le h'_2 -> RowIn h'_2 s_2 21 [[vQi 2, vQi 0, vQi v.op, vQi 
    v.cmp, vQi v.left.kind, vQi v.left.index, vQi v.left.value.kind, vQi v.left.value.int, Value.string v.left.value.text, vQi v.right.kind, vQi v.right.index, vQi v.right.value.kind, 
    vQi v.right.value.int, Value.string v.right.value.text, vQs v.args, vQn, vQn, vQn, vQn, vQi 0, vQs s]] -> K (cQa [vQi 3, vQi 0, vQi 0, vQi 0, vQi 0, vQi 0, vQi 0, vQi 0, vQz, vQi 
    0, vQi 0, vQi 0, vQi 0, vQz, vQn, vQs s_1, vQn, vQn, vQn, vQi 0, vQs s_2]) m'_1 h'_2) (∀ (s : Sl) (h' : PH), x_1.2.2.2.2.2.2.2.le h' -> RowIn h' s 1 (List.map eI x_1.2.2.2.2.1) -> 
    ∀ (s_1 : Sl) (h'_1 : PH), h'.le h'_1 -> RowIn h'_1 s_1 21 [[vQi 1, vQi t, vQi 0, vQi 0, vQi 0, vQi 0, vQi 0, vQi 0, vQz, vQi 0, vQi 0, vQi 0, vQi 0, vQz, vQn, vQn, vQn, vQn, vQn, 
    vQi 0, vQn]] -> K (cQa [vQi 3, vQi 0, vQi 0, vQi 0, vQi 0, vQi 0, vQi 0, vQi 0, vQz, vQi 0, vQi 0, vQi 0, vQi 0, vQz, vQn, vQs s, vQn, vQn, vQn, vQi 0, vQs s_1]) m' h'_1))))) ((∃ 
    (cb_2 : Nat), ∃ (s : Sl), ∃ (t : Sl), ∃ (cols : List Int), ∃ (params : List Int), ∃ (deep : Nat), [cQp cb 0, cQs k, cQs p, cQi 1] = [cQp cb_2 0, cQs s, cQs t, cQi (↑deep : Int)] /\ 
    CaseOk x.2.2.1 x.2.2.2 cb_2 /\ Ints x.2.2.2 s cols /\ Ints x.2.2.2 t params /\ cols.length <= 1000 /\ params.length <= 1000 /\ deep <= 1000 /\ ∀ (v_1 : PV) (p : Pred) (m' : MH) (h' 
    : PH), x.2.2.2.le h' -> RepP h' p v_1 -> PredW p -> MOther x.2.2.1 m' cb_2 -> CaseOk m' h' cb_2 -> ∀ (s : Sl) (h'_1 : PH), h'.le h'_1 -> RowIn h'_1 s 21 [(QV.enc v)] -> K (cQa [vQi 
    2, vQi 0, vQi v_1.op, vQi v_1.cmp, vQi v_1.left.kind, vQi v_1.left.index, vQi v_1.left.value.kind, vQi v_1.left.value.int, Value.string v_1.left.value.text, vQi v_1.right.kind, vQi 
    v_1.right.index, vQi v_1.right.value.kind, vQi v_1.right.value.int, Value.string v_1.right.value.text, vQs v_1.args, vQn, vQn, vQn, vQn, vQi 0, vQs s]) m' h'_1) /\ ∃ (cb_2 : Nat), 
    ∃ (s : Sl), ∃ (t : Sl), ∃ (cols : List Int), ∃ (params : List Int), ∃ (deep : Nat), [cQp cb 0, cQs k, cQs p, cQi 1] = [cQp cb_2 0, cQs s, cQs t, cQi (↑deep : Int)] /\ CaseOk 
    x.2.2.1 x.2.2.2 cb_2 /\ Ints x.2.2.2 s cols /\ Ints x.2.2.2 t params /\ cols.length <= 1000 /\ params.length <= 1000 /\ deep <= 1000 /\ ∀ (v_1 : PV) (p : Pred) (m' : MH) (h' : PH), 
    x.2.2.2.le h' -> RepP h' p v_1 -> PredW p -> MOther x.2.2.1 m' cb_2 -> CaseOk m' h' cb_2 -> ∀ (s : Sl) (h'_1 : PH), h'.le h'_1 -> RowIn h'_1 s 21 [(QV.enc v)] -> K (cQa [vQi 2, vQi 
    0, vQi v_1.op, vQi v_1.cmp, vQi v_1.left.kind, vQi v_1.left.index, vQi v_1.left.value.kind, vQi v_1.left.value.int, Value.string v_1.left.value.text, vQi v_1.right.kind, vQi 
    v_1.right.index, vQi v_1.right.value.kind, vQi v_1.right.value.int, Value.string v_1.right.value.text, vQs v_1.args, vQn, vQn, vQn, vQn, vQi 0, vQs s]) m' h'_1)
theorem f39_vc (cb : Nat) (sc : SchV) (p k : Sl) (v : QV) (m : MH) (h : PH) (K : CV → MH → PH → Prop) : f39_nice cb sc p k v m h K = (fnVC (f39_ctx cb sc p k v) Tryz.f39 (bodyOf Tryz.f39) (entry Tryz.f39.ntmps [cP cb, aS sc, cS p, cS k, aQ v] m h) K) := by kernel_rfl
theorem ints_nil (h : PH) : Ints h nilS [] := ⟨RowIn.nil _ _, by simp⟩
theorem pairs_nil (h : PH) : Pairs h nilS [] := ⟨RowIn.nil _ _, by simp⟩
theorem sorts_nil (h : PH) : Sorts h nilS [] := ⟨RowIn.nil _ _, by simp⟩
theorem zeroP_rep (h : PH) : RepP h zeroP zeroPV := leaf_rep (v := zeroPV) rfl
theorem repQl_one {h : PH} {s : Sl} {v : QV} {q : Query} (r : RowIn h s 21 [QV.enc v]) (hq : RepQ h q v) : RepQl h s [q] := ⟨⟨[v], r, rfl, fun i x e => by
  match i, e with
  | 0, e => simp at e; subst e; exact ⟨v, rfl, hq⟩
  | i + 1, e => simp at e⟩, by simp⟩
theorem scan_rep (h : PH) (t : Int) : RepQ h (.mk 1 t zeroP [] [] [] [] 0 []) ⟨1, t, zeroPV, nilS, nilS, nilS, nilS, 0, nilS⟩ :=
  QParts.rep ⟨rfl, rfl, zeroP_rep h, ints_nil h, pairs_nil h, ints_nil h, sorts_nil h, rfl, RepL.nil _ _ _ _⟩
theorem filter_rep {h : PH} {v : PV} {p : Pred} {s : Sl} {q : Query} (hp : RepP h p v) (hq : RepQl h s [q]) : RepQ h (.mk 2 0 p [] [] [] [] 0 [q]) ⟨2, 0, v, nilS, nilS, nilS, nilS, 0, s⟩ :=
  QParts.rep ⟨rfl, rfl, hp, ints_nil h, pairs_nil h, ints_nil h, sorts_nil h, rfl, hq⟩
theorem project_rep {h : PH} {c s : Sl} {cols : List Int} {q : Query} (hc : Ints h c cols) (hq : RepQl h s [q]) : RepQ h (.mk 3 0 zeroP cols [] [] [] 0 [q]) ⟨3, 0, zeroPV, c, nilS, nilS, nilS, 0, s⟩ :=
  QParts.rep ⟨rfl, rfl, zeroP_rep h, hc, pairs_nil h, ints_nil h, sorts_nil h, rfl, hq⟩
theorem tmod_lt {a : Int} {n : Nat} (h0 : 0 ≤ a) (hn : 0 < n) : 0 ≤ a.tmod (n : Int) ∧ a.tmod (n : Int) < (n : Int) := by
  rw [Int.tmod_eq_emod_of_nonneg h0]
  exact ⟨Int.emod_nonneg _ (by omega), Int.emod_lt_of_pos _ (by omega)⟩
theorem f39_ok {cb : Nat} {sc : SchV} {p k : Sl} {v : QV} {s : Sch} {ps ks : List Int} {q : Query} {m : MH} {h : PH} {K : CV → MH → PH → Prop} (hc : CaseOk m h cb) (hs : RepS h s sc) (h8 : small8 s) (hts : s.tables.length ≤ 1000) (hp : Ints h p ps) (hpl : ps.length ≤ 1000) (hk : Ints h k ks) (hkl : ks.length ≤ 1000) (hq : RepQ h q v)
    (hK : KQ K m h cb) : f39_nice cb sc p k v m h K := by
  have htl := hs.tables.slen
  have hkn := hk.slen
  have hw : IntKind.i64.wrap ((sc.tables.len : Int) + 1) = (sc.tables.len : Int) + 1 := wrap_id (by omega) (by omega)
  unfold f39_nice
  rw [hw]
  refine ⟨cb, _, rfl, hc, fun f m1 f0 f1 o1 c1 => ?_⟩
  refine ⟨fun ⟨f, n, mx, hx⟩ => 0 ≤ f ∧ f ≤ sc.tables.len ∧ n ≤ sc.tables.len ∧ PH.le h hx ∧ MOther m mx cb ∧ CaseOk mx hx cb, fun ⟨_, n, _, _⟩ => sc.tables.len - n, ⟨(f, 0, m1, h), ⟨f0, by show f ≤ (sc.tables.len : Int); omega, by omega, .refl _, o1, c1⟩, MT⟩, ?_⟩
  clear f0 f1 o1 c1 m1 hw
  rintro ⟨f, n, m1, hx⟩ ⟨f0, f1, hn, hle, o1, c1⟩
  dsimp only
  have pred : ∀ (kk : Sl) (kl : List Int) (mx : MH) (hx : PH) (Q : PV → Pred → MH → PH → Prop), Ints hx kk kl → kl.length ≤ 1000 → PH.le h hx → CaseOk mx hx cb → (∀ v p m' h', PH.le hx h' → RepP h' p v → MOther mx m' cb → CaseOk m' h' cb → Q v p m' h') →
      ∃ (cb_2 : Nat) (s t : Sl) (cols params : List Int) (deep : Nat), [CV.val (.pointer (some ⟨cb, 0, none⟩)), CV.val (.slice kk.a kk.len kk.cap), CV.val (.slice p.a p.len p.cap), CV.val (.int .i64 1)] = [CV.val (.pointer (some ⟨cb_2, 0, none⟩)), CV.val (.slice s.a s.len s.cap), CV.val (.slice t.a t.len t.cap), CV.val (.int .i64 deep)] ∧ CaseOk mx hx cb_2 ∧ Ints hx s cols ∧ Ints hx t params ∧ cols.length ≤ 1000 ∧ params.length ≤ 1000 ∧ deep ≤ 1000 ∧
        ∀ (v : PV) (p : Pred) (m' : MH) (h' : PH), PH.le hx h' → RepP h' p v → PredW p → MOther mx m' cb_2 → CaseOk m' h' cb_2 → Q v p m' h' := fun kk kl mx hx Q h1 h2 h3 h4 h5 =>
    ⟨cb, kk, p, kl, ps, 1, rfl, h4, h1, hp.mono h3, h2, hpl, by omega, fun v p m' h' q1 q2 _ q3 q4 => h5 v p m' h' q1 q2 q3 q4⟩
  refine branch_dec (fun hlt => ?_) (fun hge => ?_)
  rotate_left
  · have fin : ∀ (w : PV) (p : Pred) (m' : MH) (h' : PH), PH.le hx h' → RepP h' p w → MOther m1 m' cb → CaseOk m' h' cb → ∀ (s : Sl) (h'_1 : PH), PH.le h' h'_1 → RowIn h'_1 s 21 [QV.enc v] → K (aQ ⟨2, 0, w, nilS, nilS, nilS, nilS, 0, s⟩) m' h'_1 := fun w p m' h' q1 q2 q3 q4 s h2 q5 q6 =>
      hK _ _ m' h2 ((hle.trans q1).trans q5) (filter_rep (q2.mono q5) (repQl_one q6 (hq.mono ((hle.trans q1).trans q5)))) (o1.trans q3) (q4.mono q5)
    exact ⟨pred k ks m1 hx _ (hk.mono hle) hkl hle c1 fin, pred k ks m1 hx _ (hk.mono hle) hkl hle c1 fin⟩
  have hw2 : IntKind.i64.wrap (f + (n : Int)) = f + (n : Int) := wrap_id (by omega) (by omega)
  rw [hw2]
  refine ⟨by omega, sc, s, _, rfl, hs.mono hle, h8, fun hv h2 le2 hhv => ?_⟩
  have hvn := hhv.slen
  have hv8 : (kindsT s ((f + (n : Int)).tmod (sc.tables.len : Int))).length ≤ 8 := by
    unfold kindsT
    split
    · simp
    · split
      · simp
      · rename_i t ht
        simpa using h8 t (List.mem_of_getElem? ht)
  generalize kindsT s ((f + (n : Int)).tmod (sc.tables.len : Int)) = kt at hhv hvn hv8
  refine ⟨fun ⟨f', n', t, have_, cols, i, mx, hx⟩ => f' = f ∧ n' = n ∧ have_ = hv ∧ i ≤ ks.length ∧ cols.length ≤ i ∧ PH.le h2 hx ∧ MOther m mx cb ∧ CaseOk mx hx cb, fun ⟨_, _, _, _, _, i, _, _⟩ => ks.length - i, ⟨(f, n, (f + (n : Int)).tmod (sc.tables.len : Int), hv, [], 0, m1, h2), ⟨rfl, rfl, rfl, by omega, by simp, .refl _, o1, c1.mono le2⟩, MT⟩, ?_⟩
  rintro ⟨f', n', t, hv, cols, i, m2, h3⟩ ⟨rfl, rfl, rfl, hi, hcl, le3, o2, c2⟩
  dsimp only
  have hle3 : PH.le h h3 := (hle.trans le2).trans le3
  refine branch_dec (fun hlt2 => ?_) (fun hge2 => ?_)
  · obtain ⟨x, hx⟩ := getx hkn hlt2
    obtain ⟨b1, of1, e1, r1⟩ := (hk.mono hle3).at hx
    refine ⟨b1, of1, e1, by omega, hlt2, x, .imm (by simpa using r1), cb, _, rfl, c2, fun fr m3 fr0 fr1 o3 c3 => ?_⟩
    refine ⟨fun ⟨f2, n2, t2, have_, cols2, i2, kind, fr', j, mx, hy⟩ => f2 = f' ∧ n2 = n' ∧ have_ = hv ∧ cols2 = cols ∧ i2 = i ∧ mx = m3 ∧ hy = h3 ∧ j ≤ hv.len ∧ fr' = fr, fun ⟨_, _, _, _, _, _, _, _, j, _, _⟩ => hv.len - j, ⟨(f', n', t, hv, cols, i, x, fr, 0, m3, h3), ⟨rfl, rfl, rfl, rfl, rfl, rfl, rfl, by omega, rfl⟩, MT⟩, ?_⟩
    rintro ⟨f2, n2, t2, hv, cols, i, kind, fr', j, m3, h3⟩ ⟨rfl, rfl, rfl, rfl, rfl, rfl, rfl, hj, rfl⟩
    dsimp only
    refine branch_dec (fun hlt3 => ?_) (fun hge3 => ⟨(f2, n2, t2, _, _, _, _, _), ⟨rfl, rfl, rfl, by show i + 1 ≤ ks.length; omega, by show cols.length ≤ i + 1; omega, le3, o2.trans o3, c3⟩, by show ks.length - (i + 1) < ks.length - i; omega, MT⟩)
    have hw3 : IntKind.i64.wrap (fr' + (j : Int)) = fr' + (j : Int) := wrap_id (by omega) (by omega)
    rw [hw3]
    have hm := tmod_lt (a := fr' + (j : Int)) (n := Sl.len _) (by omega) (show 0 < hv.len by omega)
    obtain ⟨b2, of2, e2, r2⟩ := (hhv.mono le3).inb (n := (fr' + (j : Int)).tmod (hv.len : Int)) hm.1 (by rw [← hvn]; exact hm.2)
    refine ⟨by omega, b2, of2, e2, hm.1, hm.2, _, .imm (by simpa using r2), branch_intro (fun _ => ⟨by simp; omega, by simp; omega, (f2, n2, t2, _, cols ++ [(fr' + (j : Int)).tmod (hv.len : Int)], i + 1, _, _), ⟨rfl, rfl, rfl, by show i + 1 ≤ ks.length; omega, by simp; omega, le3, o2.trans o3, c3⟩, by show ks.length - (i + 1) < ks.length - i; omega, ?_⟩) (fun _ => ⟨(f2, n2, t2, hv, cols, i, kind, fr', j + 1, m3, h3), ⟨rfl, rfl, rfl, rfl, rfl, rfl, rfl, by show j + 1 ≤ hv.len; omega, rfl⟩, by show hv.len - (j + 1) < hv.len - j; omega, MT⟩)⟩
    rw [List.map_append]; exact MT
  · have hn1 : n' + 1 ≤ sc.tables.len := by omega
    refine branch_intro (fun _ => ⟨(f', n' + 1, m2, h3), ⟨f0, f1, hn1, hle3, o2, c2⟩, by show sc.tables.len - (n' + 1) < sc.tables.len - n'; omega, MT⟩) (fun _ => branch_dec (fun _ => ⟨(f', n' + 1, m2, h3), ⟨f0, f1, hn1, hle3, o2, c2⟩, by show sc.tables.len - (n' + 1) < sc.tables.len - n'; omega, MT⟩) (fun _ => ⟨t, rfl, cb, 2, rfl, by omega, by omega, c2, fun r m4 o4 c4 => branch_intro (fun _ => ?_) (fun _ s1 h5 le5 r5 s2 h6 le6 r6 => ?_)⟩))
    · have fin : ∀ (w : PV) (p : Pred) (m' : MH) (h' : PH), PH.le h3 h' → RepP h' p w → MOther m4 m' cb → CaseOk m' h' cb → ∀ (s : Sl) (h'_1 : PH), PH.le h' h'_1 → RowIn h'_1 s 21 [QV.enc ⟨1, t, zeroPV, nilS, nilS, nilS, nilS, 0, nilS⟩] → ∀ (s_1 : Sl) (h'_2 : PH), PH.le h'_1 h'_2 → RowIn h'_2 s_1 1 (cols.map eI) → ∀ (s_2 : Sl) (h'_3 : PH), PH.le h'_2 h'_3 → RowIn h'_3 s_2 21 [QV.enc ⟨2, 0, w, nilS, nilS, nilS, nilS, 0, s⟩] → K (aQ ⟨3, 0, zeroPV, s_1, nilS, nilS, nilS, 0, s_2⟩) m' h'_3 := fun w p m' h' q1 q2 q3 q4 s h5 q5 q6 s1 h6 q7 q8 s2 h7 q9 q10 =>
        hK _ _ m' h7 ((((hle3.trans q1).trans q5).trans q7).trans q9) (project_rep (cols := cols) ⟨q8.mono q9, by omega⟩ (repQl_one q10 (filter_rep (q2.mono ((q5.trans q7).trans q9)) (repQl_one (q6.mono (q7.trans q9)) (scan_rep _ t))))) ((o2.trans o4).trans q3) (q4.mono ((q5.trans q7).trans q9))
      exact ⟨pred hv kt m4 h3 _ (hhv.mono le3) (by omega) hle3 c4 fin, pred hv kt m4 h3 _ (hhv.mono le3) (by omega) hle3 c4 fin⟩
    · exact hK _ _ m4 h6 ((hle3.trans le5).trans le6) (project_rep (cols := cols) ⟨r5.mono le6, by omega⟩ (repQl_one (v := ⟨1, t, zeroPV, nilS, nilS, nilS, nilS, 0, nilS⟩) r6 (scan_rep _ t))) (o2.trans o4) (c4.mono (le5.trans le6))
theorem f39_sound : Sound Tryz.prog 39 ShapedW := by
  refine fn_sound (fn := Tryz.f39) (c := bodyOf Tryz.f39) Tryz.func39 rfl (by decide) ?_
  rintro cvs m h K ⟨cb, sc, p, k, v, s, ps, ks, q, rfl, hc, hs, h8, hts, hp, hpl, hk, hkl, hq, hK⟩
  refine ⟨f39_ctx cb sc p k v, rfl, specs_cons intW (specs_cons f52_sound (specs_cons f37_sound (specs_cons f10_sound (specs_cons f27_sound specs_nil)))), ?_⟩
  rw [← f39_vc cb sc p k v m h K]
  exact f39_ok hc hs h8 hts hp hpl hk hkl hq hK
end Go.Ps
namespace Go.Ps
open Go Go.Vc Go.Proofs
def KQ2 (K : CV → MH → PH → Prop) (m : MH) (h : PH) (cb : Nat) (s : Sch) (ps : List Int) : Prop := ∀ w q m' h', PH.le h h' → RepQ h' q w → (queryR s ps q).2 = 0 → MOther m m' cb → CaseOk m' h' cb → K (aQ w) m' h'
def QueryW (N : Nat) : Vc.Spec := fun cvs m h K => ∃ cb sc p s ps deep, cvs = [cP cb, aS sc, cS p, cI deep] ∧ CaseOk m h cb ∧ RepS h s sc ∧ schErr s = 0 ∧ s.tables ≠ [] ∧ Ints h p ps ∧ ps.length ≤ 1000 ∧ ps.all colKind = true ∧ -1 ≤ deep ∧ deep ≤ 1000 ∧ (deep + 1).toNat < N ∧ KQ2 K m h cb s ps
noncomputable def f18_ctx (N : Nat) (cb : Nat) (sc : SchV) (p : Sl) : Ctx :=
  ctx4 [(12, IntW), (37, ScanS), (26, QueryCheckS), (38, PairsW), (39, ShapedW), (40, RankW), (27, PredicateW), (18, QueryW N)]
   [(11, { A := QV × QV × Sl × Int × MH × PH, st := fun ⟨a, q, k, n, m, h⟩ => mkSt 171 175 [(0, pv cb), (2, sv p), (5, .at (.ptr 5 0)), (8, .at (.ptr 8 0)), (10, .at (.ptr 10 0)), (11, sv k), (13, .at (.ptr 13 0)), (14, iv n)] [(5, .cells 28 (sc.enc.map .val)), (8, .cells 43 (zeroQV.enc.map .val)), (10, .cells 43 (a.enc.map .val)), (13, .cells 43 (q.enc.map .val))] m h })]
   [(7, { A := Int × Int × QV × QV × Sl × MH × PH, st := fun ⟨d, op, a, q, k, m, h⟩ => mkSt 171 175 [(0, pv cb), (2, sv p), (3, iv d), (5, .at (.ptr 5 0)), (8, .at (.ptr 8 0)), (9, iv op), (10, .at (.ptr 10 0)), (11, sv k), (13, .at (.ptr 13 0))] [(5, .cells 28 (sc.enc.map .val)), (8, .cells 43 (zeroQV.enc.map .val)), (10, .cells 43 (a.enc.map .val)), (13, .cells 43 (q.enc.map .val))] m h }),
    (16, { A := Int × Int × QV × QV × Sl × Bool × MH × PH, st := fun ⟨d, op, a, q, k, t, m, h⟩ => mkSt 171 175 [(0, pv cb), (2, sv p), (3, iv d), (5, .at (.ptr 5 0)), (8, .at (.ptr 8 0)), (9, iv op), (10, .at (.ptr 10 0)), (11, sv k), (13, .at (.ptr 13 0)), (59, iv op), (84, bv t)] [(5, .cells 28 (sc.enc.map .val)), (8, .cells 43 (zeroQV.enc.map .val)), (10, .cells 43 (a.enc.map .val)), (13, .cells 43 (q.enc.map .val))] m h }),
    (24, { A := Int × QV × QV × Sl × Bool × MH × PH, st := fun ⟨op, a, q, k, t, m, h⟩ => mkSt 171 175 [(0, pv cb), (2, sv p), (5, .at (.ptr 5 0)), (8, .at (.ptr 8 0)), (10, .at (.ptr 10 0)), (11, sv k), (13, .at (.ptr 13 0)), (59, iv op), (122, bv t)] [(5, .cells 28 (sc.enc.map .val)), (8, .cells 43 (zeroQV.enc.map .val)), (10, .cells 43 (a.enc.map .val)), (13, .cells 43 (q.enc.map .val))] m h }),
    (20, { A := QV × QV × QV × Sl × Sl × MH × PH, st := fun ⟨a, b, q, k, l, m, h⟩ => mkSt 171 175 [(0, pv cb), (2, sv p), (5, .at (.ptr 5 0)), (8, .at (.ptr 8 0)), (10, .at (.ptr 10 0)), (11, sv k), (13, .at (.ptr 13 0)), (15, .at (.ptr 15 0)), (16, sv l)] [(5, .cells 28 (sc.enc.map .val)), (8, .cells 43 (zeroQV.enc.map .val)), (10, .cells 43 (a.enc.map .val)), (13, .cells 43 (q.enc.map .val)), (15, .cells 43 (b.enc.map .val))] m h }),
    (30, { A := QV × QV × MH × PH, frz := true, st := fun ⟨a, q, m, h⟩ => mkSt 171 175 [(2, sv p), (5, .at (.ptr 5 0)), (8, .at (.ptr 8 0)), (10, .at (.ptr 10 0)), (13, .at (.ptr 13 0))] [(5, .cells 28 (sc.enc.map .val)), (8, .cells 43 (zeroQV.enc.map .val)), (10, .cells 43 (a.enc.map .val)), (13, .cells 43 (q.enc.map .val))] m h })] [] [23, 1023, 1039] [] false
def f18_nice (N : Nat) (cb : Nat) (sc : SchV) (p : Sl) (deep : Int) (m : MH) (h : PH) (K : CV → MH → PH → Prop) : Prop :=
    ∃ (cb_1 : Nat), ∃ (n : Int), [cQp cb 0, cQi 12] = [cQp cb_1 0, cQi n] /\ CaseOk m h cb_1 /\ ∀ (k : Int) (m' : MH), 0 <= k -> k < n ∨ k = 0 -> MOther m m' cb_1 -> CaseOk m' h cb_1 
    -> branch (decide (deep < 1)) (∃ (cb_2 : Nat), ∃ (n : Int), [cQp cb 0, cQi (if (↑sc.tables.len : Int) > 1 then (↑sc.tables.len : Int) else 1)] = [cQp cb_2 0, cQi n] /\ CaseOk m' h 
    cb_2 /\ ∀ (k : Int) (m'_1 : MH), 0 <= k -> k < n ∨ k = 0 -> MOther m' m'_1 cb_2 -> CaseOk m'_1 h cb_2 -> ∃ (t : Int), [cQi k] = [cQi t] /\ K (cQa [vQi 1, vQi t, vQi 0, vQi 0, vQi 
    0, vQi 0, vQi 0, vQi 0, vQz, vQi 0, vQi 0, vQi 0, vQi 0, vQz, vQn, vQn, vQn, vQn, vQn, vQi 0, vQn]) m'_1 h) (branch (IntKind.i64.wrap (1 + k) == 1) (∃ (cb_2 : Nat), ∃ (n : Int), 
    [cQp cb 0, cQi (if (↑sc.tables.len : Int) > 1 then (↑sc.tables.len : Int) else 1)] = [cQp cb_2 0, cQi n] /\ CaseOk m' h cb_2 /\ ∀ (k : Int) (m'_1 : MH), 0 <= k -> k < n ∨ k = 0 -> 
    MOther m' m'_1 cb_2 -> CaseOk m'_1 h cb_2 -> ∃ (t : Int), [cQi k] = [cQi t] /\ K (cQa [vQi 1, vQi t, vQi 0, vQi 0, vQi 0, vQi 0, vQi 0, vQi 0, vQz, vQi 0, vQi 0, vQi 0, vQi 0, vQz, 
    vQn, vQn, vQn, vQn, vQn, vQi 0, vQn]) m'_1 h) (branch ((↑sc.tables.len : Int) == 0) (∃ (cb_2 : Nat), ∃ (n : Int), [cQp cb 0, cQi (if (↑sc.tables.len : Int) > 1 then (↑sc.tables.len 
    : Int) else 1)] = [cQp cb_2 0, cQi n] /\ CaseOk m' h cb_2 /\ ∀ (k : Int) (m'_1 : MH), 0 <= k -> k < n ∨ k = 0 -> MOther m' m'_1 cb_2 -> CaseOk m'_1 h cb_2 -> ∃ (t : Int), [cQi k] = 
    [cQi t] /\ K (cQa [vQi 1, vQi t, vQi 0, vQi 0, vQi 0, vQi 0, vQi 0, vQi 0, vQz, vQi 0, vQi 0, vQi 0, vQi 0, vQz, vQn, vQn, vQn, vQn, vQn, vQi 0, vQn]) m'_1 h) (∃ (cb_2 : Nat), ∃ 
    (sc_1 : SchV), ∃ (p_1 : Sl), ∃ (s : Sch), ∃ (ps : List Int), ∃ (deep_1 : Int), [cQp cb 0, cQa [vQi sc.version, vQs sc.tables], cQs p, cQi (IntKind.i64.wrap (deep - 1))] = [cQp cb_2 
    0, cQa [vQi sc_1.version, vQs sc_1.tables], cQs p_1, cQi deep_1] /\ CaseOk m' h cb_2 /\ RepS h s sc_1 /\ schErr s = 0 /\ (s.tables = [] -> False) /\ Ints h p_1 ps /\ ps.length <= 
    1000 /\ ps.all colKind = true /\ Int.negSucc 0 <= deep_1 /\ deep_1 <= 1000 /\ (deep_1 + 1).toNat < N /\ ∀ (w : QV) (q : Query) (m'_1 : MH) (h' : PH), h.le h' -> RepQ h' q w -> 
    (queryR s ps q).2 = 0 -> MOther m' m'_1 cb_2 -> CaseOk m'_1 h' cb_2 -> ∃ (sc_2 : SchV), ∃ (p_2 : Sl), ∃ (v : QV), ∃ (s : Sch), ∃ (ps : List Int), ∃ (q : Query), [cQa [vQi 
    sc.version, vQs sc.tables], cQs p, cQa (QV.enc w)] = [cQa [vQi sc_2.version, vQs sc_2.tables], cQs p_2, cQa (QV.enc v)] /\ RepS h' s sc_2 /\ Ints h' p_2 ps /\ RepQ h' q v /\ ∀ (sl 
    : Sl) (h'_1 : PH), h'.le h'_1 -> Ints h'_1 sl (queryR s ps q).1 -> ∃ (I : Int × Int × QV × QV × Sl × MH × PH -> Prop), (∀ (s : Sl) (m' : MH), MNew m'_1 m' h'_1 s 43 21 [(QV.enc w)] 
    -> ∃ (x : Int × Int × QV × QV × Sl × MH × PH), I x /\ eQ (sQo cb 0) /\ eQ (sQs p) /\ sQi deep = sQi x.1 /\ eQ (sQp 5 0) /\ eQ (sQp 8 0) /\ sQi (IntKind.i64.wrap (1 + k)) = sQi 
    x.2.1 /\ eQ (sQp 10 0) /\ sQs sl = sQs x.2.2.2.2.1 /\ eQ (sQp 13 0) /\ eQ (oQ 28 [aQi sc.version, aQs sc.tables]) /\ eQ (oQ 43 zQ) /\ oQ 43 (List.map At.val (QV.enc w)) = oQ 43 
    (List.map At.val (QV.enc x.2.2.1)) /\ oQ 43 [aQi (IntKind.i64.wrap (1 + k)), aQi 0, aQi 0, aQi 0, aQi 0, aQi 0, aQi 0, aQi 0, aQz, aQi 0, aQi 0, aQi 0, aQi 0, aQz, aQn, aQn, aQn, 
    aQn, aQn, aQi 0, aQs s] = oQ 43 (List.map At.val (QV.enc x.2.2.2.1)) /\ m' = x.2.2.2.2.2.1 /\ h'_1 = x.2.2.2.2.2.2 /\ True) /\ ∀ (x : Int × Int × QV × QV × Sl × MH × PH), I x -> ∃ 
    (I : QV × QV × MH × PH -> Prop), branch (x.2.1 == 3) (∃ (cb_3 : Nat), ∃ (n : Int), [cQp cb 0, cQi 3] = [cQp cb_3 0, cQi n] /\ CaseOk x.2.2.2.2.2.1 x.2.2.2.2.2.2 cb_3 /\ ∀ (k : Int) 
    (m' : MH), 0 <= k -> k < n ∨ k = 0 -> MOther x.2.2.2.2.2.1 m' cb_3 -> CaseOk m' x.2.2.2.2.2.2 cb_3 -> ∃ (I_1 : QV × QV × Sl × Int × MH × PH -> Prop), ∃ (mu : QV × QV × Sl × Int × 
    MH × PH -> Nat), (∃ (x_1 : QV × QV × Sl × Int × MH × PH), I_1 x_1 /\ eQ (sQo cb 0) /\ eQ (sQs p) /\ eQ (sQp 5 0) /\ eQ (sQp 8 0) /\ eQ (sQp 10 0) /\ sQs x.2.2.2.2.1 = sQs x_1.2.2.1 
    /\ eQ (sQp 13 0) /\ sQi k = sQi x_1.2.2.2.1 /\ eQ (oQ 28 [aQi sc.version, aQs sc.tables]) /\ eQ (oQ 43 zQ) /\ oQ 43 (List.map At.val (QV.enc x.2.2.1)) = oQ 43 (List.map At.val 
    (QV.enc x_1.1)) /\ oQ 43 (List.map At.val (QV.enc x.2.2.2.1)) = oQ 43 (List.map At.val (QV.enc x_1.2.1)) /\ m' = x_1.2.2.2.2.1 /\ x.2.2.2.2.2.2 = x_1.2.2.2.2.2 /\ True) /\ ∀ (x : 
    QV × QV × Sl × Int × MH × PH), I_1 x -> branch (decide (x.2.2.2.1 ≥ 0)) (∃ (cb_4 : Nat), ∃ (n : Int), [cQp cb 0, cQi (↑x.2.2.1.len : Int)] = [cQp cb_4 0, cQi n] /\ CaseOk 
    x.2.2.2.2.1 x.2.2.2.2.2 cb_4 /\ ∀ (k : Int) (m' : MH), 0 <= k -> k < n ∨ k = 0 -> MOther x.2.2.2.2.1 m' cb_4 -> CaseOk m' x.2.2.2.2.2 cb_4 -> ∃ (xs : List (List Value)), MRow m' 
    (Sl.mk x.2.1.columns.a x.2.1.columns.len x.2.1.columns.cap) 3 1 xs /\ (xs.length + 1) * 8 <= 140737488355328 /\ xs.length < 140737488355328 /\ ∀ (s' : Sl) (m'_2 : MH), MGrown m' 
    m'_2 (Sl.mk x.2.1.columns.a x.2.1.columns.len x.2.1.columns.cap) s' 3 1 (xs ++ [[vQi k]]) -> ∃ (x_1 : QV × QV × Sl × Int × MH × PH), I_1 x_1 /\ mu x_1 < mu x /\ eQ (sQo cb 0) /\ eQ 
    (sQs p) /\ eQ (sQp 5 0) /\ eQ (sQp 8 0) /\ eQ (sQp 10 0) /\ sQs x.2.2.1 = sQs x_1.2.2.1 /\ eQ (sQp 13 0) /\ sQi (IntKind.i64.wrap (x.2.2.2.1 - 1)) = sQi x_1.2.2.2.1 /\ eQ (oQ 28 
    [aQi sc.version, aQs sc.tables]) /\ eQ (oQ 43 zQ) /\ oQ 43 (List.map At.val (QV.enc x.1)) = oQ 43 (List.map At.val (QV.enc x_1.1)) /\ oQ 43 [aQi x.2.1.op, aQi x.2.1.table, aQi 
    x.2.1.where_.op, aQi x.2.1.where_.cmp, aQi x.2.1.where_.left.kind, aQi x.2.1.where_.left.index, aQi x.2.1.where_.left.value.kind, aQi x.2.1.where_.left.value.int, At.val 
    (Value.string x.2.1.where_.left.value.text), aQi x.2.1.where_.right.kind, aQi x.2.1.where_.right.index, aQi x.2.1.where_.right.value.kind, aQi x.2.1.where_.right.value.int, At.val 
    (Value.string x.2.1.where_.right.value.text), aQs x.2.1.where_.args, At.val (Value.slice s'.a s'.len s'.cap), aQs x.2.1.on, aQs x.2.1.group, aQs x.2.1.order, aQi x.2.1.limit, aQs 
    x.2.1.args] = oQ 43 (List.map At.val (QV.enc x_1.2.1)) /\ m'_2 = x_1.2.2.2.2.1 /\ x.2.2.2.2.2 = x_1.2.2.2.2.2 /\ True) (Disj x.2.2.2.2.1 x.2.2.2.2.2 -> ∃ (x_1 : QV × QV × MH × PH), 
    I x_1 /\ eQ (sQs p) /\ eQ (sQp 5 0) /\ eQ (sQp 8 0) /\ eQ (sQp 10 0) /\ eQ (sQp 13 0) /\ eQ (oQ 28 [aQi sc.version, aQs sc.tables]) /\ eQ (oQ 43 zQ) /\ oQ 43 (List.map At.val 
    (QV.enc x.1)) = oQ 43 (List.map At.val (QV.enc x_1.1)) /\ oQ 43 (List.map At.val (QV.enc x.2.1)) = oQ 43 (List.map At.val (QV.enc x_1.2.1)) /\ Froze x.2.2.2.2.1 x.2.2.2.2.2 
    x_1.2.2.1 x_1.2.2.2 /\ True)) (∃ (I_1 : Int × Int × QV × QV × Sl × Bool × MH × PH -> Prop), branch (x.2.1 == 4) (∃ (x_1 : Int × Int × QV × QV × Sl × Bool × MH × PH), I_1 x_1 /\ eQ 
    (sQo cb 0) /\ eQ (sQs p) /\ sQi x.1 = sQi x_1.1 /\ eQ (sQp 5 0) /\ eQ (sQp 8 0) /\ sQi x.2.1 = sQi x_1.2.1 /\ eQ (sQp 10 0) /\ sQs x.2.2.2.2.1 = sQs x_1.2.2.2.2.1 /\ eQ (sQp 13 0) 
    /\ sQi x.2.1 = sQi x_1.2.1 /\ sQb true = sQb x_1.2.2.2.2.2.1 /\ eQ (oQ 28 [aQi sc.version, aQs sc.tables]) /\ eQ (oQ 43 zQ) /\ oQ 43 (List.map At.val (QV.enc x.2.2.1)) = oQ 43 
    (List.map At.val (QV.enc x_1.2.2.1)) /\ oQ 43 (List.map At.val (QV.enc x.2.2.2.1)) = oQ 43 (List.map At.val (QV.enc x_1.2.2.2.1)) /\ x.2.2.2.2.2.1 = x_1.2.2.2.2.2.2.1 /\ 
    x.2.2.2.2.2.2 = x_1.2.2.2.2.2.2.2 /\ True) (∃ (x_1 : Int × Int × QV × QV × Sl × Bool × MH × PH), I_1 x_1 /\ eQ (sQo cb 0) /\ eQ (sQs p) /\ sQi x.1 = sQi x_1.1 /\ eQ (sQp 5 0) /\ eQ 
    (sQp 8 0) /\ sQi x.2.1 = sQi x_1.2.1 /\ eQ (sQp 10 0) /\ sQs x.2.2.2.2.1 = sQs x_1.2.2.2.2.1 /\ eQ (sQp 13 0) /\ sQi x.2.1 = sQi x_1.2.1 /\ sQb (x.2.1 == 5) = sQb x_1.2.2.2.2.2.1 
    /\ eQ (oQ 28 [aQi sc.version, aQs sc.tables]) /\ eQ (oQ 43 zQ) /\ oQ 43 (List.map At.val (QV.enc x.2.2.1)) = oQ 43 (List.map At.val (QV.enc x_1.2.2.1)) /\ oQ 43 (List.map At.val 
    (QV.enc x.2.2.2.1)) = oQ 43 (List.map At.val (QV.enc x_1.2.2.2.1)) /\ x.2.2.2.2.2.1 = x_1.2.2.2.2.2.2.1 /\ x.2.2.2.2.2.2 = x_1.2.2.2.2.2.2.2 /\ True) /\ ∀ (x : Int × Int × QV × QV 
    × Sl × Bool × MH × PH), I_1 x -> branch x.2.2.2.2.2.1 (∃ (cb_3 : Nat), ∃ (sc_3 : SchV), ∃ (p_3 : Sl), ∃ (s : Sch), ∃ (ps : List Int), ∃ (deep : Int), [cQp cb 0, cQa [vQi 
    sc.version, vQs sc.tables], cQs p, cQi (IntKind.i64.wrap (x.1 - 2))] = [cQp cb_3 0, cQa [vQi sc_3.version, vQs sc_3.tables], cQs p_3, cQi deep] /\ CaseOk x.2.2.2.2.2.2.1 
    x.2.2.2.2.2.2.2 cb_3 /\ RepS x.2.2.2.2.2.2.2 s sc_3 /\ schErr s = 0 /\ (s.tables = [] -> False) /\ Ints x.2.2.2.2.2.2.2 p_3 ps /\ ps.length <= 1000 /\ ps.all colKind = true /\ 
    Int.negSucc 0 <= deep /\ deep <= 1000 /\ (deep + 1).toNat < N /\ ∀ (w : QV) (q : Query) (m' : MH) (h' : PH), x.2.2.2.2.2.2.2.le h' -> RepQ h' q w -> (queryR s ps q).2 = 0 -> MOther 
    x.2.2.2.2.2.2.1 m' cb_3 -> CaseOk m' h' cb_3 -> ∃ (sc_4 : SchV), ∃ (p_4 : Sl), ∃ (v : QV), ∃ (s : Sch), ∃ (ps : List Int), ∃ (q : Query), [cQa [vQi sc.version, vQs sc.tables], cQs 
    p, cQa (QV.enc w)] = [cQa [vQi sc_4.version, vQs sc_4.tables], cQs p_4, cQa (QV.enc v)] /\ RepS h' s sc_4 /\ Ints h' p_4 ps /\ RepQ h' q v /\ ∀ (sl : Sl) (h'_2 : PH), h'.le h'_2 -> 
    Ints h'_2 sl (queryR s ps q).1 -> ∃ (I_2 : QV × QV × QV × Sl × Sl × MH × PH -> Prop), branch (x.2.1 == 4) (branch (decide (IntKind.i64.wrap ((↑x.2.2.2.2.1.len : Int) + (↑sl.len : 
    Int)) > 8)) (∃ (x_1 : QV × QV × QV × Sl × Sl × MH × PH), I_2 x_1 /\ eQ (sQo cb 0) /\ eQ (sQs p) /\ eQ (sQp 5 0) /\ eQ (sQp 8 0) /\ eQ (sQp 10 0) /\ sQs x.2.2.2.2.1 = sQs 
    x_1.2.2.2.1 /\ eQ (sQp 13 0) /\ eQ (sQp 15 0) /\ sQs sl = sQs x_1.2.2.2.2.1 /\ eQ (oQ 28 [aQi sc.version, aQs sc.tables]) /\ eQ (oQ 43 zQ) /\ oQ 43 (List.map At.val (QV.enc 
    x.2.2.1)) = oQ 43 (List.map At.val (QV.enc x_1.1)) /\ oQ 43 [aQi 5, aQi x.2.2.2.1.table, aQi x.2.2.2.1.where_.op, aQi x.2.2.2.1.where_.cmp, aQi x.2.2.2.1.where_.left.kind, aQi 
    x.2.2.2.1.where_.left.index, aQi x.2.2.2.1.where_.left.value.kind, aQi x.2.2.2.1.where_.left.value.int, At.val (Value.string x.2.2.2.1.where_.left.value.text), aQi 
    x.2.2.2.1.where_.right.kind, aQi x.2.2.2.1.where_.right.index, aQi x.2.2.2.1.where_.right.value.kind, aQi x.2.2.2.1.where_.right.value.int, At.val (Value.string 
    x.2.2.2.1.where_.right.value.text), aQs x.2.2.2.1.where_.args, aQs x.2.2.2.1.columns, aQs x.2.2.2.1.on, aQs x.2.2.2.1.group, aQs x.2.2.2.1.order, aQi x.2.2.2.1.limit, aQs 
    x.2.2.2.1.args] = oQ 43 (List.map At.val (QV.enc x_1.2.2.1)) /\ oQ 43 (List.map At.val (QV.enc w)) = oQ 43 (List.map At.val (QV.enc x_1.2.1)) /\ m' = x_1.2.2.2.2.2.1 /\ h'_2 = 
    x_1.2.2.2.2.2.2 /\ True) (∃ (x_1 : QV × QV × QV × Sl × Sl × MH × PH), I_2 x_1 /\ eQ (sQo cb 0) /\ eQ (sQs p) /\ eQ (sQp 5 0) /\ eQ (sQp 8 0) /\ eQ (sQp 10 0) /\ sQs x.2.2.2.2.1 = 
    sQs x_1.2.2.2.1 /\ eQ (sQp 13 0) /\ eQ (sQp 15 0) /\ sQs sl = sQs x_1.2.2.2.2.1 /\ eQ (oQ 28 [aQi sc.version, aQs sc.tables]) /\ eQ (oQ 43 zQ) /\ oQ 43 (List.map At.val (QV.enc 
    x.2.2.1)) = oQ 43 (List.map At.val (QV.enc x_1.1)) /\ oQ 43 (List.map At.val (QV.enc x.2.2.2.1)) = oQ 43 (List.map At.val (QV.enc x_1.2.2.1)) /\ oQ 43 (List.map At.val (QV.enc w)) 
    = oQ 43 (List.map At.val (QV.enc x_1.2.1)) /\ m' = x_1.2.2.2.2.2.1 /\ h'_2 = x_1.2.2.2.2.2.2 /\ True)) (∃ (x_1 : QV × QV × QV × Sl × Sl × MH × PH), I_2 x_1 /\ eQ (sQo cb 0) /\ eQ 
    (sQs p) /\ eQ (sQp 5 0) /\ eQ (sQp 8 0) /\ eQ (sQp 10 0) /\ sQs x.2.2.2.2.1 = sQs x_1.2.2.2.1 /\ eQ (sQp 13 0) /\ eQ (sQp 15 0) /\ sQs sl = sQs x_1.2.2.2.2.1 /\ eQ (oQ 28 [aQi 
    sc.version, aQs sc.tables]) /\ eQ (oQ 43 zQ) /\ oQ 43 (List.map At.val (QV.enc x.2.2.1)) = oQ 43 (List.map At.val (QV.enc x_1.1)) /\ oQ 43 (List.map At.val (QV.enc x.2.2.2.1)) = oQ 
    43 (List.map At.val (QV.enc x_1.2.2.1)) /\ oQ 43 (List.map At.val (QV.enc w)) = oQ 43 (List.map At.val (QV.enc x_1.2.1)) /\ m' = x_1.2.2.2.2.2.1 /\ h'_2 = x_1.2.2.2.2.2.2 /\ True) 
    /\ ∀ (x : QV × QV × QV × Sl × Sl × MH × PH), I_2 x -> (∃ (cb_4 : Nat), ∃ (s : Sl), ∃ (t : Sl), ∃ (a : List Int), ∃ (b : List Int), [cQp cb 0, cQs x.2.2.2.1, cQs x.2.2.2.2.1] = [cQp 
    cb_4 0, cQs s, cQs t] /\ CaseOk x.2.2.2.2.2.1 x.2.2.2.2.2.2 cb_4 /\ Ints x.2.2.2.2.2.2 s a /\ Ints x.2.2.2.2.2.2 t b /\ a.length <= 1000 /\ b.length <= 1000 /\ ∀ (o : Sl) (on : 
    List (Int × Int)) (m' : MH) (h' : PH), x.2.2.2.2.2.2.le h' -> Pairs h' o on -> on.length <= 10 -> MOther x.2.2.2.2.2.1 m' cb_4 -> CaseOk m' h' cb_4 -> ∀ (s : Sl) (m'_2 : MH), MNew 
    m' m'_2 h' s 43 21 [(QV.enc x.2.1)] -> ∃ (xs : List (List Value)), MRow m'_2 (Sl.mk x.2.2.1.args.a x.2.2.1.args.len x.2.2.1.args.cap) 43 21 xs /\ ∃ (ys : List (List Value)), RowsOk 
    21 ys /\ SrcIn m'_2 h' (Sl.mk s.a s.len s.cap) 21 ys /\ (xs.length + ys.length) * 280 <= 140737488355328 /\ xs.length + ys.length <= 140737488355328 /\ ∀ (s' : Sl) (m' : MH), 
    MGrown m'_2 m' (Sl.mk x.2.2.1.args.a x.2.2.1.args.len x.2.2.1.args.cap) s' 43 21 (xs ++ ys) -> Disj m' h' -> ∃ (x_1 : QV × QV × MH × PH), I x_1 /\ eQ (sQs p) /\ eQ (sQp 5 0) /\ eQ 
    (sQp 8 0) /\ eQ (sQp 10 0) /\ eQ (sQp 13 0) /\ eQ (oQ 28 [aQi sc.version, aQs sc.tables]) /\ eQ (oQ 43 zQ) /\ oQ 43 (List.map At.val (QV.enc x.1)) = oQ 43 (List.map At.val (QV.enc 
    x_1.1)) /\ oQ 43 [aQi x.2.2.1.op, aQi x.2.2.1.table, aQi x.2.2.1.where_.op, aQi x.2.2.1.where_.cmp, aQi x.2.2.1.where_.left.kind, aQi x.2.2.1.where_.left.index, aQi 
    x.2.2.1.where_.left.value.kind, aQi x.2.2.1.where_.left.value.int, At.val (Value.string x.2.2.1.where_.left.value.text), aQi x.2.2.1.where_.right.kind, aQi 
    x.2.2.1.where_.right.index, aQi x.2.2.1.where_.right.value.kind, aQi x.2.2.1.where_.right.value.int, At.val (Value.string x.2.2.1.where_.right.value.text), aQs x.2.2.1.where_.args, 
    aQs x.2.2.1.columns, aQs o, aQs x.2.2.1.group, aQs x.2.2.1.order, aQi x.2.2.1.limit, At.val (Value.slice s'.a s'.len s'.cap)] = oQ 43 (List.map At.val (QV.enc x_1.2.1)) /\ Froze m' 
    h' x_1.2.2.1 x_1.2.2.2 /\ True) /\ ∀ (s : Sl) (m' : MH), MNew x.2.2.2.2.2.1 m' x.2.2.2.2.2.2 s 43 21 [(QV.enc x.2.1)] -> ∃ (cb_4 : Nat), ∃ (s_1 : Sl), ∃ (t : Sl), ∃ (a : List Int), 
    ∃ (b : List Int), [cQp cb 0, cQs x.2.2.2.1, cQs x.2.2.2.2.1] = [cQp cb_4 0, cQs s_1, cQs t] /\ CaseOk m' x.2.2.2.2.2.2 cb_4 /\ Ints x.2.2.2.2.2.2 s_1 a /\ Ints x.2.2.2.2.2.2 t b /\ 
    a.length <= 1000 /\ b.length <= 1000 /\ ∀ (o : Sl) (on : List (Int × Int)) (m'_2 : MH) (h' : PH), x.2.2.2.2.2.2.le h' -> Pairs h' o on -> on.length <= 10 -> MOther m' m'_2 cb_4 -> 
    CaseOk m'_2 h' cb_4 -> ∃ (xs : List (List Value)), MRow m'_2 (Sl.mk x.2.2.1.args.a x.2.2.1.args.len x.2.2.1.args.cap) 43 21 xs /\ ∃ (ys : List (List Value)), RowsOk 21 ys /\ SrcIn 
    m'_2 h' (Sl.mk s.a s.len s.cap) 21 ys /\ (xs.length + ys.length) * 280 <= 140737488355328 /\ xs.length + ys.length <= 140737488355328 /\ ∀ (s' : Sl) (m' : MH), MGrown m'_2 m' 
    (Sl.mk x.2.2.1.args.a x.2.2.1.args.len x.2.2.1.args.cap) s' 43 21 (xs ++ ys) -> Disj m' h' -> ∃ (x_1 : QV × QV × MH × PH), I x_1 /\ eQ (sQs p) /\ eQ (sQp 5 0) /\ eQ (sQp 8 0) /\ eQ 
    (sQp 10 0) /\ eQ (sQp 13 0) /\ eQ (oQ 28 [aQi sc.version, aQs sc.tables]) /\ eQ (oQ 43 zQ) /\ oQ 43 (List.map At.val (QV.enc x.1)) = oQ 43 (List.map At.val (QV.enc x_1.1)) /\ oQ 43 
    [aQi x.2.2.1.op, aQi x.2.2.1.table, aQi x.2.2.1.where_.op, aQi x.2.2.1.where_.cmp, aQi x.2.2.1.where_.left.kind, aQi x.2.2.1.where_.left.index, aQi x.2.2.1.where_.left.value.kind, 
    aQi x.2.2.1.where_.left.value.int, At.val (Value.string x.2.2.1.where_.left.value.text), aQi x.2.2.1.where_.right.kind, aQi x.2.2.1.where_.right.index, aQi 
    x.2.2.1.where_.right.value.kind, aQi x.2.2.1.where_.right.value.int, At.val (Value.string x.2.2.1.where_.right.value.text), aQs x.2.2.1.where_.args, aQs x.2.2.1.columns, aQs o, aQs 
    x.2.2.1.group, aQs x.2.2.1.order, aQi x.2.2.1.limit, At.val (Value.slice s'.a s'.len s'.cap)] = oQ 43 (List.map At.val (QV.enc x_1.2.1)) /\ Froze m' h' x_1.2.2.1 x_1.2.2.2 /\ True) 
    (∃ (I_2 : Int × QV × QV × Sl × Bool × MH × PH -> Prop), branch (x.2.1 == 6) (∃ (x_1 : Int × QV × QV × Sl × Bool × MH × PH), I_2 x_1 /\ eQ (sQo cb 0) /\ eQ (sQs p) /\ eQ (sQp 5 0) 
    /\ eQ (sQp 8 0) /\ eQ (sQp 10 0) /\ sQs x.2.2.2.2.1 = sQs x_1.2.2.2.1 /\ eQ (sQp 13 0) /\ sQi x.2.1 = sQi x_1.1 /\ sQb true = sQb x_1.2.2.2.2.1 /\ eQ (oQ 28 [aQi sc.version, aQs 
    sc.tables]) /\ eQ (oQ 43 zQ) /\ oQ 43 (List.map At.val (QV.enc x.2.2.1)) = oQ 43 (List.map At.val (QV.enc x_1.2.1)) /\ oQ 43 (List.map At.val (QV.enc x.2.2.2.1)) = oQ 43 (List.map 
    At.val (QV.enc x_1.2.2.1)) /\ x.2.2.2.2.2.2.1 = x_1.2.2.2.2.2.1 /\ x.2.2.2.2.2.2.2 = x_1.2.2.2.2.2.2 /\ True) (branch (x.2.1 == 7) (∃ (x_1 : Int × QV × QV × Sl × Bool × MH × PH), 
    I_2 x_1 /\ eQ (sQo cb 0) /\ eQ (sQs p) /\ eQ (sQp 5 0) /\ eQ (sQp 8 0) /\ eQ (sQp 10 0) /\ sQs x.2.2.2.2.1 = sQs x_1.2.2.2.1 /\ eQ (sQp 13 0) /\ sQi x.2.1 = sQi x_1.1 /\ sQb true = 
    sQb x_1.2.2.2.2.1 /\ eQ (oQ 28 [aQi sc.version, aQs sc.tables]) /\ eQ (oQ 43 zQ) /\ oQ 43 (List.map At.val (QV.enc x.2.2.1)) = oQ 43 (List.map At.val (QV.enc x_1.2.1)) /\ oQ 43 
    (List.map At.val (QV.enc x.2.2.2.1)) = oQ 43 (List.map At.val (QV.enc x_1.2.2.1)) /\ x.2.2.2.2.2.2.1 = x_1.2.2.2.2.2.1 /\ x.2.2.2.2.2.2.2 = x_1.2.2.2.2.2.2 /\ True) (∃ (x_1 : Int × 
    QV × QV × Sl × Bool × MH × PH), I_2 x_1 /\ eQ (sQo cb 0) /\ eQ (sQs p) /\ eQ (sQp 5 0) /\ eQ (sQp 8 0) /\ eQ (sQp 10 0) /\ sQs x.2.2.2.2.1 = sQs x_1.2.2.2.1 /\ eQ (sQp 13 0) /\ sQi 
    x.2.1 = sQi x_1.1 /\ sQb (x.2.1 == 8) = sQb x_1.2.2.2.2.1 /\ eQ (oQ 28 [aQi sc.version, aQs sc.tables]) /\ eQ (oQ 43 zQ) /\ oQ 43 (List.map At.val (QV.enc x.2.2.1)) = oQ 43 
    (List.map At.val (QV.enc x_1.2.1)) /\ oQ 43 (List.map At.val (QV.enc x.2.2.2.1)) = oQ 43 (List.map At.val (QV.enc x_1.2.2.1)) /\ x.2.2.2.2.2.2.1 = x_1.2.2.2.2.2.1 /\ 
    x.2.2.2.2.2.2.2 = x_1.2.2.2.2.2.2 /\ True)) /\ ∀ (x : Int × QV × QV × Sl × Bool × MH × PH), I_2 x -> branch x.2.2.2.2.1 (∃ (cb_3 : Nat), ∃ (sc_3 : SchV), ∃ (p_3 : Sl), ∃ (k : Sl), 
    ∃ (v : QV), ∃ (s : Sch), ∃ (ps : List Int), ∃ (ks : List Int), ∃ (q : Query), [cQp cb 0, cQa [vQi sc.version, vQs sc.tables], cQs p, cQs x.2.2.2.1, cQa (QV.enc x.2.1)] = [cQp cb_3 
    0, cQa [vQi sc_3.version, vQs sc_3.tables], cQs p_3, cQs k, cQa (QV.enc v)] /\ CaseOk x.2.2.2.2.2.1 x.2.2.2.2.2.2 cb_3 /\ RepS x.2.2.2.2.2.2 s sc_3 /\ small8 s /\ s.tables.length 
    <= 1000 /\ Ints x.2.2.2.2.2.2 p_3 ps /\ ps.length <= 1000 /\ Ints x.2.2.2.2.2.2 k ks /\ ks.length <= 1000 /\ RepQ x.2.2.2.2.2.2 q v /\ ∀ (w : QV) (q : Query) (m' : MH) (h' : PH), 
    x.2.2.2.2.2.2.le h' -> RepQ h' q w -> MOther x.2.2.2.2.2.1 m' cb_3 -> CaseOk m' h' cb_3 -> ∀ (s : Sl) (m'_2 : MH), MNew m' m'_2 h' s 43 21 [(QV.enc w)] -> ∃ (xs : List (List 
    Value)), MRow m'_2 (Sl.mk x.2.2.1.args.a x.2.2.1.args.len x.2.2.1.args.cap) 43 21 xs /\ ∃ (ys : List (List Value)), RowsOk 21 ys /\ SrcIn m'_2 h' (Sl.mk s.a s.len s.cap) 21 ys /\ 
    (xs.length + ys.length) * 280 <= 140737488355328 /\ xs.length + ys.length <= 140737488355328 /\ ∀ (s' : Sl) (m' : MH), MGrown m'_2 m' (Sl.mk x.2.2.1.args.a x.2.2.1.args.len 
    x.2.2.1.args.cap) s' 43 21 (xs ++ ys) -> Disj m' h' -> ∃ (x_1 : QV × QV × MH × PH), I x_1 /\ eQ (sQs p) /\ eQ (sQp 5 0) /\ eQ (sQp 8 0) /\ eQ (sQp 10 0) /\ eQ (sQp 13 0) /\ eQ (oQ 
    28 [aQi sc.version, aQs sc.tables]) /\ eQ (oQ 43 zQ) /\ oQ 43 (List.map At.val (QV.enc x.2.1)) = oQ 43 (List.map At.val (QV.enc x_1.1)) /\ oQ 43 [aQi x.2.2.1.op, aQi x.2.2.1.table, 
    aQi x.2.2.1.where_.op, aQi x.2.2.1.where_.cmp, aQi x.2.2.1.where_.left.kind, aQi x.2.2.1.where_.left.index, aQi x.2.2.1.where_.left.value.kind, aQi x.2.2.1.where_.left.value.int, 
    At.val (Value.string x.2.2.1.where_.left.value.text), aQi x.2.2.1.where_.right.kind, aQi x.2.2.1.where_.right.index, aQi x.2.2.1.where_.right.value.kind, aQi 
    x.2.2.1.where_.right.value.int, At.val (Value.string x.2.2.1.where_.right.value.text), aQs x.2.2.1.where_.args, aQs x.2.2.1.columns, aQs x.2.2.1.on, aQs x.2.2.1.group, aQs 
    x.2.2.1.order, aQi x.2.2.1.limit, At.val (Value.slice s'.a s'.len s'.cap)] = oQ 43 (List.map At.val (QV.enc x_1.2.1)) /\ Froze m' h' x_1.2.2.1 x_1.2.2.2 /\ True) (branch (x.1 == 9) 
    (∃ (cb_3 : Nat), ∃ (v : QV), ∃ (s : Sl), ∃ (kinds : List Int), [cQp cb 0, cQa (QV.enc x.2.2.1), cQs x.2.2.2.1] = [cQp cb_3 0, cQa [vQi v.op, vQi v.table, vQi v.where_.op, vQi 
    v.where_.cmp, vQi v.where_.left.kind, vQi v.where_.left.index, vQi v.where_.left.value.kind, vQi v.where_.left.value.int, Value.string v.where_.left.value.text, vQi 
    v.where_.right.kind, vQi v.where_.right.index, vQi v.where_.right.value.kind, vQi v.where_.right.value.int, Value.string v.where_.right.value.text, vQs v.where_.args, vQs 
    v.columns, vQs v.on, vQn, vQn, vQi v.limit, vQs v.args], cQs s] /\ CaseOk x.2.2.2.2.2.1 x.2.2.2.2.2.2 cb_3 /\ Ints x.2.2.2.2.2.2 s kinds /\ kinds.length <= 1000 /\ ∀ (g o : Sl) (k 
    : Int) (gr : List Int) (od : List (Int × Bool)) (m' : MH) (h' : PH), x.2.2.2.2.2.2.le h' -> Ints h' g gr -> Sorts h' o od -> gr.length <= kinds.length -> od.length <= kinds.length 
    -> 0 <= k -> k <= 3 -> MOther x.2.2.2.2.2.1 m' cb_3 -> CaseOk m' h' cb_3 -> Disj m' h' -> ∃ (x_1 : QV × QV × MH × PH), I x_1 /\ eQ (sQs p) /\ eQ (sQp 5 0) /\ eQ (sQp 8 0) /\ eQ 
    (sQp 10 0) /\ eQ (sQp 13 0) /\ eQ (oQ 28 [aQi sc.version, aQs sc.tables]) /\ eQ (oQ 43 zQ) /\ oQ 43 (List.map At.val (QV.enc x.2.1)) = oQ 43 (List.map At.val (QV.enc x_1.1)) /\ oQ 
    43 [aQi v.op, aQi v.table, aQi v.where_.op, aQi v.where_.cmp, aQi v.where_.left.kind, aQi v.where_.left.index, aQi v.where_.left.value.kind, aQi v.where_.left.value.int, At.val 
    (Value.string v.where_.left.value.text), aQi v.where_.right.kind, aQi v.where_.right.index, aQi v.where_.right.value.kind, aQi v.where_.right.value.int, At.val (Value.string 
    v.where_.right.value.text), aQs v.where_.args, aQs v.columns, aQs v.on, aQs g, aQs o, aQi k, aQs v.args] = oQ 43 (List.map At.val (QV.enc x_1.2.1)) /\ Froze m' h' x_1.2.2.1 
    x_1.2.2.2 /\ True) (branch (x.1 == 10) (∃ (cb_3 : Nat), ∃ (v : QV), ∃ (s : Sl), ∃ (kinds : List Int), [cQp cb 0, cQa (QV.enc x.2.2.1), cQs x.2.2.2.1] = [cQp cb_3 0, cQa [vQi v.op, 
    vQi v.table, vQi v.where_.op, vQi v.where_.cmp, vQi v.where_.left.kind, vQi v.where_.left.index, vQi v.where_.left.value.kind, vQi v.where_.left.value.int, Value.string 
    v.where_.left.value.text, vQi v.where_.right.kind, vQi v.where_.right.index, vQi v.where_.right.value.kind, vQi v.where_.right.value.int, Value.string v.where_.right.value.text, 
    vQs v.where_.args, vQs v.columns, vQs v.on, vQn, vQn, vQi v.limit, vQs v.args], cQs s] /\ CaseOk x.2.2.2.2.2.1 x.2.2.2.2.2.2 cb_3 /\ Ints x.2.2.2.2.2.2 s kinds /\ kinds.length <= 
    1000 /\ ∀ (g o : Sl) (k : Int) (gr : List Int) (od : List (Int × Bool)) (m' : MH) (h' : PH), x.2.2.2.2.2.2.le h' -> Ints h' g gr -> Sorts h' o od -> gr.length <= kinds.length -> 
    od.length <= kinds.length -> 0 <= k -> k <= 3 -> MOther x.2.2.2.2.2.1 m' cb_3 -> CaseOk m' h' cb_3 -> ∃ (cb_4 : Nat), ∃ (sc_3 : SchV), ∃ (p_3 : Sl), ∃ (k_1 : Sl), ∃ (v_1 : QV), ∃ 
    (s : Sch), ∃ (ps : List Int), ∃ (ks : List Int), ∃ (q : Query), [cQp cb 0, cQa [vQi sc.version, vQs sc.tables], cQs p, cQs x.2.2.2.1, cQa (QV.enc x.2.1)] = [cQp cb_4 0, cQa [vQi 
    sc_3.version, vQs sc_3.tables], cQs p_3, cQs k_1, cQa (QV.enc v_1)] /\ CaseOk m' h' cb_4 /\ RepS h' s sc_3 /\ small8 s /\ s.tables.length <= 1000 /\ Ints h' p_3 ps /\ ps.length <= 
    1000 /\ Ints h' k_1 ks /\ ks.length <= 1000 /\ RepQ h' q v_1 /\ ∀ (w : QV) (q : Query) (m'_2 : MH) (h'_2 : PH), h'.le h'_2 -> RepQ h'_2 q w -> MOther m' m'_2 cb_4 -> CaseOk m'_2 
    h'_2 cb_4 -> ∀ (s : Sl) (m' : MH), MNew m'_2 m' h'_2 s 43 21 [(QV.enc w)] -> ∃ (xs : List (List Value)), MRow m' (Sl.mk v.args.a v.args.len v.args.cap) 43 21 xs /\ ∃ (ys : List 
    (List Value)), RowsOk 21 ys /\ SrcIn m' h'_2 (Sl.mk s.a s.len s.cap) 21 ys /\ (xs.length + ys.length) * 280 <= 140737488355328 /\ xs.length + ys.length <= 140737488355328 /\ ∀ (s' 
    : Sl) (m'_3 : MH), MGrown m' m'_3 (Sl.mk v.args.a v.args.len v.args.cap) s' 43 21 (xs ++ ys) -> Disj m'_3 h'_2 -> ∃ (x_1 : QV × QV × MH × PH), I x_1 /\ eQ (sQs p) /\ eQ (sQp 5 0) 
    /\ eQ (sQp 8 0) /\ eQ (sQp 10 0) /\ eQ (sQp 13 0) /\ eQ (oQ 28 [aQi sc.version, aQs sc.tables]) /\ eQ (oQ 43 zQ) /\ oQ 43 (List.map At.val (QV.enc x.2.1)) = oQ 43 (List.map At.val 
    (QV.enc x_1.1)) /\ oQ 43 [aQi v.op, aQi v.table, aQi v.where_.op, aQi v.where_.cmp, aQi v.where_.left.kind, aQi v.where_.left.index, aQi v.where_.left.value.kind, aQi 
    v.where_.left.value.int, At.val (Value.string v.where_.left.value.text), aQi v.where_.right.kind, aQi v.where_.right.index, aQi v.where_.right.value.kind, aQi 
    v.where_.right.value.int, At.val (Value.string v.where_.right.value.text), aQs v.where_.args, aQs v.columns, aQs v.on, aQs g, aQs o, aQi k, At.val (Value.slice s'.a s'.len s'.cap)] 
    = oQ 43 (List.map At.val (QV.enc x_1.2.1)) /\ Froze m'_3 h'_2 x_1.2.2.1 x_1.2.2.2 /\ True) ((∃ (cb_3 : Nat), ∃ (s : Sl), ∃ (t : Sl), ∃ (cols : List Int), ∃ (params : List Int), ∃ 
    (deep : Nat), [cQp cb 0, cQs x.2.2.2.1, cQs p, cQi 2] = [cQp cb_3 0, cQs s, cQs t, cQi (↑deep : Int)] /\ CaseOk x.2.2.2.2.2.1 x.2.2.2.2.2.2 cb_3 /\ Ints x.2.2.2.2.2.2 s cols /\ 
    Ints x.2.2.2.2.2.2 t params /\ cols.length <= 1000 /\ params.length <= 1000 /\ deep <= 1000 /\ ∀ (v : PV) (p_3 : Pred) (m' : MH) (h' : PH), x.2.2.2.2.2.2.le h' -> RepP h' p_3 v -> 
    PredW p_3 -> MOther x.2.2.2.2.2.1 m' cb_3 -> CaseOk m' h' cb_3 -> ∀ (s : Sl) (m'_2 : MH), MNew m' m'_2 h' s 43 21 [(QV.enc x.2.1)] -> Disj m'_2 h' -> ∃ (x_1 : QV × QV × MH × PH), I 
    x_1 /\ eQ (sQs p) /\ eQ (sQp 5 0) /\ eQ (sQp 8 0) /\ eQ (sQp 10 0) /\ eQ (sQp 13 0) /\ eQ (oQ 28 [aQi sc.version, aQs sc.tables]) /\ eQ (oQ 43 zQ) /\ oQ 43 (List.map At.val (QV.enc 
    x.2.1)) = oQ 43 (List.map At.val (QV.enc x_1.1)) /\ oQ 43 [aQi 2, aQi 0, aQi v.op, aQi v.cmp, aQi v.left.kind, aQi v.left.index, aQi v.left.value.kind, aQi v.left.value.int, At.val 
    (Value.string v.left.value.text), aQi v.right.kind, aQi v.right.index, aQi v.right.value.kind, aQi v.right.value.int, At.val (Value.string v.right.value.text), aQs v.args, aQn, 
    aQn, aQn, aQn, aQi 0, aQs s] = oQ 43 (List.map At.val (QV.enc x_1.2.1)) /\ Froze m'_2 h' x_1.2.2.1 x_1.2.2.2 /\ True) /\ ∀ (s : Sl) (m' : MH), MNew x.2.2.2.2.2.1 m' x.2.2.2.2.2.2 s 
    43 21 [(QV.enc x.2.1)] -> ∃ (cb_3 : Nat), ∃ (s_1 : Sl), ∃ (t : Sl), ∃ (cols : List Int), ∃ (params : List Int), ∃ (deep : Nat), [cQp cb 0, cQs x.2.2.2.1, cQs p, cQi 2] = [cQp cb_3 
    0, cQs s_1, cQs t, cQi (↑deep : Int)] /\ CaseOk m' x.2.2.2.2.2.2 cb_3 /\ Ints x.2.2.2.2.2.2 s_1 cols /\ Ints x.2.2.2.2.2.2 t params /\ cols.length <= 1000 /\ params.length <= 1000 
    /\ deep <= 1000 /\ ∀ (v : PV) (p_3 : Pred) (m'_2 : MH) (h' : PH), x.2.2.2.2.2.2.le h' -> RepP h' p_3 v -> PredW p_3 -> MOther m' m'_2 cb_3 -> CaseOk m'_2 h' cb_3 -> Disj m'_2 h' -> 
    ∃ (x_1 : QV × QV × MH × PH), I x_1 /\ eQ (sQs p) /\ eQ (sQp 5 0) /\ eQ (sQp 8 0) /\ eQ (sQp 10 0) /\ eQ (sQp 13 0) /\ eQ (oQ 28 [aQi sc.version, aQs sc.tables]) /\ eQ (oQ 43 zQ) /\ 
    oQ 43 (List.map At.val (QV.enc x.2.1)) = oQ 43 (List.map At.val (QV.enc x_1.1)) /\ oQ 43 [aQi 2, aQi 0, aQi v.op, aQi v.cmp, aQi v.left.kind, aQi v.left.index, aQi 
    v.left.value.kind, aQi v.left.value.int, At.val (Value.string v.left.value.text), aQi v.right.kind, aQi v.right.index, aQi v.right.value.kind, aQi v.right.value.int, At.val 
    (Value.string v.right.value.text), aQs v.args, aQn, aQn, aQn, aQn, aQi 0, aQs s] = oQ 43 (List.map At.val (QV.enc x_1.2.1)) /\ Froze m'_2 h' x_1.2.2.1 x_1.2.2.2 /\ True))))) /\ ∀ 
    (x : QV × QV × MH × PH), I x -> ∃ (sc_3 : SchV), ∃ (p_3 : Sl), ∃ (v : QV), ∃ (s : Sch), ∃ (ps : List Int), ∃ (q : Query), [cQa [vQi sc.version, vQs sc.tables], cQs p, cQa (QV.enc 
    x.2.1)] = [cQa [vQi sc_3.version, vQs sc_3.tables], cQs p_3, cQa (QV.enc v)] /\ RepS x.2.2.2 s sc_3 /\ Ints x.2.2.2 p_3 ps /\ RepQ x.2.2.2 q v /\ ∀ (sl : Sl) (h' : PH), x.2.2.2.le 
    h' -> Ints h' sl (queryR s ps q).1 -> branch ((queryR s ps q).2 != 0) (K (cQa (QV.enc x.1)) x.2.2.1 h') (K (cQa (QV.enc x.2.1)) x.2.2.1 h'))))
theorem f18_vc (N : Nat) (cb : Nat) (sc : SchV) (p : Sl) (deep : Int) (m : MH) (h : PH) (K : CV → MH → PH → Prop) : f18_nice N cb sc p deep m h K = (fnVC (f18_ctx N cb sc p) Tryz.f18 (bodyOf Tryz.f18) (entry Tryz.f18.ntmps [cP cb, aS sc, cS p, cI deep] m h) K) := by kernel_rfl
/-! ### Rows in m that are new since m0 -/
structure FRow (m0 m : MH) (s : Sl) (E : TypeId) (sz : Nat) (xs : List (List Value)) : Prop where
  row : MRow m s E sz xs
  fresh : ∀ b i, s.a = some ⟨b, i, none⟩ → m0 b = none
def Kept (m0 m : MH) (cb : Nat) : Prop := ∀ b o, m0 b = some o → b ≠ cb → m b = some o
theorem Kept.of {m0 m : MH} {cb : Nat} (h : MOther m0 m cb) : Kept m0 m cb := fun b o e n => by rw [h.other b n]; exact e
theorem Kept.on {m0 m m' : MH} {cb : Nat} (k : Kept m0 m cb) (h : MOther m m' cb) : Kept m0 m' cb := fun b o e n => by rw [h.other b n]; exact k b o e n
theorem CaseOk.blk {m : MH} {h : PH} {cb : Nat} (c : CaseOk m h cb) : ∃ cs, m cb = some (.cells cs 68 (0, 0)) := by
  obtain ⟨r, q, cs, k, q1, _⟩ := c
  exact ⟨_, q1⟩
theorem CaseOk.keep {m m' : MH} {h h' : PH} {cb : Nat} (c : CaseOk m h cb) (e : m' cb = m cb) (le : PH.le h h') : CaseOk m' h' cb := by
  obtain ⟨r, q, cs, k, q1, q2, q3⟩ := c
  exact ⟨r, q, cs, k, by rw [e]; exact q1, q2.mono le, q3⟩
theorem Kept.free {m0 m : MH} {h : PH} {cb b : Nat} (k : Kept m0 m cb) (c : CaseOk m h cb) (hb : m b = none) : m0 b = none := by
  cases e : m0 b with
  | none => rfl
  | some o =>
    by_cases hc : b = cb
    · obtain ⟨cs, e2⟩ := c.blk
      rw [hc, e2] at hb; cases hb
    · rw [k b o e hc] at hb; cases hb
theorem MRow.nil (m : MH) (E : TypeId) (sz : Nat) : MRow m nilS E sz [] := ⟨⟨fun _ h => by simp at h, fun _ h => by simp at h⟩, .inl ⟨rfl, rfl⟩⟩
theorem FRow.nil (m0 m : MH) (E : TypeId) (sz : Nat) : FRow m0 m nilS E sz [] := ⟨MRow.nil m E sz, fun b i e => by cases e⟩
theorem FRow.on {m0 m m' : MH} {h : PH} {cb : Nat} {s : Sl} {E : TypeId} {sz : Nat} {xs : List (List Value)} (r : FRow m0 m s E sz xs) (o : MOther m m' cb) (c : CaseOk m h cb) (hE : E ≠ 68) : FRow m0 m' s E sz xs := by
  refine ⟨MRow.keep r.row (fun b i e => o.other b (fun e2 => ?_)), r.fresh⟩
  obtain ⟨cur, h1⟩ := MRow.blk r.row e
  obtain ⟨cs, h2⟩ := c.blk
  rw [e2, h2] at h1
  simp only [Option.some.injEq, Obj.cells.injEq] at h1
  exact hE h1.2.1.symm
theorem FRow.new {m0 m m' : MH} {h : PH} {s t : Sl} {E E' : TypeId} {sz sz' : Nat} {xs ys : List (List Value)} (r : FRow m0 m s E sz xs) (x : MNew m m' h t E' sz' ys) : FRow m0 m' s E sz xs := by
  refine ⟨MRow.keep r.row (fun b i e => x.other b (fun j e2 => ?_)), r.fresh⟩
  obtain ⟨cur, h1⟩ := MRow.blk r.row e
  rw [(x.fresh b j e2).m_] at h1; cases h1
theorem MNew.frow {m0 m m' : MH} {h : PH} {cb : Nat} {s : Sl} {E : TypeId} {sz : Nat} {xs : List (List Value)} (x : MNew m m' h s E sz xs) (k : Kept m0 m cb) (c : CaseOk m h cb) : FRow m0 m' s E sz xs := ⟨x.row, fun b i e => k.free c (x.fresh b i e).m_⟩
theorem MNew.at_cb {m m' : MH} {h : PH} {cb : Nat} {s : Sl} {E : TypeId} {sz : Nat} {xs : List (List Value)} (x : MNew m m' h s E sz xs) (c : CaseOk m h cb) : m' cb = m cb := x.other cb (fun i e => by
  obtain ⟨cs, e2⟩ := c.blk
  rw [(x.fresh cb i e).m_] at e2; cases e2)
theorem Kept.new {m0 m m' : MH} {h : PH} {cb : Nat} {s : Sl} {E : TypeId} {sz : Nat} {xs : List (List Value)} (k : Kept m0 m cb) (x : MNew m m' h s E sz xs) : Kept m0 m' cb := fun b o e n => by
  rw [x.other b (fun i e2 => by have := (x.fresh b i e2).m_; rw [k b o e n] at this; cases this)]; exact k b o e n
theorem FRow.grown {m0 m m' : MH} {h : PH} {cb : Nat} {s s' : Sl} {E : TypeId} {sz : Nat} {xs zs : List (List Value)} (r : FRow m0 m s E sz xs) (x : MGrown m m' s s' E sz zs) (k : Kept m0 m cb) (c : CaseOk m h cb) : FRow m0 m' s' E sz zs :=
  ⟨x.row, fun b i e => by
    rcases x.fresh b i e with h1 | ⟨j, h1⟩
    · exact k.free c h1
    · exact r.fresh b j h1⟩
theorem FRow.apart {m0 m m' : MH} {s t t' : Sl} {E E' : TypeId} {sz sz' : Nat} {xs ys zs : List (List Value)} (r : FRow m0 m s E sz xs) (q : FRow m0 m t E' sz' ys) (x : MGrown m m' t t' E' sz' zs) (hE : E ≠ E') : FRow m0 m' s E sz xs := by
  refine ⟨MRow.keep r.row (fun b i e => ?_), r.fresh⟩
  obtain ⟨cur, h1⟩ := MRow.blk r.row e
  rw [h1]
  refine x.other b _ h1 (fun j e2 => ?_)
  obtain ⟨cur2, h2⟩ := MRow.blk q.row e2
  rw [h1] at h2
  simp only [Option.some.injEq, Obj.cells.injEq] at h2
  exact hE h2.2.1
theorem Kept.grown {m0 m m' : MH} {cb : Nat} {s s' : Sl} {E : TypeId} {sz : Nat} {xs zs : List (List Value)} (k : Kept m0 m cb) (r : FRow m0 m s E sz xs) (x : MGrown m m' s s' E sz zs) : Kept m0 m' cb := fun b o e n => x.other b o (k b o e n) (fun i e2 => by rw [r.fresh b i e2] at e; cases e)
theorem MGrown.at_cb {m0 m m' : MH} {h : PH} {cb : Nat} {s s' : Sl} {E : TypeId} {sz : Nat} {xs zs : List (List Value)} (x : MGrown m m' s s' E sz zs) (r : FRow m0 m s E sz xs) (c : CaseOk m h cb) (hE : E ≠ 68) : m' cb = m cb := by
  obtain ⟨cs, e⟩ := c.blk
  rw [e]
  refine x.other cb _ e (fun i e2 => ?_)
  obtain ⟨cur, h1⟩ := MRow.blk r.row e2
  rw [e] at h1
  simp only [Option.some.injEq, Obj.cells.injEq] at h1
  exact hE h1.2.1.symm
theorem rows_len {sz : Nat} : ∀ {xs : List (List Value)}, (∀ e ∈ xs, e.length = sz) → xs.flatten.length = xs.length * sz
  | [], _ => by simp
  | x :: xs, h => by
    simp only [List.flatten_cons, List.length_append, List.length_cons]
    rw [rows_len (fun e he => h e (by simp [he])), h x (by simp), Nat.add_mul]; omega
theorem MRow.src {m : MH} {h : PH} {s : Sl} {E : TypeId} {sz : Nat} {x : List Value} {xs : List (List Value)} (r : MRow m s E sz (x :: xs)) : SrcIn m h s sz (x :: xs) := by
  rcases r.ex with ⟨_, e⟩ | ⟨b, cap, cur, rfl, hm, _, _, _, ht⟩
  · cases e
  · exact .lent b 0 cur E (0, 0) rfl rfl hm (by rw [List.drop_zero, rows_len r.rows.len]; exact ht)
/-! ### Freezing all that is new -/
def keepM (m0 m : MH) : MH := fun b => match m0 b with | some _ => m b | none => none
def iceH (m0 m : MH) (h : PH) : PH := fun b i => match m0 b, m b with | none, some (.cells cs _ _) => cs[i]? | _, _ => h b i
theorem ice_le {m0 m : MH} {h : PH} (d : Disj m h) : PH.le h (iceH m0 m h) := ⟨fun b i v e => by
  unfold iceH
  split
  · rename_i cs E fz h1 h2
    rw [d.disj b _ h2 i] at e; cases e
  · exact e⟩
theorem ice_froze {m0 m : MH} {h : PH} (d : Disj m h) : Froze m h (keepM m0 m) (iceH m0 m h) := by
  refine ⟨fun b o e => ?_, ice_le d, fun b i v e => ?_⟩
  · unfold keepM at e
    split at e
    · exact e
    · cases e
  · unfold iceH at e
    split at e
    · rename_i cs E fz h1 h2
      exact .inr ⟨cs, E, fz, h2, e, by unfold keepM; rw [h1]⟩
    · exact .inl e
/-- The same, where something was frozen. -/
theorem FT {p : Prop} (h : p := by repeat' (first | with_reducible rfl | exact trivial | exact ice_froze (by assumption) | refine ⟨?_, ?_⟩ | rfl)) : p := h
theorem FRow.ice {m0 m : MH} {h : PH} {s : Sl} {E : TypeId} {sz : Nat} {xs : List (List Value)} (r : FRow m0 m s E sz xs) : RowIn (iceH m0 m h) s sz xs := by
  rcases r.row.ex with ⟨rfl, rfl⟩ | ⟨b, cap, cur, rfl, hm, _, _, _, ht⟩
  · exact RowIn.nil _ _
  · have h0 := r.fresh b 0 rfl
    refine ⟨rfl, .inr ⟨b, 0, rfl, fun i e hi => ⟨fun j v hj => ?_⟩⟩⟩
    have h1 := flatten_get r.row.rows.len hi j v hj
    rw [← ht, List.getElem?_take] at h1
    split at h1
    · unfold iceH
      rw [h0, hm]
      simp only [Nat.zero_add]
      rw [← Array.getElem?_toList]; exact h1
    · cases h1
theorem keep_other {m0 m : MH} {cb : Nat} (k : Kept m0 m cb) : MOther m0 (keepM m0 m) cb := ⟨fun b hb => by
  unfold keepM
  cases e : m0 b with
  | none => rfl
  | some o => exact k b o e hb⟩
theorem keep_case {m0 m : MH} {h : PH} {cb : Nat} (c : CaseOk m h cb) (h0 : m0 cb ≠ none) (d : Disj m h) : CaseOk (keepM m0 m) (iceH m0 m h) cb := c.keep (by
  unfold keepM
  cases e : m0 cb with
  | none => exact (h0 e).elim
  | some o => rfl) (ice_le d)
/-- A query whose columns and arguments are new rows in m. -/
structure QM (m0 m : MH) (h : PH) (v : QV) (vs : List QV) : Prop where
  wher : ∃ w, RepP h w v.where_
  cols : ∃ co : List Int, FRow m0 m v.columns 3 1 (co.map eI) ∧ co.length ≤ 1000
  on_ : ∃ l, Pairs h v.on l
  group_ : ∃ l, Ints h v.group l
  order_ : ∃ l, Sorts h v.order l
  args_ : FRow m0 m v.args 43 21 (vs.map QV.enc)
  len_ : vs.length ≤ 10
  reps : ∀ v ∈ vs, ∃ q, RepQ h q v
theorem reps_all {h : PH} : ∀ {vs : List QV}, (∀ v ∈ vs, ∃ q, RepQ h q v) → ∃ qs : List Query, qs.length = vs.length ∧ ∀ (i : Nat) q, qs[i]? = some q → ∃ v, vs[i]? = some v ∧ RepQ h q v
  | [], _ => ⟨[], rfl, fun i q e => by simp at e⟩
  | v :: vs, h1 => by
    obtain ⟨q, hq⟩ := h1 v (by simp)
    obtain ⟨qs, e1, e2⟩ := reps_all (vs := vs) (fun u hu => h1 u (by simp [hu]))
    refine ⟨q :: qs, by simp [e1], fun i x e => ?_⟩
    cases i with
    | zero => simp at e; subst e; exact ⟨v, rfl, hq⟩
    | succ i => simpa using e2 i x (by simpa using e)
theorem QM.ice {m0 m : MH} {h : PH} {v : QV} {vs : List QV} (x : QM m0 m h v vs) (d : Disj m h) : ∃ q, RepQ (iceH m0 m h) q v := by
  obtain ⟨w, hw⟩ := x.wher
  obtain ⟨co, hc, hcl⟩ := x.cols
  obtain ⟨on, ho⟩ := x.on_
  obtain ⟨gr, hg⟩ := x.group_
  obtain ⟨od, hod⟩ := x.order_
  obtain ⟨qs, e1, e2⟩ := reps_all x.reps
  have le := ice_le (m0 := m0) d
  have hl := x.len_
  exact ⟨_, QParts.rep ⟨rfl, rfl, hw.mono le, ⟨hc.ice, by omega⟩, ho.mono le, hg.mono le, hod.mono le, rfl, ⟨⟨vs, x.args_.ice, e1, fun i q e => let ⟨v, k1, k2⟩ := e2 i q e; ⟨v, k1, k2.mono le⟩⟩, by omega⟩⟩⟩
theorem QM.on {m0 m m' : MH} {h h' : PH} {cb : Nat} {v : QV} {vs : List QV} (x : QM m0 m h v vs) (o : MOther m m' cb) (c : CaseOk m h cb) (le : PH.le h h') : QM m0 m' h' v vs := by
  obtain ⟨w, hw⟩ := x.wher
  obtain ⟨co, hc, hcl⟩ := x.cols
  obtain ⟨on, ho⟩ := x.on_
  obtain ⟨gr, hg⟩ := x.group_
  obtain ⟨od, hod⟩ := x.order_
  exact ⟨⟨w, hw.mono le⟩, ⟨co, hc.on o c (by decide), hcl⟩, ⟨on, ho.mono le⟩, ⟨gr, hg.mono le⟩, ⟨od, hod.mono le⟩, x.args_.on o c (by decide), x.len_, fun v hv => let ⟨q, e⟩ := x.reps v hv; ⟨q, e.mono le⟩⟩
theorem QM.new {m0 m m' : MH} {h h' : PH} {v : QV} {vs : List QV} {t : Sl} {E : TypeId} {sz : Nat} {ys : List (List Value)} (x : QM m0 m h v vs) (n : MNew m m' h' t E sz ys) (le : PH.le h h') : QM m0 m' h' v vs := by
  obtain ⟨w, hw⟩ := x.wher
  obtain ⟨co, hc, hcl⟩ := x.cols
  obtain ⟨on, ho⟩ := x.on_
  obtain ⟨gr, hg⟩ := x.group_
  obtain ⟨od, hod⟩ := x.order_
  exact ⟨⟨w, hw.mono le⟩, ⟨co, hc.new n, hcl⟩, ⟨on, ho.mono le⟩, ⟨gr, hg.mono le⟩, ⟨od, hod.mono le⟩, x.args_.new n, x.len_, fun v hv => let ⟨q, e⟩ := x.reps v hv; ⟨q, e.mono le⟩⟩
theorem QM.grow {m0 m m' : MH} {h : PH} {cb : Nat} {v v' : QV} {vs : List QV} {s' : Sl} {u : QV} (x : QM m0 m h v vs) (g : MGrown m m' v.args s' 43 21 (vs.map QV.enc ++ [u.enc])) (k : Kept m0 m cb) (c : CaseOk m h cb) (hu : ∃ q, RepQ h q u) (hl : vs.length ≤ 9)
    (ew : v'.where_ = v.where_) (ec : v'.columns = v.columns) (eo : ∃ l, Pairs h v'.on l) (eg : ∃ l, Ints h v'.group l) (ed : ∃ l, Sorts h v'.order l) (ea : v'.args = s') : QM m0 m' h v' (vs ++ [u]) := by
  obtain ⟨co, hc, hcl⟩ := x.cols
  refine ⟨by rw [ew]; exact x.wher, ⟨co, by rw [ec]; exact hc.apart x.args_ g (by decide), hcl⟩, eo, eg, ed, by rw [ea, List.map_append]; exact x.args_.grown g k c, by simp; omega, fun v hv => ?_⟩
  rcases List.mem_append.1 hv with h1 | h1
  · exact x.reps v h1
  · simp at h1; subst h1; exact hu
end Go.Ps
namespace Go.Ps
open Go Go.Vc Go.Proofs
theorem sch_lim {s : Sch} (h : schErr s = 0) : SchLim s := Classical.byContradiction fun hn => by rw [schErr_lim hn] at h; cases h
theorem sch_small8 {s : Sch} (h : schErr s = 0) : small8 s := fun t ht => by
  obtain ⟨i, hi⟩ := List.mem_iff_getElem?.1 ht
  have := (sch_lim h).2 i t hi
  exact this.1
theorem sch_tables {s : Sch} (h : schErr s = 0) : s.tables.length ≤ 8 := (sch_lim h).1
theorem queryR_len (s : Sch) (ps : List Int) (q : Query) : (queryR s ps q).1.length ≤ 12 := by
  unfold queryR
  split
  · split
    · split
      · exact kindsQ_len s ps q
      · simp [errK]
    · simp [errK]
  · simp [errK]
theorem scan_ok {s : Sch} {ps : List Int} {t : Int} (he : schErr s = 0) (hp : ps.all colKind = true) (h0 : 0 ≤ t) (h1 : t < s.tables.length) : (queryR s ps (.mk 1 t zeroP [] [] [] [] 0 [])).2 = 0 := by
  have h8 := sch_small8 he
  have hk : (kindsT s t).length ≤ 12 := by
    unfold kindsT
    split
    · simp
    · split
      · simp
      · rename_i x hx
        have := h8 x (List.mem_of_getElem? hx)
        simp; omega
  have e1 : kindsQ s ps (.mk 1 t zeroP [] [] [] [] 0 []) = nodeR s ps (.mk 1 t zeroP [] [] [] [] 0 []) [] [] := by simp [kindsQ, kindsQs, arity]
  have e2 : smallQ (.mk 1 t zeroP [] [] [] [] 0 []) = true := by rfl
  unfold queryR
  rw [if_pos he, if_pos hp, if_pos e2, e1]
  unfold nodeR
  rw [if_neg (by simp [arity, UnusedOk])]
  simp only [if_true]
  rw [if_pos ⟨h0, h1⟩]
  unfold limK
  rw [if_pos hk]
/-- The query as it is made first. -/
structure Mid (m0 : MH) (h3 : PH) (cb : Nat) (a q : QV) (mx : MH) : Prop where
  case_ : CaseOk mx h3 cb
  kept : Kept m0 mx cb
  ex : ∃ o args, q = ⟨o, 0, zeroPV, nilS, nilS, nilS, nilS, 0, args⟩ ∧ FRow m0 mx args 43 21 ([a].map QV.enc)
theorem Mid.qm {m0 mx : MH} {h3 : PH} {cb : Nat} {a q : QV} (x : Mid m0 h3 cb a q mx) (hr : ∃ qa, RepQ h3 qa a) : QM m0 mx h3 q [a] := by
  obtain ⟨o, args, rfl, hf⟩ := x.ex
  exact ⟨⟨_, zeroP_rep h3⟩, ⟨[], FRow.nil _ _ _ _, by simp⟩, ⟨_, pairs_nil _⟩, ⟨_, ints_nil _⟩, ⟨_, sorts_nil _⟩, hf, by simp, fun v hv => by simp at hv; subst hv; exact hr⟩
theorem f18_ok {N cb : Nat} {sc : SchV} {p : Sl} {deep : Int} {s : Sch} {ps : List Int} {m : MH} {h : PH} {K : CV → MH → PH → Prop} (hc : CaseOk m h cb) (hs : RepS h s sc) (he : schErr s = 0) (hne : s.tables ≠ []) (hp : Ints h p ps) (hpl : ps.length ≤ 1000) (hpk : ps.all colKind = true) (d0 : -1 ≤ deep) (d1 : deep ≤ 1000) (hN : (deep + 1).toNat < N + 1)
    (hK : KQ2 K m h cb s ps) : f18_nice N cb sc p deep m h K := by
  have htl := hs.tables.slen
  have h8 := sch_small8 he
  have ht8 := sch_tables he
  have htp : 0 < s.tables.length := List.length_pos_iff.2 hne
  have hif : (if (sc.tables.len : Int) > 1 then (sc.tables.len : Int) else 1) = (sc.tables.len : Int) := by split <;> omega
  have hm0 : m cb ≠ none := by obtain ⟨cs, e⟩ := hc.blk; rw [e]; simp
  unfold f18_nice
  rw [hif]
  refine ⟨cb, 12, rfl, hc, fun k m1 k0 k1 o1 c1 => ?_⟩
  refine branch_dec (fun hd => ?_) (fun hd => branch_intro (fun _ => ?_) (fun _ => branch_intro (fun _ => ?_) (fun _ => ?_)))
  · exact ⟨cb, _, rfl, c1, fun k2 m2 k20 k21 o2 c2 => ⟨k2, rfl, hK _ _ m2 h (.refl _) (scan_rep h k2) (scan_ok he hpk k20 (by omega)) (o1.trans o2) c2⟩⟩
  · exact ⟨cb, _, rfl, c1, fun k2 m2 k20 k21 o2 c2 => ⟨k2, rfl, hK _ _ m2 h (.refl _) (scan_rep h k2) (scan_ok he hpk k20 (by omega)) (o1.trans o2) c2⟩⟩
  · exact ⟨cb, _, rfl, c1, fun k2 m2 k20 k21 o2 c2 => ⟨k2, rfl, hK _ _ m2 h (.refl _) (scan_rep h k2) (scan_ok he hpk k20 (by omega)) (o1.trans o2) c2⟩⟩
  have hw1 : IntKind.i64.wrap (deep - 1) = deep - 1 := wrap_id (by omega) (by omega)
  have hw2 : IntKind.i64.wrap (deep - 2) = deep - 2 := wrap_id (by omega) (by omega)
  rw [hw1]
  refine ⟨cb, sc, p, s, ps, deep - 1, rfl, c1, hs, he, hne, hp, hpl, hpk, by omega, by omega, by omega, fun a qa m2 h2 le2 ra qa0 o2 c2 => ⟨sc, p, a, s, ps, qa, rfl, hs.mono le2, hp.mono le2, ra, fun kk h3 le3 ik => ?_⟩⟩
  have hkl := queryR_len s ps qa
  generalize hks : (queryR s ps qa).fst = ks at ik hkl
  clear hks
  have hle3 : PH.le h h3 := le2.trans le3
  have ra3 : RepQ h3 qa a := ra.mono le3
  refine ⟨fun ⟨d, op, a', q, k', mx, hx⟩ => d = deep ∧ a' = a ∧ k' = kk ∧ hx = h3 ∧ Mid m h3 cb a q mx, fun s1 m3 hnew => ⟨(deep, IntKind.i64.wrap (1 + k), a, ⟨IntKind.i64.wrap (1 + k), 0, zeroPV, nilS, nilS, nilS, nilS, 0, s1⟩, kk, m3, h3), ⟨rfl, rfl, rfl, rfl, ?_⟩, MT⟩, ?_⟩
  · have k2 := (Kept.of o1).on o2
    have c3 := c2.mono le3
    exact ⟨c3.keep (MNew.at_cb hnew c3) (.refl _), k2.new hnew, _, _, rfl, MNew.frow hnew k2 c3⟩
  rintro ⟨deep, op, a', q, k', mx, hx⟩ ⟨rfl, rfl, rfl, rfl, mid⟩
  dsimp only
  have reach : ∀ (q : QV) (vs : List QV) (my : MH) (hy : PH), PH.le hx hy → Kept m my cb → CaseOk my hy cb → QM m my hy q vs → Disj my hy → PH.le hx (iceH m my hy) ∧ MOther m (keepM m my) cb ∧ CaseOk (keepM m my) (iceH m my hy) cb ∧ ∃ qq, RepQ (iceH m my hy) qq q := fun q vs my hy l k c x d => ⟨l.trans (ice_le d), keep_other k, keep_case c hm0 d, x.ice d⟩
  have hra : ∀ {hy : PH}, PH.le hx hy → ∃ q, RepQ hy q a' := fun l => ⟨qa, ra3.mono l⟩
  -- two rows are joined
  have join : ∀ (q : QV) (u : QV) (s1 : Sl) (my : MH) (hy : PH) (Q : Sl → MH → Prop), PH.le hx hy → Kept m my cb → CaseOk my hy cb → QM m my hy q [a'] → FRow m my s1 43 21 [u.enc] → (∃ qu, RepQ hy qu u) →
      (∀ s' m', (∀ q' : QV, q'.where_ = q.where_ → q'.columns = q.columns → (∃ l, Pairs hy q'.on l) → (∃ l, Ints hy q'.group l) → (∃ l, Sorts hy q'.order l) → q'.args = s' → QM m m' hy q' [a', u]) → Kept m m' cb → CaseOk m' hy cb → Q s' m') →
      ∃ xs, MRow my ⟨q.args.a, q.args.len, q.args.cap⟩ 43 21 xs ∧ ∃ ys, RowsOk 21 ys ∧ SrcIn my hy ⟨s1.a, s1.len, s1.cap⟩ 21 ys ∧ (xs.length + ys.length) * 280 ≤ 140737488355328 ∧ xs.length + ys.length ≤ 140737488355328 ∧ ∀ (s' : Sl) (m' : MH), MGrown my m' ⟨q.args.a, q.args.len, q.args.cap⟩ s' 43 21 (xs ++ ys) → Q s' m' :=
    fun q u s1 my hy Q l k c x f hu hQ => ⟨_, x.args_.row, [u.enc], rowsOk_q [u], MRow.src f.row, by simp, by simp, fun s' m' g => hQ s' m' (fun q' e1 e2 e3 e4 e5 e6 => x.grow g k c hu (by simp) e1 e2 e3 e4 e5 e6) (k.grown x.args_ g) (c.keep (MGrown.at_cb g x.args_ c (by decide)) (.refl _))⟩
  refine ⟨fun ⟨a2, q, my, hy⟩ => a2 = a' ∧ PH.le hx hy ∧ MOther m my cb ∧ CaseOk my hy cb ∧ ∃ qq, RepQ hy qq q, branch_intro (fun _ => ?_) (fun _ => ?_), ?_⟩
  · -- Project
    refine ⟨cb, 3, rfl, mid.case_, fun n m3 n0 n1 o3 c3 => ?_⟩
    refine ⟨fun ⟨a2, q, k2, n, my, hy⟩ => a2 = a' ∧ k2 = k' ∧ hy = hx ∧ -1 ≤ n ∧ n ≤ 2 ∧ CaseOk my hx cb ∧ Kept m my cb ∧ QM m my hx q [a'] ∧ ∃ co : List Int, FRow m my q.columns 3 1 (co.map eI) ∧ (co.length : Int) ≤ 2 - n, fun ⟨_, _, _, n, _, _⟩ => (n + 1).toNat, ⟨(a', q, k', n, m3, hx), ⟨rfl, rfl, rfl, by show -1 ≤ n; omega, by show n ≤ 2; omega, c3, mid.kept.on o3, (mid.qm ⟨qa, ra3⟩).on o3 mid.case_ (.refl _), [], ?_, by simp; omega⟩, MT⟩, ?_⟩
    · obtain ⟨o, args, rfl, hf⟩ := mid.ex
      exact FRow.nil _ _ _ _
    clear mid q c3 o3 m3 n0 n1 n
    rintro ⟨a2, q, k2, n, my, hy⟩ ⟨rfl, rfl, rfl, n0, n1, cy, ky, qm, co, fco, hcol⟩
    dsimp only
    refine branch_dec (fun hn => ⟨cb, _, rfl, cy, fun c m4 _ _ o4 c4 => ⟨_, (fco.on o4 cy (by decide)).row, by simp; omega, by simp; omega, fun s' m5 g => ?_⟩⟩) (fun hn d => ⟨(a2, q, keepM m my, iceH m my hy), ⟨rfl, reach q _ my hy (.refl _) ky cy qm d⟩, FT⟩)
    have f4 := fco.on o4 cy (by decide)
    have q4 := qm.on o4 cy (.refl _)
    have k4 := ky.on o4
    have f5 : FRow m m5 s' 3 1 ((co ++ [c]).map eI) := by rw [List.map_append]; exact f4.grown g k4 c4
    have hw3 : IntKind.i64.wrap (n - 1) = n - 1 := wrap_id (by omega) (by omega)
    rw [hw3]
    refine ⟨(a2, { q with columns := s' }, k2, n - 1, m5, hy), ⟨rfl, rfl, rfl, by show -1 ≤ n - 1; omega, by show n - 1 ≤ 2; omega, c4.keep (MGrown.at_cb g f4 c4 (by decide)) (.refl _), k4.grown f4 g, ⟨q4.wher, ⟨_, f5, by simp; omega⟩, q4.on_, q4.group_, q4.order_, q4.args_.apart f4 g (by decide), q4.len_, q4.reps⟩, _, f5, by simp; omega⟩, by show (n - 1 + 1).toNat < (n + 1).toNat; omega, MT⟩
  · refine ⟨fun ⟨d, op, a2, q, k2, t, my, hy⟩ => d = deep ∧ a2 = a' ∧ k2 = k' ∧ hy = hx ∧ Mid m hx cb a' q my, branch_intro (fun _ => ⟨(deep, op, a', q, k', true, mx, hx), ⟨rfl, rfl, rfl, rfl, mid⟩, MT⟩) (fun _ => ⟨(deep, op, a', q, k', op == 5, mx, hx), ⟨rfl, rfl, rfl, rfl, mid⟩, MT⟩), ?_⟩
    clear mid q mx
    rintro ⟨deep, op, a', q, k', t, mx, hx⟩ ⟨rfl, rfl, rfl, rfl, mid⟩
    dsimp only
    refine branch_intro (fun _ => ?_) (fun _ => ?_)
    · -- Join, Semi
      rw [hw2]
      refine ⟨cb, sc, p, s, ps, deep - 2, rfl, mid.case_, hs.mono hle3, he, hne, hp.mono hle3, hpl, hpk, by show -1 ≤ deep - 2; omega, by omega, by omega, fun b qb m5 h5 le5 rb _ o5 c5 => ⟨sc, p, b, s, ps, qb, rfl, hs.mono (hle3.trans le5), hp.mono (hle3.trans le5), rb, fun l h6 le6 il => ?_⟩⟩
      have hll := queryR_len s ps qb
      generalize hls : (queryR s ps qb).fst = ls at il hll
      have q6 : QM m m5 h6 q [a'] := (mid.qm ⟨qa, ra3⟩).on o5 mid.case_ (le5.trans le6)
      have k6 := mid.kept.on o5
      have c6 := c5.mono le6
      refine ⟨fun ⟨a2, b2, q, k2, l2, my, hy⟩ => a2 = a' ∧ b2 = b ∧ k2 = k' ∧ l2 = l ∧ hy = h6 ∧ CaseOk my h6 cb ∧ Kept m my cb ∧ QM m my h6 q [a'], branch_intro (fun _ => branch_dec (fun _ => ⟨(a', b, { q with op := 5 }, k', l, m5, h6), ⟨rfl, rfl, rfl, rfl, rfl, c6, k6, ⟨q6.wher, q6.cols, q6.on_, q6.group_, q6.order_, q6.args_, q6.len_, q6.reps⟩⟩, MT⟩) (fun _ => ⟨(a', b, q, k', l, m5, h6), ⟨rfl, rfl, rfl, rfl, rfl, c6, k6, q6⟩, MT⟩)) (fun _ => ⟨(a', b, q, k', l, m5, h6), ⟨rfl, rfl, rfl, rfl, rfl, c6, k6, q6⟩, MT⟩), ?_⟩
      have rb6 := rb.mono le6
      have hx6 : PH.le hx h6 := le5.trans le6
      clear q6 k6 c6 o5 c5 rb le5 mid q
      rintro ⟨a2, b, q, k2, l, my, h6⟩ ⟨rfl, rfl, rfl, rfl, rfl, c6, k6, q6⟩
      dsimp only
      refine ⟨⟨cb, k2, l, ks, ls, rfl, c6, ik.mono hx6, il, by omega, by omega, fun o on m7 h7 le7 hon _ o7 c7 s1 m8 hnew => ?_⟩, fun s1 m7 hnew => ⟨cb, k2, l, ks, ls, rfl, c6.keep (MNew.at_cb hnew c6) (.refl _), ik.mono hx6, il, by omega, by omega, fun o on m8 h7 le7 hon _ o8 c8 => ?_⟩⟩
      · have k7 := k6.on o7
        refine join q b s1 m8 h7 _ (hx6.trans le7) (k7.new hnew) (c7.keep (MNew.at_cb hnew c7) (.refl _)) ((q6.on o7 c6 le7).new hnew (.refl _)) (MNew.frow hnew k7 c7) ⟨qb, rb6.mono le7⟩ (fun s' m9 hq k9 c9 d => ?_)
        exact ⟨(a2, { q with on := o, args := s' }, keepM m m9, iceH m m9 h7), ⟨rfl, reach _ _ m9 h7 (hx6.trans le7) k9 c9 (hq { q with on := o, args := s' } rfl rfl ⟨on, hon⟩ (let ⟨l, e⟩ := q6.group_; ⟨l, e.mono le7⟩) (let ⟨l, e⟩ := q6.order_; ⟨l, e.mono le7⟩) rfl) d⟩, FT⟩
      · have k7 := k6.new hnew
        have c7 : CaseOk m7 h6 cb := c6.keep (MNew.at_cb hnew c6) (.refl _)
        have k8 := k7.on o8
        refine join q b s1 m8 h7 _ (hx6.trans le7) k8 c8 ((q6.new hnew (.refl _)).on o8 c7 le7) ((MNew.frow hnew k6 c6).on o8 c7 (by decide)) ⟨qb, rb6.mono le7⟩ (fun s' m9 hq k9 c9 d => ?_)
        exact ⟨(a2, { q with on := o, args := s' }, keepM m m9, iceH m m9 h7), ⟨rfl, reach _ _ m9 h7 (hx6.trans le7) k9 c9 (hq { q with on := o, args := s' } rfl rfl ⟨on, hon⟩ (let ⟨l, e⟩ := q6.group_; ⟨l, e.mono le7⟩) (let ⟨l, e⟩ := q6.order_; ⟨l, e.mono le7⟩) rfl) d⟩, FT⟩
    · refine ⟨fun ⟨op, a2, q, k2, t, my, hy⟩ => a2 = a' ∧ k2 = k' ∧ hy = hx ∧ Mid m hx cb a' q my, branch_intro (fun _ => ⟨(op, a', q, k', true, mx, hx), ⟨rfl, rfl, rfl, mid⟩, MT⟩) (fun _ => branch_intro (fun _ => ⟨(op, a', q, k', true, mx, hx), ⟨rfl, rfl, rfl, mid⟩, MT⟩) (fun _ => ⟨(op, a', q, k', op == 8, mx, hx), ⟨rfl, rfl, rfl, mid⟩, MT⟩)), ?_⟩
      clear mid q mx
      rintro ⟨op, a', q, k', t, mx, hx⟩ ⟨rfl, rfl, rfl, mid⟩
      dsimp only
      have q3 := mid.qm ⟨qa, ra3⟩
      refine branch_intro (fun _ => ?_) (fun _ => branch_intro (fun _ => ?_) (fun _ => branch_intro (fun _ => ?_) (fun _ => ?_)))
      · -- Union, Minus, Intersect
        refine ⟨cb, sc, p, k', a', s, ps, ks, qa, rfl, mid.case_, hs.mono hle3, h8, by omega, hp.mono hle3, hpl, ik, by omega, ra3, fun w qw m5 h5 le5 rw5 o5 c5 s1 m6 hnew => ?_⟩
        have k5 := mid.kept.on o5
        refine join q w s1 m6 h5 _ le5 (k5.new hnew) (c5.keep (MNew.at_cb hnew c5) (.refl _)) ((q3.on o5 mid.case_ le5).new hnew (.refl _)) (MNew.frow hnew k5 c5) ⟨qw, rw5⟩ (fun s' m9 hq k9 c9 d => ?_)
        have q5 := q3.on o5 mid.case_ le5
        exact ⟨(a', { q with args := s' }, keepM m m9, iceH m m9 h5), ⟨rfl, reach _ _ m9 h5 le5 k9 c9 (hq { q with args := s' } rfl rfl q5.on_ q5.group_ q5.order_ rfl) d⟩, FT⟩
      · -- Rank
        obtain ⟨o, args, rfl, hf⟩ := mid.ex
        refine ⟨cb, ⟨o, 0, zeroPV, nilS, nilS, nilS, nilS, 0, args⟩, k', ks, rfl, mid.case_, ik, by omega, fun g od kk gr odl m5 h5 le5 hg hod _ _ _ _ o5 c5 d => ?_⟩
        have q5 := q3.on o5 mid.case_ le5
        exact ⟨(a', ⟨o, 0, zeroPV, nilS, nilS, g, od, kk, args⟩, keepM m m5, iceH m m5 h5), ⟨rfl, reach _ [a'] m5 h5 le5 (mid.kept.on o5) c5 ⟨q5.wher, q5.cols, q5.on_, ⟨gr, hg⟩, ⟨odl, hod⟩, q5.args_, q5.len_, q5.reps⟩ d⟩, FT⟩
      · -- Prefix
        obtain ⟨o, args, rfl, hf⟩ := mid.ex
        refine ⟨cb, ⟨o, 0, zeroPV, nilS, nilS, nilS, nilS, 0, args⟩, k', ks, rfl, mid.case_, ik, by omega, fun g od kk gr odl m5 h5 le5 hg hod _ _ _ _ o5 c5 => ?_⟩
        have q5 := q3.on o5 mid.case_ le5
        have q5' : QM m m5 h5 ⟨o, 0, zeroPV, nilS, nilS, g, od, kk, args⟩ [a'] := ⟨q5.wher, q5.cols, q5.on_, ⟨gr, hg⟩, ⟨odl, hod⟩, q5.args_, q5.len_, q5.reps⟩
        refine ⟨cb, sc, p, k', a', s, ps, ks, qa, rfl, c5, hs.mono (hle3.trans le5), h8, by omega, hp.mono (hle3.trans le5), hpl, ik.mono le5, by omega, ra3.mono le5, fun w qw m6 h6 le6 rw6 o6 c6 s1 m7 hnew => ?_⟩
        have k6 := (mid.kept.on o5).on o6
        refine join ⟨o, 0, zeroPV, nilS, nilS, g, od, kk, args⟩ w s1 m7 h6 _ (le5.trans le6) (k6.new hnew) (c6.keep (MNew.at_cb hnew c6) (.refl _)) ((q5'.on o6 c5 le6).new hnew (.refl _)) (MNew.frow hnew k6 c6) ⟨qw, rw6⟩ (fun s' m9 hq k9 c9 d => ?_)
        exact ⟨(a', ⟨o, 0, zeroPV, nilS, nilS, g, od, kk, s'⟩, keepM m m9, iceH m m9 h6), ⟨rfl, reach _ _ m9 h6 (le5.trans le6) k9 c9 (hq ⟨o, 0, zeroPV, nilS, nilS, g, od, kk, s'⟩ rfl rfl ⟨_, pairs_nil _⟩ ⟨gr, hg.mono le6⟩ ⟨odl, hod.mono le6⟩ rfl) d⟩, FT⟩
      · -- Filter
        refine ⟨⟨cb, k', p, ks, ps, 2, rfl, mid.case_, ik, hp.mono hle3, by omega, hpl, by omega, fun pv pp m5 h5 le5 rp _ o5 c5 s1 m6 hnew d => ?_⟩, fun s1 m5 hnew => ⟨cb, k', p, ks, ps, 2, rfl, mid.case_.keep (MNew.at_cb hnew mid.case_) (.refl _), ik, hp.mono hle3, by omega, hpl, by omega, fun pv pp m6 h5 le5 rp _ o6 c6 d => ?_⟩⟩
        · have k5 := mid.kept.on o5
          exact ⟨(a', ⟨2, 0, pv, nilS, nilS, nilS, nilS, 0, s1⟩, keepM m m6, iceH m m6 h5), ⟨rfl, reach _ [a'] m6 h5 le5 (k5.new hnew) (c5.keep (MNew.at_cb hnew c5) (.refl _)) ⟨⟨pp, rp⟩, ⟨[], FRow.nil _ _ _ _, by simp⟩, ⟨_, pairs_nil _⟩, ⟨_, ints_nil _⟩, ⟨_, sorts_nil _⟩, MNew.frow hnew k5 c5, by simp, fun v hv => by simp at hv; subst hv; exact ⟨qa, ra3.mono le5⟩⟩ d⟩, FT⟩
        · have k5 := mid.kept.new hnew
          have c5 : CaseOk m5 hx cb := mid.case_.keep (MNew.at_cb hnew mid.case_) (.refl _)
          exact ⟨(a', ⟨2, 0, pv, nilS, nilS, nilS, nilS, 0, s1⟩, keepM m m6, iceH m m6 h5), ⟨rfl, reach _ [a'] m6 h5 le5 (k5.on o6) c6 ⟨⟨pp, rp⟩, ⟨[], FRow.nil _ _ _ _, by simp⟩, ⟨_, pairs_nil _⟩, ⟨_, ints_nil _⟩, ⟨_, sorts_nil _⟩, (MNew.frow hnew mid.kept mid.case_).on o6 c5 (by decide), by simp, fun v hv => by simp at hv; subst hv; exact ⟨qa, ra3.mono le5⟩⟩ d⟩, FT⟩
  · rintro ⟨a2, q, my, hy⟩ ⟨rfl, ley, oy, cy, qq, rq⟩
    dsimp only
    refine ⟨sc, p, q, s, ps, qq, rfl, hs.mono (hle3.trans ley), hp.mono (hle3.trans ley), rq, fun sl h5 le5 _ => branch_intro (fun e => ?_) (fun e => ?_)⟩
    · exact hK a2 qa my h5 ((hle3.trans ley).trans le5) ((ra3.mono ley).mono le5) qa0 oy (cy.mono le5)
    · exact hK q qq my h5 ((hle3.trans ley).trans le5) (rq.mono le5) (by simpa using e) oy (cy.mono le5)
theorem f18_all : ∀ N, Sound Tryz.prog 18 (QueryW N)
  | 0 => by
    refine fn_sound (fn := Tryz.f18) (c := bodyOf Tryz.f18) Tryz.func18 rfl (by decide) ?_
    rintro cvs m h K ⟨cb, sc, p, s, ps, deep, rfl, _, _, _, _, _, _, _, _, _, hN, _⟩
    omega
  | N + 1 => by
    refine fn_sound (fn := Tryz.f18) (c := bodyOf Tryz.f18) Tryz.func18 rfl (by decide) ?_
    rintro cvs m h K ⟨cb, sc, p, s, ps, deep, rfl, hc, hs, he, hne, hp, hpl, hpk, d0, d1, hN, hK⟩
    refine ⟨f18_ctx N cb sc p, rfl, specs_cons intW (specs_cons f37_sound (specs_cons f26_sound (specs_cons f38_sound (specs_cons f39_sound (specs_cons f40_sound (specs_cons f27_sound (specs_cons (f18_all N) specs_nil))))))), ?_⟩
    rw [← f18_vc N cb sc p deep m h K]
    exact f18_ok hc hs he hne hp hpl hpk d0 d1 hN hK
end Go.Ps
namespace Go.Ps
open Go Go.Vc Go.Proofs
theorem nodup_len : ∀ (n : Nat) {l : List Nat}, l.Nodup → (∀ x ∈ l, x < n) → l.length ≤ n
  | 0, l, _, h => by
    cases l with
    | nil => simp
    | cons x l => have := h x (by simp); omega
  | n + 1, l, hn, h => by
    by_cases hm : n ∈ l
    · have h1 := List.length_erase_of_mem hm
      have h2 := nodup_len n (hn.erase n) (fun x hx => by
        have h3 := (hn.mem_erase_iff).1 hx
        have := h x h3.2
        have := h3.1
        omega)
      have := List.length_pos_of_mem hm
      omega
    · have := nodup_len n hn (fun x hx => by
        have h1 := h x hx
        have : x ≠ n := fun e => hm (by rw [← e]; exact hx)
        omega)
      omega
theorem good_len {α : Type} {T : List α → α → Prop} {l : List α} {f : α → Int} {n : Nat} (h : Good T l) (hin : ∀ pre x, T pre x → 0 ≤ f x ∧ f x < n) (hd : ∀ pre x, T pre x → ∀ y ∈ pre, f y ≠ f x) : l.length ≤ n := by
  have h1 : (l.map fun x => (f x).toNat).Nodup := by
    rw [List.nodup_iff_pairwise_ne, List.pairwise_iff_getElem]
    intro i j hi hj hij
    simp only [List.length_map] at hi hj
    simp only [List.getElem_map]
    have ti := h i l[i] (List.getElem?_eq_getElem hi)
    have tj := h j l[j] (List.getElem?_eq_getElem hj)
    have := hd _ _ tj l[i] (List.mem_take_iff_getElem.2 ⟨i, by omega, rfl⟩)
    have := hin _ _ ti
    have := hin _ _ tj
    omega
  have := nodup_len n h1 (fun x hx => by
    obtain ⟨y, hy, rfl⟩ := List.mem_map.1 hx
    obtain ⟨i, hi⟩ := List.mem_iff_getElem?.1 hy
    have := hin _ _ (h i y hi)
    omega)
  simpa using this
/-! ### The bytes of a predicate -/
mutual
def TextP : Pred → Prop
  | .mk _ _ l r args => l.value.text.size ≤ 64 ∧ r.value.text.size ≤ 64 ∧ TextPs args
def TextPs : List Pred → Prop
  | [] => True
  | p :: ps => TextP p ∧ TextPs ps
end
theorem opdB_max (o : OV) (h : o.value.text.size ≤ 64) : (opdB o).length ≤ 200 := by
  have h1 := numB_len [o.kind, o.index]
  have h2 := numB_len [o.value.kind]
  have h3 := numB_len [(o.value.text.size : Int)]
  have h4 := numB_len [o.value.int]
  have h5 : numB [o.value.int] = itoaB o.value.int ++ [32] := by unfold numB; rw [List.flatMap_cons, List.flatMap_nil, List.append_nil]
  rw [h5] at h4
  have h6 : o.value.text.data.toList.length = o.value.text.size := by rw [Array.length_toList]; rfl
  simp only [opdB, cellB, List.length_append, List.length_cons, List.length_nil] at *
  omega
mutual
theorem predB_len : ∀ p : Pred, TextP p → ((predB p).length : Int) ≤ 1000 * szF p
  | .mk op cmp l r args, h => by
    obtain ⟨h1, h2, h3⟩ := h
    have e1 := opdB_max l h1
    have e2 := opdB_max r h2
    have e3 := predBs_len args h3
    have e4 := numB_len [op, cmp]
    have e5 := numB_len [(args.length : Int)]
    simp only [predB, szF, List.length_append, List.length_cons, List.length_nil] at *
    omega
theorem predBs_len : ∀ ps : List Pred, TextPs ps → ((predBs ps).length : Int) ≤ 1000 * szFs ps
  | [], _ => by simp [predBs, szFs]
  | p :: ps, h => by
    have := predB_len p h.1
    have := predBs_len ps h.2
    simp only [predBs, szFs, List.length_append]
    omega
end
theorem text_nil {t : ByteArray} (h : t.toList = (⟨#[]⟩ : ByteArray).toList) : t.size ≤ 64 := by rw [bytes_ext h]; decide
theorem noText_max {t : ByteArray} (h : noText t = true) : t.size ≤ 64 := text_nil (by simp only [noText, beq_iff_eq] at h; rw [h, ByteArray.toList_eq])
theorem eqV_text {v : VV} (h : eqV v zeroV = true) : v.text.size ≤ 64 := by
  simp only [eqV, Bool.and_eq_true, beq_iff_eq] at h
  exact text_nil h.2.2.1
theorem eqO_text {o : OV} (h : eqO o zeroO = true) : o.value.text.size ≤ 64 := by
  simp only [eqO, Bool.and_eq_true, beq_iff_eq] at h
  exact eqV_text h.2.2.1
theorem validV_text {v : VV} (h : validV v = true) : v.text.size ≤ 64 := by
  unfold validV at h
  split at h
  · simp only [Bool.and_eq_true] at h; exact noText_max h.2
  · split at h
    · simp only [Bool.and_eq_true] at h; exact noText_max h.2
    · split at h
      · exact noText_max h
      · split at h
        · simp at h; omega
        · cases h
theorem atKind_text {l : List Int} {o : OV} (h : atKind l o ≠ 0) : o.value.text.size ≤ 64 := by
  unfold atKind at h
  split at h
  · exact (h rfl).elim
  · rename_i h1
    simp only [Bool.or_eq_true, not_or, Bool.not_eq_true', Bool.not_eq_false] at h1
    exact eqV_text h1.2
theorem kindOf_text {cols params : List Int} {o : OV} (h : kindOf cols params o ≠ 0) : o.value.text.size ≤ 64 := by
  unfold kindOf at h
  split at h
  · split at h
    · exact (h rfl).elim
    · rename_i h1
      simp only [Bool.or_eq_true, not_or, Bool.not_eq_true', Bool.not_eq_false, realV, Bool.and_eq_true] at h1
      exact validV_text h1.2.1
  · split at h
    · exact atKind_text h
    · split at h
      · exact atKind_text h
      · exact (h rfl).elim
mutual
theorem validF_text {cols params : List Int} : ∀ p : Pred, validF cols params p = true → TextP p
  | .mk op cmp l r args, h => by
    unfold validF at h
    split at h
    · simp only [Bool.and_eq_true, plainF, beq_iff_eq] at h
      have : args = [] := List.eq_nil_of_length_eq_zero h.2
      subst this
      exact ⟨eqO_text h.1.1.2, eqO_text h.1.2, trivial⟩
    · split at h
      · simp only [Bool.and_eq_true, beq_iff_eq, bne_iff_ne, ne_eq, decide_eq_true_eq] at h
        have : args = [] := List.eq_nil_of_length_eq_zero h.1.1.1.1
        subst this
        exact ⟨kindOf_text h.1.2, kindOf_text (cols := cols) (params := params) (by rw [← h.2]; exact h.1.2), trivial⟩
      · split at h
        · simp only [Bool.and_eq_true, plainF] at h
          exact ⟨eqO_text h.1.1.2, eqO_text h.1.2, validFs_text args h.2⟩
        · cases h
theorem validFs_text {cols params : List Int} : ∀ ps : List Pred, validFs cols params ps = true → TextPs ps
  | [], _ => trivial
  | p :: ps, h => by
    simp only [validFs, Bool.and_eq_true] at h
    exact ⟨validF_text p h.1, validFs_text ps h.2⟩
end
theorem pred_key {cols params : List Int} {p : Pred} (h : predErr cols params p = 0) : (predB p).length ≤ 1000000000 := by
  unfold predErr at h
  split at h
  · cases h
  · split at h
    · cases h
    · rename_i h1
      split at h
      · cases h
      · rename_i h2
        have hv : validF cols params p = true := by simpa using h2
        have hl := predB_len p (validF_text p hv)
        simp only [Bool.or_eq_true, not_or, decide_eq_true_eq] at h1
        have h3 := nodesF_eq p 0 (by omega)
        have : szF p ≤ 24 := by
          by_cases h4 : (0 : Int) + szF p ≤ 24
          · omega
          · have := h3.2 (by omega); omega
        omega
theorem zero_key : (predB zeroP).length ≤ 1000000000 := by
  have := predB_len zeroP ⟨by decide, by decide, trivial⟩
  have e : szF zeroP = 1 := rfl
  omega
/-! ### Valid nodes -/
theorem kindsQs_lens {s : Sch} {ps : List Int} : ∀ (qs : List Query), ∀ k ∈ (kindsQs s ps qs).1, k.length ≤ 12
  | [], k, h => by simp [kindsQs] at h
  | q :: qs, k, h => by
    simp only [kindsQs] at h
    split at h
    · split at h
      · simp only [List.mem_cons] at h
        rcases h with rfl | h
        · exact kindsQ_len s ps q
        · exact kindsQs_lens qs k h
      · simp at h
    · simp at h
theorem getD_len {ks : List (List Int)} (h : ∀ k ∈ ks, k.length ≤ 12) (j : Nat) : (ks.getD j []).length ≤ 12 := by
  rw [List.getD_eq_getElem?_getD]
  cases e : ks[j]? with
  | none => simp
  | some k => exact h k (List.mem_of_getElem? e)
theorem kindsQs_parts {s : Sch} {ps : List Int} : ∀ {qs : List Query} {ks : List (List Int)}, kindsQs s ps qs = (ks, 0) → ks.length = qs.length ∧ ∀ q ∈ qs, (kindsQ s ps q).2 = 0
  | [], ks, h => by simp [kindsQs] at h; subst h; simp
  | q :: qs, ks, h => by
    simp only [kindsQs] at h
    split at h
    · rename_i h1
      split at h
      · rename_i h2
        have e : kindsQs s ps qs = ((kindsQs s ps qs).1, 0) := Prod.ext rfl h2
        obtain ⟨h3, h4⟩ := kindsQs_parts e
        simp only [Prod.mk.injEq] at h
        rw [← h.1]
        refine ⟨by simp [h3], fun x hx => ?_⟩
        rcases List.mem_cons.1 hx with rfl | hx
        · exact h1
        · exact h4 x hx
      · rename_i h2; simp at h; exact (h2 h.2).elim
    · rename_i h1; simp at h; exact (h1 h.2).elim
theorem kindsQ_parts {s : Sch} {ps : List Int} {op ta : Int} {w : Pred} {co : List Int} {on : List (Int × Int)} {gr : List Int} {od : List (Int × Bool)} {li : Int} {args : List Query} (h : (kindsQ s ps (.mk op ta w co on gr od li args)).2 = 0) :
    (∀ a ∈ args, (kindsQ s ps a).2 = 0) ∧ (args.length : Int) = arity op ∧ ∃ a b, a.length ≤ 12 ∧ b.length ≤ 12 ∧ (nodeR s ps (.mk op ta w co on gr od li args) a b).2 = 0 := by
  simp only [kindsQ] at h
  split at h
  · rename_i h1
    have e : kindsQs s ps args = ((kindsQs s ps args).1, 0) := Prod.ext rfl h1
    obtain ⟨h3, h4⟩ := kindsQs_parts e
    split at h
    · rename_i h2
      refine ⟨h4, by rw [← h3]; exact h2, _, _, ?_, ?_, h⟩
      · exact getD_len (kindsQs_lens args) 0
      · exact getD_len (kindsQs_lens args) 1
    · simp [errK] at h
  · rename_i h1; simp [errK] at h; exact (h1 h).elim
/-- THE KEYS OF A VALID QUERY CAN BE WRITTEN DOWN. -/
theorem node_key {s : Sch} {ps : List Int} {op ta : Int} {w : Pred} {co : List Int} {on : List (Int × Int)} {gr : List Int} {od : List (Int × Bool)} {li : Int} {args : List Query} {a b : List Int} (ha : a.length ≤ 12) (h : (nodeR s ps (.mk op ta w co on gr od li args) a b).2 = 0) :
    KeyOk ⟨op, ta, w, co, on, gr, od, li, 0, 0⟩ := by
  unfold nodeR at h
  dsimp only at h
  split at h
  · simp [errK] at h
  · rename_i h0
    rw [not_or] at h0
    have hu : UnusedOk (.mk op ta w co on gr od li args) := Classical.not_not.1 h0.2
    obtain ⟨_, u2, u3, u4, u5⟩ := hu
    have lim : ∀ l : List Int, (limK l).2 = 0 → l.length ≤ 12 := fun l e => by
      unfold limK at e
      split at e
      · assumption
      · cases e
    have p1 : (predB w).length ≤ 1000000000 := by
      rcases u2 with rfl | rfl
      · simp only [show ¬ ((2 : Int) = 1) by decide, if_false, if_true] at h
        split at h
        · rename_i e; exact pred_key e
        · rename_i e; simp [errK] at h; exact (e h).elim
      · exact zero_key
    have p2 : co.length ≤ 1000000000 := by
      rcases u3 with rfl | rfl
      · simp only [show ¬ ((3 : Int) = 1) by decide, show ¬ ((3 : Int) = 2) by decide, if_false, if_true] at h
        split at h
        · have := lim _ h; simp at this; omega
        · simp [errK] at h
      · simp
    have p3 : on.length ≤ 1000000000 := by
      have pig : Good (PairT a b) on → on.length ≤ 1000000000 := fun g => by
        have := good_len (f := fun p => p.1) (n := a.length) g (fun pre x t => by have := t.1; rw [inL_iff] at this; exact this) (fun pre x t y hy => (t.2.2.2 y hy).1)
        omega
      rcases u4 with rfl | rfl | rfl
      · simp only [show ¬ ((4 : Int) = 1) by decide, show ¬ ((4 : Int) = 2) by decide, show ¬ ((4 : Int) = 3) by decide, if_false, if_true] at h
        split at h
        · rename_i e; exact pig e
        · simp [errK] at h
      · simp only [show ¬ ((5 : Int) = 1) by decide, show ¬ ((5 : Int) = 2) by decide, show ¬ ((5 : Int) = 3) by decide, show ¬ ((5 : Int) = 4) by decide, if_false, if_true] at h
        split at h
        · rename_i e; exact pig e
        · simp [errK] at h
      · simp
    have p4 : gr.length ≤ 1000000000 ∧ od.length ≤ 1000000000 := by
      have pig : RankOk a gr od li → gr.length ≤ 1000000000 ∧ od.length ≤ 1000000000 := fun r => by
        have := good_len (f := fun p => p) (n := a.length) r.group_ (fun pre x t => by have := t.1; rw [inL_iff] at this; exact this) (fun pre x t y hy e => t.2 (by rw [← e]; exact hy))
        have := r.len_
        omega
      rcases u5 with rfl | rfl | ⟨rfl, rfl, _⟩
      · simp only [show ¬ ((9 : Int) = 1) by decide, show ¬ ((9 : Int) = 2) by decide, show ¬ ((9 : Int) = 3) by decide, show ¬ ((9 : Int) = 4) by decide, show ¬ ((9 : Int) = 5) by decide, if_false, if_true] at h
        split at h
        · rename_i e; exact pig e
        · simp [errK] at h
      · simp only [show ¬ ((10 : Int) = 1) by decide, show ¬ ((10 : Int) = 2) by decide, show ¬ ((10 : Int) = 3) by decide, show ¬ ((10 : Int) = 4) by decide, show ¬ ((10 : Int) = 5) by decide, show ¬ ((10 : Int) = 9) by decide, if_false, if_true] at h
        split at h
        · rename_i e; exact pig e.2
        · simp [errK] at h
      · simp
    exact ⟨p1, p2, p3, p4.1, p4.2⟩
theorem kinds_key {s : Sch} {ps : List Int} : ∀ q : Query, (kindsQ s ps q).2 = 0 → QKeyOk q ∧ ArOk q
  | .mk op ta w co on gr od li args, h => by
    obtain ⟨h1, h2, a, b, ha, _, h3⟩ := kindsQ_parts h
    rw [qkey_iff, arOk_iff]
    exact ⟨⟨node_key ha h3, fun q hq => (kinds_key q (h1 q hq)).1⟩, h2, fun q hq => (kinds_key q (h1 q hq)).2⟩
theorem query_kinds {s : Sch} {ps : List Int} {q : Query} (h : (queryR s ps q).2 = 0) : schErr s = 0 ∧ ps.all colKind = true ∧ smallQ q = true ∧ (kindsQ s ps q).2 = 0 := by
  unfold queryR at h
  split at h
  · rename_i h1
    split at h
    · rename_i h2
      split at h
      · rename_i h3; exact ⟨h1, h2, h3, h⟩
      · simp [errK] at h
    · simp [errK] at h
  · rename_i h1; simp [errK] at h; exact (h1 h).elim
theorem query_key {s : Sch} {ps : List Int} {q : Query} (h : (queryR s ps q).2 = 0) : QKeyOk q := (kinds_key q (query_kinds h).2.2.2).1
theorem query_ar {s : Sch} {ps : List Int} {q : Query} (h : (queryR s ps q).2 = 0) : ArOk q := (kinds_key q (query_kinds h).2.2.2).2
end Go.Ps
namespace Go.Ps
open Go Go.Vc Go.Proofs
def BegunS : Vc.Spec := fun cvs m h K => cvs = [] ∧ TabM m ∧ K (cB true) m h
def SharesS : Vc.Spec := fun cvs m h K => ∃ s cs, cvs = [cS s] ∧ RowIn h s 1 (bytesVal cs) ∧ s.len ≤ s.cap ∧ TabM m ∧ ∀ m' h', Sub m m' → K (cB true) m' h'
noncomputable def f4_ctx : Ctx :=
  ctx2 [(7, NewS), (8, PlainW), (18, QueryW 5), (14, CompileS), (19, SmallQS), (16, BegunS), (20, SameTS)]
   [(10, { A := Nat × Sl × Sl × MH × PH, st := fun ⟨i, p, r, m, h⟩ => mkSt 107 108 [(6, .at (.ptr 6 0)), (46, iv p.len), (47, iv i)] [(6, .cells 49 [.val (.slice p.a p.len p.cap), .val (.slice r.a r.len r.cap)])] m h }),
    (13, { A := Nat × Nat × Sl × Sl × MH × PH, st := fun ⟨i, k, p, r, m, h⟩ => mkSt 107 108 [(6, .at (.ptr 6 0)), (8, iv i), (9, iv k), (46, iv p.len), (47, iv i)] [(6, .cells 49 [.val (.slice p.a p.len p.cap), .val (.slice r.a r.len r.cap)])] m h })] [] [] false
def f16_nice (m : MH) (h : PH) (K : CV → MH → PH → Prop) : Prop :=
    ∀ (s : Sl) (h' : PH), h.le h' -> RowIn h' s 2 [[Value.string (ByteArray.mk (Array.mk [OfNat.ofNat 105, OfNat.ofNat 100])), vQi 4]] -> ∀ (s_1 : Sl) (h'_1 : PH), h'.le h'_1 -> RowIn 
    h'_1 s_1 21 [[vQi 1, vQi 0, vQi 0, vQi 0, vQi 0, vQi 0, vQi 0, vQi 0, vQz, vQi 0, vQi 0, vQi 0, vQi 0, vQz, vQn, vQn, vQn, vQn, vQn, vQi 0, vQn]] -> ∀ (s_2 : Sl) (h' : PH), h'_1.le 
    h' -> RowIn h' s_2 21 [[vQi 2, vQi 0, vQi 1, vQi 0, vQi 0, vQi 0, vQi 0, vQi 0, vQz, vQi 0, vQi 0, vQi 0, vQi 0, vQz, vQn, vQn, vQn, vQn, vQn, vQi 0, vQs s_1], [vQi 2, vQi 0, vQi 
    1, vQi 0, vQi 0, vQi 0, vQi 0, vQi 0, vQz, vQi 0, vQi 0, vQi 0, vQi 0, vQz, vQn, vQn, vQn, vQn, vQn, vQi 0, vQs s_1]] -> ∀ (s_3 : Sl) (h'_2 : PH), h'.le h'_2 -> RowIn h'_2 s_3 5 
    [[Value.string (ByteArray.mk (Array.mk [OfNat.ofNat 116])), vQs s, vQi 1, vQn, vQn]] -> ∀ (s : Sl) (h' : PH), h'_2.le h' -> RowIn h' s 21 [[vQi 6, vQi 0, vQi 0, vQi 0, vQi 0, vQi 
    0, vQi 0, vQi 0, vQz, vQi 0, vQi 0, vQi 0, vQi 0, vQz, vQn, vQn, vQn, vQn, vQn, vQi 0, vQs s_2]] -> ∃ (sc : SchV), ∃ (sl : Sl), ∃ (s_4 : Sch), ∃ (qs : List Query), [cQa [vQi 0, vQs 
    s_3], cQs s] = [cQa [vQi sc.version, vQs sc.tables], cQs sl] /\ RepS h' s_4 sc /\ RepQl h' sl qs /\ TabM m /\ (∀ (q : Query), List.Mem q qs -> (queryR s_4 [] q).2 = 0 -> QKeyOk q) 
    /\ ((compErr s_4 qs = 0 -> False) -> branch (compErr s_4 qs == 0) (K (cQb false) m h') (K (cQb false) m h')) /\ (compErr s_4 qs = 0 -> ∀ (p r : Sl) (ts : List Step) (ks : List Nat) 
    (h'_3 : PH), h'.le h'_3 -> AddAll qs [] ts ks -> PlanAt h'_3 p r ts ks -> branch ((↑p.len : Int) == 3) (branch ((↑r.len : Int) == 1) (∃ (b : Nat), ∃ (off : Nat), r.a = some 
    (Addr.mk b off none) /\ (0 : Int) <= 0 /\ 0 < (↑r.len : Int) /\ ∃ (y : Int), RdAt m h'_3 b (off + 0) [vQi y] /\ branch (y == 2) (∃ (b : Nat), ∃ (off : Nat), p.a = some (Addr.mk b 
    off none) /\ (0 : Int) <= 2 /\ 2 < (↑p.len : Int) /\ ∃ (y : Int), RdAt m h'_3 b (off + 44 + 20) [vQi y] /\ branch (y == 1) (∃ (b : Nat), ∃ (off : Nat), p.a = some (Addr.mk b off 
    none) /\ (0 : Int) <= 2 /\ 2 < (↑p.len : Int) /\ ∃ (y : Int), RdAt m h'_3 b (off + 44 + 21) [vQi y] /\ K (cQb (y == 1)) m h'_3) (K (cQb false) m h'_3)) (K (cQb false) m h'_3)) (K 
    (cQb false) m h'_3)) (K (cQb false) m h'_3))
theorem f16_vc (m : MH) (h : PH) (K : CV → MH → PH → Prop) : f16_nice m h K = (fnVC (ctx2 [(14, CompileS)] [] [] [] false) Tryz.f16 (bodyOf Tryz.f16) (entry Tryz.f16.ntmps [] m h) K) := by kernel_rfl
def f4_nice (s : Sl) (m : MH) (h : PH) (K : CV → MH → PH → Prop) : Prop :=
    ∃ (s_1 : Sl), ∃ (cs : List UInt8), ∃ (most : Nat), [cQs s, cQi 220] = [cQs s_1, cQi (↑most : Int)] /\ RowIn h s_1 1 (bytesVal cs) /\ s_1.len <= s_1.cap /\ most <= 1000 /\ ∀ (cb : 
    Nat) (m' : MH) (h' : PH), h.le h' -> m cb = none -> MOther m m' cb -> CaseOk m' h' cb -> ∃ (cb_1 : Nat), [cQp cb 0] = [cQp cb_1 0] /\ CaseOk m' h' cb_1 /\ ∀ (s : Sch) (v : SchV) 
    (m'_1 : MH) (h'_1 : PH), PlainSch s -> RepS h'_1 s v -> h'.le h'_1 -> MOther m' m'_1 cb_1 -> CaseOk m'_1 h'_1 cb_1 -> ∃ (cb_2 : Nat), ∃ (sc : SchV), ∃ (p : Sl), ∃ (s : Sch), ∃ (ps 
    : List Int), ∃ (deep : Int), [cQp cb 0, cQa [vQi v.version, vQs v.tables], cQn, cQi 3] = [cQp cb_2 0, cQa [vQi sc.version, vQs sc.tables], cQs p, cQi deep] /\ CaseOk m'_1 h'_1 cb_2 
    /\ RepS h'_1 s sc /\ schErr s = 0 /\ (s.tables = [] -> False) /\ Ints h'_1 p ps /\ ps.length <= 1000 /\ ps.all colKind = true /\ Int.negSucc 0 <= deep /\ deep <= 1000 /\ (deep + 
    1).toNat < 5 /\ ∀ (w : QV) (q : Query) (m' : MH) (h' : PH), h'_1.le h' -> RepQ h' q w -> (queryR s ps q).2 = 0 -> MOther m'_1 m' cb_2 -> CaseOk m' h' cb_2 -> ∀ (s : Sl) (h'_2 : 
    PH), h'.le h'_2 -> RowIn h'_2 s 21 [(QV.enc w), (QV.enc w)] -> ∀ (s_2 : Sl) (h' : PH), h'_2.le h' -> RowIn h' s_2 21 [(QV.enc w), (QV.enc w), [vQi 8, vQi 0, vQi 0, vQi 0, vQi 0, 
    vQi 0, vQi 0, vQi 0, vQz, vQi 0, vQi 0, vQi 0, vQi 0, vQz, vQn, vQn, vQn, vQn, vQn, vQi 0, vQs s]] -> ∃ (sc : SchV), ∃ (sl : Sl), ∃ (s : Sch), ∃ (qs : List Query), [cQa [vQi 
    v.version, vQs v.tables], cQs s_2] = [cQa [vQi sc.version, vQs sc.tables], cQs sl] /\ RepS h' s sc /\ RepQl h' sl qs /\ TabM m' /\ (∀ (q : Query), List.Mem q qs -> (queryR s [] 
    q).2 = 0 -> QKeyOk q) /\ ((compErr s qs = 0 -> False) -> ∀ (s_3 : Sl) (h'_3 : PH), h'.le h'_3 -> RowIn h'_3 s_3 21 [(QV.enc w), (QV.enc w)] -> ∃ (v : QV), ∃ (p : Query), [cQa [vQi 
    8, vQi 0, vQi 0, vQi 0, vQi 0, vQi 0, vQi 0, vQi 0, vQz, vQi 0, vQi 0, vQi 0, vQi 0, vQz, vQn, vQn, vQn, vQn, vQn, vQi 0, vQs s_3]] = [cQa (QV.enc v)] /\ RepQ h'_3 p v /\ branch 
    (!smallQ p == (compErr s qs == 0)) (K (cQb false) m' h'_3) (branch (compErr s qs != 0) (([] : List CV) = [] /\ TabM m' /\ K (cQb (compErr s qs == 2)) m' h'_3) (∃ (I : Nat × Sl × Sl 
    × MH × PH -> Prop), ∃ (mu : Nat × Sl × Sl × MH × PH -> Nat), (∃ (x : Nat × Sl × Sl × MH × PH), I x /\ eQ (sQp 6 0) /\ sQi 0 = sQi (↑x.2.1.len : Int) /\ sQi 0 = sQi (↑x.1 : Int) /\ 
    oQ 49 [aQn, aQn] = oQ 49 [aQs x.2.1, aQs x.2.2.1] /\ m' = x.2.2.2.1 /\ h'_3 = x.2.2.2.2 /\ True) /\ ∀ (x : Nat × Sl × Sl × MH × PH), I x -> branch (decide ((↑x.1 : Int) < 
    (↑x.2.1.len : Int))) (∃ (I_1 : Nat × Nat × Sl × Sl × MH × PH -> Prop), ∃ (mu_1 : Nat × Nat × Sl × Sl × MH × PH -> Nat), (∃ (x_1 : Nat × Nat × Sl × Sl × MH × PH), I_1 x_1 /\ eQ (sQp 
    6 0) /\ sQi (↑x.1 : Int) = sQi (↑x_1.1 : Int) /\ sQi 0 = sQi (↑x_1.2.1 : Int) /\ sQi (↑x.2.1.len : Int) = sQi (↑x_1.2.2.1.len : Int) /\ sQi (↑x.1 : Int) = sQi (↑x_1.1 : Int) /\ oQ 
    49 [aQs x.2.1, aQs x.2.2.1] = oQ 49 [aQs x_1.2.2.1, aQs x_1.2.2.2.1] /\ x.2.2.2.1 = x_1.2.2.2.2.1 /\ x.2.2.2.2 = x_1.2.2.2.2.2 /\ True) /\ ∀ (x_1 : Nat × Nat × Sl × Sl × MH × PH), 
    I_1 x_1 -> branch (decide ((↑x_1.2.1 : Int) < (↑x_1.1 : Int))) (∃ (b : Nat), ∃ (off : Nat), x_1.2.2.1.a = some (Addr.mk b off none) /\ 0 <= (↑x_1.1 : Int) /\ (↑x_1.1 : Int) < 
    (↑x_1.2.2.1.len : Int) /\ ∃ (y : SV2), RdAt x_1.2.2.2.2.1 x_1.2.2.2.2.2 b (off + (↑x_1.1 : Int).toNat * 22) (SV2.enc y) /\ ∃ (b : Nat), ∃ (off : Nat), x_1.2.2.1.a = some (Addr.mk b 
    off none) /\ 0 <= (↑x_1.2.1 : Int) /\ (↑x_1.2.1 : Int) < (↑x_1.2.2.1.len : Int) /\ ∃ (y_1 : SV2), RdAt x_1.2.2.2.2.1 x_1.2.2.2.2.2 b (off + (↑x_1.2.1 : Int).toNat * 22) (SV2.enc 
    y_1) /\ ∃ (v : SV2), ∃ (w : SV2), ∃ (t : Step), ∃ (u : Step), [cQa (SV2.enc y), cQa (SV2.enc y_1)] = [cQa (SV2.enc v), cQa (SV2.enc w)] /\ RepSt x_1.2.2.2.2.2 t v /\ RepSt 
    x_1.2.2.2.2.2 u w /\ ∀ (r : Bool), (r = true ↔ t = u) -> branch r (K (cQb false) x_1.2.2.2.2.1 x_1.2.2.2.2.2) (∃ (x : Nat × Nat × Sl × Sl × MH × PH), I_1 x /\ mu_1 x < mu_1 x_1 /\ 
    eQ (sQp 6 0) /\ sQi (↑x_1.1 : Int) = sQi (↑x.1 : Int) /\ sQi (IntKind.i64.wrap ((↑x_1.2.1 : Int) + 1)) = sQi (↑x.2.1 : Int) /\ sQi (↑x_1.2.2.1.len : Int) = sQi (↑x.2.2.1.len : Int) 
    /\ sQi (↑x_1.1 : Int) = sQi (↑x.1 : Int) /\ oQ 49 [aQs x_1.2.2.1, aQs x_1.2.2.2.1] = oQ 49 [aQs x.2.2.1, aQs x.2.2.2.1] /\ x_1.2.2.2.2.1 = x.2.2.2.2.1 /\ x_1.2.2.2.2.2 = 
    x.2.2.2.2.2 /\ True)) (∃ (x_2 : Nat × Sl × Sl × MH × PH), I x_2 /\ mu x_2 < mu x /\ eQ (sQp 6 0) /\ sQi (↑x_1.2.2.1.len : Int) = sQi (↑x_2.2.1.len : Int) /\ sQi (IntKind.i64.wrap 
    ((↑x_1.1 : Int) + 1)) = sQi (↑x_2.1 : Int) /\ oQ 49 [aQs x_1.2.2.1, aQs x_1.2.2.2.1] = oQ 49 [aQs x_2.2.1, aQs x_2.2.2.1] /\ x_1.2.2.2.2.1 = x_2.2.2.2.1 /\ x_1.2.2.2.2.2 = 
    x_2.2.2.2.2 /\ True)) (([] : List CV) = [] /\ TabM x.2.2.2.1 /\ branch ((↑x.2.2.1.len : Int) == 3) (∃ (b : Nat), ∃ (off : Nat), x.2.2.1.a = some (Addr.mk b off none) /\ (0 : Int) 
    <= 0 /\ 0 < (↑x.2.2.1.len : Int) /\ ∃ (y : Int), RdAt x.2.2.2.1 x.2.2.2.2 b (off + 0) [vQi y] /\ ∃ (b : Nat), ∃ (off : Nat), x.2.2.1.a = some (Addr.mk b off none) /\ (0 : Int) <= 1 
    /\ 1 < (↑x.2.2.1.len : Int) /\ ∃ (y_1 : Int), RdAt x.2.2.2.1 x.2.2.2.2 b (off + 1) [vQi y_1] /\ branch (y == y_1) (∃ (b : Nat), ∃ (off : Nat), x.2.2.1.a = some (Addr.mk b off none) 
    /\ (0 : Int) <= 2 /\ 2 < (↑x.2.2.1.len : Int) /\ ∃ (y : Int), RdAt x.2.2.2.1 x.2.2.2.2 b (off + 2) [vQi y] /\ branch (y == IntKind.i64.wrap ((↑x.2.1.len : Int) - 1)) (∃ (b : Nat), 
    ∃ (off : Nat), x.2.2.1.a = some (Addr.mk b off none) /\ (0 : Int) <= 0 /\ 0 < (↑x.2.2.1.len : Int) /\ ∃ (y : Int), RdAt x.2.2.2.1 x.2.2.2.2 b (off + 0) [vQi y] /\ K (cQb (y == 
    IntKind.i64.wrap ((↑x.2.1.len : Int) - 2))) x.2.2.2.1 x.2.2.2.2) (K (cQb false) x.2.2.2.1 x.2.2.2.2)) (K (cQb false) x.2.2.2.1 x.2.2.2.2)) (K (cQb false) x.2.2.2.1 x.2.2.2.2))))) 
    /\ (compErr s qs = 0 -> ∀ (p r : Sl) (ts : List Step) (ks : List Nat) (h'_3 : PH), h'.le h'_3 -> AddAll qs [] ts ks -> PlanAt h'_3 p r ts ks -> ∀ (s : Sl) (h' : PH), h'_3.le h' -> 
    RowIn h' s 21 [(QV.enc w), (QV.enc w)] -> ∃ (v : QV), ∃ (p_1 : Query), [cQa [vQi 8, vQi 0, vQi 0, vQi 0, vQi 0, vQi 0, vQi 0, vQi 0, vQz, vQi 0, vQi 0, vQi 0, vQi 0, vQz, vQn, vQn, 
    vQn, vQn, vQn, vQi 0, vQs s]] = [cQa (QV.enc v)] /\ RepQ h' p_1 v /\ branch (!smallQ p_1 == true) (K (cQb false) m' h') (∃ (I : Nat × Sl × Sl × MH × PH -> Prop), ∃ (mu : Nat × Sl × 
    Sl × MH × PH -> Nat), (∃ (x : Nat × Sl × Sl × MH × PH), I x /\ eQ (sQp 6 0) /\ sQi (↑p.len : Int) = sQi (↑x.2.1.len : Int) /\ sQi 0 = sQi (↑x.1 : Int) /\ oQ 49 [aQs p, aQs r] = oQ 
    49 [aQs x.2.1, aQs x.2.2.1] /\ m' = x.2.2.2.1 /\ h' = x.2.2.2.2 /\ True) /\ ∀ (x : Nat × Sl × Sl × MH × PH), I x -> branch (decide ((↑x.1 : Int) < (↑x.2.1.len : Int))) (∃ (I_1 : 
    Nat × Nat × Sl × Sl × MH × PH -> Prop), ∃ (mu_1 : Nat × Nat × Sl × Sl × MH × PH -> Nat), (∃ (x_1 : Nat × Nat × Sl × Sl × MH × PH), I_1 x_1 /\ eQ (sQp 6 0) /\ sQi (↑x.1 : Int) = sQi 
    (↑x_1.1 : Int) /\ sQi 0 = sQi (↑x_1.2.1 : Int) /\ sQi (↑x.2.1.len : Int) = sQi (↑x_1.2.2.1.len : Int) /\ sQi (↑x.1 : Int) = sQi (↑x_1.1 : Int) /\ oQ 49 [aQs x.2.1, aQs x.2.2.1] = 
    oQ 49 [aQs x_1.2.2.1, aQs x_1.2.2.2.1] /\ x.2.2.2.1 = x_1.2.2.2.2.1 /\ x.2.2.2.2 = x_1.2.2.2.2.2 /\ True) /\ ∀ (x_1 : Nat × Nat × Sl × Sl × MH × PH), I_1 x_1 -> branch (decide 
    ((↑x_1.2.1 : Int) < (↑x_1.1 : Int))) (∃ (b : Nat), ∃ (off : Nat), x_1.2.2.1.a = some (Addr.mk b off none) /\ 0 <= (↑x_1.1 : Int) /\ (↑x_1.1 : Int) < (↑x_1.2.2.1.len : Int) /\ ∃ (y 
    : SV2), RdAt x_1.2.2.2.2.1 x_1.2.2.2.2.2 b (off + (↑x_1.1 : Int).toNat * 22) (SV2.enc y) /\ ∃ (b : Nat), ∃ (off : Nat), x_1.2.2.1.a = some (Addr.mk b off none) /\ 0 <= (↑x_1.2.1 : 
    Int) /\ (↑x_1.2.1 : Int) < (↑x_1.2.2.1.len : Int) /\ ∃ (y_1 : SV2), RdAt x_1.2.2.2.2.1 x_1.2.2.2.2.2 b (off + (↑x_1.2.1 : Int).toNat * 22) (SV2.enc y_1) /\ ∃ (v : SV2), ∃ (w : 
    SV2), ∃ (t : Step), ∃ (u : Step), [cQa (SV2.enc y), cQa (SV2.enc y_1)] = [cQa (SV2.enc v), cQa (SV2.enc w)] /\ RepSt x_1.2.2.2.2.2 t v /\ RepSt x_1.2.2.2.2.2 u w /\ ∀ (r : Bool), 
    (r = true ↔ t = u) -> branch r (K (cQb false) x_1.2.2.2.2.1 x_1.2.2.2.2.2) (∃ (x : Nat × Nat × Sl × Sl × MH × PH), I_1 x /\ mu_1 x < mu_1 x_1 /\ eQ (sQp 6 0) /\ sQi (↑x_1.1 : Int) 
    = sQi (↑x.1 : Int) /\ sQi (IntKind.i64.wrap ((↑x_1.2.1 : Int) + 1)) = sQi (↑x.2.1 : Int) /\ sQi (↑x_1.2.2.1.len : Int) = sQi (↑x.2.2.1.len : Int) /\ sQi (↑x_1.1 : Int) = sQi (↑x.1 
    : Int) /\ oQ 49 [aQs x_1.2.2.1, aQs x_1.2.2.2.1] = oQ 49 [aQs x.2.2.1, aQs x.2.2.2.1] /\ x_1.2.2.2.2.1 = x.2.2.2.2.1 /\ x_1.2.2.2.2.2 = x.2.2.2.2.2 /\ True)) (∃ (x_2 : Nat × Sl × 
    Sl × MH × PH), I x_2 /\ mu x_2 < mu x /\ eQ (sQp 6 0) /\ sQi (↑x_1.2.2.1.len : Int) = sQi (↑x_2.2.1.len : Int) /\ sQi (IntKind.i64.wrap ((↑x_1.1 : Int) + 1)) = sQi (↑x_2.1 : Int) 
    /\ oQ 49 [aQs x_1.2.2.1, aQs x_1.2.2.2.1] = oQ 49 [aQs x_2.2.1, aQs x_2.2.2.1] /\ x_1.2.2.2.2.1 = x_2.2.2.2.1 /\ x_1.2.2.2.2.2 = x_2.2.2.2.2 /\ True)) (([] : List CV) = [] /\ TabM 
    x.2.2.2.1 /\ branch ((↑x.2.2.1.len : Int) == 3) (∃ (b : Nat), ∃ (off : Nat), x.2.2.1.a = some (Addr.mk b off none) /\ (0 : Int) <= 0 /\ 0 < (↑x.2.2.1.len : Int) /\ ∃ (y : Int), 
    RdAt x.2.2.2.1 x.2.2.2.2 b (off + 0) [vQi y] /\ ∃ (b : Nat), ∃ (off : Nat), x.2.2.1.a = some (Addr.mk b off none) /\ (0 : Int) <= 1 /\ 1 < (↑x.2.2.1.len : Int) /\ ∃ (y_1 : Int), 
    RdAt x.2.2.2.1 x.2.2.2.2 b (off + 1) [vQi y_1] /\ branch (y == y_1) (∃ (b : Nat), ∃ (off : Nat), x.2.2.1.a = some (Addr.mk b off none) /\ (0 : Int) <= 2 /\ 2 < (↑x.2.2.1.len : Int) 
    /\ ∃ (y : Int), RdAt x.2.2.2.1 x.2.2.2.2 b (off + 2) [vQi y] /\ branch (y == IntKind.i64.wrap ((↑x.2.1.len : Int) - 1)) (∃ (b : Nat), ∃ (off : Nat), x.2.2.1.a = some (Addr.mk b off 
    none) /\ (0 : Int) <= 0 /\ 0 < (↑x.2.2.1.len : Int) /\ ∃ (y : Int), RdAt x.2.2.2.1 x.2.2.2.2 b (off + 0) [vQi y] /\ K (cQb (y == IntKind.i64.wrap ((↑x.2.1.len : Int) - 2))) 
    x.2.2.2.1 x.2.2.2.2) (K (cQb false) x.2.2.2.1 x.2.2.2.2)) (K (cQb false) x.2.2.2.1 x.2.2.2.2)) (K (cQb false) x.2.2.2.1 x.2.2.2.2))))
theorem f4_vc (s : Sl) (m : MH) (h : PH) (K : CV → MH → PH → Prop) : f4_nice s m h K = (fnVC f4_ctx Tryz.f4 (bodyOf Tryz.f4) (entry Tryz.f4.ntmps [cS s] m h) K) := by kernel_rfl
/-! ### Schemas of the case are valid -/
def GoodFrom {α : Type} (T : List α → α → Prop) : List α → List α → Prop
  | _, [] => True
  | pre, x :: r => T pre x ∧ GoodFrom T (pre ++ [x]) r
theorem goodFrom {α : Type} {T : List α → α → Prop} : ∀ {l pre : List α}, GoodFrom T pre l → ∀ (j : Nat) x, l[j]? = some x → T (pre ++ l.take j) x
  | [], _, _, j, x, e => by simp at e
  | y :: r, pre, h, 0, x, e => by simp at e; subst e; simpa using h.1
  | y :: r, pre, h, j + 1, x, e => by
    have := goodFrom h.2 j x (by simpa using e)
    simpa using this
theorem good_of {α : Type} {T : List α → α → Prop} {l : List α} (h : GoodFrom T [] l) : Good T l := fun j x e => by simpa using goodFrom h j x e
theorem good_take {α : Type} {T : List α → α → Prop} {l : List α} (h : Good T l) (n : Nat) : Good T (l.take n) := fun j x e => by
  rw [List.getElem?_take] at e
  split at e
  · rename_i hj
    rw [List.take_take, Nat.min_eq_left (by omega)]
    exact h j x e
  · cases e
theorem sch_ok {s : Sch} (h8 : s.tables.length ≤ 8) (hl : ∀ t ∈ s.tables, t.columns.length ≤ 8 ∧ t.refs = [] ∧ t.checks = []) (v0 : 0 ≤ s.version) (v1 : s.version ≤ 1000) (hg : Good TabT s.tables) : schErr s = 0 := by
  have lim : SchLim s := ⟨h8, fun j t e => by
    obtain ⟨h1, h2, h3⟩ := hl t (List.mem_of_getElem? e)
    exact ⟨h1, by simp [h2], by simp [h3]⟩⟩
  have ok : SchOk s := ⟨v0, v1, hg, fun j t e => by
    obtain ⟨h1, h2, h3⟩ := hl t (List.mem_of_getElem? e)
    unfold RefsT
    rw [h2]
    intro i x e2
    simp at e2⟩
  rw [schErr_ok lim ok]
  refine firstErr_zero _ fun e he => ?_
  obtain ⟨i, _, he⟩ := List.mem_flatMap.1 he
  unfold tabErrs at he
  split at he
  · rename_i t ht
    obtain ⟨h1, h2, h3⟩ := hl t (List.mem_of_getElem? ht)
    rw [h3] at he
    simp at he
  · simp at he
end Go.Ps
namespace Go.Ps
open Go Go.Vc Go.Proofs
theorem plain_good {id : Int} (h : id = 4 ∨ id = 5) : Good TabT (plainTabs id) := by
  have hk : colKind id = true := by rcases h with rfl | rfl <;> rfl
  refine good_of ⟨⟨?_, ?_, ?_, ?_, good_of ⟨⟨?_, ?_, ?_⟩, ⟨?_, ?_, ?_⟩, trivial⟩⟩, ⟨?_, ?_, ?_, ?_, good_of ⟨⟨?_, ?_, ?_⟩, ⟨?_, ?_, ?_⟩, ⟨?_, ?_, ?_⟩, ⟨?_, ?_, ?_⟩, trivial⟩⟩, ⟨?_, ?_, ?_, ?_, good_of ⟨⟨?_, ?_, ?_⟩, ⟨?_, ?_, ?_⟩, trivial⟩⟩, ⟨?_, ?_, ?_, ?_, good_of ⟨⟨?_, ?_, ?_⟩, trivial⟩⟩, trivial⟩
  all_goals first | exact hk | rfl | (simp; done) | decide
theorem plain_ok {s : Sch} (h : PlainSch s) : schErr s = 0 ∧ s.tables ≠ [] := by
  obtain ⟨ver, n, id, v0, v1, n2, n4, hid, rfl⟩ := h.ex
  refine ⟨sch_ok (by simp [plainTabs]; omega) (fun t ht => ?_) v0 (by show ver ≤ 1000; omega) (good_take (plain_good hid) n), fun e => ?_⟩
  · have ht := List.mem_of_mem_take ht
    simp only [plainTabs, List.mem_cons, List.not_mem_nil, or_false] at ht
    rcases ht with rfl | rfl | rfl | rfl <;> exact ⟨by simp, rfl, rfl⟩
  · have := congrArg List.length e
    simp [plainTabs] at this
    omega
/-! ### The example of the chapter -/
def bS : Sch := ⟨0, [⟨⟨⟨[116]⟩⟩, [⟨⟨⟨[105, 100]⟩⟩, 4⟩], 1, [], []⟩]⟩
def bScan : Query := .mk 1 0 zeroP [] [] [] [] 0 []
def bTrue : Pred := .mk 1 0 zeroO zeroO []
def bF : Query := .mk 2 0 bTrue [] [] [] [] 0 [bScan]
def bU : Query := .mk 6 0 zeroP [] [] [] [] 0 [bF, bF]
theorem bS_ok : schErr bS = 0 := sch_ok (by decide) (fun t ht => by simp [bS] at ht; subst ht; exact ⟨by simp, rfl, rfl⟩) (by decide) (by decide) (by
  refine good_of ⟨⟨?_, ?_, ?_, ?_, good_of ⟨⟨?_, ?_, ?_⟩, trivial⟩⟩, trivial⟩
  all_goals first | rfl | (simp; done) | decide)
theorem set_kinds {s : Sch} {ps : List Int} {q : Query} {op : Int} (ho : op = 6 ∨ op = 7 ∨ op = 8) (h : (kindsQ s ps q).2 = 0) : (kindsQ s ps (.mk op 0 zeroP [] [] [] [] 0 [q, q])).2 = 0 := by
  have hl := kindsQ_len s ps q
  have e : kindsQ s ps q = ((kindsQ s ps q).1, 0) := Prod.ext rfl h
  have e2 : kindsQs s ps [q, q] = ([(kindsQ s ps q).1, (kindsQ s ps q).1], 0) := kindsQs_ok (by simp; exact e)
  simp only [kindsQ, e2, if_true]
  have e3 : ((2 : Nat) : Int) = arity op := by rcases ho with rfl | rfl | rfl <;> decide
  simp only [List.length_cons, List.length_nil]
  rw [if_pos e3]
  unfold nodeR
  dsimp only
  rw [if_neg (by rw [← e3]; simp [UnusedOk])]
  rw [if_neg (by omega), if_neg (by omega), if_neg (by omega), if_neg (by omega), if_neg (by omega), if_neg (by omega), if_neg (by omega), if_pos (by simp)]
  simp only [List.getD_cons_zero]
  unfold limK
  rw [if_pos hl]
theorem bU_ok : (queryR bS [] bU).2 = 0 := by
  have h1 : (queryR bS [] bScan).2 = 0 := scan_ok bS_ok (by decide) (by decide) (by decide)
  have h2 := (query_kinds h1).2.2.2
  have h3 : (kindsQ bS [] bF).2 = 0 := by
    have hl := kindsQ_len bS [] bScan
    have e : kindsQ bS [] bScan = ((kindsQ bS [] bScan).1, 0) := Prod.ext rfl h2
    have e2 : kindsQs bS [] [bScan] = ([(kindsQ bS [] bScan).1], 0) := kindsQs_ok (by simp; exact e)
    have e4 : kindsQ bS [] bF = nodeR bS [] bF (kindsQ bS [] bScan).1 [] := by
      show kindsQ bS [] (.mk 2 0 bTrue [] [] [] [] 0 [bScan]) = _
      simp only [kindsQ, e2, if_true]
      rw [if_pos (by decide)]
      rfl
    have e5 : (kindsQ bS [] bScan).1 = [4] := by
      have e6 : kindsQ bS [] bScan = nodeR bS [] bScan [] [] := by
        show kindsQ bS [] (.mk 1 0 zeroP [] [] [] [] 0 []) = _
        simp only [kindsQ, kindsQs, if_true]
        rfl
      rw [e6]
      unfold nodeR bScan
      dsimp only
      rw [if_neg (by simp [UnusedOk, arity]), if_pos rfl, if_pos (by decide)]
      rfl
    have e7 : predErr [4] [] bTrue = 0 := by
      have e8 : validF [4] [] bTrue = true := by
        have : eqO zeroO zeroO = true := eqO_iff.2 rfl
        simp [bTrue, validF, plainF, this]
      unfold predErr
      rw [e8, if_neg (by decide), if_neg (by decide)]
      rfl
    rw [e4, e5]
    unfold nodeR bF
    dsimp only
    rw [if_neg (by simp [UnusedOk, arity]), if_neg (by decide), if_pos rfl, if_pos e7]
    rfl
  have h4 := set_kinds (.inl rfl) h3
  have e2 : smallQ bU = true := by rfl
  unfold queryR
  rw [if_pos bS_ok, if_pos (by decide), if_pos e2]
  exact h4
theorem bU_plan {ts : List Step} {ks : List Nat} (h : AddAll [bU] [] ts ks) : ks = [2] ∧ ts.length = 3 ∧ ∃ t, ts[2]? = some t ∧ t.left = 1 ∧ t.right = 1 := by
  obtain ⟨t1, k1, _, h1, ⟨rfl, rfl⟩, rfl⟩ := h
  unfold bU at h1
  rw [addQ_iff] at h1
  obtain ⟨u1, l, u2, r, g1, g2, g3⟩ := h1
  have n0 : (([] : List Step).map keyOf).Nodup := by simp
  have g1 : AddQ bF [] u1 l := g1
  have n1 := (addQ_nodup bF n0 g1).1
  obtain ⟨rfl, rfl⟩ := again bF n0 g1 (List.prefix_refl _) n1 g2
  unfold bF at g1
  rw [addQ_iff] at g1
  obtain ⟨v1, l1, v2, r1, f1, ⟨rfl, rfl⟩, f3⟩ := g1
  have f1 : AddQ bScan [] v2 l1 := f1
  unfold bScan at f1
  rw [addQ_iff] at f1
  obtain ⟨w1, l2, w2, r2, ⟨rfl, rfl⟩, ⟨rfl, rfl⟩, f5⟩ := f1
  rcases f5 with ⟨x, hx, _⟩ | ⟨_, rfl, rfl⟩
  · simp at hx
  rcases f3 with ⟨x, hx, e, _⟩ | ⟨_, rfl, rfl⟩
  · exfalso
    have := (key_parts e).1
    cases r with
    | zero => simp at hx; subst hx; simp at this
    | succ i => simp at hx
  rcases g3 with ⟨x, hx, e, _⟩ | ⟨_, rfl, rfl⟩
  · exfalso
    have := (key_parts e).1
    match k1, hx with
    | 0, hx => simp at hx; subst hx; simp at this
    | 1, hx => simp at hx; subst hx; simp at this
    | i + 2, hx => simp at hx
  exact ⟨rfl, rfl, _, rfl, rfl, rfl⟩
theorem comp_ok {s : Sch} {qs : List Query} (hl : qs.length ≤ 32) (hs : schErr s = 0) : compErr s qs = firstErr (qs.map fun q => (queryR s [] q).2) := by
  unfold compErr
  rw [if_neg (by omega), if_neg (by simp [hs])]
theorem repQl_two {h : PH} {s : Sl} {v : QV} {q : Query} (r : RowIn h s 21 [QV.enc v, QV.enc v]) (hq : RepQ h q v) : RepQl h s [q, q] := ⟨⟨[v, v], r, rfl, fun i x e => by
  match i, e with
  | 0, e => simp at e; subst e; exact ⟨v, rfl, hq⟩
  | 1, e => simp at e; subst e; exact ⟨v, rfl, hq⟩
  | i + 2, e => simp at e⟩, by simp⟩
theorem Steps.at {h : PH} {p : Sl} {vs : List SV2} {ts : List Step} (r : RowIn h p 22 (vs.map SV2.enc)) (s : Steps h vs ts) {i : Nat} {t : Step} (hi : ts[i]? = some t) : ∃ b o v, p.a = some ⟨b, o, none⟩ ∧ RdCells h b (o + i * 22) (SV2.enc v) ∧ RepSt h t v := by
  obtain ⟨v, h1, h2⟩ := s.2 i t hi
  obtain ⟨b, o, e, k⟩ := r.get (i := i) (e := SV2.enc v) (by simp [h1])
  exact ⟨b, o, v, e, k, h2⟩
theorem Steps.slen {h : PH} {p : Sl} {vs : List SV2} {ts : List Step} (r : RowIn h p 22 (vs.map SV2.enc)) (s : Steps h vs ts) : p.len = ts.length := by
  have := r.len
  simp at this
  rw [this, s.1]
theorem f16_ok {m : MH} {h : PH} {K : CV → MH → PH → Prop} (ht : TabM m) (hK : K (cB true) m h) : f16_nice m h (Weak h K) := by
  intro s1 h1 le1 r1 s2 h2 le2 r2 s3 h3 le3 r3 s4 h4 le4 r4 s5 h5 le5 r5
  have rs : RepQ h5 bScan ⟨1, 0, zeroPV, nilS, nilS, nilS, nilS, 0, nilS⟩ := scan_rep h5 0
  have rf : RepQ h5 bF ⟨2, 0, ⟨1, 0, zeroO, zeroO, nilS⟩, nilS, nilS, nilS, nilS, 0, s2⟩ := filter_rep (leaf_rep rfl) (repQl_one (v := ⟨1, 0, zeroPV, nilS, nilS, nilS, nilS, 0, nilS⟩) (r2.mono ((le3.trans le4).trans le5)) rs)
  have ru : RepQ h5 bU ⟨6, 0, zeroPV, nilS, nilS, nilS, nilS, 0, s3⟩ := QParts.rep ⟨rfl, rfl, zeroP_rep h5, ints_nil h5, pairs_nil h5, ints_nil h5, sorts_nil h5, rfl, repQl_two (v := ⟨2, 0, ⟨1, 0, zeroO, zeroO, nilS⟩, nilS, nilS, nilS, nilS, 0, s2⟩) (r3.mono (le4.trans le5)) rf⟩
  have rt : RepTab h5 ⟨⟨⟨[116]⟩⟩, [⟨⟨⟨[105, 100]⟩⟩, 4⟩], 1, [], []⟩ ⟨⟨⟨[116]⟩⟩, s1, 1, nilS, nilS⟩ := ⟨rfl, cols_of (l := [⟨_, _⟩]) (r1.mono (((le2.trans le3).trans le4).trans le5)) (by simp), rfl, RepL.nil _ _ _ _, RepL.nil _ _ _ _⟩
  have rS : RepS h5 bS ⟨0, s4⟩ := ⟨rfl, ⟨⟨[⟨⟨⟨[116]⟩⟩, s1, 1, nilS, nilS⟩], r4.mono le5, rfl, fun i x e => by
    match i, e with
    | 0, e => simp [bS] at e; subst e; exact ⟨_, rfl, rt⟩
    | i + 1, e => simp [bS] at e⟩, by simp [bS]⟩⟩
  have hce : compErr bS [bU] = 0 := by
    rw [comp_ok (by decide) bS_ok]
    simp [firstErr, bU_ok]
  refine ⟨⟨0, s4⟩, s5, bS, [bU], rfl, rS, repQl_one (v := ⟨6, 0, zeroPV, nilS, nilS, nilS, nilS, 0, s3⟩) r5 ru, ht, fun q _ hq => query_key hq, fun hn => (hn hce).elim, fun _ p r ts ks h6 le6 hadd hp => ?_⟩
  obtain ⟨rfl, htl, t, h2t, tl, tr⟩ := bU_plan hadd
  obtain ⟨vs, hrow, hst⟩ := hp.steps
  have hpl := Steps.slen hrow hst
  have hrl := hp.roots.slen
  obtain ⟨b1, o1, e1, q1⟩ := hp.roots.at (i := 0) (x := 2) rfl
  obtain ⟨b2, o2, v, e2, q2, rv⟩ := Steps.at hrow hst h2t
  have hle := ((((le1.trans le2).trans le3).trans le4).trans le5).trans le6
  have hrl : r.len = 1 := by simpa using hrl
  rw [hpl, htl, hrl]
  refine branch_intro (fun _ => branch_intro (fun _ => ⟨b1, o1, e1, by omega, by omega, 2, .imm q1, branch_intro (fun _ => ⟨b2, o2, e2, by omega, by omega, v.left, .imm (RdCells.part q2 20 1), branch_intro (fun _ => ⟨b2, o2, e2, by omega, by omega, v.right, .imm (RdCells.part q2 21 1), ?_⟩) (fun e => ?_)⟩) (fun e => ?_)⟩) (fun e => ?_)) (fun e => ?_)
  · rw [rv.right_, tr]; exact .out (Sub.refl m) hle hK
  · rw [rv.left_, tl] at e; cases e
  · cases e
  · cases e
  · cases e
theorem f16_sound : Sound Tryz.prog 16 BegunS := by
  refine fn_sound' (fn := Tryz.f16) (c := bodyOf Tryz.f16) Tryz.func16 rfl (by decide) ?_
  rintro cvs m h K ⟨rfl, ht, hK⟩
  refine ⟨ctx2 [(14, CompileS)] [] [] [] false, rfl, specs_cons f14_sound specs_nil, ?_⟩
  rw [← f16_vc m h _]
  exact f16_ok ht hK
end Go.Ps
namespace Go.Ps
open Go Go.Vc Go.Proofs
def interQ (q : Query) : Query := .mk 8 0 zeroP [] [] [] [] 0 [q, q]
theorem inter_err {s : Sch} {q : Query} (h : (queryR s [] q).2 = 0) : (queryR s [] (interQ q)).2 = if smallQ (interQ q) = true then 0 else 2 := by
  obtain ⟨h1, h2, h3, h4⟩ := query_kinds h
  have := set_kinds (.inr (.inr rfl)) h4
  unfold queryR
  rw [if_pos h1, if_pos h2]
  split
  · exact this
  · rfl
theorem TabM.new {m m' : MH} {cb : Nat} (ht : TabM m) (hc : m cb = none) (o : MOther m m' cb) : TabM m' := by
  obtain ⟨T, fz, h1, h2, e⟩ := ht
  refine ⟨T, fz, h1, h2, ?_⟩
  rw [o.other 0 (fun e2 => by rw [← e2, e] at hc; cases hc)]; exact e
theorem f4_ok {s : Sl} {cs : List UInt8} {m : MH} {h : PH} {K : CV → MH → PH → Prop} (hr : RowIn h s 1 (bytesVal cs)) (hcap : s.len ≤ s.cap) (ht : TabM m) (hK : ∀ m' h', Sub m m' → K (cB true) m' h') : f4_nice s m h K := by
  refine ⟨s, cs, 220, rfl, hr, hcap, by omega, fun cb m1 h1 le1 hcb o1 c1 => ⟨cb, rfl, c1, fun sc v m2 h2 hpl rS le2 o2 c2 => ?_⟩⟩
  obtain ⟨hse, hne⟩ := plain_ok hpl
  refine ⟨cb, v, nilS, sc, [], 3, rfl, c2, rS, hse, hne, ints_nil _, by simp, by simp, by omega, by omega, by decide, fun w q m3 h3 le3 rq hq o3 c3 s1 h4 le4 r4 s2 h5 le5 r5 => ?_⟩
  have ho3 := (o1.trans o2).trans o3
  have ht3 : TabM m3 := ht.new hcb ho3
  have hsub : Sub m m3 := fun b o e => by rw [ho3.other b (fun e2 => by rw [e2, hcb] at e; cases e)]; exact e
  have hq5 : RepQ h5 q w := rq.mono (le4.trans le5)
  have ri : RepQ h5 (interQ q) ⟨8, 0, zeroPV, nilS, nilS, nilS, nilS, 0, s1⟩ := QParts.rep ⟨rfl, rfl, zeroP_rep h5, ints_nil h5, pairs_nil h5, ints_nil h5, sorts_nil h5, rfl, repQl_two (r4.mono le5) hq5⟩
  have rl : RepQl h5 s2 [q, q, interQ q] := ⟨⟨[w, w, ⟨8, 0, zeroPV, nilS, nilS, nilS, nilS, 0, s1⟩], r5, rfl, fun i x e => by
    match i, e with
    | 0, e => simp at e; subst e; exact ⟨_, rfl, hq5⟩
    | 1, e => simp at e; subst e; exact ⟨_, rfl, hq5⟩
    | 2, e => simp at e; subst e; exact ⟨_, rfl, ri⟩
    | i + 3, e => simp at e⟩, by simp⟩
  have hce : compErr sc [q, q, interQ q] = if smallQ (interQ q) = true then 0 else 2 := by
    rw [comp_ok (by simp) hse, ← inter_err hq]
    simp only [List.map_cons, List.map_nil, firstErr, hq, if_true]
    split
    · rename_i e; exact e.symm
    · rfl
  have ri2 : ∀ {h6 : PH} {s3 : Sl}, PH.le h5 h6 → RowIn h6 s3 21 [QV.enc w, QV.enc w] → RepQ h6 (interQ q) ⟨8, 0, zeroPV, nilS, nilS, nilS, nilS, 0, s3⟩ := fun {h6 s3} le6 r6 => QParts.rep ⟨rfl, rfl, zeroP_rep h6, ints_nil h6, pairs_nil h6, ints_nil h6, sorts_nil h6, rfl, repQl_two r6 (hq5.mono le6)⟩
  refine ⟨v, s2, sc, [q, q, interQ q], rfl, rS.mono ((le3.trans le4).trans le5), rl, ht3, fun q' _ e => query_key e, fun hn s3 h6 le6 r6 => ?_, fun hz p r ts ks h6 le6 hadd hp s3 h7 le7 r7 => ?_⟩
  · have hsm : smallQ (interQ q) = false := by
      cases e : smallQ (interQ q) with
      | false => rfl
      | true => rw [hce, e] at hn; exact (hn rfl).elim
    rw [hsm] at hce
    have hce : compErr sc [q, q, interQ q] = 2 := hce
    refine ⟨_, interQ q, rfl, ri2 le6 r6, ?_⟩
    rw [hsm, hce]
    exact ⟨rfl, ht3, hK _ _ hsub⟩
  · have hsm : smallQ (interQ q) = true := by
      cases e : smallQ (interQ q) with
      | true => rfl
      | false => rw [hce, e] at hz; cases hz
    refine ⟨_, interQ q, rfl, ri2 (le6.trans le7) r7, ?_⟩
    rw [hsm]
    have hbig : ts.length ≤ 1000 := by
      obtain ⟨t1, k1, _, a1, ⟨t2, k2, _, a2, ⟨t3, k3, _, a3, ⟨rfl, rfl⟩, _⟩, _⟩, _⟩ := hadd
      have z1 := addQ_len q a1
      have z2 := addQ_len q a2
      have z3 := addQ_len (interQ q) a3
      have z4 := szQ_small (query_small hq)
      have z5 := szQ_small hsm
      simp at z1
      omega
    obtain ⟨k, rfl, htl, hnd⟩ := shares (query_ar hq) hadd
    obtain ⟨vs, hrow, hst⟩ := hp.steps
    have hpl := Steps.slen hrow hst
    have hrl := hp.roots.slen
    have hrl : r.len = 3 := by simpa using hrl
    obtain ⟨b0, f0, e0, q0⟩ := (hp.roots.mono le7).at (i := 0) (x := (k : Int)) rfl
    obtain ⟨b1, f1, e1, q1⟩ := (hp.roots.mono le7).at (i := 1) (x := (k : Int)) rfl
    obtain ⟨b2, f2, e2, q2⟩ := (hp.roots.mono le7).at (i := 2) (x := ((k + 1 : Nat) : Int)) rfl
    show branch (!true == true) _ _
    refine ⟨fun ⟨i, p', r', mx, hx⟩ => p' = p ∧ r' = r ∧ mx = m3 ∧ hx = h7 ∧ i ≤ ts.length, fun ⟨i, _, _, _, _⟩ => ts.length - i, ⟨(0, p, r, m3, h7), ⟨rfl, rfl, rfl, rfl, by omega⟩, MT⟩, ?_⟩
    rintro ⟨i, p, r, m3, h7⟩ ⟨rfl, rfl, rfl, rfl, hi⟩
    dsimp only
    have hst7 : Steps h7 vs ts := ⟨hst.1, fun i t e => let ⟨v, k1, k2⟩ := hst.2 i t e; ⟨v, k1, k2.mono le7⟩⟩
    have hrow7 := hrow.mono le7
    refine branch_dec (fun hlt => ?_) (fun hge => ?_)
    · refine ⟨fun ⟨i', k, p', r', mx, hx⟩ => i' = i ∧ p' = p ∧ r' = r ∧ mx = m3 ∧ hx = h7 ∧ k ≤ i, fun ⟨_, k, _, _, _, _⟩ => i - k, ⟨(i, 0, p, r, m3, h7), ⟨rfl, rfl, rfl, rfl, rfl, by omega⟩, MT⟩, ?_⟩
      rintro ⟨i, j, p, r, m3, h7⟩ ⟨rfl, rfl, rfl, rfl, rfl, hj⟩
      dsimp only
      refine branch_dec (fun hlt2 => ?_) (fun hge2 => ⟨(i + 1, p, r, m3, h7), ⟨rfl, rfl, rfl, rfl, by omega⟩, by show ts.length - (i + 1) < ts.length - i; omega, MT⟩)
      have hi' : i < ts.length := by omega
      have hj' : j < ts.length := by omega
      obtain ⟨c1, g1, v1, y1, z1, w1⟩ := Steps.at hrow7 hst7 (List.getElem?_eq_getElem hi')
      obtain ⟨c2, g2, v2, y2, z2, w2⟩ := Steps.at hrow7 hst7 (List.getElem?_eq_getElem hj')
      refine ⟨c1, g1, y1, by omega, hlt, v1, .imm z1, c2, g2, y2, by omega, by omega, v2, .imm z2, v1, v2, _, _, rfl, w1, w2, fun b hb => branch_intro (fun e => ?_) (fun e => ⟨(i, j + 1, p, r, m3, h7), ⟨rfl, rfl, rfl, rfl, rfl, by show j + 1 ≤ i; omega⟩, by show i - (j + 1) < i - j; omega, MT⟩)⟩
      exfalso
      have e3 := hb.1 e
      have := nodup_idx hnd (List.getElem?_eq_getElem hi') (List.getElem?_eq_getElem hj') (by rw [e3])
      omega
    · refine ⟨rfl, ht3, ?_⟩
      have hw1 : IntKind.i64.wrap ((p.len : Int) - 1) = ((k + 1 : Nat) : Int) := by rw [hpl, htl, wrap_id (by omega) (by omega)]; omega
      have hw2 : IntKind.i64.wrap ((p.len : Int) - 2) = (k : Int) := by rw [hpl, htl, wrap_id (by omega) (by omega)]; omega
      rw [hw1, hw2, hrl]
      refine branch_intro (fun _ => ⟨b0, f0, e0, by omega, by omega, (k : Int), .imm q0, b1, f1, e1, by omega, by omega, (k : Int), .imm q1, branch_intro (fun _ => ⟨b2, f2, e2, by omega, by omega, ((k + 1 : Nat) : Int), .imm q2, branch_intro (fun _ => ⟨b0, f0, e0, by omega, by omega, (k : Int), .imm q0, ?_⟩) (fun e => ?_)⟩) (fun e => ?_)⟩) (fun e => ?_)
      · rw [beq_self_eq_true]; exact hK _ _ hsub
      · simp at e
      · simp at e
      · cases e
theorem f4_sound : Sound Tryz.prog 4 SharesS := by
  refine fn_sound (fn := Tryz.f4) (c := bodyOf Tryz.f4) Tryz.func4 rfl (by decide) ?_
  rintro cvs m h K ⟨s, cs, rfl, hr, hcap, ht, hK⟩
  refine ⟨f4_ctx, rfl, specs_cons f7_sound (specs_cons f8_sound (specs_cons (f18_all 5) (specs_cons f14_sound (specs_cons f19_sound (specs_cons f16_sound (specs_cons f20_sound specs_nil)))))), ?_⟩
  rw [← f4_vc s m h K]
  exact f4_ok hr hcap ht hK
end Go.Ps
