/-
  Part 6 of a proof that a law of the given program returns true: a condition generator that is proved sound, and contracts of functions. No condition of its own. Own work, joined by program (pack.py).
-/
import Derived.Test.YtogokeienebdfaaGreatDoorMe
namespace Go.Ps
open Go Go.Vc Go.Proofs
mutual
def PredW : Pred → Prop
  | .mk _ _ l r args => ValW l.value ∧ ValW r.value ∧ PredWs args
def PredWs : List Pred → Prop
  | [] => True
  | p :: ps => PredW p ∧ PredWs ps
end
theorem PredWs_iff : ∀ {l : List Pred}, PredWs l ↔ ∀ p ∈ l, PredW p
  | [] => by simp [PredWs]
  | p :: ps => by simp [PredWs, PredWs_iff (l := ps)]
theorem valW_zero : ValW zeroV := ⟨⟨by decide, by decide⟩, by decide⟩
def OperandW : Vc.Spec := fun cvs m h K => ∃ cb s t kind cols params, cvs = [cP cb, cS s, cS t, cI kind] ∧ CaseOk m h cb ∧ Ints h s cols ∧ Ints h t params ∧ cols.length ≤ 1000 ∧ params.length ≤ 1000 ∧ ∀ o m', ValW o.value → MOther m m' cb → CaseOk m' h cb → K (aO o) m' h
/-- A predicate comes back. -/
def KP (K : CV → MH → PH → Prop) (m : MH) (h : PH) (cb : Nat) : Prop := ∀ v p m' h', PH.le h h' → RepP h' p v → PredW p → MOther m m' cb → CaseOk m' h' cb → K (aP v) m' h'
def TreeW (N : Nat) : Vc.Spec := fun cvs m h K => ∃ cb s t cols params, ∃ deep : Nat, cvs = [cP cb, cS s, cS t, cI deep] ∧ CaseOk m h cb ∧ Ints h s cols ∧ Ints h t params ∧ cols.length ≤ 1000 ∧ params.length ≤ 1000 ∧ deep < N ∧ deep ≤ 1000 ∧ KP K m h cb
def PredicateW : Vc.Spec := fun cvs m h K => ∃ cb s t cols params, ∃ deep : Nat, cvs = [cP cb, cS s, cS t, cI deep] ∧ CaseOk m h cb ∧ Ints h s cols ∧ Ints h t params ∧ cols.length ≤ 1000 ∧ params.length ≤ 1000 ∧ deep ≤ 1000 ∧ KP K m h cb
def pv (b : Nat) : SV := vv (.pointer (some ⟨b, 0, none⟩))
noncomputable def f79_ctx (cb : Nat) (s t : Sl) (kind : Int) (m : MH) (h : PH) : Ctx :=
  ctx2 [(12, IntW), (80, ValueW)]
   [(3, { A := Nat × List OV, st := fun ⟨i, os⟩ => mkSt 64 68 [(0, pv cb), (2, sv t), (3, iv kind), (8, .at (.ptr 8 0)), (9, .at (.lst 29)), (15, sv s), (16, iv s.len), (17, iv i)] [(8, .cells 35 (zeroO.enc.map .val)), (29, .lst 35 5 (os.map OV.enc))] m h }),
    (9, { A := Nat × List OV, st := fun ⟨i, os⟩ => mkSt 64 68 [(0, pv cb), (3, iv kind), (8, .at (.ptr 8 0)), (9, .at (.lst 29)), (31, sv t), (32, iv t.len), (33, iv i)] [(8, .cells 35 (zeroO.enc.map .val)), (29, .lst 35 5 (os.map OV.enc))] m h })] [] [] false
noncomputable def f56_ctx (N : Nat) (cb : Nat) (s t : Sl) (deep : Nat) (h0 : PH) : Ctx :=
  ctx2 [(12, IntW), (10, BoolW), (79, OperandW), (80, ValueW), (56, TreeW N)]
   [(18, { A := Int × Int × List PV × MH × PH, st := fun ⟨op, n, us, m, h⟩ => mkSt 107 111 [(0, pv cb), (1, sv s), (2, sv t), (3, iv deep), (8, .at (.ptr 8 0)), (12, .at (.ptr 12 0)), (13, iv n)] [(8, .cells 38 (zeroPV.enc.map .val)), (12, .cells 38 (((⟨op, 0, zeroO, zeroO, ⟨none, 0, 0⟩⟩ : PV).enc.take 12).map .val ++ [.lst 104])), (104, .lst 38 13 (us.map PV.enc))] m h })]
   [(3, { A := Int × Bool × MH, st := fun ⟨k, b, m⟩ => mkSt 107 111 [(0, pv cb), (1, sv s), (2, sv t), (3, iv deep), (8, .at (.ptr 8 0)), (9, iv k), (16, bv b)] [(8, .cells 38 (zeroPV.enc.map .val))] m h0 }),
    (5, { A := Int × Bool × MH, st := fun ⟨k, b, m⟩ => mkSt 107 111 [(0, pv cb), (1, sv s), (2, sv t), (3, iv deep), (8, .at (.ptr 8 0)), (9, iv k), (27, bv b)] [(8, .cells 38 (zeroPV.enc.map .val))] m h0 }),
    (8, { A := Int × MH, st := fun ⟨k, m⟩ => mkSt 107 111 [(0, pv cb), (1, sv s), (2, sv t), (8, .at (.ptr 8 0)), (10, iv k)] [(8, .cells 38 (zeroPV.enc.map .val))] m h0 }),
    (9, { A := PV × Int × MH, st := fun ⟨p, k, m⟩ => mkSt 107 111 [(0, pv cb), (1, sv s), (2, sv t), (8, .at (.ptr 8 0)), (10, iv k), (11, .at (.ptr 11 0))] [(8, .cells 38 (zeroPV.enc.map .val)), (11, .cells 38 (p.enc.map .val))] m h0 }),
    (11, { A := PV × MH, st := fun ⟨p, m⟩ => mkSt 107 111 [(0, pv cb), (8, .at (.ptr 8 0)), (11, .at (.ptr 11 0))] [(8, .cells 38 (zeroPV.enc.map .val)), (11, .cells 38 (p.enc.map .val))] m h0 }),
    (13, { A := PV × MH, st := fun ⟨p, m⟩ => mkSt 107 111 [(8, .at (.ptr 8 0)), (11, .at (.ptr 11 0))] [(8, .cells 38 (zeroPV.enc.map .val)), (11, .cells 38 (p.enc.map .val))] m h0 })] [] false
def f79_nice (cb : Nat) (s t : Sl) (kind : Int) (m : MH) (h : PH) (K : CV → MH → PH → Prop) : Prop :=
    ∃ (I : Nat × List OV -> Prop), ∃ (mu : Nat × List OV -> Nat), (∃ (x : Nat × List OV), I x /\ eQ (sQo cb 0) /\ eQ (sQs t) /\ eQ (sQi kind) /\ eQ (sQp 8 0) /\ eQ (sQl 29) /\ eQ (sQs 
    s) /\ eQ (sQi (↑s.len : Int)) /\ sQi 0 = sQi (↑x.1 : Int) /\ eQ (oQ 35 [aQi 0, aQi 0, aQi 0, aQi 0, aQz]) /\ some (Own.lst 35 5 []) = some (Own.lst 35 5 (List.map OV.enc x.2)) /\ m 
    = m /\ h = h /\ True) /\ ∀ (x : Nat × List OV), I x -> branch (decide ((↑x.1 : Int) < (↑s.len : Int))) (∃ (b : Nat), ∃ (off : Nat), s.a = some (Addr.mk b off none) /\ 0 <= (↑x.1 : 
    Int) /\ (↑x.1 : Int) < (↑s.len : Int) /\ ∃ (y : Int), RdAt m h b (off + (↑x.1 : Int).toNat * 1) [vQi y] /\ branch (y == kind) (((List.map OV.enc x.2).length + 1) * 48 <= 
    140737488355328 /\ (List.map OV.enc x.2).length < 140737488355328 /\ ∃ (y : Nat × List OV), I y /\ mu y < mu x /\ eQ (sQo cb 0) /\ eQ (sQs t) /\ eQ (sQi kind) /\ eQ (sQp 8 0) /\ eQ 
    (sQl 29) /\ eQ (sQs s) /\ eQ (sQi (↑s.len : Int)) /\ sQi (IntKind.i64.wrap ((↑x.1 : Int) + 1)) = sQi (↑y.1 : Int) /\ eQ (oQ 35 [aQi 0, aQi 0, aQi 0, aQi 0, aQz]) /\ some (Own.lst 
    35 5 (List.map OV.enc x.2 ++ [[vQi 1, vQi (↑x.1 : Int), vQi 0, vQi 0, vQz]])) = some (Own.lst 35 5 (List.map OV.enc y.2)) /\ m = m /\ h = h /\ True) (∃ (y : Nat × List OV), I y /\ 
    mu y < mu x /\ eQ (sQo cb 0) /\ eQ (sQs t) /\ eQ (sQi kind) /\ eQ (sQp 8 0) /\ eQ (sQl 29) /\ eQ (sQs s) /\ eQ (sQi (↑s.len : Int)) /\ sQi (IntKind.i64.wrap ((↑x.1 : Int) + 1)) = 
    sQi (↑y.1 : Int) /\ eQ (oQ 35 [aQi 0, aQi 0, aQi 0, aQi 0, aQz]) /\ some (Own.lst 35 5 (List.map OV.enc x.2)) = some (Own.lst 35 5 (List.map OV.enc y.2)) /\ m = m /\ h = h /\ 
    True)) (∃ (I : Nat × List OV -> Prop), ∃ (mu : Nat × List OV -> Nat), (∃ (x_1 : Nat × List OV), I x_1 /\ eQ (sQo cb 0) /\ eQ (sQi kind) /\ eQ (sQp 8 0) /\ eQ (sQl 29) /\ eQ (sQs t) 
    /\ eQ (sQi (↑t.len : Int)) /\ sQi 0 = sQi (↑x_1.1 : Int) /\ eQ (oQ 35 [aQi 0, aQi 0, aQi 0, aQi 0, aQz]) /\ some (Own.lst 35 5 (List.map OV.enc x.2)) = some (Own.lst 35 5 (List.map 
    OV.enc x_1.2)) /\ m = m /\ h = h /\ True) /\ ∀ (x : Nat × List OV), I x -> branch (decide ((↑x.1 : Int) < (↑t.len : Int))) (∃ (b : Nat), ∃ (off : Nat), t.a = some (Addr.mk b off 
    none) /\ 0 <= (↑x.1 : Int) /\ (↑x.1 : Int) < (↑t.len : Int) /\ ∃ (y : Int), RdAt m h b (off + (↑x.1 : Int).toNat * 1) [vQi y] /\ branch (y == kind) (((List.map OV.enc x.2).length + 
    1) * 48 <= 140737488355328 /\ (List.map OV.enc x.2).length < 140737488355328 /\ ∃ (y : Nat × List OV), I y /\ mu y < mu x /\ eQ (sQo cb 0) /\ eQ (sQi kind) /\ eQ (sQp 8 0) /\ eQ 
    (sQl 29) /\ eQ (sQs t) /\ eQ (sQi (↑t.len : Int)) /\ sQi (IntKind.i64.wrap ((↑x.1 : Int) + 1)) = sQi (↑y.1 : Int) /\ eQ (oQ 35 [aQi 0, aQi 0, aQi 0, aQi 0, aQz]) /\ some (Own.lst 
    35 5 (List.map OV.enc x.2 ++ [[vQi 2, vQi (↑x.1 : Int), vQi 0, vQi 0, vQz]])) = some (Own.lst 35 5 (List.map OV.enc y.2)) /\ m = m /\ h = h /\ True) (∃ (y : Nat × List OV), I y /\ 
    mu y < mu x /\ eQ (sQo cb 0) /\ eQ (sQi kind) /\ eQ (sQp 8 0) /\ eQ (sQl 29) /\ eQ (sQs t) /\ eQ (sQi (↑t.len : Int)) /\ sQi (IntKind.i64.wrap ((↑x.1 : Int) + 1)) = sQi (↑y.1 : 
    Int) /\ eQ (oQ 35 [aQi 0, aQi 0, aQi 0, aQi 0, aQz]) /\ some (Own.lst 35 5 (List.map OV.enc x.2)) = some (Own.lst 35 5 (List.map OV.enc y.2)) /\ m = m /\ h = h /\ True)) (∃ (cb_1 : 
    Nat), ∃ (n : Int), [cQp cb 0, cQi (IntKind.i64.wrap ((↑(List.map OV.enc x.2).length : Int) + 1))] = [cQp cb_1 0, cQi n] /\ CaseOk m h cb_1 /\ ∀ (k : Int) (m' : MH), 0 <= k -> k < n 
    ∨ k = 0 -> MOther m m' cb_1 -> CaseOk m' h cb_1 -> branch (decide (k < (↑(List.map OV.enc x.2).length : Int))) (0 <= k /\ k < (↑(List.map OV.enc x.2).length : Int) /\ ∃ (e : List 
    Value), (List.map OV.enc x.2)[k.toNat]? = some e /\ ∃ (y : OV), List.take 5 (List.drop 0 e) = (OV.enc y) /\ K (cQa (OV.enc y)) m' h) (∃ (cb_2 : Nat), ∃ (kind_1 : Int), [cQp cb 0, 
    cQi kind] = [cQp cb_2 0, cQi kind_1] /\ CaseOk m' h cb_2 /\ ∀ (v : VV) (m'_1 : MH), ValW v -> MOther m' m'_1 cb_2 -> CaseOk m'_1 h cb_2 -> K (cQa [vQi 3, vQi 0, vQi v.kind, vQi 
    v.int, Value.string v.text]) m'_1 h)))
theorem f79_vc (cb : Nat) (s t : Sl) (kind : Int) (m : MH) (h : PH) (K : CV → MH → PH → Prop) : f79_nice cb s t kind m h K = (fnVC (f79_ctx cb s t kind m h) Tryz.f79 (bodyOf Tryz.f79) (entry Tryz.f79.ntmps [cP cb, cS s, cS t, cI kind] m h) K) := by kernel_rfl
def f56_nice (N : Nat) (cb : Nat) (s t : Sl) (deep : Nat) (m : MH) (h : PH) (K : CV → MH → PH → Prop) : Prop :=
    ∃ (cb_1 : Nat), ∃ (n : Int), [cQp cb 0, cQi 9] = [cQp cb_1 0, cQi n] /\ CaseOk m h cb_1 /\ ∀ (k : Int) (m' : MH), 0 <= k -> k < n ∨ k = 0 -> MOther m m' cb_1 -> CaseOk m' h cb_1 -> 
    ∃ (I : Int × Bool × MH -> Prop), branch (k == 0) (∃ (cb_2 : Nat), ∃ (n : Int), [cQp cb 0, cQi 2] = [cQp cb_2 0, cQi n] /\ 0 <= n /\ n <= 1000 /\ CaseOk m' h cb_2 /\ ∀ (r : Bool) 
    (m'_1 : MH), MOther m' m'_1 cb_2 -> CaseOk m'_1 h cb_2 -> ∃ (x : Int × Bool × MH), I x /\ eQ (sQo cb 0) /\ eQ (sQs s) /\ eQ (sQs t) /\ eQ (sQi (↑deep : Int)) /\ eQ (sQp 8 0) /\ sQi 
    k = sQi x.1 /\ sQb r = sQb x.2.1 /\ eQ (oQ 38 zP) /\ m'_1 = x.2.2 /\ h = h /\ True) (∃ (x : Int × Bool × MH), I x /\ eQ (sQo cb 0) /\ eQ (sQs s) /\ eQ (sQs t) /\ eQ (sQi (↑deep : 
    Int)) /\ eQ (sQp 8 0) /\ sQi k = sQi x.1 /\ sQb false = sQb x.2.1 /\ eQ (oQ 38 zP) /\ m' = x.2.2 /\ h = h /\ True) /\ ∀ (x : Int × Bool × MH), I x -> branch x.2.1 (∃ (cb_2 : Nat), 
    ∃ (n : Int), [cQp cb 0, cQi 2] = [cQp cb_2 0, cQi n] /\ CaseOk x.2.2 h cb_2 /\ ∀ (k : Int) (m' : MH), 0 <= k -> k < n ∨ k = 0 -> MOther x.2.2 m' cb_2 -> CaseOk m' h cb_2 -> K (cQa 
    [vQi (IntKind.i64.wrap (1 + k)), vQi 0, vQi 0, vQi 0, vQi 0, vQi 0, vQz, vQi 0, vQi 0, vQi 0, vQi 0, vQz, vQn]) m' h) (∃ (I : Int × Bool × MH -> Prop), branch (decide (x.1 < 6)) (∃ 
    (x_1 : Int × Bool × MH), I x_1 /\ eQ (sQo cb 0) /\ eQ (sQs s) /\ eQ (sQs t) /\ eQ (sQi (↑deep : Int)) /\ eQ (sQp 8 0) /\ sQi x.1 = sQi x_1.1 /\ sQb true = sQb x_1.2.1 /\ eQ (oQ 38 
    zP) /\ x.2.2 = x_1.2.2 /\ h = h /\ True) (∃ (x_1 : Int × Bool × MH), I x_1 /\ eQ (sQo cb 0) /\ eQ (sQs s) /\ eQ (sQs t) /\ eQ (sQi (↑deep : Int)) /\ eQ (sQp 8 0) /\ sQi x.1 = sQi 
    x_1.1 /\ sQb (decide ((↑deep : Int) < 1)) = sQb x_1.2.1 /\ eQ (oQ 38 zP) /\ x.2.2 = x_1.2.2 /\ h = h /\ True) /\ ∀ (x : Int × Bool × MH), I x -> branch x.2.1 (∃ (I : Int × MH -> 
    Prop), branch (decide ((↑s.len : Int) > 0)) (∃ (cb_2 : Nat), ∃ (n : Int), [cQp cb 0, cQi (↑s.len : Int)] = [cQp cb_2 0, cQi n] /\ CaseOk x.2.2 h cb_2 /\ ∀ (k : Int) (m' : MH), 0 <= 
    k -> k < n ∨ k = 0 -> MOther x.2.2 m' cb_2 -> CaseOk m' h cb_2 -> ∃ (b : Nat), ∃ (off : Nat), s.a = some (Addr.mk b off none) /\ 0 <= k /\ k < (↑s.len : Int) /\ ∃ (y : Int), RdAt 
    m' h b (off + k.toNat * 1) [vQi y] /\ ∃ (x : Int × MH), I x /\ eQ (sQo cb 0) /\ eQ (sQs s) /\ eQ (sQs t) /\ eQ (sQp 8 0) /\ sQi y = sQi x.1 /\ eQ (oQ 38 zP) /\ m' = x.2 /\ h = h /\ 
    True) (∃ (x_1 : Int × MH), I x_1 /\ eQ (sQo cb 0) /\ eQ (sQs s) /\ eQ (sQs t) /\ eQ (sQp 8 0) /\ sQi 4 = sQi x_1.1 /\ eQ (oQ 38 zP) /\ x.2.2 = x_1.2 /\ h = h /\ True) /\ ∀ (x : Int 
    × MH), I x -> ∃ (I : PV × Int × MH -> Prop), (∃ (cb_2 : Nat), ∃ (n : Int), [cQp cb 0, cQi 6] = [cQp cb_2 0, cQi n] /\ CaseOk x.2 h cb_2 /\ ∀ (k : Int) (m' : MH), 0 <= k -> k < n ∨ 
    k = 0 -> MOther x.2 m' cb_2 -> CaseOk m' h cb_2 -> ∃ (cb_3 : Nat), ∃ (s_1 : Sl), ∃ (t_1 : Sl), ∃ (kind : Int), ∃ (cols : List Int), ∃ (params : List Int), [cQp cb 0, cQs s, cQs t, 
    cQi x.1] = [cQp cb_3 0, cQs s_1, cQs t_1, cQi kind] /\ CaseOk m' h cb_3 /\ Ints h s_1 cols /\ Ints h t_1 params /\ cols.length <= 1000 /\ params.length <= 1000 /\ ∀ (o : OV) (m'_1 
    : MH), ValW o.value -> MOther m' m'_1 cb_3 -> CaseOk m'_1 h cb_3 -> ∃ (cb_4 : Nat), ∃ (kind : Int), [cQp cb 0, cQi x.1] = [cQp cb_4 0, cQi kind] /\ CaseOk m'_1 h cb_4 /\ ∀ (v : VV) 
    (m' : MH), ValW v -> MOther m'_1 m' cb_4 -> CaseOk m' h cb_4 -> ∃ (x_1 : PV × Int × MH), I x_1 /\ eQ (sQo cb 0) /\ eQ (sQs s) /\ eQ (sQs t) /\ eQ (sQp 8 0) /\ sQi x.1 = sQi x_1.2.1 
    /\ eQ (sQp 11 0) /\ eQ (oQ 38 zP) /\ oQ 38 [aQi 3, aQi (IntKind.i64.wrap (1 + k)), aQi o.kind, aQi o.index, aQi o.value.kind, aQi o.value.int, At.val (Value.string o.value.text), 
    aQi 3, aQi 0, aQi v.kind, aQi v.int, At.val (Value.string v.text), aQn] = oQ 38 (List.map At.val (PV.enc x_1.1)) /\ m' = x_1.2.2 /\ h = h /\ True) /\ ∀ (x : PV × Int × MH), I x -> 
    ∃ (I : PV × MH -> Prop), (∃ (cb_2 : Nat), ∃ (n : Int), [cQp cb 0, cQi 3] = [cQp cb_2 0, cQi n] /\ 0 <= n /\ n <= 1000 /\ CaseOk x.2.2 h cb_2 /\ ∀ (r : Bool) (m' : MH), MOther x.2.2 
    m' cb_2 -> CaseOk m' h cb_2 -> branch r (∃ (cb_3 : Nat), ∃ (s_1 : Sl), ∃ (t_1 : Sl), ∃ (kind : Int), ∃ (cols : List Int), ∃ (params : List Int), [cQp cb 0, cQs s, cQs t, cQi x.2.1] 
    = [cQp cb_3 0, cQs s_1, cQs t_1, cQi kind] /\ CaseOk m' h cb_3 /\ Ints h s_1 cols /\ Ints h t_1 params /\ cols.length <= 1000 /\ params.length <= 1000 /\ ∀ (o : OV) (m'_1 : MH), 
    ValW o.value -> MOther m' m'_1 cb_3 -> CaseOk m'_1 h cb_3 -> ∃ (x_1 : PV × MH), I x_1 /\ eQ (sQo cb 0) /\ eQ (sQp 8 0) /\ eQ (sQp 11 0) /\ eQ (oQ 38 zP) /\ oQ 38 [aQi x.1.op, aQi 
    x.1.cmp, aQi x.1.left.kind, aQi x.1.left.index, aQi x.1.left.value.kind, aQi x.1.left.value.int, At.val (Value.string x.1.left.value.text), aQi o.kind, aQi o.index, aQi 
    o.value.kind, aQi o.value.int, At.val (Value.string o.value.text), aQs x.1.args] = oQ 38 (List.map At.val (PV.enc x_1.1)) /\ m'_1 = x_1.2 /\ h = h /\ True) (∃ (x_1 : PV × MH), I 
    x_1 /\ eQ (sQo cb 0) /\ eQ (sQp 8 0) /\ eQ (sQp 11 0) /\ eQ (oQ 38 zP) /\ oQ 38 (List.map At.val (PV.enc x.1)) = oQ 38 (List.map At.val (PV.enc x_1.1)) /\ m' = x_1.2 /\ h = h /\ 
    True)) /\ ∀ (x : PV × MH), I x -> ∃ (I : PV × MH -> Prop), (∃ (cb_2 : Nat), ∃ (n : Int), [cQp cb 0, cQi 6] = [cQp cb_2 0, cQi n] /\ 0 <= n /\ n <= 1000 /\ CaseOk x.2 h cb_2 /\ ∀ (r 
    : Bool) (m' : MH), MOther x.2 m' cb_2 -> CaseOk m' h cb_2 -> branch r (∃ (x_1 : PV × MH), I x_1 /\ eQ (sQp 8 0) /\ eQ (sQp 11 0) /\ eQ (oQ 38 zP) /\ oQ 38 [aQi x.1.op, aQi x.1.cmp, 
    aQi x.1.right.kind, aQi x.1.right.index, aQi x.1.right.value.kind, aQi x.1.right.value.int, At.val (Value.string x.1.right.value.text), aQi x.1.left.kind, aQi x.1.left.index, aQi 
    x.1.left.value.kind, aQi x.1.left.value.int, At.val (Value.string x.1.left.value.text), aQs x.1.args] = oQ 38 (List.map At.val (PV.enc x_1.1)) /\ m' = x_1.2 /\ h = h /\ True) (∃ 
    (x_1 : PV × MH), I x_1 /\ eQ (sQp 8 0) /\ eQ (sQp 11 0) /\ eQ (oQ 38 zP) /\ oQ 38 (List.map At.val (PV.enc x.1)) = oQ 38 (List.map At.val (PV.enc x_1.1)) /\ m' = x_1.2 /\ h = h /\ 
    True)) /\ ∀ (x : PV × MH), I x -> K (cQa (PV.enc x.1)) x.2 h) (branch (x.1 == 6) (∃ (cb_2 : Nat), ∃ (s_1 : Sl), ∃ (t_1 : Sl), ∃ (cols : List Int), ∃ (params : List Int), ∃ (deep_1 
    : Nat), [cQp cb 0, cQs s, cQs t, cQi (IntKind.i64.wrap ((↑deep : Int) - 1))] = [cQp cb_2 0, cQs s_1, cQs t_1, cQi (↑deep_1 : Int)] /\ CaseOk x.2.2 h cb_2 /\ Ints h s_1 cols /\ Ints 
    h t_1 params /\ cols.length <= 1000 /\ params.length <= 1000 /\ deep_1 < N /\ deep_1 <= 1000 /\ ∀ (v : PV) (p : Pred) (m' : MH) (h' : PH), h.le h' -> RepP h' p v -> PredW p -> 
    MOther x.2.2 m' cb_2 -> CaseOk m' h' cb_2 -> ∀ (s : Sl) (h'_1 : PH), h'.le h'_1 -> RowIn h'_1 s 13 [(PV.enc v)] -> K (cQa [vQi 6, vQi 0, vQi 0, vQi 0, vQi 0, vQi 0, vQz, vQi 0, vQi 
    0, vQi 0, vQi 0, vQz, vQs s]) m' h'_1) (∃ (cb_2 : Nat), ∃ (n : Int), [cQp cb 0, cQi 3] = [cQp cb_2 0, cQi n] /\ CaseOk x.2.2 h cb_2 /\ ∀ (k : Int) (m' : MH), 0 <= k -> k < n ∨ k = 
    0 -> MOther x.2.2 m' cb_2 -> CaseOk m' h cb_2 -> ∃ (I : Int × Int × List PV × MH × PH -> Prop), ∃ (mu : Int × Int × List PV × MH × PH -> Nat), (∃ (x_1 : Int × Int × List PV × MH × 
    PH), I x_1 /\ eQ (sQo cb 0) /\ eQ (sQs s) /\ eQ (sQs t) /\ eQ (sQi (↑deep : Int)) /\ eQ (sQp 8 0) /\ eQ (sQp 12 0) /\ sQi k = sQi x_1.2.1 /\ eQ (oQ 38 zP) /\ oQ 38 [aQi 
    (IntKind.i64.wrap (IntKind.i64.wrap (4 + x.1) - 7)), aQi 0, aQi 0, aQi 0, aQi 0, aQi 0, aQz, aQi 0, aQi 0, aQi 0, aQi 0, aQz, At.lst 104] = oQ 38 [aQi x_1.1, aQi 0, aQi 0, aQi 0, 
    aQi 0, aQi 0, aQz, aQi 0, aQi 0, aQi 0, aQi 0, aQz, At.lst 104] /\ some (Own.lst 38 13 []) = some (Own.lst 38 13 (List.map PV.enc x_1.2.2.1)) /\ m' = x_1.2.2.2.1 /\ h = x_1.2.2.2.2 
    /\ True) /\ ∀ (x : Int × Int × List PV × MH × PH), I x -> branch (decide (x.2.1 ≥ 0)) (∃ (cb_3 : Nat), ∃ (s_1 : Sl), ∃ (t_1 : Sl), ∃ (cols : List Int), ∃ (params : List Int), ∃ 
    (deep_1 : Nat), [cQp cb 0, cQs s, cQs t, cQi (IntKind.i64.wrap ((↑deep : Int) - 1))] = [cQp cb_3 0, cQs s_1, cQs t_1, cQi (↑deep_1 : Int)] /\ CaseOk x.2.2.2.1 x.2.2.2.2 cb_3 /\ 
    Ints x.2.2.2.2 s_1 cols /\ Ints x.2.2.2.2 t_1 params /\ cols.length <= 1000 /\ params.length <= 1000 /\ deep_1 < N /\ deep_1 <= 1000 /\ ∀ (v : PV) (p : Pred) (m' : MH) (h' : PH), 
    x.2.2.2.2.le h' -> RepP h' p v -> PredW p -> MOther x.2.2.2.1 m' cb_3 -> CaseOk m' h' cb_3 -> ((List.map PV.enc x.2.2.1).length + 1) * 136 <= 140737488355328 /\ (List.map PV.enc 
    x.2.2.1).length < 140737488355328 /\ ∃ (y : Int × Int × List PV × MH × PH), I y /\ mu y < mu x /\ eQ (sQo cb 0) /\ eQ (sQs s) /\ eQ (sQs t) /\ eQ (sQi (↑deep : Int)) /\ eQ (sQp 8 
    0) /\ eQ (sQp 12 0) /\ sQi (IntKind.i64.wrap (x.2.1 - 1)) = sQi y.2.1 /\ eQ (oQ 38 zP) /\ oQ 38 [aQi x.1, aQi 0, aQi 0, aQi 0, aQi 0, aQi 0, aQz, aQi 0, aQi 0, aQi 0, aQi 0, aQz, 
    At.lst 104] = oQ 38 [aQi y.1, aQi 0, aQi 0, aQi 0, aQi 0, aQi 0, aQz, aQi 0, aQi 0, aQi 0, aQi 0, aQz, At.lst 104] /\ some (Own.lst 38 13 (List.map PV.enc x.2.2.1 ++ [(PV.enc v)])) 
    = some (Own.lst 38 13 (List.map PV.enc y.2.2.1)) /\ m' = y.2.2.2.1 /\ h' = y.2.2.2.2 /\ True) (∀ (s : Sl) (h' : PH), x.2.2.2.2.le h' -> RowIn h' s 13 (List.map PV.enc x.2.2.1) -> K 
    (cQa [vQi x.1, vQi 0, vQi 0, vQi 0, vQi 0, vQi 0, vQz, vQi 0, vQi 0, vQi 0, vQi 0, vQz, vQs s]) x.2.2.2.1 h'))))
theorem f56_vc (N : Nat) (cb : Nat) (s t : Sl) (deep : Nat) (m : MH) (h : PH) (K : CV → MH → PH → Prop) : f56_nice N cb s t deep m h K = (fnVC (f56_ctx N cb s t deep h) Tryz.f56 (bodyOf Tryz.f56) (entry Tryz.f56.ntmps [cP cb, cS s, cS t, cI deep] m h) K) := by kernel_rfl
def f27_nice (N : Nat) (cb : Nat) (s t : Sl) (deep : Nat) (m : MH) (h : PH) (K : CV → MH → PH → Prop) : Prop :=
    ∃ (cb_1 : Nat), ∃ (s_1 : Sl), ∃ (t_1 : Sl), ∃ (cols : List Int), ∃ (params : List Int), ∃ (deep_1 : Nat), [cQp cb 0, cQs s, cQs t, cQi (↑deep : Int)] = [cQp cb_1 0, cQs s_1, cQs 
    t_1, cQi (↑deep_1 : Int)] /\ CaseOk m h cb_1 /\ Ints h s_1 cols /\ Ints h t_1 params /\ cols.length <= 1000 /\ params.length <= 1000 /\ deep_1 < N /\ deep_1 <= 1000 /\ ∀ (v : PV) 
    (p : Pred) (m' : MH) (h' : PH), h.le h' -> RepP h' p v -> PredW p -> MOther m m' cb_1 -> CaseOk m' h' cb_1 -> ∃ (s_2 : Sl), ∃ (t_2 : Sl), ∃ (v_1 : PV), ∃ (cols : List Int), ∃ 
    (params : List Int), ∃ (p : Pred), [cQs s, cQs t, cQa (PV.enc v)] = [cQs s_2, cQs t_2, cQa (PV.enc v_1)] /\ Ints h' s_2 cols /\ Ints h' t_2 params /\ RepP h' p v_1 /\ branch 
    (predErr cols params p == 2) (∃ (cb_2 : Nat), ∃ (s_3 : Sl), ∃ (t_3 : Sl), ∃ (cols : List Int), ∃ (params : List Int), ∃ (deep : Nat), [cQp cb 0, cQs s, cQs t, cQi 1] = [cQp cb_2 0, 
    cQs s_3, cQs t_3, cQi (↑deep : Int)] /\ CaseOk m' h' cb_2 /\ Ints h' s_3 cols /\ Ints h' t_3 params /\ cols.length <= 1000 /\ params.length <= 1000 /\ deep < N /\ deep <= 1000 /\ ∀ 
    (v : PV) (p : Pred) (m'_1 : MH) (h'_1 : PH), h'.le h'_1 -> RepP h'_1 p v -> PredW p -> MOther m' m'_1 cb_2 -> CaseOk m'_1 h'_1 cb_2 -> K (cQa (PV.enc v)) m'_1 h'_1) (K (cQa (PV.enc 
    v)) m' h')
theorem f27_vc (N : Nat) (cb : Nat) (s t : Sl) (deep : Nat) (m : MH) (h : PH) (K : CV → MH → PH → Prop) : f27_nice N cb s t deep m h K = (fnVC (ctx2 [(56, TreeW N), (57, PredCheckS)] [] [] [] false) Tryz.f27 (bodyOf Tryz.f27) (entry Tryz.f27.ntmps [cP cb, cS s, cS t, cI deep] m h) K) := by kernel_rfl
theorem f79_ok {cb : Nat} {s t : Sl} {kind : Int} {cols params : List Int} {m : MH} {h : PH} {K : CV → MH → PH → Prop} (hc : CaseOk m h cb) (hs : Ints h s cols) (ht : Ints h t params) (l1 : cols.length ≤ 1000) (l2 : params.length ≤ 1000) (hK : ∀ o m', ValW o.value → MOther m m' cb → CaseOk m' h cb → K (aO o) m' h) : f79_nice cb s t kind m h K := by
  have hsl := hs.slen
  have htl := ht.slen
  refine ⟨fun ⟨i, os⟩ => i ≤ cols.length ∧ os.length ≤ i ∧ ∀ o ∈ os, ValW o.value, fun ⟨i, _⟩ => cols.length - i, ⟨(0, []), ⟨by omega, by simp, by simp⟩, MT⟩, ?_⟩
  rintro ⟨i, os⟩ ⟨hi, hol, hos⟩
  dsimp only
  refine branch_dec (fun hlt => ?_) (fun hge => ?_)
  · obtain ⟨x, hx⟩ := getx hsl hlt
    obtain ⟨b1, o1, e1, r1⟩ := hs.at' hx
    refine ⟨b1, o1, e1, by omega, hlt, x, .imm r1, branch_intro (fun _ => ⟨by simp; omega, by simp; omega, (i + 1, os ++ [⟨1, i, zeroV⟩]), ⟨by omega, by simp; omega, ?_⟩, by show cols.length - (i + 1) < cols.length - i; omega, ?_⟩) (fun _ => ⟨(i + 1, os), ⟨by omega, by show os.length ≤ i + 1; omega, hos⟩, by show cols.length - (i + 1) < cols.length - i; omega, MT⟩)⟩
    · intro o ho
      rcases List.mem_append.1 ho with h1 | h1
      · exact hos o h1
      · simp at h1; subst h1; exact valW_zero
    · rw [List.map_append]; exact MT
  refine ⟨fun ⟨i, os⟩ => i ≤ params.length ∧ os.length ≤ 1000 + i ∧ ∀ o ∈ os, ValW o.value, fun ⟨i, _⟩ => params.length - i, ⟨(0, os), ⟨by omega, by omega, hos⟩, MT⟩, ?_⟩
  clear hi hol hos hge
  rintro ⟨i, os⟩ ⟨hi, hol, hos⟩
  dsimp only
  refine branch_dec (fun hlt => ?_) (fun hge => ?_)
  · obtain ⟨x, hx⟩ := getx htl hlt
    obtain ⟨b1, o1, e1, r1⟩ := ht.at' hx
    refine ⟨b1, o1, e1, by omega, hlt, x, .imm r1, branch_intro (fun _ => ⟨by simp; omega, by simp; omega, (i + 1, os ++ [⟨2, i, zeroV⟩]), ⟨by omega, by simp; omega, ?_⟩, by show params.length - (i + 1) < params.length - i; omega, ?_⟩) (fun _ => ⟨(i + 1, os), ⟨by omega, by show os.length ≤ 1000 + (i + 1); omega, hos⟩, by show params.length - (i + 1) < params.length - i; omega, MT⟩)⟩
    · intro o ho
      rcases List.mem_append.1 ho with h1 | h1
      · exact hos o h1
      · simp at h1; subst h1; exact valW_zero
    · rw [List.map_append]; exact MT
  · refine ⟨cb, _, rfl, hc, fun k m' h0 h1 ho hc' => branch_dec (fun hk => ?_) (fun hk => ⟨cb, kind, rfl, hc', fun v m'' hv ho' hc'' => hK ⟨3, 0, v⟩ m'' hv (ho.trans ho') hc''⟩)⟩
    have hk' : k.toNat < os.length := by simp at hk; omega
    exact ⟨h0, hk, _, by rw [List.getElem?_map, List.getElem?_eq_getElem hk']; rfl, os[k.toNat], rfl, hK _ m' (hos _ (List.getElem_mem hk')) ho hc'⟩
theorem f79_sound : Sound Tryz.prog 79 OperandW := by
  refine fn_sound (fn := Tryz.f79) (c := bodyOf Tryz.f79) Tryz.func79 rfl (by decide) ?_
  rintro cvs m h K ⟨cb, s, t, kind, cols, params, rfl, hc, hs, ht, l1, l2, hK⟩
  refine ⟨f79_ctx cb s t kind m h, rfl, specs_cons intW (specs_cons f80_sound specs_nil), ?_⟩
  rw [← f79_vc cb s t kind m h K]
  exact f79_ok hc hs ht l1 l2 hK
theorem leaf_rep {h : PH} {v : PV} (ha : v.args = ⟨none, 0, 0⟩) : RepP h (.mk v.op v.cmp v.left v.right []) v := RepP.mk (by rw [ha]; exact .nil _ _ _ _)
theorem f56_ok {N cb : Nat} {s t : Sl} {deep : Nat} {cols params : List Int} {m : MH} {h : PH} {K : CV → MH → PH → Prop} (hc : CaseOk m h cb) (hs : Ints h s cols) (ht : Ints h t params) (l1 : cols.length ≤ 1000) (l2 : params.length ≤ 1000) (hN : deep < N + 1) (hd : deep ≤ 1000) (hK : KP K m h cb) : f56_nice N cb s t deep m h K := by
  have hsl := hs.slen
  refine ⟨cb, 9, rfl, hc, fun k m1 k0 k1 o1 c1 => ?_⟩
  refine ⟨fun ⟨k, _, mx⟩ => 0 ≤ k ∧ k ≤ 8 ∧ MOther m mx cb ∧ CaseOk mx h cb, branch_intro (fun _ => ⟨cb, 2, rfl, by omega, by omega, c1, fun r m2 o2 c2 => ⟨(k, r, m2), ⟨k0, by omega, o1.trans o2, c2⟩, MT⟩⟩) (fun _ => ⟨(k, false, m1), ⟨k0, by omega, o1, c1⟩, MT⟩), ?_⟩
  clear k0 k1 o1 c1 k m1
  rintro ⟨k, b, m1⟩ ⟨k0, k1, o1, c1⟩
  dsimp only
  refine branch_intro (fun _ => ⟨cb, 2, rfl, c1, fun j m2 j0 j1 o2 c2 => ?_⟩) (fun _ => ?_)
  · exact hK ⟨IntKind.i64.wrap (1 + j), 0, zeroO, zeroO, ⟨none, 0, 0⟩⟩ _ m2 h (.refl _) (leaf_rep rfl) ⟨valW_zero, valW_zero, trivial⟩ (o1.trans o2) c2
  refine ⟨fun ⟨k, b, mx⟩ => 0 ≤ k ∧ k ≤ 8 ∧ (b = false → 6 ≤ k ∧ 1 ≤ deep) ∧ MOther m mx cb ∧ CaseOk mx h cb, branch_dec (fun _ => ⟨(k, true, m1), ⟨k0, k1, fun e => (by cases e), o1, c1⟩, MT⟩) (fun hk => ⟨(k, _, m1), ⟨k0, k1, fun e => ?_, o1, c1⟩, MT⟩), ?_⟩
  · simp at e; exact ⟨by omega, by omega⟩
  clear k0 k1 o1 c1 k m1
  rintro ⟨k, b, m1⟩ ⟨k0, k1, kb, o1, c1⟩
  dsimp only
  refine branch_intro (fun _ => ?_) (fun hb => ?_)
  · refine ⟨fun ⟨_, mx⟩ => MOther m mx cb ∧ CaseOk mx h cb, branch_dec (fun hpos => ⟨cb, s.len, rfl, c1, fun j m2 j0 j1 o2 c2 => ?_⟩) (fun _ => ⟨(4, m1), ⟨o1, c1⟩, MT⟩), ?_⟩
    · obtain ⟨b1, off, e1, r1⟩ := hs.inb (n := j) j0 (by omega)
      exact ⟨b1, off, e1, j0, by omega, _, .imm r1, (_, m2), ⟨o1.trans o2, c2⟩, MT⟩
    clear o1 c1 m1
    rintro ⟨kd, m1⟩ ⟨o1, c1⟩
    dsimp only
    refine ⟨fun ⟨p, _, mx⟩ => p.args = ⟨none, 0, 0⟩ ∧ ValW p.left.value ∧ ValW p.right.value ∧ MOther m mx cb ∧ CaseOk mx h cb, ⟨cb, 6, rfl, c1, fun j m2 j0 j1 o2 c2 => ⟨cb, s, t, kd, cols, params, rfl, c2, hs, ht, l1, l2, fun o m3 ho o3 c3 => ⟨cb, kd, rfl, c3, fun v m4 hv o4 c4 => ⟨(⟨3, IntKind.i64.wrap (1 + j), o, ⟨3, 0, v⟩, ⟨none, 0, 0⟩⟩, kd, m4), ⟨rfl, ho, hv, ((o1.trans o2).trans o3).trans o4, c4⟩, MT⟩⟩⟩⟩, ?_⟩
    clear o1 c1 m1 kd
    rintro ⟨p, kd, m1⟩ ⟨pa, pl, pr, o1, c1⟩
    dsimp only
    refine ⟨fun ⟨p, mx⟩ => p.args = ⟨none, 0, 0⟩ ∧ ValW p.left.value ∧ ValW p.right.value ∧ MOther m mx cb ∧ CaseOk mx h cb, ⟨cb, 3, rfl, by omega, by omega, c1, fun r m2 o2 c2 => branch_intro (fun _ => ⟨cb, s, t, kd, cols, params, rfl, c2, hs, ht, l1, l2, fun o m3 ho o3 c3 => ⟨(⟨p.op, p.cmp, p.left, o, p.args⟩, m3), ⟨pa, pl, ho, (o1.trans o2).trans o3, c3⟩, MT⟩⟩) (fun _ => ⟨(p, m2), ⟨pa, pl, pr, o1.trans o2, c2⟩, MT⟩)⟩, ?_⟩
    clear pa pl pr o1 c1 m1 p
    rintro ⟨p, m1⟩ ⟨pa, pl, pr, o1, c1⟩
    dsimp only
    refine ⟨fun ⟨p, mx⟩ => p.args = ⟨none, 0, 0⟩ ∧ ValW p.left.value ∧ ValW p.right.value ∧ MOther m mx cb ∧ CaseOk mx h cb, ⟨cb, 6, rfl, by omega, by omega, c1, fun r m2 o2 c2 => branch_intro (fun _ => ⟨(⟨p.op, p.cmp, p.right, p.left, p.args⟩, m2), ⟨pa, pr, pl, o1.trans o2, c2⟩, MT⟩) (fun _ => ⟨(p, m2), ⟨pa, pl, pr, o1.trans o2, c2⟩, MT⟩)⟩, ?_⟩
    clear pa pl pr o1 c1 m1 p
    rintro ⟨p, m1⟩ ⟨pa, pl, pr, o1, c1⟩
    exact hK p _ m1 h (.refl _) (leaf_rep pa) ⟨pl, pr, trivial⟩ o1 c1
  have hdeep := kb hb
  have hw : IntKind.i64.wrap ((deep : Int) - 1) = ((deep - 1 : Nat) : Int) := by rw [wrap_id (by omega) (by omega)]; omega
  rw [hw]
  refine branch_intro (fun _ => ⟨cb, s, t, cols, params, deep - 1, rfl, c1, hs, ht, l1, l2, by omega, by omega, fun v p m2 h2 hle hr hp o2 c2 sl h3 hle2 hrow => ?_⟩) (fun _ => ⟨cb, 3, rfl, c1, fun j m2 j0 j1 o2 c2 => ?_⟩)
  · refine hK ⟨6, 0, zeroO, zeroO, sl⟩ (.mk 6 0 zeroO zeroO [p]) m2 h3 (hle.trans hle2) (RepP.mk (v := ⟨6, 0, zeroO, zeroO, sl⟩) ⟨⟨[v], hrow, rfl, fun i x hx => ?_⟩, by simp⟩) ⟨valW_zero, valW_zero, hp, trivial⟩ (o1.trans o2) (c2.mono hle2)
    match i, hx with
    | 0, hx => simp at hx; subst hx; exact ⟨v, rfl, hr.mono hle2⟩
    | _ + 1, hx => simp at hx
  refine ⟨fun ⟨_, n, us, mx, hx⟩ => -1 ≤ n ∧ n ≤ 2 ∧ (us.length : Int) ≤ 2 - n ∧ PH.le h hx ∧ MOther m mx cb ∧ CaseOk mx hx cb ∧ ∃ ps : List Pred, ps.length = us.length ∧ PredWs ps ∧ ∀ (i : Nat) q, ps[i]? = some q → ∃ u, us[i]? = some u ∧ RepP hx q u, fun ⟨_, n, _, _, _⟩ => (n + 1).toNat, ⟨(_, j, [], m2, h), ⟨by omega, by omega, by simp; omega, .refl _, o1.trans o2, c2, [], rfl, trivial, fun i q hq => by simp at hq⟩, MT⟩, ?_⟩
  rintro ⟨op, n, us, mx, hx⟩ ⟨n0, n1, ul, hle, ox, cx, ps, pl, pw, hps⟩
  dsimp only
  refine branch_dec (fun hn => ⟨cb, s, t, cols, params, deep - 1, rfl, cx, hs.mono hle, ht.mono hle, l1, l2, by omega, by omega, fun v p m3 h3 hle3 hr hp o3 c3 => ⟨by simp; omega, by simp; omega, (op, n - 1, us ++ [v], m3, h3), ⟨by show -1 ≤ n - 1; omega, by show n - 1 ≤ 2; omega, by simp; omega, hle.trans hle3, ox.trans o3, c3, ps ++ [p], by simp [pl], ?_, ?_⟩, ?_, ?_⟩⟩) (fun hn sl h3 hle3 hrow => ?_)
  · rw [PredWs_iff] at pw ⊢
    intro q hq
    rcases List.mem_append.1 hq with h1 | h1
    · exact pw q h1
    · simp at h1; subst h1; exact hp
  · intro i q hq
    by_cases hi : i < ps.length
    · rw [List.getElem?_append_left hi] at hq
      obtain ⟨u, h1, h2⟩ := hps i q hq
      exact ⟨u, by rw [List.getElem?_append_left (by omega)]; exact h1, h2.mono hle3⟩
    · rw [List.getElem?_append_right (by omega)] at hq
      have hl := (List.getElem?_eq_some_iff.1 hq).1
      simp at hl
      have : i = ps.length := by omega
      subst this
      simp at hq
      subst hq
      exact ⟨v, by rw [List.getElem?_append_right (by omega), pl]; simp, hr⟩
  · show (n - 1 + 1).toNat < (n + 1).toNat; omega
  · rw [List.map_append, wrap_id (by omega) (by omega)]; exact MT
  · exact hK ⟨op, 0, zeroO, zeroO, sl⟩ (.mk op 0 zeroO zeroO ps) mx h3 (hle.trans hle3) (RepP.mk (v := ⟨op, 0, zeroO, zeroO, sl⟩) ⟨⟨us, hrow, pl, fun i q hq => (hps i q hq).imp fun u hu => ⟨hu.1, hu.2.mono hle3⟩⟩, by omega⟩) ⟨valW_zero, valW_zero, pw⟩ ox (cx.mono hle3)
theorem f56_all : ∀ N, Sound Tryz.prog 56 (TreeW N)
  | 0 => by
    refine fn_sound (fn := Tryz.f56) (c := bodyOf Tryz.f56) Tryz.func56 rfl (by decide) ?_
    rintro cvs m h K ⟨cb, s, t, cols, params, deep, rfl, _, _, _, _, _, hN, _⟩
    omega
  | N + 1 => by
    refine fn_sound (fn := Tryz.f56) (c := bodyOf Tryz.f56) Tryz.func56 rfl (by decide) ?_
    rintro cvs m h K ⟨cb, s, t, cols, params, deep, rfl, hc, hs, ht, l1, l2, hN, hd, hK⟩
    refine ⟨f56_ctx N cb s t deep h, rfl, specs_cons intW (specs_cons f10_sound (specs_cons f79_sound (specs_cons f80_sound (specs_cons (f56_all N) specs_nil)))), ?_⟩
    rw [← f56_vc N cb s t deep m h K]
    exact f56_ok hc hs ht l1 l2 hN hd hK
theorem f27_ok {cb : Nat} {s t : Sl} {deep : Nat} {cols params : List Int} {m : MH} {h : PH} {K : CV → MH → PH → Prop} (hc : CaseOk m h cb) (hs : Ints h s cols) (ht : Ints h t params) (l1 : cols.length ≤ 1000) (l2 : params.length ≤ 1000) (hd : deep ≤ 1000) (hK : KP K m h cb) : f27_nice 1001 cb s t deep m h K := by
  refine ⟨cb, s, t, cols, params, deep, rfl, hc, hs, ht, l1, l2, by omega, hd, fun v p m2 h2 hle hr hp o2 c2 => ⟨s, t, v, cols, params, p, rfl, hs.mono hle, ht.mono hle, hr, branch_intro (fun _ => ⟨cb, s, t, cols, params, 1, rfl, c2, hs.mono hle, ht.mono hle, l1, l2, by omega, by omega, fun v3 p3 m3 h3 hle3 hr3 hp3 o3 c3 => hK v3 p3 m3 h3 (hle.trans hle3) hr3 hp3 (o2.trans o3) c3⟩) (fun _ => hK v p m2 h2 hle hr hp o2 c2)⟩⟩
theorem f27_sound : Sound Tryz.prog 27 PredicateW := by
  refine fn_sound (fn := Tryz.f27) (c := bodyOf Tryz.f27) Tryz.func27 rfl (by decide) ?_
  rintro cvs m h K ⟨cb, s, t, cols, params, deep, rfl, hc, hs, ht, l1, l2, hd, hK⟩
  refine ⟨ctx2 [(56, TreeW 1001), (57, PredCheckS)] [] [] [] false, rfl, specs_cons (f56_all 1001) (specs_cons f57_sound specs_nil), ?_⟩
  rw [← f27_vc 1001 cb s t deep m h K]
  exact f27_ok hc hs ht l1 l2 hd hK
end Go.Ps
namespace Go.Ps
open Go Go.Vc Go.Proofs
def nilS : Sl := ⟨none, 0, 0⟩
def ColumnS : Vc.Spec := fun cvs m h K => ∃ n k, cvs = [cStr n, cI k] ∧ K (.val (.agg ⟨(ColV.mk n k).enc⟩)) m h
def ScanS : Vc.Spec := fun cvs m h K => ∃ t, cvs = [cI t] ∧ K (aQ ⟨1, t, zeroPV, nilS, nilS, nilS, nilS, 0, nilS⟩) m h
def rankQ (v : QV) (g o : Sl) (k : Int) : QV := ⟨v.op, v.table, v.where_, v.columns, v.on, g, o, k, v.args⟩
def RankW : Vc.Spec := fun cvs m h K => ∃ cb v s kinds, cvs = [cP cb, aQ (rankQ v nilS nilS v.limit), cS s] ∧ CaseOk m h cb ∧ Ints h s kinds ∧ kinds.length ≤ 1000 ∧
  ∀ g o k gr od m' h', PH.le h h' → Ints h' g gr → Sorts h' o od → gr.length ≤ kinds.length → od.length ≤ kinds.length → 0 ≤ k → k ≤ 3 → MOther m m' cb → CaseOk m' h' cb → K (aQ (rankQ v g o k)) m' h'
noncomputable def f40_ctx (cb : Nat) (v : QV) (s : Sl) (h : PH) : Ctx :=
  ctx2 [(12, IntW), (10, BoolW)] [(2, { A := Nat × List Int × List (Int × Bool) × MH, st := fun ⟨i, gr, od, m⟩ => mkSt 37 40 [(0, pv cb), (4, .at (.ptr 4 0)), (6, .at (.ptr 6 0)), (9, iv s.len), (10, iv i)] [(4, .cells 43 ((v.enc.take 17).map .val ++ [.lst 19, .lst 30, .val (.int .i64 v.limit), .val (.slice v.args.a v.args.len v.args.cap)])), (6, .cells 43 (zeroQV.enc.map .val)), (19, .lst 3 1 (gr.map eI)), (30, .lst 80 2 (od.map sortEnc))] m h })] [] [] false
def f51_nice (n : ByteArray) (k : Int) (m : MH) (h : PH) (K : CV → MH → PH → Prop) : Prop :=
    K (cQa [Value.string n, vQi k]) m h
theorem f51_vc (n : ByteArray) (k : Int) (m : MH) (h : PH) (K : CV → MH → PH → Prop) : f51_nice n k m h K = (fnVC (ctx2 [] [] [] [] false) Tryz.f51 (bodyOf Tryz.f51) (entry Tryz.f51.ntmps [cStr n, cI k] m h) K) := by kernel_rfl
def f37_nice (t : Int) (m : MH) (h : PH) (K : CV → MH → PH → Prop) : Prop :=
    K (cQa [vQi 1, vQi t, vQi 0, vQi 0, vQi 0, vQi 0, vQi 0, vQi 0, vQz, vQi 0, vQi 0, vQi 0, vQi 0, vQz, vQn, vQn, vQn, vQn, vQn, vQi 0, vQn]) m h
theorem f37_vc (t : Int) (m : MH) (h : PH) (K : CV → MH → PH → Prop) : f37_nice t m h K = (fnVC (ctx2 [] [] [] [] false) Tryz.f37 (bodyOf Tryz.f37) (entry Tryz.f37.ntmps [cI t] m h) K) := by kernel_rfl
def f40_nice (cb : Nat) (v : QV) (s : Sl) (m : MH) (h : PH) (K : CV → MH → PH → Prop) : Prop :=
    ∃ (I : Nat × List Int × List (Int × Bool) × MH -> Prop), ∃ (mu : Nat × List Int × List (Int × Bool) × MH -> Nat), (∃ (x : Nat × List Int × List (Int × Bool) × MH), I x /\ eQ (sQo 
    cb 0) /\ eQ (sQp 4 0) /\ eQ (sQp 6 0) /\ eQ (sQi (↑s.len : Int)) /\ sQi 0 = sQi (↑x.1 : Int) /\ eQ (oQ 43 [aQi v.op, aQi v.table, aQi v.where_.op, aQi v.where_.cmp, aQi 
    v.where_.left.kind, aQi v.where_.left.index, aQi v.where_.left.value.kind, aQi v.where_.left.value.int, At.val (Value.string v.where_.left.value.text), aQi v.where_.right.kind, aQi 
    v.where_.right.index, aQi v.where_.right.value.kind, aQi v.where_.right.value.int, At.val (Value.string v.where_.right.value.text), aQs v.where_.args, aQs v.columns, aQs v.on, 
    At.lst 19, At.lst 30, aQi v.limit, aQs v.args]) /\ eQ (oQ 43 zQ) /\ some (Own.lst 3 1 []) = some (Own.lst 3 1 (List.map eI x.2.1)) /\ some (Own.lst 80 2 []) = some (Own.lst 80 2 
    (List.map sortEnc x.2.2.1)) /\ m = x.2.2.2 /\ h = h /\ True) /\ ∀ (x : Nat × List Int × List (Int × Bool) × MH), I x -> branch (decide ((↑x.1 : Int) < (↑s.len : Int))) (∃ (cb_1 : 
    Nat), ∃ (n : Int), [cQp cb 0, cQi 3] = [cQp cb_1 0, cQi n] /\ 0 <= n /\ n <= 1000 /\ CaseOk x.2.2.2 h cb_1 /\ ∀ (r : Bool) (m' : MH), MOther x.2.2.2 m' cb_1 -> CaseOk m' h cb_1 -> 
    branch r (((List.map eI x.2.1).length + 1) * 8 <= 140737488355328 /\ (List.map eI x.2.1).length < 140737488355328 /\ ∃ (cb_2 : Nat), ∃ (n : Int), [cQp cb 0, cQi 3] = [cQp cb_2 0, 
    cQi n] /\ 0 <= n /\ n <= 1000 /\ CaseOk m' h cb_2 /\ ∀ (r : Bool) (m'_1 : MH), MOther m' m'_1 cb_2 -> CaseOk m'_1 h cb_2 -> branch r (∃ (cb_3 : Nat), ∃ (n : Int), [cQp cb 0, cQi 2] 
    = [cQp cb_3 0, cQi n] /\ 0 <= n /\ n <= 1000 /\ CaseOk m'_1 h cb_3 /\ ∀ (r : Bool) (m' : MH), MOther m'_1 m' cb_3 -> CaseOk m' h cb_3 -> ((List.map sortEnc x.2.2.1).length + 1) * 
    16 <= 140737488355328 /\ (List.map sortEnc x.2.2.1).length < 140737488355328 /\ ∃ (y : Nat × List Int × List (Int × Bool) × MH), I y /\ mu y < mu x /\ eQ (sQo cb 0) /\ eQ (sQp 4 0) 
    /\ eQ (sQp 6 0) /\ eQ (sQi (↑s.len : Int)) /\ sQi (IntKind.i64.wrap ((↑x.1 : Int) + 1)) = sQi (↑y.1 : Int) /\ eQ (oQ 43 [aQi v.op, aQi v.table, aQi v.where_.op, aQi v.where_.cmp, 
    aQi v.where_.left.kind, aQi v.where_.left.index, aQi v.where_.left.value.kind, aQi v.where_.left.value.int, At.val (Value.string v.where_.left.value.text), aQi v.where_.right.kind, 
    aQi v.where_.right.index, aQi v.where_.right.value.kind, aQi v.where_.right.value.int, At.val (Value.string v.where_.right.value.text), aQs v.where_.args, aQs v.columns, aQs v.on, 
    At.lst 19, At.lst 30, aQi v.limit, aQs v.args]) /\ eQ (oQ 43 zQ) /\ some (Own.lst 3 1 (List.map eI x.2.1 ++ [[vQi (↑x.1 : Int)]])) = some (Own.lst 3 1 (List.map eI y.2.1)) /\ some 
    (Own.lst 80 2 (List.map sortEnc x.2.2.1 ++ [[vQi (↑x.1 : Int), Value.bool r]])) = some (Own.lst 80 2 (List.map sortEnc y.2.2.1)) /\ m' = y.2.2.2 /\ h = h /\ True) (∃ (y : Nat × 
    List Int × List (Int × Bool) × MH), I y /\ mu y < mu x /\ eQ (sQo cb 0) /\ eQ (sQp 4 0) /\ eQ (sQp 6 0) /\ eQ (sQi (↑s.len : Int)) /\ sQi (IntKind.i64.wrap ((↑x.1 : Int) + 1)) = 
    sQi (↑y.1 : Int) /\ eQ (oQ 43 [aQi v.op, aQi v.table, aQi v.where_.op, aQi v.where_.cmp, aQi v.where_.left.kind, aQi v.where_.left.index, aQi v.where_.left.value.kind, aQi 
    v.where_.left.value.int, At.val (Value.string v.where_.left.value.text), aQi v.where_.right.kind, aQi v.where_.right.index, aQi v.where_.right.value.kind, aQi 
    v.where_.right.value.int, At.val (Value.string v.where_.right.value.text), aQs v.where_.args, aQs v.columns, aQs v.on, At.lst 19, At.lst 30, aQi v.limit, aQs v.args]) /\ eQ (oQ 43 
    zQ) /\ some (Own.lst 3 1 (List.map eI x.2.1 ++ [[vQi (↑x.1 : Int)]])) = some (Own.lst 3 1 (List.map eI y.2.1)) /\ some (Own.lst 80 2 (List.map sortEnc x.2.2.1)) = some (Own.lst 80 
    2 (List.map sortEnc y.2.2.1)) /\ m'_1 = y.2.2.2 /\ h = h /\ True)) (∃ (cb_2 : Nat), ∃ (n : Int), [cQp cb 0, cQi 3] = [cQp cb_2 0, cQi n] /\ 0 <= n /\ n <= 1000 /\ CaseOk m' h cb_2 
    /\ ∀ (r : Bool) (m'_1 : MH), MOther m' m'_1 cb_2 -> CaseOk m'_1 h cb_2 -> branch r (∃ (cb_3 : Nat), ∃ (n : Int), [cQp cb 0, cQi 2] = [cQp cb_3 0, cQi n] /\ 0 <= n /\ n <= 1000 /\ 
    CaseOk m'_1 h cb_3 /\ ∀ (r : Bool) (m' : MH), MOther m'_1 m' cb_3 -> CaseOk m' h cb_3 -> ((List.map sortEnc x.2.2.1).length + 1) * 16 <= 140737488355328 /\ (List.map sortEnc 
    x.2.2.1).length < 140737488355328 /\ ∃ (y : Nat × List Int × List (Int × Bool) × MH), I y /\ mu y < mu x /\ eQ (sQo cb 0) /\ eQ (sQp 4 0) /\ eQ (sQp 6 0) /\ eQ (sQi (↑s.len : Int)) 
    /\ sQi (IntKind.i64.wrap ((↑x.1 : Int) + 1)) = sQi (↑y.1 : Int) /\ eQ (oQ 43 [aQi v.op, aQi v.table, aQi v.where_.op, aQi v.where_.cmp, aQi v.where_.left.kind, aQi 
    v.where_.left.index, aQi v.where_.left.value.kind, aQi v.where_.left.value.int, At.val (Value.string v.where_.left.value.text), aQi v.where_.right.kind, aQi v.where_.right.index, 
    aQi v.where_.right.value.kind, aQi v.where_.right.value.int, At.val (Value.string v.where_.right.value.text), aQs v.where_.args, aQs v.columns, aQs v.on, At.lst 19, At.lst 30, aQi 
    v.limit, aQs v.args]) /\ eQ (oQ 43 zQ) /\ some (Own.lst 3 1 (List.map eI x.2.1)) = some (Own.lst 3 1 (List.map eI y.2.1)) /\ some (Own.lst 80 2 (List.map sortEnc x.2.2.1 ++ [[vQi 
    (↑x.1 : Int), Value.bool r]])) = some (Own.lst 80 2 (List.map sortEnc y.2.2.1)) /\ m' = y.2.2.2 /\ h = h /\ True) (∃ (y : Nat × List Int × List (Int × Bool) × MH), I y /\ mu y < mu 
    x /\ eQ (sQo cb 0) /\ eQ (sQp 4 0) /\ eQ (sQp 6 0) /\ eQ (sQi (↑s.len : Int)) /\ sQi (IntKind.i64.wrap ((↑x.1 : Int) + 1)) = sQi (↑y.1 : Int) /\ eQ (oQ 43 [aQi v.op, aQi v.table, 
    aQi v.where_.op, aQi v.where_.cmp, aQi v.where_.left.kind, aQi v.where_.left.index, aQi v.where_.left.value.kind, aQi v.where_.left.value.int, At.val (Value.string 
    v.where_.left.value.text), aQi v.where_.right.kind, aQi v.where_.right.index, aQi v.where_.right.value.kind, aQi v.where_.right.value.int, At.val (Value.string 
    v.where_.right.value.text), aQs v.where_.args, aQs v.columns, aQs v.on, At.lst 19, At.lst 30, aQi v.limit, aQs v.args]) /\ eQ (oQ 43 zQ) /\ some (Own.lst 3 1 (List.map eI x.2.1)) = 
    some (Own.lst 3 1 (List.map eI y.2.1)) /\ some (Own.lst 80 2 (List.map sortEnc x.2.2.1)) = some (Own.lst 80 2 (List.map sortEnc y.2.2.1)) /\ m'_1 = y.2.2.2 /\ h = h /\ True))) (∃ 
    (cb_1 : Nat), ∃ (n : Int), [cQp cb 0, cQi 4] = [cQp cb_1 0, cQi n] /\ CaseOk x.2.2.2 h cb_1 /\ ∀ (k : Int) (m' : MH), 0 <= k -> k < n ∨ k = 0 -> MOther x.2.2.2 m' cb_1 -> CaseOk m' 
    h cb_1 -> ∀ (s : Sl) (h' : PH), h.le h' -> RowIn h' s 1 (List.map eI x.2.1) -> ∀ (s_1 : Sl) (h'_1 : PH), h'.le h'_1 -> RowIn h'_1 s_1 2 (List.map sortEnc x.2.2.1) -> K (cQa [vQi 
    v.op, vQi v.table, vQi v.where_.op, vQi v.where_.cmp, vQi v.where_.left.kind, vQi v.where_.left.index, vQi v.where_.left.value.kind, vQi v.where_.left.value.int, Value.string 
    v.where_.left.value.text, vQi v.where_.right.kind, vQi v.where_.right.index, vQi v.where_.right.value.kind, vQi v.where_.right.value.int, Value.string v.where_.right.value.text, 
    vQs v.where_.args, vQs v.columns, vQs v.on, vQs s, vQs s_1, vQi k, vQs v.args]) m' h'_1)
theorem f40_vc (cb : Nat) (v : QV) (s : Sl) (m : MH) (h : PH) (K : CV → MH → PH → Prop) : f40_nice cb v s m h K = (fnVC (f40_ctx cb v s h) Tryz.f40 (bodyOf Tryz.f40) (entry Tryz.f40.ntmps [cP cb, aQ (rankQ v nilS nilS v.limit), cS s] m h) K) := by kernel_rfl
theorem f51_sound : Sound Tryz.prog 51 ColumnS := by
  refine fn_sound (fn := Tryz.f51) (c := bodyOf Tryz.f51) Tryz.func51 rfl (by decide) ?_
  rintro cvs m h K ⟨n, k, rfl, hK⟩
  refine ⟨ctx2 [] [] [] [] false, rfl, specs_nil, ?_⟩
  rw [← f51_vc n k m h K]
  exact hK
theorem f37_sound : Sound Tryz.prog 37 ScanS := by
  refine fn_sound (fn := Tryz.f37) (c := bodyOf Tryz.f37) Tryz.func37 rfl (by decide) ?_
  rintro cvs m h K ⟨t, rfl, hK⟩
  refine ⟨ctx2 [] [] [] [] false, rfl, specs_nil, ?_⟩
  rw [← f37_vc t m h K]
  exact hK
theorem f40_ok {cb : Nat} {v : QV} {s : Sl} {kinds : List Int} {m : MH} {h : PH} {K : CV → MH → PH → Prop} (hc : CaseOk m h cb) (hs : Ints h s kinds) (hl : kinds.length ≤ 1000)
    (hK : ∀ g o k gr od m' h', PH.le h h' → Ints h' g gr → Sorts h' o od → gr.length ≤ kinds.length → od.length ≤ kinds.length → 0 ≤ k → k ≤ 3 → MOther m m' cb → CaseOk m' h' cb → K (aQ (rankQ v g o k)) m' h') : f40_nice cb v s m h K := by
  have hsl := hs.slen
  refine ⟨fun ⟨i, gr, od, mx⟩ => i ≤ kinds.length ∧ gr.length ≤ i ∧ od.length ≤ i ∧ MOther m mx cb ∧ CaseOk mx h cb, fun ⟨i, _, _, _⟩ => kinds.length - i, ⟨(0, [], [], m), ⟨by omega, by simp, by simp, .refl _ _, hc⟩, MT⟩, ?_⟩
  rintro ⟨i, gr, od, m1⟩ ⟨hi, hg, ho, o1, c1⟩
  dsimp only
  refine branch_dec (fun hlt => ?_) (fun hge => ?_)
  · have fin : ∀ (gr' : List Int) (od' : List (Int × Bool)) m', gr'.length ≤ i + 1 → od'.length ≤ i + 1 → MOther m m' cb → CaseOk m' h cb → (i + 1 ≤ kinds.length ∧ gr'.length ≤ i + 1 ∧ od'.length ≤ i + 1 ∧ MOther m m' cb ∧ CaseOk m' h cb) := fun gr' od' m' h1 h2 h3 h4 => ⟨by omega, h1, h2, h3, h4⟩
    refine ⟨cb, 3, rfl, by omega, by omega, c1, fun r m2 o2 c2 => branch_intro (fun _ => ⟨by simp; omega, by simp; omega, cb, 3, rfl, by omega, by omega, c2, fun r2 m3 o3 c3 => branch_intro (fun _ => ⟨cb, 2, rfl, by omega, by omega, c3, fun r3 m4 o4 c4 => ⟨by simp; omega, by simp; omega, (i + 1, gr ++ [(i : Int)], od ++ [((i : Int), r3)], m4), fin (gr ++ [(i : Int)]) (od ++ [((i : Int), r3)]) m4 (by simp; omega) (by simp; omega) (((o1.trans o2).trans o3).trans o4) c4, by show kinds.length - (i + 1) < kinds.length - i; omega, ?_⟩⟩) (fun _ => ⟨(i + 1, gr ++ [(i : Int)], od, m3), fin (gr ++ [(i : Int)]) od m3 (by simp; omega) (by omega) ((o1.trans o2).trans o3) c3, by show kinds.length - (i + 1) < kinds.length - i; omega, ?_⟩)⟩)
      (fun _ => ⟨cb, 3, rfl, by omega, by omega, c2, fun r2 m3 o3 c3 => branch_intro (fun _ => ⟨cb, 2, rfl, by omega, by omega, c3, fun r3 m4 o4 c4 => ⟨by simp; omega, by simp; omega, (i + 1, gr, od ++ [((i : Int), r3)], m4), fin gr (od ++ [((i : Int), r3)]) m4 (by omega) (by simp; omega) (((o1.trans o2).trans o3).trans o4) c4, by show kinds.length - (i + 1) < kinds.length - i; omega, ?_⟩⟩) (fun _ => ⟨(i + 1, gr, od, m3), fin gr od m3 (by omega) (by omega) ((o1.trans o2).trans o3) c3, by show kinds.length - (i + 1) < kinds.length - i; omega, MT⟩)⟩)⟩
    · simp only [List.map_append]; exact MT
    · simp only [List.map_append]; exact MT
    · simp only [List.map_append]; exact MT
  · refine ⟨cb, 4, rfl, c1, fun k m2 k0 k1 o2 c2 s1 h1 hle1 r1 s2 h2 hle2 r2 => ?_⟩
    exact hK s1 s2 k gr od m2 h2 (hle1.trans hle2) ⟨r1.mono hle2, by omega⟩ ⟨r2, by omega⟩ (by omega) (by omega) k0 (by omega) (o1.trans o2) (c2.mono (hle1.trans hle2))
theorem f40_sound : Sound Tryz.prog 40 RankW := by
  refine fn_sound (fn := Tryz.f40) (c := bodyOf Tryz.f40) Tryz.func40 rfl (by decide) ?_
  rintro cvs m h K ⟨cb, v, s, kinds, rfl, hc, hs, hl, hK⟩
  refine ⟨f40_ctx cb v s h, rfl, specs_cons intW (specs_cons f10_sound specs_nil), ?_⟩
  rw [← f40_vc cb v s m h K]
  exact f40_ok hc hs hl hK
end Go.Ps
namespace Go.Ps
open Go Go.Vc Go.Proofs
def PairsW : Vc.Spec := fun cvs m h K => ∃ cb s t a b, cvs = [cP cb, cS s, cS t] ∧ CaseOk m h cb ∧ Ints h s a ∧ Ints h t b ∧ a.length ≤ 1000 ∧ b.length ≤ 1000 ∧
  ∀ o on m' h', PH.le h h' → Pairs h' o on → on.length ≤ 10 → MOther m m' cb → CaseOk m' h' cb → K (cS o) m' h'
noncomputable def f38_ctx (cb : Nat) (s t : Sl) (h : PH) : Ctx :=
  ctx2 [(12, IntW)] [(3, { A := Int × List (Int × Int) × MH, st := fun ⟨n, on, m⟩ => mkSt 77 80 [(0, pv cb), (1, sv s), (2, sv t), (7, .at (.lst 75)), (8, iv n)] [(75, .lst 78 2 (on.map pairEnc))] m h }),
    (8, { A := Int × Nat × List (Int × Int) × (Int × Int) × Bool × MH, st := fun ⟨n, i, on, p, f, m⟩ => mkSt 77 80 [(0, pv cb), (1, sv s), (2, sv t), (7, .at (.lst 75)), (8, iv n), (9, .at (.ptr 9 0)), (10, bv f), (49, .at (.lst 75)), (50, iv on.length), (51, iv i)] [(9, .cells 78 [.val (.int .i64 p.1), .val (.int .i64 p.2)]), (75, .lst 78 2 (on.map pairEnc))] m h })] [] [] false
def f38_nice (cb : Nat) (s t : Sl) (m : MH) (h : PH) (K : CV → MH → PH → Prop) : Prop :=
    ∃ (cb_1 : Nat), ∃ (n : Int), [cQp cb 0, cQi 3] = [cQp cb_1 0, cQi n] /\ CaseOk m h cb_1 /\ ∀ (k : Int) (m' : MH), 0 <= k -> k < n ∨ k = 0 -> MOther m m' cb_1 -> CaseOk m' h cb_1 -> 
    ∃ (I : Int × List (Int × Int) × MH -> Prop), ∃ (mu : Int × List (Int × Int) × MH -> Nat), (∃ (x : Int × List (Int × Int) × MH), I x /\ eQ (sQo cb 0) /\ eQ (sQs s) /\ eQ (sQs t) /\ 
    eQ (sQl 75) /\ sQi k = sQi x.1 /\ some (Own.lst 78 2 []) = some (Own.lst 78 2 (List.map pairEnc x.2.1)) /\ m' = x.2.2 /\ h = h /\ True) /\ ∀ (x : Int × List (Int × Int) × MH), I x 
    -> branch (decide (x.1 > 0)) (branch (decide ((↑s.len : Int) > 0)) (branch (decide ((↑t.len : Int) > 0)) (∃ (cb_2 : Nat), ∃ (n : Int), [cQp cb 0, cQi (↑s.len : Int)] = [cQp cb_2 0, 
    cQi n] /\ CaseOk x.2.2 h cb_2 /\ ∀ (k : Int) (m' : MH), 0 <= k -> k < n ∨ k = 0 -> MOther x.2.2 m' cb_2 -> CaseOk m' h cb_2 -> ∃ (cb_3 : Nat), ∃ (n : Int), [cQp cb 0, cQi (↑t.len : 
    Int)] = [cQp cb_3 0, cQi n] /\ CaseOk m' h cb_3 /\ ∀ (k_1 : Int) (m'_1 : MH), 0 <= k_1 -> k_1 < n ∨ k_1 = 0 -> MOther m' m'_1 cb_3 -> CaseOk m'_1 h cb_3 -> (0 : Int) <= 0 /\ (0 : 
    Int) < 2 /\ ∃ (b : Nat), ∃ (off : Nat), s.a = some (Addr.mk b off none) /\ 0 <= k /\ k < (↑s.len : Int) /\ ∃ (y : Int), RdAt m'_1 h b (off + k.toNat * 1) [vQi y] /\ (0 : Int) <= 1 
    /\ (1 : Int) < 2 /\ ∃ (b : Nat), ∃ (off : Nat), t.a = some (Addr.mk b off none) /\ 0 <= k_1 /\ k_1 < (↑t.len : Int) /\ ∃ (y_1 : Int), RdAt m'_1 h b (off + k_1.toNat * 1) [vQi y_1] 
    /\ ∃ (I_1 : Int × Nat × List (Int × Int) × (Int × Int) × Bool × MH -> Prop), ∃ (mu_1 : Int × Nat × List (Int × Int) × (Int × Int) × Bool × MH -> Nat), (∃ (x_1 : Int × Nat × List 
    (Int × Int) × (Int × Int) × Bool × MH), I_1 x_1 /\ eQ (sQo cb 0) /\ eQ (sQs s) /\ eQ (sQs t) /\ eQ (sQl 75) /\ sQi x.1 = sQi x_1.1 /\ eQ (sQp 9 0) /\ sQb (y == y_1) = sQb 
    x_1.2.2.2.2.1 /\ eQ (sQl 75) /\ sQi (↑(List.map pairEnc x.2.1).length : Int) = sQi (↑x_1.2.2.1.length : Int) /\ sQi 0 = sQi (↑x_1.2.1 : Int) /\ oQ 78 [aQi k, aQi k_1] = oQ 78 [aQi 
    x_1.2.2.2.1.1, aQi x_1.2.2.2.1.2] /\ some (Own.lst 78 2 (List.map pairEnc x.2.1)) = some (Own.lst 78 2 (List.map pairEnc x_1.2.2.1)) /\ m'_1 = x_1.2.2.2.2.2 /\ h = h /\ True) /\ ∀ 
    (x_1 : Int × Nat × List (Int × Int) × (Int × Int) × Bool × MH), I_1 x_1 -> branch (decide ((↑x_1.2.1 : Int) < (↑x_1.2.2.1.length : Int))) (0 <= (↑x_1.2.1 : Int) /\ (↑x_1.2.1 : Int) 
    < (↑(List.map pairEnc x_1.2.2.1).length : Int) /\ ∃ (e : List Value), (List.map pairEnc x_1.2.2.1)[(↑x_1.2.1 : Int).toNat]? = some e /\ ∃ (y : Int × Int), List.take 2 (List.drop 0 
    e) = [vQi y.1, vQi y.2] /\ branch x_1.2.2.2.2.1 ((0 : Int) <= 0 /\ (0 : Int) < 2 /\ (0 : Int) <= 0 /\ (0 : Int) < 2 /\ branch (y.1 != x_1.2.2.2.1.1) ((0 : Int) <= 1 /\ (1 : Int) < 
    2 /\ (0 : Int) <= 1 /\ (1 : Int) < 2 /\ ∃ (y_2 : Int × Nat × List (Int × Int) × (Int × Int) × Bool × MH), I_1 y_2 /\ mu_1 y_2 < mu_1 x_1 /\ eQ (sQo cb 0) /\ eQ (sQs s) /\ eQ (sQs 
    t) /\ eQ (sQl 75) /\ sQi x_1.1 = sQi y_2.1 /\ eQ (sQp 9 0) /\ sQb (y.2 != x_1.2.2.2.1.2) = sQb y_2.2.2.2.2.1 /\ eQ (sQl 75) /\ sQi (↑x_1.2.2.1.length : Int) = sQi 
    (↑y_2.2.2.1.length : Int) /\ sQi (IntKind.i64.wrap ((↑x_1.2.1 : Int) + 1)) = sQi (↑y_2.2.1 : Int) /\ oQ 78 [aQi x_1.2.2.2.1.1, aQi x_1.2.2.2.1.2] = oQ 78 [aQi y_2.2.2.2.1.1, aQi 
    y_2.2.2.2.1.2] /\ some (Own.lst 78 2 (List.map pairEnc x_1.2.2.1)) = some (Own.lst 78 2 (List.map pairEnc y_2.2.2.1)) /\ x_1.2.2.2.2.2 = y_2.2.2.2.2.2 /\ h = h /\ True) (∃ (y : Int 
    × Nat × List (Int × Int) × (Int × Int) × Bool × MH), I_1 y /\ mu_1 y < mu_1 x_1 /\ eQ (sQo cb 0) /\ eQ (sQs s) /\ eQ (sQs t) /\ eQ (sQl 75) /\ sQi x_1.1 = sQi y.1 /\ eQ (sQp 9 0) 
    /\ sQb false = sQb y.2.2.2.2.1 /\ eQ (sQl 75) /\ sQi (↑x_1.2.2.1.length : Int) = sQi (↑y.2.2.1.length : Int) /\ sQi (IntKind.i64.wrap ((↑x_1.2.1 : Int) + 1)) = sQi (↑y.2.1 : Int) 
    /\ oQ 78 [aQi x_1.2.2.2.1.1, aQi x_1.2.2.2.1.2] = oQ 78 [aQi y.2.2.2.1.1, aQi y.2.2.2.1.2] /\ some (Own.lst 78 2 (List.map pairEnc x_1.2.2.1)) = some (Own.lst 78 2 (List.map 
    pairEnc y.2.2.1)) /\ x_1.2.2.2.2.2 = y.2.2.2.2.2 /\ h = h /\ True)) (∃ (y : Int × Nat × List (Int × Int) × (Int × Int) × Bool × MH), I_1 y /\ mu_1 y < mu_1 x_1 /\ eQ (sQo cb 0) /\ 
    eQ (sQs s) /\ eQ (sQs t) /\ eQ (sQl 75) /\ sQi x_1.1 = sQi y.1 /\ eQ (sQp 9 0) /\ sQb false = sQb y.2.2.2.2.1 /\ eQ (sQl 75) /\ sQi (↑x_1.2.2.1.length : Int) = sQi (↑y.2.2.1.length 
    : Int) /\ sQi (IntKind.i64.wrap ((↑x_1.2.1 : Int) + 1)) = sQi (↑y.2.1 : Int) /\ oQ 78 [aQi x_1.2.2.2.1.1, aQi x_1.2.2.2.1.2] = oQ 78 [aQi y.2.2.2.1.1, aQi y.2.2.2.1.2] /\ some 
    (Own.lst 78 2 (List.map pairEnc x_1.2.2.1)) = some (Own.lst 78 2 (List.map pairEnc y.2.2.1)) /\ x_1.2.2.2.2.2 = y.2.2.2.2.2 /\ h = h /\ True)) (branch x_1.2.2.2.2.1 (((List.map 
    pairEnc x_1.2.2.1).length + 1) * 16 <= 140737488355328 /\ (List.map pairEnc x_1.2.2.1).length < 140737488355328 /\ ∃ (y : Int × List (Int × Int) × MH), I y /\ mu y < mu x /\ eQ 
    (sQo cb 0) /\ eQ (sQs s) /\ eQ (sQs t) /\ eQ (sQl 75) /\ sQi (IntKind.i64.wrap (x_1.1 - 1)) = sQi y.1 /\ some (Own.lst 78 2 (List.map pairEnc x_1.2.2.1 ++ [[vQi x_1.2.2.2.1.1, vQi 
    x_1.2.2.2.1.2]])) = some (Own.lst 78 2 (List.map pairEnc y.2.1)) /\ x_1.2.2.2.2.2 = y.2.2 /\ h = h /\ True) (∃ (y : Int × List (Int × Int) × MH), I y /\ mu y < mu x /\ eQ (sQo cb 
    0) /\ eQ (sQs s) /\ eQ (sQs t) /\ eQ (sQl 75) /\ sQi (IntKind.i64.wrap (x_1.1 - 1)) = sQi y.1 /\ some (Own.lst 78 2 (List.map pairEnc x_1.2.2.1)) = some (Own.lst 78 2 (List.map 
    pairEnc y.2.1)) /\ x_1.2.2.2.2.2 = y.2.2 /\ h = h /\ True))) (∀ (s : Sl) (h' : PH), h.le h' -> RowIn h' s 2 (List.map pairEnc x.2.1) -> K (cQs s) x.2.2 h')) (∀ (s : Sl) (h' : PH), 
    h.le h' -> RowIn h' s 2 (List.map pairEnc x.2.1) -> K (cQs s) x.2.2 h')) (∀ (s : Sl) (h' : PH), h.le h' -> RowIn h' s 2 (List.map pairEnc x.2.1) -> K (cQs s) x.2.2 h')
theorem f38_vc (cb : Nat) (s t : Sl) (m : MH) (h : PH) (K : CV → MH → PH → Prop) : f38_nice cb s t m h K = (fnVC (f38_ctx cb s t h) Tryz.f38 (bodyOf Tryz.f38) (entry Tryz.f38.ntmps [cP cb, cS s, cS t] m h) K) := by kernel_rfl
theorem f38_ok {cb : Nat} {s t : Sl} {a b : List Int} {m : MH} {h : PH} {K : CV → MH → PH → Prop} (hc : CaseOk m h cb) (hs : Ints h s a) (ht : Ints h t b) (l1 : a.length ≤ 1000) (l2 : b.length ≤ 1000)
    (hK : ∀ o on m' h', PH.le h h' → Pairs h' o on → on.length ≤ 10 → MOther m m' cb → CaseOk m' h' cb → K (cS o) m' h') : f38_nice cb s t m h K := by
  have hsl := hs.slen
  have htl := ht.slen
  refine ⟨cb, 3, rfl, hc, fun k m1 k0 k1 o1 c1 => ⟨fun ⟨n, on, mx⟩ => 0 ≤ n ∧ n ≤ 2 ∧ (on.length : Int) ≤ 2 - n ∧ MOther m mx cb ∧ CaseOk mx h cb, fun ⟨n, _, _⟩ => n.toNat, ⟨(k, [], m1), ⟨k0, by show k ≤ 2; omega, by simp; omega, o1, c1⟩, MT⟩, ?_⟩⟩
  clear k0 k1 o1 c1 m1
  rintro ⟨n, on, m1⟩ ⟨n0, n1, hon, o1, c1⟩
  dsimp only
  have out : ∀ (sl : Sl) (h' : PH), PH.le h h' → RowIn h' sl 2 (on.map pairEnc) → K (.val (.slice sl.a sl.len sl.cap)) m1 h' := fun sl h' hle hrow => hK sl on m1 h' hle ⟨hrow, by omega⟩ (by omega) o1 (c1.mono hle)
  refine branch_dec (fun hn => branch_dec (fun hp => branch_dec (fun hq => ?_) (fun _ => out)) (fun _ => out)) (fun _ => out)
  refine ⟨cb, s.len, rfl, c1, fun x m2 x0 x1 o2 c2 => ⟨cb, t.len, rfl, c2, fun y m3 y0 y1 o3 c3 => ?_⟩⟩
  obtain ⟨b1, f1, e1, r1⟩ := hs.inb (n := x) x0 (by omega)
  obtain ⟨b2, f2, e2, r2⟩ := ht.inb (n := y) y0 (by omega)
  refine ⟨by omega, by omega, b1, f1, e1, x0, by omega, _, .imm r1, by omega, by omega, b2, f2, e2, y0, by omega, _, .imm r2, ?_⟩
  refine ⟨fun ⟨n', i, on', p, f, mx⟩ => n' = n ∧ on' = on ∧ mx = m3 ∧ i ≤ on.length, fun ⟨_, i, _, _, _, _⟩ => on.length - i, ⟨(n, 0, on, (x, y), a.getD x.toNat 0 == b.getD y.toNat 0, m3), ⟨rfl, rfl, rfl, by omega⟩, ?_⟩, ?_⟩
  · rw [List.length_map]; exact MT
  rintro ⟨n, i, on, p, f, m3⟩ ⟨rfl, rfl, rfl, hi⟩
  dsimp only
  refine branch_dec (fun hlt => ?_) (fun hge => ?_)
  · have hl : i < on.length := by omega
    have hget : (on.map pairEnc)[i]? = some (pairEnc on[i]) := by rw [List.getElem?_map, List.getElem?_eq_getElem hl]; rfl
    refine ⟨by omega, by rw [List.length_map]; omega, _, hget, on[i], rfl, branch_intro (fun _ => ⟨by omega, by omega, by omega, by omega, branch_intro (fun _ => ⟨by omega, by omega, by omega, by omega, (n, i + 1, on, p, _, m3), ⟨rfl, rfl, rfl, by show i + 1 ≤ on.length; omega⟩, by show on.length - (i + 1) < on.length - i; omega, MT⟩) (fun _ => ⟨(n, i + 1, on, p, _, m3), ⟨rfl, rfl, rfl, by show i + 1 ≤ on.length; omega⟩, by show on.length - (i + 1) < on.length - i; omega, MT⟩)⟩) (fun _ => ⟨(n, i + 1, on, p, _, m3), ⟨rfl, rfl, rfl, by show i + 1 ≤ on.length; omega⟩, by show on.length - (i + 1) < on.length - i; omega, MT⟩)⟩
  · have hw : IntKind.i64.wrap (n - 1) = n - 1 := wrap_id (by omega) (by omega)
    rw [hw]
    refine branch_intro (fun _ => ⟨by rw [List.length_map]; omega, by rw [List.length_map]; omega, (n - 1, on ++ [p], m3), ⟨by show 0 ≤ n - 1; omega, by show n - 1 ≤ 2; omega, by simp; omega, (o1.trans o2).trans o3, c3⟩, by show (n - 1).toNat < n.toNat; omega, ?_⟩) (fun _ => ⟨(n - 1, on, m3), ⟨by show 0 ≤ n - 1; omega, by show n - 1 ≤ 2; omega, by show (on.length : Int) ≤ 2 - (n - 1); omega, (o1.trans o2).trans o3, c3⟩, by show (n - 1).toNat < n.toNat; omega, MT⟩)
    rw [List.map_append]; exact MT
theorem f38_sound : Sound Tryz.prog 38 PairsW := by
  refine fn_sound (fn := Tryz.f38) (c := bodyOf Tryz.f38) Tryz.func38 rfl (by decide) ?_
  rintro cvs m h K ⟨cb, s, t, a, b, rfl, hc, hs, ht, l1, l2, hK⟩
  refine ⟨f38_ctx cb s t h, rfl, specs_cons intW specs_nil, ?_⟩
  rw [← f38_vc cb s t m h K]
  exact f38_ok hc hs ht l1 l2 hK
end Go.Ps
namespace Go.Ps
open Go Go.Vc Go.Proofs
def NewS : Vc.Spec := fun cvs m h K => ∃ s cs, ∃ most : Nat, cvs = [cS s, cI most] ∧ RowIn h s 1 (bytesVal cs) ∧ s.len ≤ s.cap ∧ most ≤ 1000 ∧ ∀ cb m' h', PH.le h h' → m cb = none → MOther m m' cb → CaseOk m' h' cb → K (cP cb) m' h'
def f7_nice (s : Sl) (most : Nat) (m : MH) (h : PH) (K : CV → MH → PH → Prop) : Prop :=
    (0 <= if (↑most : Int) < (↑s.len : Int) then (↑most : Int) else (↑s.len : Int)) /\ (if (↑most : Int) < (↑s.len : Int) then (↑most : Int) else (↑s.len : Int)) <= (↑s.cap : Int) /\ ∃ 
    (ys : List (List Value)), RowsOk 1 ys /\ SrcIn m h (Sl.mk s.a (if (↑most : Int) < (↑s.len : Int) then (↑most : Int) else (↑s.len : Int)).toNat s.cap) 1 ys /\ ys.length * 1 <= 
    140737488355328 /\ ys.length <= 140737488355328 /\ ∀ (s : Sl) (h' : PH), h.le h' -> RowIn h' s 1 ys -> ∀ (b : Nat) (m' : MH), Unheld m h' b -> MUpd m m' b (Obj.cells (Array.mk [vQs 
    s, vQi 0]) 68) -> K (cQp b 0) m' h'
theorem f7_vc (s : Sl) (most : Nat) (m : MH) (h : PH) (K : CV → MH → PH → Prop) : f7_nice s most m h K = (fnVC (ctx4 [] [] [] [] [68] [] false) Tryz.f7 (bodyOf Tryz.f7) (entry Tryz.f7.ntmps [cS s, cI most] m h) K) := by kernel_rfl
theorem rowsOk_bytes (l : List UInt8) : RowsOk 1 (bytesVal l) := by
  constructor
  · intro e he; obtain ⟨x, _, rfl⟩ := List.mem_map.1 he; rfl
  · intro e he u hu; obtain ⟨x, _, rfl⟩ := List.mem_map.1 he; simp at hu; subst hu; rfl
theorem RowIn.cut {h : PH} {s : Sl} {sz : Nat} {xs : List (List Value)} (r : RowIn h s sz xs) (n : Nat) (hn : n ≤ xs.length) : RowIn h ⟨s.a, n, s.cap⟩ sz (xs.take n) := by
  refine ⟨by simp; omega, ?_⟩
  rcases r.row with e | ⟨b, o, ha, k⟩
  · left; rw [e]; simp
  · right
    refine ⟨b, o, ha, fun i e hi => ?_⟩
    rw [List.getElem?_take] at hi
    split at hi
    · exact k i e hi
    · cases hi
theorem f7_ok {s : Sl} {cs : List UInt8} {most : Nat} {m : MH} {h : PH} {K : CV → MH → PH → Prop} (hr : RowIn h s 1 (bytesVal cs)) (hc : s.len ≤ s.cap) (hm : most ≤ 1000) (hK : ∀ cb m' h', PH.le h h' → m cb = none → MOther m m' cb → CaseOk m' h' cb → K (cP cb) m' h') : f7_nice s most m h K := by
  have hl : s.len = cs.length := by have := hr.len; simpa [bytesVal] using this
  unfold f7_nice
  have hmin : (if (most : Int) < (s.len : Int) then (most : Int) else (s.len : Int)) = ((min most s.len : Nat) : Int) := by split <;> omega
  rw [hmin]
  have hcut := RowIn.cut hr (min most s.len) (by simp [bytesVal]; omega)
  refine ⟨by omega, by omega, bytesVal (cs.take (min most s.len)), rowsOk_bytes _, .imm ?_, by simp [bytesVal]; omega, by simp [bytesVal]; omega, fun s' h' hle hrow b m' hb hu => ?_⟩
  · rw [show bytesVal (cs.take (min most s.len)) = (bytesVal cs).take (min most s.len) by simp [bytesVal, List.map_take]]
    exact hcut
  · exact hK b m' h' hle hb.m_ ⟨hu.other⟩ ⟨_, ⟨⟨s', _, 0, hu.at_, hrow, by omega, by simp; omega, rfl⟩⟩⟩
theorem f7_sound : Sound Tryz.prog 7 NewS := by
  refine fn_sound (fn := Tryz.f7) (c := bodyOf Tryz.f7) Tryz.func7 rfl (by decide) ?_
  rintro cvs m h K ⟨s, cs, most, rfl, hr, hc, hm, hK⟩
  refine ⟨ctx4 [] [] [] [] [68] [] false, rfl, specs_nil, ?_⟩
  rw [← f7_vc s most m h K]
  exact f7_ok hr hc hm hK
end Go.Ps
namespace Go.Ps
open Go Go.Vc Go.Proofs
def GrowS : Vc.Spec := fun cvs m h K => ∃ n : Nat, cvs = [.val (.slice none 0 0), cI n] ∧ n ≤ 1000 ∧ K (.lst 3 1 []) m h
noncomputable def f101_ctx (ss : Sl) (m : MH) (h : PH) : Ctx :=
  ctx2 [(123, GrowS)] [(3, { A := Nat × Nat, st := fun ⟨i, n⟩ => mkSt 36 37 [(0, sv ss), (3, iv n), (9, sv ss), (10, iv ss.len), (11, iv i)] [] m h }),
    (11, { A := Nat × List Int, st := fun ⟨i, l⟩ => mkSt 36 37 [(6, .at (.lst 24)), (25, sv ss), (26, iv ss.len), (27, iv i)] [(24, .lst 3 1 (l.map eI))] m h })] [] [] false
def f123_nice (n : Nat) (m : MH) (h : PH) (K : CV → MH → PH → Prop) : Prop :=
    branch (decide (IntKind.i64.wrap ((↑n : Int) - IntKind.i64.wrap ((↑0 : Int) - (↑0 : Int))) > 0)) ((0 : Int) <= 0 /\ (0 : Int) <= 0 /\ 0 < IntKind.i64.wrap ((↑n : Int) - 0) /\ 
    IntKind.i64.wrap ((↑n : Int) - 0) * 8 <= 140737488355328 /\ IntKind.i64.wrap ((↑n : Int) - 0) <= 140737488355328 /\ (0 : Int) <= 0 /\ 0 <= (↑(List.replicate (IntKind.i64.wrap ((↑n 
    : Int) - 0)).toNat [vQi 0]).length : Int) /\ K (CV.lst 3 1 []) m h) (K (CV.lst 3 1 []) m h)
theorem f123_vc (n : Nat) (m : MH) (h : PH) (K : CV → MH → PH → Prop) : f123_nice n m h K = (fnVC (ctx2 [] [] [] [] true) Tryz.f123 (bodyOf Tryz.f123) (entry Tryz.f123.ntmps [.val (.slice none 0 0), cI n] m h) K) := by kernel_rfl
def f101_nice (ss : Sl) (m : MH) (h : PH) (K : CV → MH → PH → Prop) : Prop :=
    ∃ (I : Nat × Nat -> Prop), ∃ (mu : Nat × Nat -> Nat), (∃ (x : Nat × Nat), I x /\ eQ (sQs ss) /\ sQi 0 = sQi (↑x.2 : Int) /\ eQ (sQs ss) /\ eQ (sQi (↑ss.len : Int)) /\ sQi 0 = sQi 
    (↑x.1 : Int) /\ m = m /\ h = h /\ True) /\ ∀ (x : Nat × Nat), I x -> branch (decide ((↑x.1 : Int) < (↑ss.len : Int))) (∃ (b : Nat), ∃ (off : Nat), ss.a = some (Addr.mk b off none) 
    /\ 0 <= (↑x.1 : Int) /\ (↑x.1 : Int) < (↑ss.len : Int) /\ ∃ (y : Sl), RdAt m h b (off + (↑x.1 : Int).toNat * 1) [vQs y] /\ branch (decide (IntKind.i64.wrap ((↑x.2 : Int) + (↑y.len 
    : Int)) < 0)) False (∃ (y_1 : Nat × Nat), I y_1 /\ mu y_1 < mu x /\ eQ (sQs ss) /\ sQi (IntKind.i64.wrap ((↑x.2 : Int) + (↑y.len : Int))) = sQi (↑y_1.2 : Int) /\ eQ (sQs ss) /\ eQ 
    (sQi (↑ss.len : Int)) /\ sQi (IntKind.i64.wrap ((↑x.1 : Int) + 1)) = sQi (↑y_1.1 : Int) /\ m = m /\ h = h /\ True)) (∃ (n : Nat), [cQn, cQi (↑x.2 : Int)] = [cQn, cQi (↑n : Int)] /\ 
    n <= 1000 /\ ∃ (I : Nat × List Int -> Prop), ∃ (mu : Nat × List Int -> Nat), (∃ (x : Nat × List Int), I x /\ eQ (sQl 24) /\ eQ (sQs ss) /\ eQ (sQi (↑ss.len : Int)) /\ sQi 0 = sQi 
    (↑x.1 : Int) /\ some (Own.lst 3 1 []) = some (Own.lst 3 1 (List.map eI x.2)) /\ m = m /\ h = h /\ True) /\ ∀ (x : Nat × List Int), I x -> branch (decide ((↑x.1 : Int) < (↑ss.len : 
    Int))) (∃ (b : Nat), ∃ (off : Nat), ss.a = some (Addr.mk b off none) /\ 0 <= (↑x.1 : Int) /\ (↑x.1 : Int) < (↑ss.len : Int) /\ ∃ (y : Sl), RdAt m h b (off + (↑x.1 : Int).toNat * 1) 
    [vQs y] /\ ∃ (ys : List (List Value)), RowsOk 1 ys /\ RowIn h (Sl.mk y.a y.len y.cap) 1 ys /\ ((List.map eI x.2).length + ys.length) * 8 <= 140737488355328 /\ (List.map eI 
    x.2).length + ys.length <= 140737488355328 /\ ∃ (y : Nat × List Int), I y /\ mu y < mu x /\ eQ (sQl 24) /\ eQ (sQs ss) /\ eQ (sQi (↑ss.len : Int)) /\ sQi (IntKind.i64.wrap ((↑x.1 : 
    Int) + 1)) = sQi (↑y.1 : Int) /\ some (Own.lst 3 1 (List.map eI x.2 ++ ys)) = some (Own.lst 3 1 (List.map eI y.2)) /\ m = m /\ h = h /\ True) (∀ (s : Sl) (h' : PH), h.le h' -> 
    RowIn h' s 1 (List.map eI x.2) -> K (cQs s) m h'))
theorem f101_vc (ss : Sl) (m : MH) (h : PH) (K : CV → MH → PH → Prop) : f101_nice ss m h K = (fnVC (f101_ctx ss m h) Tryz.f101 (bodyOf Tryz.f101) (entry Tryz.f101.ntmps [cS ss] m h) K) := by kernel_rfl
theorem f123_ok {n : Nat} {m : MH} {h : PH} {K : CV → MH → PH → Prop} (hn : n ≤ 1000) (hK : K (.lst 3 1 []) m h) : f123_nice n m h K := by
  unfold f123_nice
  have h0 : IntKind.i64.wrap ((n : Int) - 0) = n := by rw [wrap_id (by omega) (by omega)]; omega
  have h1 : IntKind.i64.wrap ((n : Int) - IntKind.i64.wrap (0 - 0)) = n := by rw [show IntKind.i64.wrap (0 - 0) = 0 from by rw [wrap_id (by omega) (by omega)]; rfl, h0]
  rw [h0, h1]
  exact branch_dec (fun hp => ⟨by omega, by omega, by omega, by omega, by omega, by omega, by omega, hK⟩) (fun _ => hK)
theorem f123_sound : Sound Tryz.prog 123 GrowS := by
  refine fn_sound (fn := Tryz.f123) (c := bodyOf Tryz.f123) Tryz.func123 rfl (by decide) ?_
  rintro cvs m h K ⟨n, rfl, hn, hK⟩
  refine ⟨ctx2 [] [] [] [] true, rfl, specs_nil, ?_⟩
  rw [← f123_vc n m h K]
  exact f123_ok hn hK
def sumLen (ks : List (List Int)) : Nat := (ks.map List.length).sum
theorem sumLen_take {ks : List (List Int)} {i : Nat} {k : List Int} (hk : ks[i]? = some k) : sumLen (ks.take (i + 1)) = sumLen (ks.take i) + k.length := by
  unfold sumLen; rw [List.take_add_one, hk]; simp
theorem sumLen_le {ks : List (List Int)} (h : ∀ k ∈ ks, k.length ≤ 12) : ∀ i, sumLen (ks.take i) ≤ 12 * i
  | 0 => by simp [sumLen]
  | i + 1 => by
    have ih := sumLen_le h i
    cases e : ks[i]? with
    | none => rw [List.take_add_one, e]; simp [sumLen] at ih ⊢; omega
    | some k => rw [sumLen_take e]; have := h k (List.mem_of_getElem? e); omega
theorem f101_ok {ss : Sl} {ks : List (List Int)} {m : MH} {h : PH} {K : CV → MH → PH → Prop} (hs : RepI h ss ks) (hl : ks.length ≤ 10) (h12 : ∀ k ∈ ks, k.length ≤ 12) (hK : ∀ sl h', PH.le h h' → Ints h' sl ks.flatten → K (cS sl) m h') : f101_nice ss m h K := by
  have hsl := RepL.slen hs
  refine ⟨fun ⟨i, n⟩ => i ≤ ks.length ∧ n = sumLen (ks.take i), fun ⟨i, _⟩ => ks.length - i, ⟨(0, 0), ⟨by omega, by simp [sumLen]⟩, MT⟩, ?_⟩
  rintro ⟨i, n⟩ ⟨hi, rfl⟩
  dsimp only
  have hb := sumLen_le h12 i
  refine branch_dec (fun hlt => ?_) (fun hge => ?_)
  · obtain ⟨k, hk⟩ := getx hsl hlt
    obtain ⟨b, o, sl, ea, r, hki⟩ := RepL.at hs hk
    have hkl := hki.slen
    have hk12 := h12 k (List.mem_of_getElem? hk)
    have hw : IntKind.i64.wrap ((sumLen (ks.take i) : Int) + (sl.len : Int)) = ((sumLen (ks.take (i + 1)) : Nat) : Int) := by
      rw [sumLen_take hk, wrap_id (by omega) (by omega)]; omega
    refine ⟨b, o, ea, by omega, hlt, sl, .imm r, ?_⟩
    rw [hw]
    exact branch_dec (fun hneg => by omega) (fun _ => ⟨(i + 1, sumLen (ks.take (i + 1))), ⟨by omega, rfl⟩, by show ks.length - (i + 1) < ks.length - i; omega, MT⟩)
  · refine ⟨sumLen (ks.take i), rfl, by omega, ?_⟩
    refine ⟨fun ⟨i, l⟩ => i ≤ ks.length ∧ l = (ks.take i).flatten, fun ⟨i, _⟩ => ks.length - i, ⟨(0, []), ⟨by omega, by simp⟩, MT⟩, ?_⟩
    clear hb hge hi
    rintro ⟨i, l⟩ ⟨hi, rfl⟩
    dsimp only
    have hfl : (ks.take i).flatten.length ≤ 12 * i := by have := sumLen_le h12 i; simpa [sumLen, List.length_flatten] using this
    refine branch_dec (fun hlt => ?_) (fun hge sl h' hle hrow => hK sl h' hle ⟨?_, ?_⟩)
    · obtain ⟨k, hk⟩ := getx hsl hlt
      obtain ⟨b, o, sl, ea, r, hki⟩ := RepL.at hs hk
      have hk12 := h12 k (List.mem_of_getElem? hk)
      refine ⟨b, o, ea, by omega, hlt, sl, .imm r, k.map eI, rowsOk_ints k, hki.row, ?_, ?_, (i + 1, (ks.take (i + 1)).flatten), ⟨by omega, rfl⟩, by show ks.length - (i + 1) < ks.length - i; omega, ?_⟩
      · rw [List.length_map, List.length_map]; omega
      · rw [List.length_map, List.length_map]; omega
      · rw [List.take_add_one, hk, Option.toList_some, List.flatten_append, List.map_append, List.flatten_cons, List.flatten_nil, List.append_nil]
        exact MT
    · rw [List.take_of_length_le (by omega)] at hrow; exact hrow
    · rw [List.take_of_length_le (by omega)] at hfl; omega
theorem f101_sound : Sound Tryz.prog 101 ConcatS := by
  refine fn_sound (fn := Tryz.f101) (c := bodyOf Tryz.f101) Tryz.func101 rfl (by decide) ?_
  rintro cvs m h K ⟨ss, ks, rfl, hs, hl, h12, hK⟩
  refine ⟨f101_ctx ss m h, rfl, specs_cons f123_sound specs_nil, ?_⟩
  rw [← f101_vc ss m h K]
  exact f101_ok hs hl h12 hK
theorem f65_sound : ∀ N, Sound Tryz.prog 65 (KindsQS N) := f65_all f101_sound
end Go.Ps
namespace Go.Ps
open Go Go.Vc Go.Proofs
mutual
def visQ : Query → Nat → Int → Bool × Int
  | .mk _ _ _ _ _ _ _ _ args, k, n => if 24 < n + 1 ∨ k = 0 then (false, 0) else visQs args (k - 1) (n + 1)
def visQs : List Query → Nat → Int → Bool × Int
  | [], _, n => (true, n)
  | q :: qs, k, n => match visQ q k n with | (false, _) => (false, 0) | (true, n') => visQs qs k n'
end
mutual
def szQ : Query → Int
  | .mk _ _ _ _ _ _ _ _ args => 1 + szQs args
def szQs : List Query → Int
  | [] => 0
  | p :: ps => szQ p + szQs ps
end
mutual
theorem szQ_pos : ∀ p : Query, 1 ≤ szQ p
  | .mk _ _ _ _ _ _ _ _ args => by have := szQs_pos args; simp only [szQ]; omega
theorem szQs_pos : ∀ ps : List Query, 0 ≤ szQs ps
  | [] => by simp [szQs]
  | p :: ps => by have := szQ_pos p; have := szQs_pos ps; simp only [szQs]; omega
end
mutual
theorem nodesQ_eq : ∀ (p : Query) (n : Int), n ≤ 24 → (n + szQ p ≤ 24 → nodesQ p n = n + szQ p) ∧ (24 < n + szQ p → nodesQ p n = 25)
  | .mk _ _ _ _ _ _ _ _ args, n, h => by
    obtain ⟨h1, h2⟩ := nodesQs_eq args (n + 1) (by omega)
    simp only [nodesQ, szQ]
    exact ⟨fun e => by rw [h1 (by omega)]; omega, fun e => h2 (by omega)⟩
theorem nodesQs_eq : ∀ (ps : List Query) (n : Int), n ≤ 25 → (n + szQs ps ≤ 24 → nodesQs ps n = n + szQs ps) ∧ (24 < n + szQs ps → nodesQs ps n = 25)
  | [], n, h => by
    simp only [nodesQs, szQs]
    omega
  | p :: ps, n, h => by
    have h1 := szQ_pos p
    have h2 := szQs_pos ps
    simp only [nodesQs, szQs]
    by_cases h3 : n ≤ 24
    · rw [if_pos h3]
      have h4 := nodesQ_eq p n h3
      have h5 := (nodesQ_bound p n h3).2
      have h6 := nodesQs_eq ps _ h5
      by_cases h7 : n + szQ p ≤ 24
      · have h8 := h4.1 h7
        rw [h8] at h6 ⊢
        exact ⟨fun e => by rw [h6.1 (by omega)]; omega, fun e => h6.2 (by omega)⟩
      · have h8 := h4.2 (by omega)
        rw [h8] at h6 ⊢
        exact ⟨fun e => by omega, fun e => h6.2 (by omega)⟩
    · rw [if_neg h3]; omega
end
mutual
theorem visQ_eq : ∀ (p : Query) (k : Nat) (n : Int), n ≤ 24 → ((visQ p k n).1 = true ↔ n + szQ p ≤ 24 ∧ deeperQ p k = false) ∧ ((visQ p k n).1 = true → (visQ p k n).2 = n + szQ p)
  | .mk _ _ _ _ _ _ _ _ args, k, n, h => by
    have hp := szQs_pos args
    simp only [visQ, szQ]
    by_cases h0 : 24 < n + 1 ∨ k = 0
    · rw [if_pos h0]
      refine ⟨⟨fun e => (by cases e), fun e => ?_⟩, fun e => (by cases e)⟩
      rcases h0 with h0 | h0
      · omega
      · subst h0; simp [deeperQ] at e
    · rw [if_neg h0]
      obtain ⟨k', rfl⟩ : ∃ k', k = k' + 1 := ⟨k - 1, by omega⟩
      obtain ⟨h1, h2⟩ := visQs_eq args k' (n + 1) (by omega)
      simp only [deeperQ, Nat.add_sub_cancel]
      refine ⟨⟨fun e => ?_, fun e => h1.2 ⟨by omega, e.2⟩⟩, fun e => by have := h2 e; omega⟩
      have := h1.1 e
      exact ⟨by omega, this.2⟩
theorem visQs_eq : ∀ (ps : List Query) (k : Nat) (n : Int), n ≤ 24 → ((visQs ps k n).1 = true ↔ n + szQs ps ≤ 24 ∧ deeperQs ps k = false) ∧ ((visQs ps k n).1 = true → (visQs ps k n).2 = n + szQs ps)
  | [], k, n, h => by simp [visQs, szQs, deeperQs, h]
  | p :: ps, k, n, h => by
    obtain ⟨h1, h2⟩ := visQ_eq p k n h
    have hp := szQs_pos ps
    simp only [visQs, szQs, deeperQs]
    cases e : visQ p k n with
    | mk r n' =>
      rw [e] at h1 h2
      cases r with
      | false =>
        refine ⟨⟨fun e => (by cases e), fun e => ?_⟩, fun e => (by cases e)⟩
        have := h1.2 ⟨by omega, (Bool.or_eq_false_iff.1 e.2).1⟩
        cases this
      | true =>
        have h3 := h2 rfl
        have h1 := h1.1 rfl
        simp only at h3
        obtain ⟨h4, h5⟩ := visQs_eq ps k n' (by omega)
        refine ⟨⟨fun e => ?_, fun e => ?_⟩, fun e => by have := h5 e; simp only; omega⟩
        · have := h4.1 e
          exact ⟨by omega, by rw [h1.2, this.2]; rfl⟩
        · exact h4.2 ⟨by omega, (Bool.or_eq_false_iff.1 e.2).2⟩
end
theorem vis_small (q : Query) : (visQ q 8 0).1 = smallQ q := by
  have h1 := (visQ_eq q 8 0 (by omega)).1
  have h2 := nodesQ_eq q 0 (by omega)
  rw [Bool.eq_iff_iff, h1]
  simp only [smallQ, Bool.and_eq_true, decide_eq_true_eq, Bool.not_eq_true']
  refine and_congr_left fun _ => ⟨fun e => ?_, fun e => ?_⟩
  · rw [h2.1 (by omega)]; omega
  · by_cases h3 : 0 + szQ q ≤ 24
    · exact h3
    · rw [h2.2 (by omega)] at e; omega
/-! ### The loop in which the nodes are counted -/
def rangeOf : Code → Option (Code × Code)
  | .rangeFunc _ _ a b => some (a, b)
  | .seq x y => match rangeOf x with | some p => some p | none => rangeOf y
  | .block _ c => rangeOf c
  | _ => none
noncomputable def rfA : Code := match rangeOf (bodyOf Tryz.f32) with | some p => p.1 | none => .skip
noncomputable def rfB : Code := match rangeOf (bodyOf Tryz.f32) with | some p => p.2 | none => .skip
structure LR where
  fn : FuncId
  tmps : Array Value
  bn : Nat
  b6 : Nat
  b7 : Nat
  D : Nat
noncomputable def recOf (R : LR) (st : LoopState) (pe : Option Code) : Loop := { state := st, pending := pe, fn := R.fn, tmps := R.tmps, params := #[37, 38], assign := rfA, body := rfB, defers := R.D }
def cellK : Obj := .cells #[.slice none 0 0] 39 (0, 0)
def cellE (n : Int) : Obj := .cells #[.int .i64 n] 50 (0, 0)
structure LoopAt (m : MH) (l : Nat) (R : LR) (n : Int) : Prop where
  loop : m l = some (.loop (recOf R .ready none))
  n_ : m R.bn = some (cell1 n)
  k_ : m R.b6 = some cellK
  e_ : m R.b7 = some (cellE 0)
  size : R.tmps.size = 53
  t11 : R.tmps[11]? = some (.pointer (some ⟨R.bn, 0, none⟩))
  t6 : R.tmps[6]? = some (.pointer (some ⟨R.b6, 0, none⟩))
  t7 : R.tmps[7]? = some (.pointer (some ⟨R.b7, 0, none⟩))
structure Stopped (m m' : MH) (l : Nat) (R : LR) : Prop where
  loop : m' l = some (.loop (recOf R .done (some .ret)))
  k_ : m' R.b6 = some cellK
  e_ : m' R.b7 = some (cellE 2)
  n_ : ∃ x, m' R.bn = some x
  other : ∀ b, b ≠ l → b ≠ R.bn → b ≠ R.b6 → b ≠ R.b7 → m' b = m b
theorem LoopAt.ne {m : MH} {l : Nat} {R : LR} {n : Int} (x : LoopAt m l R n) : l ≠ R.bn ∧ l ≠ R.b6 ∧ l ≠ R.b7 ∧ R.b6 ≠ R.bn ∧ R.b7 ≠ R.bn ∧ R.b6 ≠ R.b7 := by
  have h1 := x.loop
  have h2 := x.n_
  have h3 := x.k_
  have h4 := x.e_
  refine ⟨fun e => ?_, fun e => ?_, fun e => ?_, fun e => ?_, fun e => ?_, fun e => ?_⟩
  · rw [e, h2] at h1; cases h1
  · rw [e, h3] at h1; cases h1
  · rw [e, h4] at h1; cases h1
  · rw [e, h2] at h3; cases h3
  · rw [e, h2] at h4; cases h4
  · rw [e, h4] at h3; cases h3
theorem LoopAt.next {m m' : MH} {l : Nat} {R : LR} {n n' : Int} (x : LoopAt m l R n) (hu : MUpd m m' R.bn (cell1 n')) : LoopAt m' l R n' := by
  obtain ⟨h1, h2, h3, h4, h5, h6⟩ := x.ne
  exact ⟨by rw [hu.other l h1]; exact x.loop, hu.at_, by rw [hu.other _ h4]; exact x.k_, by rw [hu.other _ h5]; exact x.e_, x.size, x.t11, x.t6, x.t7⟩
theorem Stopped.from {m m1 m' : MH} {l : Nat} {R : LR} {n' : Int} (hu : MUpd m m1 R.bn (cell1 n')) (h : Stopped m1 m' l R) : Stopped m m' l R :=
  ⟨h.loop, h.k_, h.e_, h.n_, fun b h1 h2 h3 h4 => (h.other b h1 h2 h3 h4).trans (hu.other b h2)⟩
def yv (l : Nat) : CV := .val (.func (.yield l) #[] #[])
def YS : Vc.Spec := fun cvs m h K => ∃ l level v R n, cvs = [yv l, cI level, aQ v] ∧ LoopAt m l R n ∧ 0 ≤ n ∧ n ≤ 24 ∧
  (∀ m', (24 < n + 1 ∨ 8 < level) → Stopped m m' l R → K (cB false) m' h) ∧ (∀ m', ¬ (24 < n + 1 ∨ 8 < level) → MUpd m m' R.bn (cell1 (n + 1)) → K (cB true) m' h)
def VisitS (N : Nat) : Vc.Spec := fun cvs m h K => ∃ v q, ∃ k l : Nat, ∃ R n, cvs = [aQ v, cI (9 - k), yv l] ∧ RepQ h q v ∧ SizeOf.sizeOf q < N ∧ k ≤ 9 ∧ LoopAt m l R n ∧ 0 ≤ n ∧ n ≤ 24 ∧
  (∀ m', (visQ q k n).1 = false → Stopped m m' l R → K (cB false) m' h) ∧ (∀ m', (visQ q k n).1 = true → MUpd m m' R.bn (cell1 (visQ q k n).2) → K (cB true) m' h)
def cPtr (b : Nat) : CV := .val (.pointer (some ⟨b, 0, none⟩))
def WalkS : Vc.Spec := fun cvs m h K => ∃ v q l bq R, cvs = [yv l, cPtr bq] ∧ m bq = some (.cells ⟨v.enc⟩ 43 (0, 0)) ∧ RepQ h q v ∧ LoopAt m l R 0 ∧
  (∀ m', (visQ q 8 0).1 = false → Stopped m m' l R → K (.tup []) m' h) ∧ (∀ m', (visQ q 8 0).1 = true → MUpd m m' R.bn (cell1 (visQ q 8 0).2) → K (.tup []) m' h)
def MakeWalkS : Vc.Spec := fun cvs m h K => ∃ v, cvs = [aQ v] ∧ ∀ b m', Unheld m h b → MUpd m m' b (.cells ⟨v.enc⟩ 43 (0, 0)) → K (.val (.func (.func 90) #[] #[.pointer (some ⟨b, 0, none⟩)])) m' h
noncomputable def f91_ctx (N : Nat) (v : QV) (k l : Nat) (h : PH) : Ctx :=
  { ctx2 [(91, VisitS N)] [(4, { A := Nat × MH, st := fun ⟨i, m⟩ => mkSt 28 31 [(1, iv (9 - k)), (2, vv (.func (.yield l) #[] #[])), (15, sv v.args), (16, iv v.args.len), (17, iv i)] [] m h })] [] [] false with yield := some YS }
def f91_nice (N : Nat) (v : QV) (k l : Nat) (m : MH) (h : PH) (K : CV → MH → PH → Prop) : Prop :=
    YSound Tryz.prog YS /\ ∃ (l_1 : Nat), ∃ (level : Int), ∃ (v_1 : QV), ∃ (R : LR), ∃ (n : Int), [CV.val (Value.func (Fn.yield l) (Array.mk []) (Array.mk [])), cQi (9 - (↑k : Int)), 
    cQa (QV.enc v)] = [CV.val (Value.func (Fn.yield l_1) (Array.mk []) (Array.mk [])), cQi level, cQa (QV.enc v_1)] /\ LoopAt m l_1 R n /\ 0 <= n /\ n <= 24 /\ (∀ (m' : MH), 24 < n + 1 
    ∨ 8 < level -> Stopped m m' l_1 R -> K (cQb false) m' h) /\ ∀ (m' : MH), (24 < n + 1 ∨ 8 < level -> False) -> MUpd m m' R.bn (Obj.cells (Array.mk [vQi (n + 1)]) 3) -> ∃ (I : Nat × 
    MH -> Prop), ∃ (mu : Nat × MH -> Nat), (∃ (x : Nat × MH), I x /\ eQ (sQi (9 - (↑k : Int))) /\ eQ (SV.at (At.val (Value.func (Fn.yield l) (Array.mk []) (Array.mk [])))) /\ eQ (sQs 
    v.args) /\ eQ (sQi (↑v.args.len : Int)) /\ sQi 0 = sQi (↑x.1 : Int) /\ m' = x.2 /\ h = h /\ True) /\ ∀ (x : Nat × MH), I x -> branch (decide ((↑x.1 : Int) < (↑v.args.len : Int))) 
    (∃ (b : Nat), ∃ (off : Nat), v.args.a = some (Addr.mk b off none) /\ 0 <= (↑x.1 : Int) /\ (↑x.1 : Int) < (↑v.args.len : Int) /\ ∃ (y : QV), RdAt x.2 h b (off + (↑x.1 : Int).toNat * 
    21) (QV.enc y) /\ ∃ (v_2 : QV), ∃ (q : Query), ∃ (k_1 : Nat), ∃ (l_2 : Nat), ∃ (R : LR), ∃ (n : Int), [cQa (QV.enc y), cQi (IntKind.i64.wrap (9 - (↑k : Int) + 1)), CV.val 
    (Value.func (Fn.yield l) (Array.mk []) (Array.mk []))] = [cQa (QV.enc v_2), cQi (9 - (↑k_1 : Int)), CV.val (Value.func (Fn.yield l_2) (Array.mk []) (Array.mk []))] /\ RepQ h q v_2 
    /\ SizeOf.sizeOf q < N /\ k_1 <= 9 /\ LoopAt x.2 l_2 R n /\ 0 <= n /\ n <= 24 /\ (∀ (m' : MH), (visQ q k_1 n).1 = false -> Stopped x.2 m' l_2 R -> K (cQb false) m' h) /\ ∀ (m' : 
    MH), (visQ q k_1 n).1 = true -> MUpd x.2 m' R.bn (Obj.cells (Array.mk [vQi (visQ q k_1 n).2]) 3) -> ∃ (y : Nat × MH), I y /\ mu y < mu x /\ eQ (sQi (9 - (↑k : Int))) /\ eQ (SV.at 
    (At.val (Value.func (Fn.yield l) (Array.mk []) (Array.mk [])))) /\ eQ (sQs v.args) /\ eQ (sQi (↑v.args.len : Int)) /\ sQi (IntKind.i64.wrap ((↑x.1 : Int) + 1)) = sQi (↑y.1 : Int) 
    /\ m' = y.2 /\ h = h /\ True) (K (cQb true) x.2 h)
theorem f91_vc (N : Nat) (v : QV) (k l : Nat) (m : MH) (h : PH) (K : CV → MH → PH → Prop) : f91_nice N v k l m h K = (fnVC (f91_ctx N v k l h) Tryz.f91 (bodyOf Tryz.f91) (entry Tryz.f91.ntmps [aQ v, cI (9 - k), yv l] m h) K) := by kernel_rfl
def f90_nice (N : Nat) (l bq : Nat) (m : MH) (h : PH) (K : CV → MH → PH → Prop) : Prop :=
    ∃ (y : QV), RdAt m h bq 0 (QV.enc y) /\ ∃ (v : QV), ∃ (q : Query), ∃ (k : Nat), ∃ (l_1 : Nat), ∃ (R : LR), ∃ (n : Int), [cQa (QV.enc y), cQi 1, CV.val (Value.func (Fn.yield l) 
    (Array.mk []) (Array.mk []))] = [cQa (QV.enc v), cQi (9 - (↑k : Int)), CV.val (Value.func (Fn.yield l_1) (Array.mk []) (Array.mk []))] /\ RepQ h q v /\ SizeOf.sizeOf q < N /\ k <= 
    9 /\ LoopAt m l_1 R n /\ 0 <= n /\ n <= 24 /\ (∀ (m' : MH), (visQ q k n).1 = false -> Stopped m m' l_1 R -> K (CV.tup []) m' h) /\ ∀ (m' : MH), (visQ q k n).1 = true -> MUpd m m' 
    R.bn (Obj.cells (Array.mk [vQi (visQ q k n).2]) 3) -> K (CV.tup []) m' h
theorem f90_vc (N : Nat) (l bq : Nat) (m : MH) (h : PH) (K : CV → MH → PH → Prop) : f90_nice N l bq m h K = (fnVC (ctx2 [(91, VisitS N)] [] [] [] false) Tryz.f90 (bodyOf Tryz.f90) (entry Tryz.f90.ntmps [yv l, cPtr bq] m h) K) := by kernel_rfl
def f64_nice (v : QV) (m : MH) (h : PH) (K : CV → MH → PH → Prop) : Prop :=
    ∀ (b : Nat) (m' : MH), Unheld m h b -> MUpd m m' b (Obj.cells (Array.mk (QV.enc v)) 43) -> K (CV.val (Value.func (Fn.func 90) (Array.mk []) (Array.mk [vQp b 0]))) m' h
theorem f64_vc (v : QV) (m : MH) (h : PH) (K : CV → MH → PH → Prop) : f64_nice v m h K = (fnVC (ctx2 [] [] [] [] false) Tryz.f64 (bodyOf Tryz.f64) (entry Tryz.f64.ntmps [aQ v] m h) K) := by kernel_rfl
theorem MUpd.self {m : MH} {b : Nat} {o : Obj} (h : m b = some o) : MUpd m m b o := ⟨h, fun _ _ => rfl⟩
theorem f91_ok (hY : YSound Tryz.prog YS) {N : Nat} {v : QV} {q : Query} {k l : Nat} {R : LR} {n : Int} {m : MH} {h : PH} {K : CV → MH → PH → Prop} (hq : RepQ h q v) (hN : SizeOf.sizeOf q < N + 1) (hk : k ≤ 9) (hL : LoopAt m l R n) (h0 : 0 ≤ n) (h1 : n ≤ 24)
    (hf : ∀ m', (visQ q k n).1 = false → Stopped m m' l R → K (cB false) m' h) (ht : ∀ m', (visQ q k n).1 = true → MUpd m m' R.bn (cell1 (visQ q k n).2) → K (cB true) m' h) : f91_nice N v k l m h K := by
  have hargs := hq.args
  have hlen := hargs.slen
  have hl := hargs.len
  refine ⟨hY, l, 9 - k, v, R, n, rfl, hL, h0, h1, fun m' hc hs => hf m' ?_ hs, fun m' hc hu => ?_⟩
  · cases q; simp only [visQ]; rw [if_pos (by omega)]
  have hc : ¬ (24 < n + 1 ∨ 8 < 9 - (k : Int)) := hc
  have hu' : MUpd m m' R.bn (cell1 (n + 1)) := hu
  have hv : visQ q k n = visQs q.args (k - 1) (n + 1) := by cases q; simp only [visQ, Query.args]; rw [if_neg (by omega)]
  rw [hv] at hf ht
  refine ⟨fun ⟨i, mx⟩ => ∃ n', i ≤ q.args.length ∧ 0 ≤ n' ∧ n' ≤ 24 ∧ MUpd m mx R.bn (cell1 n') ∧ visQs (q.args.drop i) (k - 1) n' = visQs q.args (k - 1) (n + 1), fun ⟨i, _⟩ => q.args.length - i, ⟨(0, m'), ⟨n + 1, by omega, by omega, by omega, hu', by simp⟩, MT⟩, ?_⟩
  rintro ⟨i, mx⟩ ⟨n', hi, hn0, hn1, hmx, he⟩
  dsimp only
  refine branch_dec (fun hlt => ?_) (fun hge => ?_)
  · obtain ⟨p, hp⟩ := getx hlen hlt
    obtain ⟨b, o, u, ea, hrd, hru⟩ := hargs.at hp
    have hd := drop_cons hp
    rw [hd, visQs] at he
    refine ⟨b, o, ea, by omega, hlt, u, .imm hrd, u, p, k - 1, l, R, n', ?_, hru, ?_, by omega, hL.next hmx, hn0, hn1, fun m2 hx hs => ?_, fun m2 hx hu2 => ?_⟩
    · rw [wrap_id (by omega) (by omega), show (9 - ((k - 1 : Nat) : Int)) = 9 - (k : Int) + 1 by omega]
    · have := qargs_lt (List.mem_of_getElem? hp); omega
    · refine hf m2 ?_ (hs.from hmx)
      rw [← he]
      cases e : visQ p (k - 1) n' with
      | mk r x => rw [e] at hx; simp only at hx; subst hx; rfl
    · have hu2' : MUpd mx m2 R.bn (cell1 (visQ p (k - 1) n').2) := hu2
      have hs := visQ_eq p (k - 1) n' hn1
      have hs1 := hs.1.1 hx
      have hs2 := hs.2 hx
      have hp1 := szQ_pos p
      cases e : visQ p (k - 1) n' with
      | mk r x =>
        rw [e] at hx he hs2 hu2'
        simp only at hx hs2 hu2'
        subst hx
        exact ⟨(i + 1, m2), ⟨x, by omega, by omega, by omega, hmx.trans hu2', he⟩, by show q.args.length - (i + 1) < q.args.length - i; omega, MT⟩
  · rw [List.drop_of_length_le (by omega), visQs] at he
    rw [← he] at ht
    exact ht mx rfl hmx
theorem f91_all (hY : YSound Tryz.prog YS) : ∀ N, Sound Tryz.prog 91 (VisitS N)
  | 0 => by
    refine fn_sound (fn := Tryz.f91) (c := bodyOf Tryz.f91) Tryz.func91 rfl (by decide) ?_
    rintro cvs m h K ⟨v, q, k, l, R, n, rfl, _, hN, _⟩
    omega
  | N + 1 => by
    refine fn_sound (fn := Tryz.f91) (c := bodyOf Tryz.f91) Tryz.func91 rfl (by decide) ?_
    rintro cvs m h K ⟨v, q, k, l, R, n, rfl, hq, hN, hk, hL, h0, h1, hf, ht⟩
    refine ⟨f91_ctx N v k l h, rfl, specs_cons (f91_all hY N) specs_nil, ?_⟩
    rw [← f91_vc N v k l m h K]
    exact f91_ok hY hq hN hk hL h0 h1 hf ht
theorem f90_sound (hY : YSound Tryz.prog YS) : Sound Tryz.prog 90 WalkS := by
  refine fn_sound (fn := Tryz.f90) (c := bodyOf Tryz.f90) Tryz.func90 rfl (by decide) ?_
  rintro cvs m h K ⟨v, q, l, bq, R, rfl, hb, hq, hL, hf, ht⟩
  refine ⟨ctx2 [(91, VisitS (SizeOf.sizeOf q + 1))] [] [] [] false, rfl, specs_cons (f91_all hY _) specs_nil, ?_⟩
  rw [← f90_vc (SizeOf.sizeOf q + 1) l bq m h K]
  exact ⟨v, .of_m hb rfl, v, q, 8, l, R, 0, rfl, hq, by omega, by omega, hL, by omega, by omega, hf, ht⟩
theorem f64_sound : Sound Tryz.prog 64 MakeWalkS := by
  refine fn_sound (fn := Tryz.f64) (c := bodyOf Tryz.f64) Tryz.func64 rfl (by decide) ?_
  rintro cvs m h K ⟨v, rfl, hK⟩
  refine ⟨ctx2 [] [] [] [] false, rfl, specs_nil, ?_⟩
  rw [← f64_vc v m h K]
  exact hK
end Go.Ps
