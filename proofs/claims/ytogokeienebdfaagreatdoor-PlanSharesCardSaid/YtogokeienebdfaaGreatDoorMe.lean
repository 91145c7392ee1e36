/-
  Part 5 of a proof that a law of the given program returns true: a condition generator that is proved sound, and contracts of functions. No condition of its own. Own work, joined by program (pack.py).
-/
import Derived.Test.YtogokeienebdfaaGreatDoorMd
namespace Go.Ps
open Go Go.Vc Go.Proofs
def aN (n : NV) : CV := .val (.agg ⟨n.enc⟩)
/-- A node, and the kinds of its arguments. -/
structure RepN (h : PH) (s : Sch) (ps : List Int) (q : Query) (ks : List (List Int)) (n : NV) : Prop where
  s_ : RepS h s n.s
  ps_ : Ints h n.params ps
  q_ : RepQ h q n.q
  ks_ : RepL h 1 eS (fun k sl => Ints h sl k) n.args ks
  len : ∀ k ∈ ks, k.length ≤ 12
def Query.withOf (u q : Query) : Query := match u, q with | .mk _ ta w co on gr od li _, .mk op _ _ _ _ _ _ _ args => .mk op ta w co on gr od li args
def PlainNS : Vc.Spec := fun cvs m h K => ∃ n k u s ps q ks uq, cvs = [aN n, cI k, aQ u] ∧ RepN h s ps q ks n ∧ RepQ h uq u ∧ ∀ r : Bool, (r = true ↔ (ks.length : Int) = k ∧ q = uq.withOf q) → K (cB r) m h
def RankingS : Vc.Spec := fun cvs m h K => ∃ n s ps q ks, cvs = [aN n] ∧ RepN h s ps q ks n ∧ K (aQ ⟨0, 0, ⟨0, 0, zeroO, zeroO, ⟨none, 0, 0⟩⟩, ⟨none, 0, 0⟩, ⟨none, 0, 0⟩, n.q.group, n.q.order, n.q.limit, ⟨none, 0, 0⟩⟩) m h
def RankedNS : Vc.Spec := fun cvs m h K => ∃ n s ps q ks a, cvs = [aN n] ∧ RepN h s ps q ks n ∧ ks[0]? = some a ∧ ∀ r : Bool, (r = true ↔ ∃ op ta w co on gr od li args, q = .mk op ta w co on gr od li args ∧ RankOk a gr od li) → K (cB r) m h
def pairedQ (ks : List (List Int)) : Query → Prop
  | .mk op ta w co on gr od li _ => ks.length = 2 ∧ ta = 0 ∧ w = zeroP ∧ co = [] ∧ gr = [] ∧ od = [] ∧ li = 0 ∧ Good (PairT (ks.getD 0 []) (ks.getD 1 [])) on
def PairedNS : Vc.Spec := fun cvs m h K => ∃ n s ps q ks, cvs = [aN n] ∧ RepN h s ps q ks n ∧ ∀ r : Bool, (r = true ↔ pairedQ ks q) → K (cB r) m h
noncomputable def f129_ctx (n : NV) (h : PH) : Ctx :=
  ctx4 [] [(4, { A := Nat × Nat × Nat × MH, st := fun ⟨i, wd, b, mx⟩ => mkSt 72 73 [(1, .at (.ptr 1 0)), (3, iv wd), (4, vv (.pointer (some ⟨b, 0, none⟩))), (16, sv n.q.group), (17, iv n.q.group.len), (18, iv i)] [(1, .cells 155 (n.enc.map .val))] mx h }),
    (11, { A := Nat × Nat × MH, st := fun ⟨i, wd, mx⟩ => mkSt 72 73 [(1, .at (.ptr 1 0)), (3, iv wd), (39, sv n.q.order), (40, iv n.q.order.len), (41, iv i)] [(1, .cells 155 (n.enc.map .val))] mx h })] [] [] [183] [] false
noncomputable def f127_ctx (n : NV) (h : PH) : Ctx :=
  ctx4 [(126, PlainNS)] [(6, { A := Nat × Sl × Sl × Nat × Nat × MH, st := fun ⟨i, s, t, b, c, mx⟩ => mkSt 80 81 [(3, sv s), (4, sv t), (5, vv (.pointer (some ⟨b, 0, none⟩))), (6, vv (.pointer (some ⟨c, 0, none⟩))), (28, sv n.q.on), (29, iv n.q.on.len), (30, iv i)] [] mx h })] [] [] [183] [] false
def f126_nice (n : NV) (k : Int) (u : QV) (m : MH) (h : PH) (K : CV → MH → PH → Prop) : Prop :=
    branch ((↑n.args.len : Int) == k) (∃ (v : QV), ∃ (w : QV), ∃ (p : Query), ∃ (q : Query), [cQa (QV.enc n.q), cQa [vQi n.q.op, vQi u.table, vQi u.where_.op, vQi u.where_.cmp, vQi 
    u.where_.left.kind, vQi u.where_.left.index, vQi u.where_.left.value.kind, vQi u.where_.left.value.int, Value.string u.where_.left.value.text, vQi u.where_.right.kind, vQi 
    u.where_.right.index, vQi u.where_.right.value.kind, vQi u.where_.right.value.int, Value.string u.where_.right.value.text, vQs u.where_.args, vQs u.columns, vQs u.on, vQs u.group, 
    vQs u.order, vQi u.limit, vQs n.q.args]] = [cQa (QV.enc v), cQa (QV.enc w)] /\ RepQ h p v /\ RepQ h q w /\ ∀ (r : Bool), (r = true ↔ p = q) -> K (cQb r) m h) (K (cQb false) m h)
theorem f126_vc (n : NV) (k : Int) (u : QV) (m : MH) (h : PH) (K : CV → MH → PH → Prop) : f126_nice n k u m h K = (fnVC (ctx2 [(134, EqQA)] [] [] [] false) Tryz.f126 (bodyOf Tryz.f126) (entry Tryz.f126.ntmps [aN n, cI k, aQ u] m h) K) := by kernel_rfl
def f128_nice (n : NV) (m : MH) (h : PH) (K : CV → MH → PH → Prop) : Prop :=
    K (cQa [vQi 0, vQi 0, vQi 0, vQi 0, vQi 0, vQi 0, vQi 0, vQi 0, vQz, vQi 0, vQi 0, vQi 0, vQi 0, vQz, vQn, vQn, vQn, vQs n.q.group, vQs n.q.order, vQi n.q.limit, vQn]) m h
theorem f128_vc (n : NV) (m : MH) (h : PH) (K : CV → MH → PH → Prop) : f128_nice n m h K = (fnVC (ctx2 [] [] [] [] false) Tryz.f128 (bodyOf Tryz.f128) (entry Tryz.f128.ntmps [aN n] m h) K) := by kernel_rfl
def f129_nice (n : NV) (m : MH) (h : PH) (K : CV → MH → PH → Prop) : Prop :=
    ∃ (b : Nat), ∃ (off : Nat), n.args.a = some (Addr.mk b off none) /\ (0 : Int) <= 0 /\ 0 < (↑n.args.len : Int) /\ ∃ (y : Sl), RdAt m h b (off + 0) [vQs y] /\ ∀ (b : Nat) (m' : MH), 
    Unheld m h b -> MUpd m m' b (Obj.cells (Array.mk [Value.bool false, Value.bool false, Value.bool false, Value.bool false, Value.bool false, Value.bool false, Value.bool false, 
    Value.bool false, Value.bool false, Value.bool false, Value.bool false, Value.bool false]) 183) -> ∃ (I : Nat × Nat × Nat × MH -> Prop), ∃ (mu : Nat × Nat × Nat × MH -> Nat), (∃ (x 
    : Nat × Nat × Nat × MH), I x /\ eQ (sQp 1 0) /\ sQi (↑y.len : Int) = sQi (↑x.2.1 : Int) /\ sQo b 0 = sQo x.2.2.1 0 /\ eQ (sQs n.q.group) /\ eQ (sQi (↑n.q.group.len : Int)) /\ sQi 0 
    = sQi (↑x.1 : Int) /\ eQ (oQ 155 [aQi n.s.version, aQs n.s.tables, aQs n.params, aQi n.q.op, aQi n.q.table, aQi n.q.where_.op, aQi n.q.where_.cmp, aQi n.q.where_.left.kind, aQi 
    n.q.where_.left.index, aQi n.q.where_.left.value.kind, aQi n.q.where_.left.value.int, At.val (Value.string n.q.where_.left.value.text), aQi n.q.where_.right.kind, aQi 
    n.q.where_.right.index, aQi n.q.where_.right.value.kind, aQi n.q.where_.right.value.int, At.val (Value.string n.q.where_.right.value.text), aQs n.q.where_.args, aQs n.q.columns, 
    aQs n.q.on, aQs n.q.group, aQs n.q.order, aQi n.q.limit, aQs n.q.args, aQs n.args]) /\ m' = x.2.2.2 /\ h = h /\ True) /\ ∀ (x : Nat × Nat × Nat × MH), I x -> branch (decide ((↑x.1 
    : Int) < (↑n.q.group.len : Int))) (∃ (b : Nat), ∃ (off : Nat), n.q.group.a = some (Addr.mk b off none) /\ 0 <= (↑x.1 : Int) /\ (↑x.1 : Int) < (↑n.q.group.len : Int) /\ ∃ (y : Int), 
    RdAt x.2.2.2 h b (off + (↑x.1 : Int).toNat * 1) [vQi y] /\ branch (decide (y < 0)) (K (cQb false) x.2.2.2 h) (branch (decide (y ≥ (↑x.2.1 : Int))) (K (cQb false) x.2.2.2 h) (0 <= y 
    /\ y < 12 /\ ∃ (y_1 : Bool), RdAt x.2.2.2 h x.2.2.1 (0 + y.toNat * 1) [Value.bool y_1] /\ branch y_1 (K (cQb false) x.2.2.2 h) (0 <= y /\ y < 12 /\ ∃ (cs : Array Value), ∃ (E : 
    TypeId), MAt x.2.2.2 x.2.2.1 (Obj.cells cs E) /\ 0 + y.toNat * 1 < cs.size /\ ∀ (m' : MH), MUpd x.2.2.2 m' x.2.2.1 (Obj.cells (Array.mk (splice cs.toList (0 + y.toNat * 1) 
    [Value.bool true])) E) -> ∃ (y : Nat × Nat × Nat × MH), I y /\ mu y < mu x /\ eQ (sQp 1 0) /\ sQi (↑x.2.1 : Int) = sQi (↑y.2.1 : Int) /\ sQo x.2.2.1 0 = sQo y.2.2.1 0 /\ eQ (sQs 
    n.q.group) /\ eQ (sQi (↑n.q.group.len : Int)) /\ sQi (IntKind.i64.wrap ((↑x.1 : Int) + 1)) = sQi (↑y.1 : Int) /\ eQ (oQ 155 [aQi n.s.version, aQs n.s.tables, aQs n.params, aQi 
    n.q.op, aQi n.q.table, aQi n.q.where_.op, aQi n.q.where_.cmp, aQi n.q.where_.left.kind, aQi n.q.where_.left.index, aQi n.q.where_.left.value.kind, aQi n.q.where_.left.value.int, 
    At.val (Value.string n.q.where_.left.value.text), aQi n.q.where_.right.kind, aQi n.q.where_.right.index, aQi n.q.where_.right.value.kind, aQi n.q.where_.right.value.int, At.val 
    (Value.string n.q.where_.right.value.text), aQs n.q.where_.args, aQs n.q.columns, aQs n.q.on, aQs n.q.group, aQs n.q.order, aQi n.q.limit, aQs n.q.args, aQs n.args]) /\ m' = 
    y.2.2.2 /\ h = h /\ True)))) (∃ (I : Nat × Nat × MH -> Prop), ∃ (mu : Nat × Nat × MH -> Nat), (∃ (x_1 : Nat × Nat × MH), I x_1 /\ eQ (sQp 1 0) /\ sQi (↑x.2.1 : Int) = sQi (↑x_1.2.1 
    : Int) /\ eQ (sQs n.q.order) /\ eQ (sQi (↑n.q.order.len : Int)) /\ sQi 0 = sQi (↑x_1.1 : Int) /\ eQ (oQ 155 [aQi n.s.version, aQs n.s.tables, aQs n.params, aQi n.q.op, aQi 
    n.q.table, aQi n.q.where_.op, aQi n.q.where_.cmp, aQi n.q.where_.left.kind, aQi n.q.where_.left.index, aQi n.q.where_.left.value.kind, aQi n.q.where_.left.value.int, At.val 
    (Value.string n.q.where_.left.value.text), aQi n.q.where_.right.kind, aQi n.q.where_.right.index, aQi n.q.where_.right.value.kind, aQi n.q.where_.right.value.int, At.val 
    (Value.string n.q.where_.right.value.text), aQs n.q.where_.args, aQs n.q.columns, aQs n.q.on, aQs n.q.group, aQs n.q.order, aQi n.q.limit, aQs n.q.args, aQs n.args]) /\ x.2.2.2 = 
    x_1.2.2 /\ h = h /\ True) /\ ∀ (x : Nat × Nat × MH), I x -> branch (decide ((↑x.1 : Int) < (↑n.q.order.len : Int))) (∃ (b : Nat), ∃ (off : Nat), n.q.order.a = some (Addr.mk b off 
    none) /\ 0 <= (↑x.1 : Int) /\ (↑x.1 : Int) < (↑n.q.order.len : Int) /\ ∃ (y : Int × Bool), RdAt x.2.2 h b (off + (↑x.1 : Int).toNat * 2) [vQi y.1, Value.bool y.2] /\ branch (decide 
    (y.1 < 0)) (K (cQb false) x.2.2 h) (branch (decide (y.1 ≥ (↑x.2.1 : Int))) (K (cQb false) x.2.2 h) (∃ (y : Nat × Nat × MH), I y /\ mu y < mu x /\ eQ (sQp 1 0) /\ sQi (↑x.2.1 : Int) 
    = sQi (↑y.2.1 : Int) /\ eQ (sQs n.q.order) /\ eQ (sQi (↑n.q.order.len : Int)) /\ sQi (IntKind.i64.wrap ((↑x.1 : Int) + 1)) = sQi (↑y.1 : Int) /\ eQ (oQ 155 [aQi n.s.version, aQs 
    n.s.tables, aQs n.params, aQi n.q.op, aQi n.q.table, aQi n.q.where_.op, aQi n.q.where_.cmp, aQi n.q.where_.left.kind, aQi n.q.where_.left.index, aQi n.q.where_.left.value.kind, aQi 
    n.q.where_.left.value.int, At.val (Value.string n.q.where_.left.value.text), aQi n.q.where_.right.kind, aQi n.q.where_.right.index, aQi n.q.where_.right.value.kind, aQi 
    n.q.where_.right.value.int, At.val (Value.string n.q.where_.right.value.text), aQs n.q.where_.args, aQs n.q.columns, aQs n.q.on, aQs n.q.group, aQs n.q.order, aQi n.q.limit, aQs 
    n.q.args, aQs n.args]) /\ x.2.2 = y.2.2 /\ h = h /\ True))) (branch (decide ((↑n.q.order.len : Int) <= 12)) (branch (decide (n.q.limit ≥ 0)) (K (cQb (decide (n.q.limit <= 100))) 
    x.2.2 h) (K (cQb false) x.2.2 h)) (K (cQb false) x.2.2 h)))
theorem f129_vc (n : NV) (m : MH) (h : PH) (K : CV → MH → PH → Prop) : f129_nice n m h K = (fnVC (f129_ctx n h) Tryz.f129 (bodyOf Tryz.f129) (entry Tryz.f129.ntmps [aN n] m h) K) := by kernel_rfl
def f127_nice (n : NV) (m : MH) (h : PH) (K : CV → MH → PH → Prop) : Prop :=
    ∃ (n_1 : NV), ∃ (k : Int), ∃ (u : QV), ∃ (s : Sch), ∃ (ps : List Int), ∃ (q : Query), ∃ (ks : List (List Int)), ∃ (uq : Query), [cQa [vQi n.s.version, vQs n.s.tables, vQs n.params, 
    vQi n.q.op, vQi n.q.table, vQi n.q.where_.op, vQi n.q.where_.cmp, vQi n.q.where_.left.kind, vQi n.q.where_.left.index, vQi n.q.where_.left.value.kind, vQi 
    n.q.where_.left.value.int, Value.string n.q.where_.left.value.text, vQi n.q.where_.right.kind, vQi n.q.where_.right.index, vQi n.q.where_.right.value.kind, vQi 
    n.q.where_.right.value.int, Value.string n.q.where_.right.value.text, vQs n.q.where_.args, vQs n.q.columns, vQs n.q.on, vQs n.q.group, vQs n.q.order, vQi n.q.limit, vQs n.q.args, 
    vQs n.args], cQi 2, cQa [vQi 0, vQi 0, vQi 0, vQi 0, vQi 0, vQi 0, vQi 0, vQi 0, vQz, vQi 0, vQi 0, vQi 0, vQi 0, vQz, vQn, vQn, vQs n.q.on, vQn, vQn, vQi 0, vQn]] = [cQa [vQi 
    n_1.s.version, vQs n_1.s.tables, vQs n_1.params, vQi n_1.q.op, vQi n_1.q.table, vQi n_1.q.where_.op, vQi n_1.q.where_.cmp, vQi n_1.q.where_.left.kind, vQi n_1.q.where_.left.index, 
    vQi n_1.q.where_.left.value.kind, vQi n_1.q.where_.left.value.int, Value.string n_1.q.where_.left.value.text, vQi n_1.q.where_.right.kind, vQi n_1.q.where_.right.index, vQi 
    n_1.q.where_.right.value.kind, vQi n_1.q.where_.right.value.int, Value.string n_1.q.where_.right.value.text, vQs n_1.q.where_.args, vQs n_1.q.columns, vQs n_1.q.on, vQs 
    n_1.q.group, vQs n_1.q.order, vQi n_1.q.limit, vQs n_1.q.args, vQs n_1.args], cQi k, cQa (QV.enc u)] /\ RepN h s ps q ks n_1 /\ RepQ h uq u /\ ∀ (r : Bool), (r = true ↔ (↑ks.length 
    : Int) = k /\ q = uq.withOf q) -> branch (!r) (K (cQb false) m h) (∃ (b : Nat), ∃ (off : Nat), n.args.a = some (Addr.mk b off none) /\ (0 : Int) <= 0 /\ 0 < (↑n.args.len : Int) /\ 
    ∃ (y : Sl), RdAt m h b (off + 0) [vQs y] /\ ∃ (b : Nat), ∃ (off : Nat), n.args.a = some (Addr.mk b off none) /\ (0 : Int) <= 1 /\ 1 < (↑n.args.len : Int) /\ ∃ (y_1 : Sl), RdAt m h 
    b (off + 1) [vQs y_1] /\ ∀ (b : Nat) (m' : MH), Unheld m h b -> MUpd m m' b (Obj.cells (Array.mk [Value.bool false, Value.bool false, Value.bool false, Value.bool false, Value.bool 
    false, Value.bool false, Value.bool false, Value.bool false, Value.bool false, Value.bool false, Value.bool false, Value.bool false]) 183) -> ∀ (b_1 : Nat) (m'_1 : MH), Unheld m' h 
    b_1 -> MUpd m' m'_1 b_1 (Obj.cells (Array.mk [Value.bool false, Value.bool false, Value.bool false, Value.bool false, Value.bool false, Value.bool false, Value.bool false, 
    Value.bool false, Value.bool false, Value.bool false, Value.bool false, Value.bool false]) 183) -> ∃ (I : Nat × Sl × Sl × Nat × Nat × MH -> Prop), ∃ (mu : Nat × Sl × Sl × Nat × Nat 
    × MH -> Nat), (∃ (x : Nat × Sl × Sl × Nat × Nat × MH), I x /\ sQs y = sQs x.2.1 /\ sQs y_1 = sQs x.2.2.1 /\ sQo b 0 = sQo x.2.2.2.1 0 /\ sQo b_1 0 = sQo x.2.2.2.2.1 0 /\ eQ (sQs 
    n.q.on) /\ eQ (sQi (↑n.q.on.len : Int)) /\ sQi 0 = sQi (↑x.1 : Int) /\ m'_1 = x.2.2.2.2.2 /\ h = h /\ True) /\ ∀ (x : Nat × Sl × Sl × Nat × Nat × MH), I x -> branch (decide ((↑x.1 
    : Int) < (↑n.q.on.len : Int))) (∃ (b : Nat), ∃ (off : Nat), n.q.on.a = some (Addr.mk b off none) /\ 0 <= (↑x.1 : Int) /\ (↑x.1 : Int) < (↑n.q.on.len : Int) /\ ∃ (y : Int × Int), 
    RdAt x.2.2.2.2.2 h b (off + (↑x.1 : Int).toNat * 2) [vQi y.1, vQi y.2] /\ (0 : Int) <= 0 /\ (0 : Int) < 2 /\ (0 : Int) <= 1 /\ (1 : Int) < 2 /\ branch (decide (y.1 < 0)) (K (cQb 
    false) x.2.2.2.2.2 h) (branch (decide (y.1 ≥ (↑x.2.1.len : Int))) (K (cQb false) x.2.2.2.2.2 h) (branch (decide (y.2 < 0)) (K (cQb false) x.2.2.2.2.2 h) (branch (decide (y.2 ≥ 
    (↑x.2.2.1.len : Int))) (K (cQb false) x.2.2.2.2.2 h) (∃ (b : Nat), ∃ (off : Nat), x.2.1.a = some (Addr.mk b off none) /\ 0 <= y.1 /\ y.1 < (↑x.2.1.len : Int) /\ ∃ (y_2 : Int), RdAt 
    x.2.2.2.2.2 h b (off + y.1.toNat * 1) [vQi y_2] /\ ∃ (b : Nat), ∃ (off : Nat), x.2.2.1.a = some (Addr.mk b off none) /\ 0 <= y.2 /\ y.2 < (↑x.2.2.1.len : Int) /\ ∃ (y_3 : Int), 
    RdAt x.2.2.2.2.2 h b (off + y.2.toNat * 1) [vQi y_3] /\ branch (y_2 != y_3) (K (cQb false) x.2.2.2.2.2 h) (0 <= y.1 /\ y.1 < 12 /\ ∃ (y_4 : Bool), RdAt x.2.2.2.2.2 h x.2.2.2.1 (0 + 
    y.1.toNat * 1) [Value.bool y_4] /\ branch y_4 (K (cQb false) x.2.2.2.2.2 h) (0 <= y.2 /\ y.2 < 12 /\ ∃ (y_5 : Bool), RdAt x.2.2.2.2.2 h x.2.2.2.2.1 (0 + y.2.toNat * 1) [Value.bool 
    y_5] /\ branch y_5 (K (cQb false) x.2.2.2.2.2 h) (0 <= y.1 /\ y.1 < 12 /\ ∃ (cs : Array Value), ∃ (E : TypeId), MAt x.2.2.2.2.2 x.2.2.2.1 (Obj.cells cs E) /\ 0 + y.1.toNat * 1 < 
    cs.size /\ ∀ (m' : MH), MUpd x.2.2.2.2.2 m' x.2.2.2.1 (Obj.cells (Array.mk (splice cs.toList (0 + y.1.toNat * 1) [Value.bool true])) E) -> 0 <= y.2 /\ y.2 < 12 /\ ∃ (cs : Array 
    Value), ∃ (E : TypeId), MAt m' x.2.2.2.2.1 (Obj.cells cs E) /\ 0 + y.2.toNat * 1 < cs.size /\ ∀ (m'_2 : MH), MUpd m' m'_2 x.2.2.2.2.1 (Obj.cells (Array.mk (splice cs.toList (0 + 
    y.2.toNat * 1) [Value.bool true])) E) -> ∃ (y : Nat × Sl × Sl × Nat × Nat × MH), I y /\ mu y < mu x /\ sQs x.2.1 = sQs y.2.1 /\ sQs x.2.2.1 = sQs y.2.2.1 /\ sQo x.2.2.2.1 0 = sQo 
    y.2.2.2.1 0 /\ sQo x.2.2.2.2.1 0 = sQo y.2.2.2.2.1 0 /\ eQ (sQs n.q.on) /\ eQ (sQi (↑n.q.on.len : Int)) /\ sQi (IntKind.i64.wrap ((↑x.1 : Int) + 1)) = sQi (↑y.1 : Int) /\ m'_2 = 
    y.2.2.2.2.2 /\ h = h /\ True)))))))) (K (cQb true) x.2.2.2.2.2 h))
theorem f127_vc (n : NV) (m : MH) (h : PH) (K : CV → MH → PH → Prop) : f127_nice n m h K = (fnVC (f127_ctx n h) Tryz.f127 (bodyOf Tryz.f127) (entry Tryz.f127.ntmps [aN n] m h) K) := by kernel_rfl
/-- Twelve flags in m: which numbers have been seen. -/
structure Arr (m : MH) (b : Nat) (seen : List Int) : Prop where
  ex : ∃ bs : List Bool, m b = some (.cells ⟨bs.map Value.bool⟩ 183 (0, 0)) ∧ bs.length = 12 ∧ ∀ k : Nat, k < 12 → (bs[k]? = some true ↔ (k : Int) ∈ seen)
theorem Arr.zero {m : MH} {b : Nat} (h : m b = some (.cells ⟨[.bool false, .bool false, .bool false, .bool false, .bool false, .bool false, .bool false, .bool false, .bool false, .bool false, .bool false, .bool false]⟩ 183 (0, 0))) : Arr m b [] :=
  ⟨⟨List.replicate 12 false, h, rfl, fun k hk => by rw [List.getElem?_replicate]; simp [hk]⟩⟩
theorem Arr.look {m : MH} {h : PH} {b : Nat} {seen : List Int} (x : Arr m b seen) {n : Int} (h0 : 0 ≤ n) (h1 : n < 12) : ∃ y : Bool, RdAt m h b (0 + n.toNat * 1) [.bool y] ∧ (y = true ↔ n ∈ seen) := by
  obtain ⟨bs, e, hl, hs⟩ := x.ex
  have hk : n.toNat < bs.length := by omega
  refine ⟨bs[n.toNat], .lent _ _ _ e ?_, ?_⟩
  · simp only [Nat.zero_add, Nat.mul_one, List.length_cons, List.length_nil]
    rw [List.drop_eq_getElem_cons (by simpa using hk)]
    simp
  · have := hs n.toNat (by omega)
    rw [List.getElem?_eq_getElem hk] at this
    rw [show ((n.toNat : Nat) : Int) = n by omega] at this
    simpa using this
theorem Arr.store {m : MH} {b : Nat} {seen : List Int} (x : Arr m b seen) {n : Int} (h0 : 0 ≤ n) (h1 : n < 12) : ∃ (cs : Array Value) (E : TypeId), MAt m b (.cells cs E (0, 0)) ∧ 0 + n.toNat * 1 < cs.size ∧ ∀ m', MUpd m m' b (.cells ⟨splice cs.toList (0 + n.toNat * 1) [.bool true]⟩ E (0, 0)) → Arr m' b (seen ++ [n]) := by
  obtain ⟨bs, e, hl, hs⟩ := x.ex
  have hk : n.toNat < bs.length := by omega
  refine ⟨_, _, ⟨e⟩, by simpa using hk, fun m' hu => ⟨bs.set n.toNat true, ?_, by simpa using hl, fun k hk' => ?_⟩⟩
  · rw [hu.at_]
    congr 3
    simp only [splice, Nat.zero_add, Nat.mul_one, List.length_cons, List.length_nil]
    rw [List.set_eq_take_append_cons_drop, if_pos hk]
    simp [List.map_take, List.map_drop]
  · rw [List.getElem?_set, List.mem_append, List.mem_singleton]
    by_cases e' : n.toNat = k
    · subst e'
      rw [if_pos rfl, if_pos hk]
      exact ⟨fun _ => .inr (by omega), fun _ => rfl⟩
    · rw [if_neg e', hs k hk']
      exact ⟨.inl, fun h => h.elim id fun e => by omega⟩
theorem Arr.other {m m' : MH} {b b' : Nat} {seen : List Int} (x : Arr m b seen) (hne : b ≠ b') (ho : ∀ c, c ≠ b' → m' c = m c) : Arr m' b seen := by
  obtain ⟨bs, e, hl, hs⟩ := x.ex
  exact ⟨bs, by rw [ho b hne, e], hl, hs⟩
theorem RepN.arg {h : PH} {s : Sch} {ps : List Int} {q : Query} {ks : List (List Int)} {n : NV} (x : RepN h s ps q ks n) {j : Nat} {k : List Int} (hk : ks[j]? = some k) : ∃ b o sl, n.args.a = some ⟨b, o, none⟩ ∧ RdCells h b (o + j * 1) [.slice sl.a sl.len sl.cap] ∧ Ints h sl k ∧ k.length ≤ 12 ∧ j < n.args.len := by
  obtain ⟨b, o, sl, e, r, hi⟩ := x.ks_.at hk
  have := (List.getElem?_eq_some_iff.1 hk).1
  exact ⟨b, o, sl, e, r, hi, x.len k (List.mem_of_getElem? hk), by rw [x.ks_.slen]; exact this⟩
theorem f126_ok {n : NV} {k : Int} {u : QV} {s : Sch} {ps : List Int} {q uq : Query} {ks : List (List Int)} {m : MH} {h : PH} {K : CV → MH → PH → Prop} (hn : RepN h s ps q ks n) (hu : RepQ h uq u) (hK : ∀ r : Bool, (r = true ↔ (ks.length : Int) = k ∧ q = uq.withOf q) → K (cB r) m h) : f126_nice n k u m h K := by
  have hl := hn.ks_.slen
  have hq := hn.q_
  have hq2 := hn.q_
  obtain ⟨op, ta, w, co, on, gr, od, li, args⟩ := q
  obtain ⟨op', ta', w', co', on', gr', od', li', args'⟩ := uq
  have x := hu.parts
  have y := hq.parts
  refine branch_intro (fun h1 => ⟨n.q, ⟨n.q.op, u.table, u.where_, u.columns, u.on, u.group, u.order, u.limit, n.q.args⟩, _, .mk op ta' w' co' on' gr' od' li' args, rfl, hq2, QParts.rep ⟨y.op_, x.table_, x.where_, x.columns_, x.on_, x.group_, x.order_, x.limit_, y.args_⟩, fun r hr => hK r (hr.trans ⟨fun e => ⟨?_, e⟩, fun e => e.2⟩)⟩) (fun h1 => hK false ⟨fun e => (by cases e), fun e => ?_⟩)
  · have : (n.args.len : Int) = k := by simpa using h1
    omega
  · have : (n.args.len : Int) ≠ k := by simpa using h1
    have := e.1
    omega
theorem f128_ok {n : NV} {m : MH} {h : PH} {K : CV → MH → PH → Prop} (hK : K (aQ ⟨0, 0, ⟨0, 0, zeroO, zeroO, ⟨none, 0, 0⟩⟩, ⟨none, 0, 0⟩, ⟨none, 0, 0⟩, n.q.group, n.q.order, n.q.limit, ⟨none, 0, 0⟩⟩) m h) : f128_nice n m h K := hK
theorem f126_sound : Sound Tryz.prog 126 PlainNS := by
  refine fn_sound (fn := Tryz.f126) (c := bodyOf Tryz.f126) Tryz.func126 rfl (by decide) ?_
  rintro cvs m h K ⟨n, k, u, s, ps, q, ks, uq, rfl, hn, hu, hK⟩
  refine ⟨ctx2 [(134, EqQA)] [] [] [] false, rfl, specs_cons f134_sound specs_nil, ?_⟩
  rw [← f126_vc n k u m h K]
  exact f126_ok hn hu hK
theorem f128_sound : Sound Tryz.prog 128 RankingS := by
  refine fn_sound (fn := Tryz.f128) (c := bodyOf Tryz.f128) Tryz.func128 rfl (by decide) ?_
  rintro cvs m h K ⟨n, s, ps, q, ks, rfl, hn, hK⟩
  refine ⟨ctx2 [] [] [] [] false, rfl, specs_nil, ?_⟩
  rw [← f128_vc n m h K]
  exact f128_ok hK
theorem f129_ok {n : NV} {s : Sch} {ps : List Int} {op ta : Int} {w : Pred} {co : List Int} {on : List (Int × Int)} {gr : List Int} {od : List (Int × Bool)} {li : Int} {args : List Query} {ks : List (List Int)} {a : List Int} {m : MH} {h : PH} {K : CV → MH → PH → Prop} (hn : RepN h s ps (.mk op ta w co on gr od li args) ks n) (ha : ks[0]? = some a) (hK : ∀ r : Bool, (r = true ↔ RankOk a gr od li) → K (cB r) m h) : f129_nice n m h (Weak h K) := by
  have x := hn.q_.parts
  have gl := x.group_.slen
  have glen := x.group_.len
  have ol := x.order_.slen
  have olen := x.order_.len
  have el := x.limit_
  obtain ⟨b0, o0, sl, e0, r0, hi0, hl12, hlen⟩ := hn.arg ha
  have sla := hi0.slen
  have bad : ∀ mx, Sub m mx → ¬ RankOk a gr od li → Weak h K (.val (.bool false)) mx h := fun mx hm hn => .sub hm (hK false ⟨fun e => (by cases e), fun e => (hn e).elim⟩)
  refine ⟨b0, o0, e0, by omega, by omega, sl, .imm (by simpa using r0), fun b m1 hb hm1 => ?_⟩
  refine ⟨fun ⟨i, wd, b', mx⟩ => wd = a.length ∧ b' = b ∧ i ≤ gr.length ∧ Sub m mx ∧ Arr mx b (gr.take i) ∧ GoodUpto (GroupT a) gr i, fun ⟨i, _, _, _⟩ => gr.length - i, ⟨(0, sl.len, b, m1), ⟨sla, rfl, by omega, (Sub.refl m).upd hb.m_ hm1.other, .zero hm1.at_, .zero⟩, MT⟩, ?_⟩
  rintro ⟨i, wd, b, mx⟩ ⟨rfl, rfl, hi, hsub, harr, hg⟩
  dsimp only
  refine branch_dec (fun hlt => ?_) (fun hge => ?_)
  · obtain ⟨c, hc⟩ := getx gl hlt
    obtain ⟨b1, o1, e1, r1⟩ := x.group_.at' hc
    have gbad : ¬ GroupT a (gr.take i) c → Weak h K (.val (.bool false)) mx h := fun hn => bad mx hsub fun hh => Good.not hc hn hh.group_
    refine ⟨b1, o1, e1, by omega, hlt, c, .imm r1, branch_dec (fun h1 => gbad fun hh => ?_) (fun h1 => branch_dec (fun h2 => gbad fun hh => ?_) (fun h2 => ?_))⟩
    · have := inL_iff.1 hh.1; omega
    · have := inL_iff.1 hh.1; omega
    obtain ⟨y, hy, hys⟩ := harr.look (h := h) (n := c) (by omega) (by omega)
    refine ⟨by omega, by omega, y, hy, branch_intro (fun h3 => gbad fun hh => hh.2 (hys.1 h3)) (fun h3 => ?_)⟩
    obtain ⟨cs, E, hat, hsz, hst⟩ := harr.store (n := c) (by omega) (by omega)
    refine ⟨by omega, by omega, cs, E, hat, hsz, fun m2 hm2 => ⟨(i + 1, a.length, b, m2), ⟨rfl, rfl, by omega, hsub.upd hb.m_ hm2.other, ?_, hg.succ hc ⟨inL_iff.2 ⟨by omega, by omega⟩, fun e => ?_⟩⟩, by show gr.length - (i + 1) < gr.length - i; omega, MT⟩⟩
    · have := hst m2 hm2
      rwa [List.take_add_one, hc]
    · rw [hys.2 e] at h3; cases h3
  have gg := hg.all (by omega)
  refine ⟨fun ⟨i, wd, mx⟩ => wd = a.length ∧ i ≤ od.length ∧ Sub m mx ∧ GoodUpto (OrderT a) od i, fun ⟨i, _, _⟩ => od.length - i, ⟨(0, a.length, mx), ⟨rfl, by omega, hsub, .zero⟩, MT⟩, ?_⟩
  clear hi hg hge hsub harr mx
  rintro ⟨i, wd, mx⟩ ⟨rfl, hi, hsub, hoi⟩
  dsimp only
  refine branch_dec (fun hlt => ?_) (fun hge => ?_)
  · obtain ⟨c, hc⟩ := getx ol hlt
    obtain ⟨b1, o1, e1, r1⟩ := x.order_.at hc
    have obad : ¬ OrderT a (od.take i) c → Weak h K (.val (.bool false)) mx h := fun hn => bad mx hsub fun hh => Good.not hc hn hh.order_
    refine ⟨b1, o1, e1, by omega, hlt, c, .imm r1, branch_dec (fun h1 => obad fun hh => ?_) (fun h1 => branch_dec (fun h2 => obad fun hh => ?_) (fun h2 => ⟨(i + 1, a.length, mx), ⟨rfl, by omega, hsub, hoi.succ hc (inL_iff.2 ⟨by omega, by omega⟩)⟩, by show od.length - (i + 1) < od.length - i; omega, MT⟩))⟩
    · have := inL_iff.1 (show inL a c.1 = true from hh); omega
    · have := inL_iff.1 (show inL a c.1 = true from hh); omega
  have oo := hoi.all (by omega)
  rw [el]
  refine branch_dec (fun h1 => branch_dec (fun h2 => ?_) (fun h2 => bad mx hsub fun hh => ?_)) (fun h1 => bad mx hsub fun hh => ?_)
  · exact .sub hsub (hK (decide (li ≤ 100)) ⟨fun e => ⟨gg, oo, by omega, h2, by simpa using e⟩, fun e => decide_eq_true e.high⟩)
  · have := hh.low; omega
  · have := hh.len_; omega
theorem f129_sound : Sound Tryz.prog 129 RankedNS := by
  refine fn_sound' (fn := Tryz.f129) (c := bodyOf Tryz.f129) Tryz.func129 rfl (by decide) ?_
  rintro cvs m h K ⟨n, s, ps, q, ks, a, rfl, hn, ha, hK⟩
  refine ⟨f129_ctx n h, rfl, specs_nil, ?_⟩
  rw [← f129_vc n m h _]
  obtain ⟨op, ta, w, co, on, gr, od, li, args⟩ := q
  refine f129_ok hn ha (fun r hr => hK r (hr.trans ⟨fun e => ⟨_, _, _, _, _, _, _, _, _, rfl, e⟩, ?_⟩))
  rintro ⟨_, _, _, _, _, _, _, _, _, e, hr⟩
  cases e
  exact hr
theorem zeroQV_rep {h : PH} {on : List (Int × Int)} {sl : Sl} (hon : Pairs h sl on) : RepQ h (.mk 0 0 zeroP [] on [] [] 0 []) ⟨0, 0, ⟨0, 0, zeroO, zeroO, ⟨none, 0, 0⟩⟩, ⟨none, 0, 0⟩, sl, ⟨none, 0, 0⟩, ⟨none, 0, 0⟩, 0, ⟨none, 0, 0⟩⟩ :=
  QParts.rep ⟨rfl, rfl, repZero h, ⟨.nil _ _, by simp⟩, hon, ⟨.nil _ _, by simp⟩, ⟨.nil _ _, by simp⟩, rfl, .nil _ _ _ _⟩
theorem f127_ok {n : NV} {s : Sch} {ps : List Int} {op ta : Int} {w : Pred} {co : List Int} {on : List (Int × Int)} {gr : List Int} {od : List (Int × Bool)} {li : Int} {args : List Query} {ks : List (List Int)} {m : MH} {h : PH} {K : CV → MH → PH → Prop} (hn : RepN h s ps (.mk op ta w co on gr od li args) ks n) (hK : ∀ r : Bool, (r = true ↔ pairedQ ks (.mk op ta w co on gr od li args)) → K (cB r) m h) : f127_nice n m h (Weak h K) := by
  have x := hn.q_.parts
  have ol := x.on_.slen
  have olen := x.on_.len
  have bad : ∀ mx, Sub m mx → ¬ pairedQ ks (.mk op ta w co on gr od li args) → Weak h K (.val (.bool false)) mx h := fun mx hm hn => .sub hm (hK false ⟨fun e => (by cases e), fun e => (hn e).elim⟩)
  refine ⟨n, 2, ⟨0, 0, ⟨0, 0, zeroO, zeroO, ⟨none, 0, 0⟩⟩, ⟨none, 0, 0⟩, n.q.on, ⟨none, 0, 0⟩, ⟨none, 0, 0⟩, 0, ⟨none, 0, 0⟩⟩, s, ps, _, ks, .mk 0 0 zeroP [] on [] [] 0 [], rfl, hn, zeroQV_rep x.on_, fun r hr => branch_intro (fun h1 => bad m (Sub.refl m) fun hh => ?_) (fun h1 => ?_)⟩
  · have : r = true := hr.2 ⟨by have := hh.1; omega, by obtain ⟨_, rfl, rfl, rfl, rfl, rfl, rfl, _⟩ := hh; rfl⟩
    rw [this] at h1; cases h1
  obtain ⟨hk2, heq⟩ := hr.1 (by simpa using h1)
  simp only [Query.withOf, Query.mk.injEq] at heq
  obtain ⟨_, rfl, rfl, rfl, _, rfl, rfl, rfl, _⟩ := heq
  obtain ⟨a0, a1, rfl⟩ : ∃ a0 a1, ks = [a0, a1] := by
    match ks, hk2 with
    | [a0, a1], _ => exact ⟨a0, a1, rfl⟩
    | [], h => simp at h
    | [_], h => simp at h
    | _ :: _ :: _ :: _, h => simp at h; omega
  obtain ⟨b0, o0, s0, e0, r0, i0, l0, j0⟩ := hn.arg (j := 0) rfl
  obtain ⟨b1, o1, s1, e1, r1, i1, l1, j1⟩ := hn.arg (j := 1) rfl
  have sl0 := i0.slen
  have sl1 := i1.slen
  have bad : ∀ mx, Sub m mx → ¬ Good (PairT a0 a1) on → Weak h K (.val (.bool false)) mx h := fun mx hm hn => bad mx hm fun hh => hn hh.2.2.2.2.2.2.2
  refine ⟨b0, o0, e0, by omega, by omega, s0, .imm (by simpa using r0), b1, o1, e1, by omega, by omega, s1, .imm (by simpa using r1), fun b m1 hb hm1 c m2 hc hm2 => ?_⟩
  have hne : b ≠ c := fun e => by have := hc.m_; rw [← e, hm1.at_] at this; cases this
  have hs1 : Sub m m1 := (Sub.refl m).upd hb.m_ hm1.other
  have hcm : m c = none := hs1.free hc.m_
  refine ⟨fun ⟨i, s', t', b', c', mx⟩ => s' = s0 ∧ t' = s1 ∧ b' = b ∧ c' = c ∧ i ≤ on.length ∧ Sub m mx ∧ Arr mx b ((on.take i).map Prod.fst) ∧ Arr mx c ((on.take i).map Prod.snd) ∧ GoodUpto (PairT a0 a1) on i, fun ⟨i, _, _, _, _, _⟩ => on.length - i,
    ⟨(0, s0, s1, b, c, m2), ⟨rfl, rfl, rfl, rfl, by omega, hs1.upd hcm hm2.other, (Arr.zero hm1.at_).other hne hm2.other, .zero hm2.at_, .zero⟩, MT⟩, ?_⟩
  rintro ⟨i, s0, s1, b, c, mx⟩ ⟨rfl, rfl, rfl, rfl, hi, hsub, hA, hB, hg⟩
  dsimp only
  refine branch_dec (fun hlt => ?_) (fun hge => .sub hsub (hK true ⟨fun _ => ⟨rfl, rfl, rfl, rfl, rfl, rfl, rfl, hg.all (by omega)⟩, fun _ => rfl⟩))
  obtain ⟨p, hp⟩ := getx ol hlt
  obtain ⟨bp, op', ep, rp⟩ := x.on_.at hp
  have pbad : ¬ PairT a0 a1 (on.take i) p → Weak h K (.val (.bool false)) mx h := fun hn => bad mx hsub (Good.not hp hn)
  refine ⟨bp, op', ep, by omega, hlt, p, .imm rp, by omega, by omega, by omega, by omega, branch_dec (fun d1 => pbad fun hh => ?_) (fun d1 => branch_dec (fun d2 => pbad fun hh => ?_) (fun d2 => branch_dec (fun d3 => pbad fun hh => ?_) (fun d3 => branch_dec (fun d4 => pbad fun hh => ?_) (fun d4 => ?_))))⟩
  · have := inL_iff.1 hh.1; omega
  · have := inL_iff.1 hh.1; omega
  · have := inL_iff.1 hh.2.1; omega
  · have := inL_iff.1 hh.2.1; omega
  obtain ⟨b2, o2, e2, r2⟩ := i0.inb (n := p.1) (by omega) (by omega)
  obtain ⟨b3, o3, e3, r3⟩ := i1.inb (n := p.2) (by omega) (by omega)
  obtain ⟨y, hy, hys⟩ := hA.look (h := h) (n := p.1) (by omega) (by omega)
  obtain ⟨z, hz, hzs⟩ := hB.look (h := h) (n := p.2) (by omega) (by omega)
  obtain ⟨cs, E, hat, hsz, hst⟩ := hA.store (n := p.1) (by omega) (by omega)
  refine ⟨b2, o2, e2, by omega, by omega, _, .imm r2, b3, o3, e3, by omega, by omega, _, .imm r3, branch_intro (fun d5 => pbad fun hh => ?_) (fun d5 => ⟨by omega, by omega, y, hy, branch_intro (fun d6 => pbad fun hh => ?_) (fun d6 => ⟨by omega, by omega, z, hz, branch_intro (fun d7 => pbad fun hh => ?_) (fun d7 => ⟨by omega, by omega, cs, E, hat, hsz, fun m3 hm3 => ?_⟩)⟩)⟩)⟩
  · rw [hh.2.2.1] at d5; simp at d5
  · obtain ⟨q, hq, e⟩ := List.mem_map.1 (hys.1 d6)
    exact (hh.2.2.2 q hq).1 e
  · obtain ⟨q, hq, e⟩ := List.mem_map.1 (hzs.1 d7)
    exact (hh.2.2.2 q hq).2 e
  have hA3 := hst m3 hm3
  have hB3 := hB.other hne.symm hm3.other
  obtain ⟨cs2, E2, hat2, hsz2, hst2⟩ := hB3.store (n := p.2) (by omega) (by omega)
  refine ⟨by omega, by omega, cs2, E2, hat2, hsz2, fun m4 hm4 => ⟨(i + 1, s0, s1, b, c, m4), ⟨rfl, rfl, rfl, rfl, by omega, (hsub.upd hb.m_ hm3.other).upd hcm hm4.other, ?_, ?_, hg.succ hp ⟨inL_iff.2 ⟨by omega, by omega⟩, inL_iff.2 ⟨by omega, by omega⟩, by simpa using d5, fun q hq => ⟨fun e => ?_, fun e => ?_⟩⟩⟩, by show on.length - (i + 1) < on.length - i; omega, MT⟩⟩
  · rw [map_take_succ hp]; exact hA3.other hne hm4.other
  · rw [map_take_succ hp]; exact hst2 m4 hm4
  · rw [hys.2 (List.mem_map.2 ⟨q, hq, e⟩)] at d6; cases d6
  · rw [hzs.2 (List.mem_map.2 ⟨q, hq, e⟩)] at d7; cases d7
theorem f127_sound : Sound Tryz.prog 127 PairedNS := by
  refine fn_sound' (fn := Tryz.f127) (c := bodyOf Tryz.f127) Tryz.func127 rfl (by decide) ?_
  rintro cvs m h K ⟨n, s, ps, q, ks, rfl, hn, hK⟩
  refine ⟨f127_ctx n h, rfl, specs_cons f126_sound specs_nil, ?_⟩
  rw [← f127_vc n m h _]
  obtain ⟨op, ta, w, co, on, gr, od, li, args⟩ := q
  exact f127_ok hn hK
end Go.Ps
namespace Go.Ps
open Go Go.Vc Go.Proofs
def fin (r : List Int × Int) : List Int × Int := if r.2 = 0 then limK r.1 else errK r.2
def Query.op : Query → Int
  | .mk op .. => op
noncomputable def fullR (s : Sch) (ps : List Int) (q : Query) (ks : List (List Int)) : List Int × Int := if (ks.length : Int) = arity q.op then nodeR s ps q (ks.getD 0 []) (ks.getD 1 []) else errK 100
def TestS (P : Int → Prop) : Vc.Spec := fun cvs m h K => ∃ n s ps q ks, cvs = [aN n] ∧ RepN h s ps q ks n ∧ small8 s ∧ P q.op ∧ ∀ r, fin r = fullR s ps q ks → KR K m h r
def RepI (h : PH) (ss : Sl) (ks : List (List Int)) : Prop := RepL h 1 eS (fun k sl => Ints h sl k) ss ks
def ConcatS : Vc.Spec := fun cvs m h K => ∃ ss ks, cvs = [cS ss] ∧ RepI h ss ks ∧ ks.length ≤ 10 ∧ (∀ k ∈ ks, k.length ≤ 12) ∧ ∀ sl h', PH.le h h' → Ints h' sl ks.flatten → K (cS sl) m h'
noncomputable def f114_ctx (n : NV) (m : MH) (h : PH) : Ctx :=
  ctx2 [(126, PlainNS)] [(5, { A := Nat × List Int, st := fun ⟨i, l⟩ => mkSt 57 58 [(1, .at (.ptr 1 0)), (4, .at (.lst 25)), (28, sv n.q.columns), (29, iv n.q.columns.len), (30, iv i)] [(1, .cells 155 (n.enc.map .val)), (25, .lst 3 1 (l.map eI))] m h })] [] [] false
def f112_nice (n : NV) (m : MH) (h : PH) (K : CV → MH → PH → Prop) : Prop :=
    ∃ (n_1 : NV), ∃ (k : Int), ∃ (u : QV), ∃ (s : Sch), ∃ (ps : List Int), ∃ (q : Query), ∃ (ks : List (List Int)), ∃ (uq : Query), [cQa [vQi n.s.version, vQs n.s.tables, vQs n.params, 
    vQi n.q.op, vQi n.q.table, vQi n.q.where_.op, vQi n.q.where_.cmp, vQi n.q.where_.left.kind, vQi n.q.where_.left.index, vQi n.q.where_.left.value.kind, vQi 
    n.q.where_.left.value.int, Value.string n.q.where_.left.value.text, vQi n.q.where_.right.kind, vQi n.q.where_.right.index, vQi n.q.where_.right.value.kind, vQi 
    n.q.where_.right.value.int, Value.string n.q.where_.right.value.text, vQs n.q.where_.args, vQs n.q.columns, vQs n.q.on, vQs n.q.group, vQs n.q.order, vQi n.q.limit, vQs n.q.args, 
    vQs n.args], cQi 0, cQa [vQi 0, vQi n.q.table, vQi 0, vQi 0, vQi 0, vQi 0, vQi 0, vQi 0, vQz, vQi 0, vQi 0, vQi 0, vQi 0, vQz, vQn, vQn, vQn, vQn, vQn, vQi 0, vQn]] = [cQa [vQi 
    n_1.s.version, vQs n_1.s.tables, vQs n_1.params, vQi n_1.q.op, vQi n_1.q.table, vQi n_1.q.where_.op, vQi n_1.q.where_.cmp, vQi n_1.q.where_.left.kind, vQi n_1.q.where_.left.index, 
    vQi n_1.q.where_.left.value.kind, vQi n_1.q.where_.left.value.int, Value.string n_1.q.where_.left.value.text, vQi n_1.q.where_.right.kind, vQi n_1.q.where_.right.index, vQi 
    n_1.q.where_.right.value.kind, vQi n_1.q.where_.right.value.int, Value.string n_1.q.where_.right.value.text, vQs n_1.q.where_.args, vQs n_1.q.columns, vQs n_1.q.on, vQs 
    n_1.q.group, vQs n_1.q.order, vQi n_1.q.limit, vQs n_1.q.args, vQs n_1.args], cQi k, cQa (QV.enc u)] /\ RepN h s ps q ks n_1 /\ RepQ h uq u /\ ∀ (r : Bool), (r = true ↔ (↑ks.length 
    : Int) = k /\ q = uq.withOf q) -> branch (!r) (K (CV.tup [cQn, cQi 100]) m h) (branch (decide (n.q.table < 0)) (K (CV.tup [cQn, cQi 100]) m h) (branch (decide (n.q.table ≥ 
    (↑n.s.tables.len : Int))) (K (CV.tup [cQn, cQi 100]) m h) (∃ (v : SchV), ∃ (s : Sch), ∃ (t : Int), [cQa [vQi n.s.version, vQs n.s.tables], cQi n.q.table] = [cQa [vQi v.version, vQs 
    v.tables], cQi t] /\ RepS h s v /\ small8 s /\ ∀ (sl : Sl) (h' : PH), h.le h' -> Ints h' sl (kindsT s t) -> K (CV.tup [cQs sl, cQi 0]) m h')))
theorem f112_vc (n : NV) (m : MH) (h : PH) (K : CV → MH → PH → Prop) : f112_nice n m h K = (fnVC (ctx2 [(126, PlainNS), (62, KindsOfS)] [] [] [] false) Tryz.f112 (bodyOf Tryz.f112) (entry Tryz.f112.ntmps [aN n] m h) K) := by kernel_rfl
def f113_nice (n : NV) (m : MH) (h : PH) (K : CV → MH → PH → Prop) : Prop :=
    ∃ (n_1 : NV), ∃ (k : Int), ∃ (u : QV), ∃ (s : Sch), ∃ (ps : List Int), ∃ (q : Query), ∃ (ks : List (List Int)), ∃ (uq : Query), [cQa [vQi n.s.version, vQs n.s.tables, vQs n.params, 
    vQi n.q.op, vQi n.q.table, vQi n.q.where_.op, vQi n.q.where_.cmp, vQi n.q.where_.left.kind, vQi n.q.where_.left.index, vQi n.q.where_.left.value.kind, vQi 
    n.q.where_.left.value.int, Value.string n.q.where_.left.value.text, vQi n.q.where_.right.kind, vQi n.q.where_.right.index, vQi n.q.where_.right.value.kind, vQi 
    n.q.where_.right.value.int, Value.string n.q.where_.right.value.text, vQs n.q.where_.args, vQs n.q.columns, vQs n.q.on, vQs n.q.group, vQs n.q.order, vQi n.q.limit, vQs n.q.args, 
    vQs n.args], cQi 1, cQa [vQi 0, vQi 0, vQi n.q.where_.op, vQi n.q.where_.cmp, vQi n.q.where_.left.kind, vQi n.q.where_.left.index, vQi n.q.where_.left.value.kind, vQi 
    n.q.where_.left.value.int, Value.string n.q.where_.left.value.text, vQi n.q.where_.right.kind, vQi n.q.where_.right.index, vQi n.q.where_.right.value.kind, vQi 
    n.q.where_.right.value.int, Value.string n.q.where_.right.value.text, vQs n.q.where_.args, vQn, vQn, vQn, vQn, vQi 0, vQn]] = [cQa [vQi n_1.s.version, vQs n_1.s.tables, vQs 
    n_1.params, vQi n_1.q.op, vQi n_1.q.table, vQi n_1.q.where_.op, vQi n_1.q.where_.cmp, vQi n_1.q.where_.left.kind, vQi n_1.q.where_.left.index, vQi n_1.q.where_.left.value.kind, vQi 
    n_1.q.where_.left.value.int, Value.string n_1.q.where_.left.value.text, vQi n_1.q.where_.right.kind, vQi n_1.q.where_.right.index, vQi n_1.q.where_.right.value.kind, vQi 
    n_1.q.where_.right.value.int, Value.string n_1.q.where_.right.value.text, vQs n_1.q.where_.args, vQs n_1.q.columns, vQs n_1.q.on, vQs n_1.q.group, vQs n_1.q.order, vQi n_1.q.limit, 
    vQs n_1.q.args, vQs n_1.args], cQi k, cQa (QV.enc u)] /\ RepN h s ps q ks n_1 /\ RepQ h uq u /\ ∀ (r : Bool), (r = true ↔ (↑ks.length : Int) = k /\ q = uq.withOf q) -> branch (!r) 
    (K (CV.tup [cQn, cQi 100]) m h) (∃ (b : Nat), ∃ (off : Nat), n.args.a = some (Addr.mk b off none) /\ (0 : Int) <= 0 /\ 0 < (↑n.args.len : Int) /\ ∃ (y : Sl), RdAt m h b (off + 0) 
    [vQs y] /\ ∃ (s : Sl), ∃ (t : Sl), ∃ (v : PV), ∃ (cols : List Int), ∃ (params : List Int), ∃ (p : Pred), [cQs y, cQs n.params, cQa (PV.enc n.q.where_)] = [cQs s, cQs t, cQa (PV.enc 
    v)] /\ Ints h s cols /\ Ints h t params /\ RepP h p v /\ branch (predErr cols params p != 0) (K (CV.tup [cQn, cQi (predErr cols params p)]) m h) (∃ (b : Nat), ∃ (off : Nat), 
    n.args.a = some (Addr.mk b off none) /\ (0 : Int) <= 0 /\ 0 < (↑n.args.len : Int) /\ ∃ (y : Sl), RdAt m h b (off + 0) [vQs y] /\ K (CV.tup [cQs y, cQi 0]) m h))
theorem f113_vc (n : NV) (m : MH) (h : PH) (K : CV → MH → PH → Prop) : f113_nice n m h K = (fnVC (ctx2 [(126, PlainNS), (63, PredCheckS)] [] [] [] false) Tryz.f113 (bodyOf Tryz.f113) (entry Tryz.f113.ntmps [aN n] m h) K) := by kernel_rfl
def f114_nice (n : NV) (m : MH) (h : PH) (K : CV → MH → PH → Prop) : Prop :=
    ∃ (n_1 : NV), ∃ (k : Int), ∃ (u : QV), ∃ (s : Sch), ∃ (ps : List Int), ∃ (q : Query), ∃ (ks : List (List Int)), ∃ (uq : Query), [cQa [vQi n.s.version, vQs n.s.tables, vQs n.params, 
    vQi n.q.op, vQi n.q.table, vQi n.q.where_.op, vQi n.q.where_.cmp, vQi n.q.where_.left.kind, vQi n.q.where_.left.index, vQi n.q.where_.left.value.kind, vQi 
    n.q.where_.left.value.int, Value.string n.q.where_.left.value.text, vQi n.q.where_.right.kind, vQi n.q.where_.right.index, vQi n.q.where_.right.value.kind, vQi 
    n.q.where_.right.value.int, Value.string n.q.where_.right.value.text, vQs n.q.where_.args, vQs n.q.columns, vQs n.q.on, vQs n.q.group, vQs n.q.order, vQi n.q.limit, vQs n.q.args, 
    vQs n.args], cQi 1, cQa [vQi 0, vQi 0, vQi 0, vQi 0, vQi 0, vQi 0, vQi 0, vQi 0, vQz, vQi 0, vQi 0, vQi 0, vQi 0, vQz, vQn, vQs n.q.columns, vQn, vQn, vQn, vQi 0, vQn]] = [cQa [vQi 
    n_1.s.version, vQs n_1.s.tables, vQs n_1.params, vQi n_1.q.op, vQi n_1.q.table, vQi n_1.q.where_.op, vQi n_1.q.where_.cmp, vQi n_1.q.where_.left.kind, vQi n_1.q.where_.left.index, 
    vQi n_1.q.where_.left.value.kind, vQi n_1.q.where_.left.value.int, Value.string n_1.q.where_.left.value.text, vQi n_1.q.where_.right.kind, vQi n_1.q.where_.right.index, vQi 
    n_1.q.where_.right.value.kind, vQi n_1.q.where_.right.value.int, Value.string n_1.q.where_.right.value.text, vQs n_1.q.where_.args, vQs n_1.q.columns, vQs n_1.q.on, vQs 
    n_1.q.group, vQs n_1.q.order, vQi n_1.q.limit, vQs n_1.q.args, vQs n_1.args], cQi k, cQa (QV.enc u)] /\ RepN h s ps q ks n_1 /\ RepQ h uq u /\ ∀ (r : Bool), (r = true ↔ (↑ks.length 
    : Int) = k /\ q = uq.withOf q) -> branch (!r) (K (CV.tup [cQn, cQi 100]) m h) (branch ((↑n.q.columns.len : Int) == 0) (K (CV.tup [cQn, cQi 100]) m h) ((0 : Int) <= 0 /\ 0 <= 
    (↑n.q.columns.len : Int) /\ (↑n.q.columns.len : Int) * 8 <= 281474976710656 /\ (↑n.q.columns.len : Int) <= 281474976710656 /\ ∃ (I : Nat × List Int -> Prop), ∃ (mu : Nat × List Int 
    -> Nat), (∃ (x : Nat × List Int), I x /\ eQ (sQp 1 0) /\ eQ (sQl 25) /\ eQ (sQs n.q.columns) /\ eQ (sQi (↑n.q.columns.len : Int)) /\ sQi 0 = sQi (↑x.1 : Int) /\ eQ (oQ 155 [aQi 
    n.s.version, aQs n.s.tables, aQs n.params, aQi n.q.op, aQi n.q.table, aQi n.q.where_.op, aQi n.q.where_.cmp, aQi n.q.where_.left.kind, aQi n.q.where_.left.index, aQi 
    n.q.where_.left.value.kind, aQi n.q.where_.left.value.int, At.val (Value.string n.q.where_.left.value.text), aQi n.q.where_.right.kind, aQi n.q.where_.right.index, aQi 
    n.q.where_.right.value.kind, aQi n.q.where_.right.value.int, At.val (Value.string n.q.where_.right.value.text), aQs n.q.where_.args, aQs n.q.columns, aQs n.q.on, aQs n.q.group, aQs 
    n.q.order, aQi n.q.limit, aQs n.q.args, aQs n.args]) /\ some (Own.lst 3 1 []) = some (Own.lst 3 1 (List.map eI x.2)) /\ m = m /\ h = h /\ True) /\ ∀ (x : Nat × List Int), I x -> 
    branch (decide ((↑x.1 : Int) < (↑n.q.columns.len : Int))) (∃ (b : Nat), ∃ (off : Nat), n.q.columns.a = some (Addr.mk b off none) /\ 0 <= (↑x.1 : Int) /\ (↑x.1 : Int) < 
    (↑n.q.columns.len : Int) /\ ∃ (y : Int), RdAt m h b (off + (↑x.1 : Int).toNat * 1) [vQi y] /\ branch (decide (y < 0)) (K (CV.tup [cQn, cQi 100]) m h) (∃ (b : Nat), ∃ (off : Nat), 
    n.args.a = some (Addr.mk b off none) /\ (0 : Int) <= 0 /\ 0 < (↑n.args.len : Int) /\ ∃ (y_1 : Sl), RdAt m h b (off + 0) [vQs y_1] /\ branch (decide (y ≥ (↑y_1.len : Int))) (K 
    (CV.tup [cQn, cQi 100]) m h) (∃ (b : Nat), ∃ (off : Nat), n.args.a = some (Addr.mk b off none) /\ (0 : Int) <= 0 /\ 0 < (↑n.args.len : Int) /\ ∃ (y_2 : Sl), RdAt m h b (off + 0) 
    [vQs y_2] /\ ∃ (b : Nat), ∃ (off : Nat), y_2.a = some (Addr.mk b off none) /\ 0 <= y /\ y < (↑y_2.len : Int) /\ ∃ (y_3 : Int), RdAt m h b (off + y.toNat * 1) [vQi y_3] /\ 
    ((List.map eI x.2).length + 1) * 8 <= 140737488355328 /\ (List.map eI x.2).length < 140737488355328 /\ ∃ (y : Nat × List Int), I y /\ mu y < mu x /\ eQ (sQp 1 0) /\ eQ (sQl 25) /\ 
    eQ (sQs n.q.columns) /\ eQ (sQi (↑n.q.columns.len : Int)) /\ sQi (IntKind.i64.wrap ((↑x.1 : Int) + 1)) = sQi (↑y.1 : Int) /\ eQ (oQ 155 [aQi n.s.version, aQs n.s.tables, aQs 
    n.params, aQi n.q.op, aQi n.q.table, aQi n.q.where_.op, aQi n.q.where_.cmp, aQi n.q.where_.left.kind, aQi n.q.where_.left.index, aQi n.q.where_.left.value.kind, aQi 
    n.q.where_.left.value.int, At.val (Value.string n.q.where_.left.value.text), aQi n.q.where_.right.kind, aQi n.q.where_.right.index, aQi n.q.where_.right.value.kind, aQi 
    n.q.where_.right.value.int, At.val (Value.string n.q.where_.right.value.text), aQs n.q.where_.args, aQs n.q.columns, aQs n.q.on, aQs n.q.group, aQs n.q.order, aQi n.q.limit, aQs 
    n.q.args, aQs n.args]) /\ some (Own.lst 3 1 (List.map eI x.2 ++ [[vQi y_3]])) = some (Own.lst 3 1 (List.map eI y.2)) /\ m = m /\ h = h /\ True))) (∀ (s : Sl) (h' : PH), h.le h' -> 
    RowIn h' s 1 (List.map eI x.2) -> K (CV.tup [cQs s, cQi 0]) m h')))
theorem f114_vc (n : NV) (m : MH) (h : PH) (K : CV → MH → PH → Prop) : f114_nice n m h K = (fnVC (f114_ctx n m h) Tryz.f114 (bodyOf Tryz.f114) (entry Tryz.f114.ntmps [aN n] m h) K) := by kernel_rfl
def f115_nice (n : NV) (m : MH) (h : PH) (K : CV → MH → PH → Prop) : Prop :=
    ∃ (n_1 : NV), ∃ (s : Sch), ∃ (ps : List Int), ∃ (q : Query), ∃ (ks : List (List Int)), [cQa [vQi n.s.version, vQs n.s.tables, vQs n.params, vQi n.q.op, vQi n.q.table, vQi 
    n.q.where_.op, vQi n.q.where_.cmp, vQi n.q.where_.left.kind, vQi n.q.where_.left.index, vQi n.q.where_.left.value.kind, vQi n.q.where_.left.value.int, Value.string 
    n.q.where_.left.value.text, vQi n.q.where_.right.kind, vQi n.q.where_.right.index, vQi n.q.where_.right.value.kind, vQi n.q.where_.right.value.int, Value.string 
    n.q.where_.right.value.text, vQs n.q.where_.args, vQs n.q.columns, vQs n.q.on, vQs n.q.group, vQs n.q.order, vQi n.q.limit, vQs n.q.args, vQs n.args]] = [cQa [vQi n_1.s.version, 
    vQs n_1.s.tables, vQs n_1.params, vQi n_1.q.op, vQi n_1.q.table, vQi n_1.q.where_.op, vQi n_1.q.where_.cmp, vQi n_1.q.where_.left.kind, vQi n_1.q.where_.left.index, vQi 
    n_1.q.where_.left.value.kind, vQi n_1.q.where_.left.value.int, Value.string n_1.q.where_.left.value.text, vQi n_1.q.where_.right.kind, vQi n_1.q.where_.right.index, vQi 
    n_1.q.where_.right.value.kind, vQi n_1.q.where_.right.value.int, Value.string n_1.q.where_.right.value.text, vQs n_1.q.where_.args, vQs n_1.q.columns, vQs n_1.q.on, vQs 
    n_1.q.group, vQs n_1.q.order, vQi n_1.q.limit, vQs n_1.q.args, vQs n_1.args]] /\ RepN h s ps q ks n_1 /\ ∀ (r : Bool), (r = true ↔ pairedQ ks q) -> branch (!r) (K (CV.tup [cQn, cQi 
    100]) m h) (∃ (b : Nat), ∃ (off : Nat), n.args.a = some (Addr.mk b off none) /\ (0 : Int) <= 0 /\ 0 < (↑n.args.len : Int) /\ ∃ (y : Sl), RdAt m h b (off + 0) [vQs y] /\ ∃ (b_1 : 
    Nat), ∃ (off_1 : Nat), n.args.a = some (Addr.mk b_1 off_1 none) /\ (0 : Int) <= 1 /\ 1 < (↑n.args.len : Int) /\ ∃ (y_1 : Sl), RdAt m h b_1 (off_1 + 1) [vQs y_1] /\ RdCells h b (off 
    + 0) [vQs y] /\ RdCells h b_1 (off_1 + 1) [vQs y_1] /\ ∀ (s : Sl) (h' : PH), h.le h' -> RowIn h' s 1 [[vQs y], [vQs y_1]] -> ∃ (ss : Sl), ∃ (ks : List (List Int)), [cQs s] = [cQs 
    ss] /\ RepI h' ss ks /\ ks.length <= 10 /\ (∀ (k : List Int), List.Mem k ks -> k.length <= 12) /\ ∀ (sl : Sl) (h'_1 : PH), h'.le h'_1 -> Ints h'_1 sl ks.flatten -> K (CV.tup [cQs 
    sl, cQi 0]) m h'_1)
theorem f115_vc (n : NV) (m : MH) (h : PH) (K : CV → MH → PH → Prop) : f115_nice n m h K = (fnVC (ctx2 [(127, PairedNS), (101, ConcatS)] [] [] [] false) Tryz.f115 (bodyOf Tryz.f115) (entry Tryz.f115.ntmps [aN n] m h) K) := by kernel_rfl
def f116_nice (n : NV) (m : MH) (h : PH) (K : CV → MH → PH → Prop) : Prop :=
    ∃ (n_1 : NV), ∃ (s : Sch), ∃ (ps : List Int), ∃ (q : Query), ∃ (ks : List (List Int)), [cQa [vQi n.s.version, vQs n.s.tables, vQs n.params, vQi n.q.op, vQi n.q.table, vQi 
    n.q.where_.op, vQi n.q.where_.cmp, vQi n.q.where_.left.kind, vQi n.q.where_.left.index, vQi n.q.where_.left.value.kind, vQi n.q.where_.left.value.int, Value.string 
    n.q.where_.left.value.text, vQi n.q.where_.right.kind, vQi n.q.where_.right.index, vQi n.q.where_.right.value.kind, vQi n.q.where_.right.value.int, Value.string 
    n.q.where_.right.value.text, vQs n.q.where_.args, vQs n.q.columns, vQs n.q.on, vQs n.q.group, vQs n.q.order, vQi n.q.limit, vQs n.q.args, vQs n.args]] = [cQa [vQi n_1.s.version, 
    vQs n_1.s.tables, vQs n_1.params, vQi n_1.q.op, vQi n_1.q.table, vQi n_1.q.where_.op, vQi n_1.q.where_.cmp, vQi n_1.q.where_.left.kind, vQi n_1.q.where_.left.index, vQi 
    n_1.q.where_.left.value.kind, vQi n_1.q.where_.left.value.int, Value.string n_1.q.where_.left.value.text, vQi n_1.q.where_.right.kind, vQi n_1.q.where_.right.index, vQi 
    n_1.q.where_.right.value.kind, vQi n_1.q.where_.right.value.int, Value.string n_1.q.where_.right.value.text, vQs n_1.q.where_.args, vQs n_1.q.columns, vQs n_1.q.on, vQs 
    n_1.q.group, vQs n_1.q.order, vQi n_1.q.limit, vQs n_1.q.args, vQs n_1.args]] /\ RepN h s ps q ks n_1 /\ ∀ (r : Bool), (r = true ↔ pairedQ ks q) -> branch (!r) (K (CV.tup [cQn, cQi 
    100]) m h) (∃ (b : Nat), ∃ (off : Nat), n.args.a = some (Addr.mk b off none) /\ (0 : Int) <= 0 /\ 0 < (↑n.args.len : Int) /\ ∃ (y : Sl), RdAt m h b (off + 0) [vQs y] /\ K (CV.tup 
    [cQs y, cQi 0]) m h)
theorem f116_vc (n : NV) (m : MH) (h : PH) (K : CV → MH → PH → Prop) : f116_nice n m h K = (fnVC (ctx2 [(127, PairedNS)] [] [] [] false) Tryz.f116 (bodyOf Tryz.f116) (entry Tryz.f116.ntmps [aN n] m h) K) := by kernel_rfl
def f117_nice (n : NV) (m : MH) (h : PH) (K : CV → MH → PH → Prop) : Prop :=
    ∃ (n_1 : NV), ∃ (k : Int), ∃ (u : QV), ∃ (s : Sch), ∃ (ps : List Int), ∃ (q : Query), ∃ (ks : List (List Int)), ∃ (uq : Query), [cQa [vQi n.s.version, vQs n.s.tables, vQs n.params, 
    vQi n.q.op, vQi n.q.table, vQi n.q.where_.op, vQi n.q.where_.cmp, vQi n.q.where_.left.kind, vQi n.q.where_.left.index, vQi n.q.where_.left.value.kind, vQi 
    n.q.where_.left.value.int, Value.string n.q.where_.left.value.text, vQi n.q.where_.right.kind, vQi n.q.where_.right.index, vQi n.q.where_.right.value.kind, vQi 
    n.q.where_.right.value.int, Value.string n.q.where_.right.value.text, vQs n.q.where_.args, vQs n.q.columns, vQs n.q.on, vQs n.q.group, vQs n.q.order, vQi n.q.limit, vQs n.q.args, 
    vQs n.args], cQi 2, cQa [vQi 0, vQi 0, vQi 0, vQi 0, vQi 0, vQi 0, vQi 0, vQi 0, vQz, vQi 0, vQi 0, vQi 0, vQi 0, vQz, vQn, vQn, vQn, vQn, vQn, vQi 0, vQn]] = [cQa [vQi 
    n_1.s.version, vQs n_1.s.tables, vQs n_1.params, vQi n_1.q.op, vQi n_1.q.table, vQi n_1.q.where_.op, vQi n_1.q.where_.cmp, vQi n_1.q.where_.left.kind, vQi n_1.q.where_.left.index, 
    vQi n_1.q.where_.left.value.kind, vQi n_1.q.where_.left.value.int, Value.string n_1.q.where_.left.value.text, vQi n_1.q.where_.right.kind, vQi n_1.q.where_.right.index, vQi 
    n_1.q.where_.right.value.kind, vQi n_1.q.where_.right.value.int, Value.string n_1.q.where_.right.value.text, vQs n_1.q.where_.args, vQs n_1.q.columns, vQs n_1.q.on, vQs 
    n_1.q.group, vQs n_1.q.order, vQi n_1.q.limit, vQs n_1.q.args, vQs n_1.args], cQi k, cQa (QV.enc u)] /\ RepN h s ps q ks n_1 /\ RepQ h uq u /\ ∀ (r : Bool), (r = true ↔ (↑ks.length 
    : Int) = k /\ q = uq.withOf q) -> branch (!r) (K (CV.tup [cQn, cQi 100]) m h) (∃ (b : Nat), ∃ (off : Nat), n.args.a = some (Addr.mk b off none) /\ (0 : Int) <= 0 /\ 0 < 
    (↑n.args.len : Int) /\ ∃ (y : Sl), RdAt m h b (off + 0) [vQs y] /\ ∃ (b : Nat), ∃ (off : Nat), n.args.a = some (Addr.mk b off none) /\ (0 : Int) <= 1 /\ 1 < (↑n.args.len : Int) /\ 
    ∃ (y_1 : Sl), RdAt m h b (off + 1) [vQs y_1] /\ ∃ (s : Sl), ∃ (t : Sl), ∃ (a : List Int), ∃ (b : List Int), [cQs y, cQs y_1] = [cQs s, cQs t] /\ Ints h s a /\ Ints h t b /\ ∀ (r : 
    Bool), (r = true ↔ a = b) -> branch (!r) (K (CV.tup [cQn, cQi 100]) m h) (∃ (b : Nat), ∃ (off : Nat), n.args.a = some (Addr.mk b off none) /\ (0 : Int) <= 0 /\ 0 < (↑n.args.len : 
    Int) /\ ∃ (y : Sl), RdAt m h b (off + 0) [vQs y] /\ K (CV.tup [cQs y, cQi 0]) m h))
theorem f117_vc (n : NV) (m : MH) (h : PH) (K : CV → MH → PH → Prop) : f117_nice n m h K = (fnVC (ctx2 [(126, PlainNS), (99, SameInts)] [] [] [] false) Tryz.f117 (bodyOf Tryz.f117) (entry Tryz.f117.ntmps [aN n] m h) K) := by kernel_rfl
def f118_nice (n : NV) (m : MH) (h : PH) (K : CV → MH → PH → Prop) : Prop :=
    ∃ (n_1 : NV), ∃ (s : Sch), ∃ (ps : List Int), ∃ (q : Query), ∃ (ks : List (List Int)), [cQa [vQi n.s.version, vQs n.s.tables, vQs n.params, vQi n.q.op, vQi n.q.table, vQi 
    n.q.where_.op, vQi n.q.where_.cmp, vQi n.q.where_.left.kind, vQi n.q.where_.left.index, vQi n.q.where_.left.value.kind, vQi n.q.where_.left.value.int, Value.string 
    n.q.where_.left.value.text, vQi n.q.where_.right.kind, vQi n.q.where_.right.index, vQi n.q.where_.right.value.kind, vQi n.q.where_.right.value.int, Value.string 
    n.q.where_.right.value.text, vQs n.q.where_.args, vQs n.q.columns, vQs n.q.on, vQs n.q.group, vQs n.q.order, vQi n.q.limit, vQs n.q.args, vQs n.args]] = [cQa [vQi n_1.s.version, 
    vQs n_1.s.tables, vQs n_1.params, vQi n_1.q.op, vQi n_1.q.table, vQi n_1.q.where_.op, vQi n_1.q.where_.cmp, vQi n_1.q.where_.left.kind, vQi n_1.q.where_.left.index, vQi 
    n_1.q.where_.left.value.kind, vQi n_1.q.where_.left.value.int, Value.string n_1.q.where_.left.value.text, vQi n_1.q.where_.right.kind, vQi n_1.q.where_.right.index, vQi 
    n_1.q.where_.right.value.kind, vQi n_1.q.where_.right.value.int, Value.string n_1.q.where_.right.value.text, vQs n_1.q.where_.args, vQs n_1.q.columns, vQs n_1.q.on, vQs 
    n_1.q.group, vQs n_1.q.order, vQi n_1.q.limit, vQs n_1.q.args, vQs n_1.args]] /\ RepN h s ps q ks n_1 /\ ∃ (n_2 : NV), ∃ (k : Int), ∃ (u : QV), ∃ (s : Sch), ∃ (ps : List Int), ∃ (q 
    : Query), ∃ (ks : List (List Int)), ∃ (uq : Query), [cQa [vQi n.s.version, vQs n.s.tables, vQs n.params, vQi n.q.op, vQi n.q.table, vQi n.q.where_.op, vQi n.q.where_.cmp, vQi 
    n.q.where_.left.kind, vQi n.q.where_.left.index, vQi n.q.where_.left.value.kind, vQi n.q.where_.left.value.int, Value.string n.q.where_.left.value.text, vQi n.q.where_.right.kind, 
    vQi n.q.where_.right.index, vQi n.q.where_.right.value.kind, vQi n.q.where_.right.value.int, Value.string n.q.where_.right.value.text, vQs n.q.where_.args, vQs n.q.columns, vQs 
    n.q.on, vQs n.q.group, vQs n.q.order, vQi n.q.limit, vQs n.q.args, vQs n.args], cQi 1, cQa [vQi 0, vQi 0, vQi 0, vQi 0, vQi 0, vQi 0, vQi 0, vQi 0, vQz, vQi 0, vQi 0, vQi 0, vQi 0, 
    vQz, vQn, vQn, vQn, vQs n_1.q.group, vQs n_1.q.order, vQi n_1.q.limit, vQn]] = [cQa [vQi n_2.s.version, vQs n_2.s.tables, vQs n_2.params, vQi n_2.q.op, vQi n_2.q.table, vQi 
    n_2.q.where_.op, vQi n_2.q.where_.cmp, vQi n_2.q.where_.left.kind, vQi n_2.q.where_.left.index, vQi n_2.q.where_.left.value.kind, vQi n_2.q.where_.left.value.int, Value.string 
    n_2.q.where_.left.value.text, vQi n_2.q.where_.right.kind, vQi n_2.q.where_.right.index, vQi n_2.q.where_.right.value.kind, vQi n_2.q.where_.right.value.int, Value.string 
    n_2.q.where_.right.value.text, vQs n_2.q.where_.args, vQs n_2.q.columns, vQs n_2.q.on, vQs n_2.q.group, vQs n_2.q.order, vQi n_2.q.limit, vQs n_2.q.args, vQs n_2.args], cQi k, cQa 
    (QV.enc u)] /\ RepN h s ps q ks n_2 /\ RepQ h uq u /\ ∀ (r : Bool), (r = true ↔ (↑ks.length : Int) = k /\ q = uq.withOf q) -> branch (!r) (K (CV.tup [cQn, cQi 100]) m h) (∃ (n_3 : 
    NV), ∃ (s : Sch), ∃ (ps : List Int), ∃ (q : Query), ∃ (ks : List (List Int)), ∃ (a : List Int), [cQa [vQi n.s.version, vQs n.s.tables, vQs n.params, vQi n.q.op, vQi n.q.table, vQi 
    n.q.where_.op, vQi n.q.where_.cmp, vQi n.q.where_.left.kind, vQi n.q.where_.left.index, vQi n.q.where_.left.value.kind, vQi n.q.where_.left.value.int, Value.string 
    n.q.where_.left.value.text, vQi n.q.where_.right.kind, vQi n.q.where_.right.index, vQi n.q.where_.right.value.kind, vQi n.q.where_.right.value.int, Value.string 
    n.q.where_.right.value.text, vQs n.q.where_.args, vQs n.q.columns, vQs n.q.on, vQs n.q.group, vQs n.q.order, vQi n.q.limit, vQs n.q.args, vQs n.args]] = [cQa [vQi n_3.s.version, 
    vQs n_3.s.tables, vQs n_3.params, vQi n_3.q.op, vQi n_3.q.table, vQi n_3.q.where_.op, vQi n_3.q.where_.cmp, vQi n_3.q.where_.left.kind, vQi n_3.q.where_.left.index, vQi 
    n_3.q.where_.left.value.kind, vQi n_3.q.where_.left.value.int, Value.string n_3.q.where_.left.value.text, vQi n_3.q.where_.right.kind, vQi n_3.q.where_.right.index, vQi 
    n_3.q.where_.right.value.kind, vQi n_3.q.where_.right.value.int, Value.string n_3.q.where_.right.value.text, vQs n_3.q.where_.args, vQs n_3.q.columns, vQs n_3.q.on, vQs 
    n_3.q.group, vQs n_3.q.order, vQi n_3.q.limit, vQs n_3.q.args, vQs n_3.args]] /\ RepN h s ps q ks n_3 /\ ks[0]? = some a /\ ∀ (r : Bool), (r = true ↔ ∃ (op : Int), ∃ (ta : Int), ∃ 
    (w : Pred), ∃ (co : List Int), ∃ (on : List (Int × Int)), ∃ (gr : List Int), ∃ (od : List (Int × Bool)), ∃ (li : Int), ∃ (args : List Query), q = Query.mk op ta w co on gr od li 
    args /\ RankOk a gr od li) -> branch (!r) (K (CV.tup [cQn, cQi 100]) m h) (∃ (b : Nat), ∃ (off : Nat), n.args.a = some (Addr.mk b off none) /\ (0 : Int) <= 0 /\ 0 < (↑n.args.len : 
    Int) /\ ∃ (y : Sl), RdAt m h b (off + 0) [vQs y] /\ K (CV.tup [cQs y, cQi 0]) m h))
theorem f118_vc (n : NV) (m : MH) (h : PH) (K : CV → MH → PH → Prop) : f118_nice n m h K = (fnVC (ctx2 [(126, PlainNS), (128, RankingS), (129, RankedNS)] [] [] [] false) Tryz.f118 (bodyOf Tryz.f118) (entry Tryz.f118.ntmps [aN n] m h) K) := by kernel_rfl
def f119_nice (n : NV) (m : MH) (h : PH) (K : CV → MH → PH → Prop) : Prop :=
    ∃ (n_1 : NV), ∃ (s : Sch), ∃ (ps : List Int), ∃ (q : Query), ∃ (ks : List (List Int)), [cQa [vQi n.s.version, vQs n.s.tables, vQs n.params, vQi n.q.op, vQi n.q.table, vQi 
    n.q.where_.op, vQi n.q.where_.cmp, vQi n.q.where_.left.kind, vQi n.q.where_.left.index, vQi n.q.where_.left.value.kind, vQi n.q.where_.left.value.int, Value.string 
    n.q.where_.left.value.text, vQi n.q.where_.right.kind, vQi n.q.where_.right.index, vQi n.q.where_.right.value.kind, vQi n.q.where_.right.value.int, Value.string 
    n.q.where_.right.value.text, vQs n.q.where_.args, vQs n.q.columns, vQs n.q.on, vQs n.q.group, vQs n.q.order, vQi n.q.limit, vQs n.q.args, vQs n.args]] = [cQa [vQi n_1.s.version, 
    vQs n_1.s.tables, vQs n_1.params, vQi n_1.q.op, vQi n_1.q.table, vQi n_1.q.where_.op, vQi n_1.q.where_.cmp, vQi n_1.q.where_.left.kind, vQi n_1.q.where_.left.index, vQi 
    n_1.q.where_.left.value.kind, vQi n_1.q.where_.left.value.int, Value.string n_1.q.where_.left.value.text, vQi n_1.q.where_.right.kind, vQi n_1.q.where_.right.index, vQi 
    n_1.q.where_.right.value.kind, vQi n_1.q.where_.right.value.int, Value.string n_1.q.where_.right.value.text, vQs n_1.q.where_.args, vQs n_1.q.columns, vQs n_1.q.on, vQs 
    n_1.q.group, vQs n_1.q.order, vQi n_1.q.limit, vQs n_1.q.args, vQs n_1.args]] /\ RepN h s ps q ks n_1 /\ ∃ (n_2 : NV), ∃ (k : Int), ∃ (u : QV), ∃ (s : Sch), ∃ (ps : List Int), ∃ (q 
    : Query), ∃ (ks : List (List Int)), ∃ (uq : Query), [cQa [vQi n.s.version, vQs n.s.tables, vQs n.params, vQi n.q.op, vQi n.q.table, vQi n.q.where_.op, vQi n.q.where_.cmp, vQi 
    n.q.where_.left.kind, vQi n.q.where_.left.index, vQi n.q.where_.left.value.kind, vQi n.q.where_.left.value.int, Value.string n.q.where_.left.value.text, vQi n.q.where_.right.kind, 
    vQi n.q.where_.right.index, vQi n.q.where_.right.value.kind, vQi n.q.where_.right.value.int, Value.string n.q.where_.right.value.text, vQs n.q.where_.args, vQs n.q.columns, vQs 
    n.q.on, vQs n.q.group, vQs n.q.order, vQi n.q.limit, vQs n.q.args, vQs n.args], cQi 2, cQa [vQi 0, vQi 0, vQi 0, vQi 0, vQi 0, vQi 0, vQi 0, vQi 0, vQz, vQi 0, vQi 0, vQi 0, vQi 0, 
    vQz, vQn, vQn, vQn, vQs n_1.q.group, vQs n_1.q.order, vQi n_1.q.limit, vQn]] = [cQa [vQi n_2.s.version, vQs n_2.s.tables, vQs n_2.params, vQi n_2.q.op, vQi n_2.q.table, vQi 
    n_2.q.where_.op, vQi n_2.q.where_.cmp, vQi n_2.q.where_.left.kind, vQi n_2.q.where_.left.index, vQi n_2.q.where_.left.value.kind, vQi n_2.q.where_.left.value.int, Value.string 
    n_2.q.where_.left.value.text, vQi n_2.q.where_.right.kind, vQi n_2.q.where_.right.index, vQi n_2.q.where_.right.value.kind, vQi n_2.q.where_.right.value.int, Value.string 
    n_2.q.where_.right.value.text, vQs n_2.q.where_.args, vQs n_2.q.columns, vQs n_2.q.on, vQs n_2.q.group, vQs n_2.q.order, vQi n_2.q.limit, vQs n_2.q.args, vQs n_2.args], cQi k, cQa 
    (QV.enc u)] /\ RepN h s ps q ks n_2 /\ RepQ h uq u /\ ∀ (r : Bool), (r = true ↔ (↑ks.length : Int) = k /\ q = uq.withOf q) -> branch (!r) (K (CV.tup [cQn, cQi 100]) m h) (∃ (b : 
    Nat), ∃ (off : Nat), n.args.a = some (Addr.mk b off none) /\ (0 : Int) <= 0 /\ 0 < (↑n.args.len : Int) /\ ∃ (y : Sl), RdAt m h b (off + 0) [vQs y] /\ ∃ (b_1 : Nat), ∃ (off_1 : 
    Nat), n.args.a = some (Addr.mk b_1 off_1 none) /\ (0 : Int) <= 1 /\ 1 < (↑n.args.len : Int) /\ ∃ (y_1 : Sl), RdAt m h b_1 (off_1 + 1) [vQs y_1] /\ ∃ (s : Sl), ∃ (t : Sl), ∃ (a : 
    List Int), ∃ (b_2 : List Int), [cQs y, cQs y_1] = [cQs s, cQs t] /\ Ints h s a /\ Ints h t b_2 /\ ∀ (r : Bool), (r = true ↔ a = b_2) -> branch (!r) (RdCells h b (off + 0) [vQs y] 
    /\ RdCells h b_1 (off_1 + 1) [vQs y_1] /\ K (CV.tup [cQn, cQi 100]) m h) (RdCells h b (off + 0) [vQs y] /\ RdCells h b_1 (off_1 + 1) [vQs y_1] /\ ∃ (n_3 : NV), ∃ (s : Sch), ∃ (ps : 
    List Int), ∃ (q : Query), ∃ (ks : List (List Int)), ∃ (a : List Int), [cQa [vQi n.s.version, vQs n.s.tables, vQs n.params, vQi n.q.op, vQi n.q.table, vQi n.q.where_.op, vQi 
    n.q.where_.cmp, vQi n.q.where_.left.kind, vQi n.q.where_.left.index, vQi n.q.where_.left.value.kind, vQi n.q.where_.left.value.int, Value.string n.q.where_.left.value.text, vQi 
    n.q.where_.right.kind, vQi n.q.where_.right.index, vQi n.q.where_.right.value.kind, vQi n.q.where_.right.value.int, Value.string n.q.where_.right.value.text, vQs n.q.where_.args, 
    vQs n.q.columns, vQs n.q.on, vQs n.q.group, vQs n.q.order, vQi n.q.limit, vQs n.q.args, vQs n.args]] = [cQa [vQi n_3.s.version, vQs n_3.s.tables, vQs n_3.params, vQi n_3.q.op, vQi 
    n_3.q.table, vQi n_3.q.where_.op, vQi n_3.q.where_.cmp, vQi n_3.q.where_.left.kind, vQi n_3.q.where_.left.index, vQi n_3.q.where_.left.value.kind, vQi n_3.q.where_.left.value.int, 
    Value.string n_3.q.where_.left.value.text, vQi n_3.q.where_.right.kind, vQi n_3.q.where_.right.index, vQi n_3.q.where_.right.value.kind, vQi n_3.q.where_.right.value.int, 
    Value.string n_3.q.where_.right.value.text, vQs n_3.q.where_.args, vQs n_3.q.columns, vQs n_3.q.on, vQs n_3.q.group, vQs n_3.q.order, vQi n_3.q.limit, vQs n_3.q.args, vQs 
    n_3.args]] /\ RepN h s ps q ks n_3 /\ ks[0]? = some a /\ ∀ (r : Bool), (r = true ↔ ∃ (op : Int), ∃ (ta : Int), ∃ (w : Pred), ∃ (co : List Int), ∃ (on : List (Int × Int)), ∃ (gr : 
    List Int), ∃ (od : List (Int × Bool)), ∃ (li : Int), ∃ (args : List Query), q = Query.mk op ta w co on gr od li args /\ RankOk a gr od li) -> branch (!r) (K (CV.tup [cQn, cQi 100]) 
    m h) (∃ (b : Nat), ∃ (off : Nat), n.args.a = some (Addr.mk b off none) /\ (0 : Int) <= 0 /\ 0 < (↑n.args.len : Int) /\ ∃ (y : Sl), RdAt m h b (off + 0) [vQs y] /\ K (CV.tup [cQs y, 
    cQi 0]) m h)))
theorem f119_vc (n : NV) (m : MH) (h : PH) (K : CV → MH → PH → Prop) : f119_nice n m h K = (fnVC (ctx2 [(126, PlainNS), (99, SameInts), (128, RankingS), (129, RankedNS)] [] [] [] false) Tryz.f119 (bodyOf Tryz.f119) (entry Tryz.f119.ntmps [aN n] m h) K) := by kernel_rfl
theorem fin_err {e : Int} (h : e ≠ 0) : fin (errK e) = errK e := by unfold fin; rw [if_neg (by simpa [errK] using h)]; rfl
theorem fin_lim (l : List Int) : fin (l, 0) = limK l := by unfold fin; rw [if_pos rfl]
/-- What is left to say of the result of a test. -/
structure Tst (K : CV → MH → PH → Prop) (m : MH) (h : PH) (full : List Int × Int) : Prop where
  all : ∀ r, fin r = full → KR K m h r
theorem Tst.err {K : CV → MH → PH → Prop} {m : MH} {h h' : PH} {f : List Int × Int} {e : Int} (x : Tst K m h f) (he : f = errK e) (h0 : e ≠ 0) (hle : PH.le h h') : K (.tup [.val (.slice none 0 0), .val (.int .i64 e)]) m h' :=
  (x.all (errK e) (by rw [he, fin_err h0])).err hle rfl
theorem Tst.ok {K : CV → MH → PH → Prop} {m : MH} {h h' : PH} {f : List Int × Int} {l : List Int} {sl : Sl} (x : Tst K m h f) (he : f = limK l) (hle : PH.le h h') (hi : Ints h' sl l) : K (.tup [.val (.slice sl.a sl.len sl.cap), .val (.int .i64 0)]) m h' :=
  x.all (l, 0) (by rw [he, fin_lim]) sl h' hle hi
theorem full_bad {s : Sch} {ps : List Int} {q : Query} {ks : List (List Int)} (h : ¬ ((ks.length : Int) = arity q.op ∧ UnusedOk q)) : fullR s ps q ks = errK 100 := by
  unfold fullR
  by_cases h1 : (ks.length : Int) = arity q.op
  · rw [if_pos h1]
    unfold nodeR
    rw [if_pos (.inr fun e => h ⟨h1, e⟩)]
  · rw [if_neg h1]
theorem full_good {s : Sch} {ps : List Int} {op ta : Int} {w : Pred} {co : List Int} {on : List (Int × Int)} {gr : List Int} {od : List (Int × Bool)} {li : Int} {args : List Query} {ks : List (List Int)} (h1 : (ks.length : Int) = arity op) (h2 : UnusedOk (.mk op ta w co on gr od li args)) (h0 : 0 ≤ arity op) :
    fullR s ps (.mk op ta w co on gr od li args) ks = nodeR s ps (.mk op ta w co on gr od li args) (ks.getD 0 []) (ks.getD 1 []) ∧ ¬ (arity op < 0 ∨ ¬ UnusedOk (.mk op ta w co on gr od li args)) := by
  unfold fullR
  rw [if_pos (show (ks.length : Int) = arity (Query.op (.mk op ta w co on gr od li args)) from h1)]
  exact ⟨rfl, fun e => e.elim (fun e => by omega) fun e => e h2⟩
section
variable {n : NV} {s : Sch} {ps : List Int} {ta : Int} {w : Pred} {co : List Int} {on : List (Int × Int)} {gr : List Int} {od : List (Int × Bool)} {li : Int} {args : List Query} {ks : List (List Int)} {m : MH} {h : PH} {K : CV → MH → PH → Prop}
theorem one_of (hk : (ks.length : Int) = 1) : ∃ a, ks = [a] := by
  match ks, hk with
  | [a], _ => exact ⟨a, rfl⟩
  | [], h => simp at h
  | _ :: _ :: _, h => simp at h; omega
theorem two_of (hk : (ks.length : Int) = 2) : ∃ a b, ks = [a, b] := by
  match ks, hk with
  | [a, b], _ => exact ⟨a, b, rfl⟩
  | [], h => simp at h
  | [_], h => simp at h
  | _ :: _ :: _ :: _, h => simp at h; omega
theorem f112_ok (hn : RepN h s ps (.mk 1 ta w co on gr od li args) ks n) (h8 : small8 s) (hT : Tst K m h (fullR s ps (.mk 1 ta w co on gr od li args) ks)) : f112_nice n m h K := by
  have x := hn.q_.parts
  have et := x.table_
  have sl := hn.s_.tables.slen
  refine ⟨n, 0, ⟨0, n.q.table, ⟨0, 0, zeroO, zeroO, ⟨none, 0, 0⟩⟩, ⟨none, 0, 0⟩, ⟨none, 0, 0⟩, ⟨none, 0, 0⟩, ⟨none, 0, 0⟩, 0, ⟨none, 0, 0⟩⟩, s, ps, _, ks, .mk 0 ta zeroP [] [] [] [] 0 [], rfl, hn, QParts.rep ⟨rfl, et, repZero h, ⟨.nil _ _, by simp⟩, ⟨.nil _ _, by simp⟩, ⟨.nil _ _, by simp⟩, ⟨.nil _ _, by simp⟩, rfl, .nil _ _ _ _⟩, fun r hr => branch_intro (fun h1 => hT.err (full_bad fun e => ?_) (by omega) (.refl _)) (fun h1 => ?_)⟩
  · have : r = true := hr.2 ⟨e.1, by have := e.2; simp [UnusedOk] at this; obtain ⟨rfl, rfl, rfl, rfl, rfl, rfl⟩ := this; rfl⟩
    rw [this] at h1; cases h1
  obtain ⟨hk, heq⟩ := hr.1 (by simpa using h1)
  simp only [Query.withOf, Query.mk.injEq] at heq
  obtain ⟨_, _, rfl, rfl, rfl, rfl, rfl, rfl, _⟩ := heq
  obtain ⟨hf, hg⟩ := full_good (s := s) (ps := ps) (op := 1) (ta := ta) (w := zeroP) (co := []) (on := []) (gr := []) (od := []) (li := 0) (args := args) (ks := ks) hk (by simp [UnusedOk]) (by decide)
  rw [hf] at hT
  unfold nodeR at hT
  rw [if_neg hg] at hT
  dsimp only at hT
  rw [if_pos rfl] at hT
  refine branch_dec (fun d1 => hT.err (if_neg (by omega)) (by omega) (.refl _)) (fun d1 => branch_dec (fun d2 => hT.err (if_neg (by omega)) (by omega) (.refl _)) (fun d2 => ⟨n.s, s, n.q.table, rfl, hn.s_, h8, fun sl h' hle hi => ?_⟩))
  rw [et] at hi
  exact hT.ok (if_pos (by omega)) hle hi
theorem f113_ok (hn : RepN h s ps (.mk 2 ta w co on gr od li args) ks n) (hT : Tst K m h (fullR s ps (.mk 2 ta w co on gr od li args) ks)) : f113_nice n m h K := by
  have x := hn.q_.parts
  refine ⟨n, 1, ⟨0, 0, n.q.where_, ⟨none, 0, 0⟩, ⟨none, 0, 0⟩, ⟨none, 0, 0⟩, ⟨none, 0, 0⟩, 0, ⟨none, 0, 0⟩⟩, s, ps, _, ks, .mk 0 0 w [] [] [] [] 0 [], rfl, hn, QParts.rep ⟨rfl, rfl, x.where_, ⟨.nil _ _, by simp⟩, ⟨.nil _ _, by simp⟩, ⟨.nil _ _, by simp⟩, ⟨.nil _ _, by simp⟩, rfl, .nil _ _ _ _⟩, fun r hr => branch_intro (fun h1 => hT.err (full_bad fun e => ?_) (by omega) (.refl _)) (fun h1 => ?_)⟩
  · have : r = true := hr.2 ⟨e.1, by have := e.2; simp [UnusedOk] at this; obtain ⟨rfl, rfl, rfl, rfl, rfl, rfl⟩ := this; rfl⟩
    rw [this] at h1; cases h1
  obtain ⟨hk, heq⟩ := hr.1 (by simpa using h1)
  simp only [Query.withOf, Query.mk.injEq] at heq
  obtain ⟨_, rfl, _, rfl, rfl, rfl, rfl, rfl, _⟩ := heq
  obtain ⟨hf, hg⟩ := full_good (s := s) (ps := ps) (op := 2) (ta := 0) (w := w) (co := []) (on := []) (gr := []) (od := []) (li := 0) (args := args) (ks := ks) hk (by simp [UnusedOk]) (by decide)
  rw [hf] at hT
  unfold nodeR at hT
  rw [if_neg hg] at hT
  dsimp only at hT
  rw [if_neg (by decide), if_pos rfl] at hT
  obtain ⟨a, rfl⟩ := one_of hk
  obtain ⟨b0, o0, s0, e0, r0, i0, l0, j0⟩ := hn.arg (j := 0) rfl
  simp only [List.getD_cons_zero] at hT
  refine ⟨b0, o0, e0, by omega, by omega, s0, .imm (by simpa using r0), s0, n.params, n.q.where_, a, ps, w, rfl, i0, hn.ps_, x.where_, branch_intro (fun d1 => hT.err (if_neg (by simpa using d1)) (by simpa using d1) (.refl _)) (fun d1 => ⟨b0, o0, e0, by omega, by omega, s0, .imm (by simpa using r0), hT.ok (if_pos (by simpa using d1)) (.refl _) i0⟩)⟩
theorem f116_ok (hn : RepN h s ps (.mk 5 ta w co on gr od li args) ks n) (hT : Tst K m h (fullR s ps (.mk 5 ta w co on gr od li args) ks)) : f116_nice n m h K := by
  refine ⟨n, s, ps, _, ks, rfl, hn, fun r hr => branch_intro (fun h1 => hT.err ?_ (by omega) (.refl _)) (fun h1 => ?_)⟩
  · by_cases hb : ((ks.length : Int) = arity 5 ∧ UnusedOk (.mk 5 ta w co on gr od li args))
    · obtain ⟨hf, hg⟩ := full_good (s := s) (ps := ps) hb.1 hb.2 (by decide)
      rw [hf]
      unfold nodeR
      rw [if_neg hg]
      dsimp only
      rw [if_neg (by decide), if_neg (by decide), if_neg (by decide), if_neg (by decide), if_pos rfl, if_neg]
      intro hgood
      have h2 := hb.2
      simp [UnusedOk] at h2
      have : r = true := hr.2 ⟨by have := hb.1; simp [arity] at this; omega, h2.1, h2.2.1, h2.2.2.1, h2.2.2.2.1, h2.2.2.2.2.1, h2.2.2.2.2.2, hgood⟩
      rw [this] at h1; cases h1
    · exact full_bad hb
  obtain ⟨hk, rfl, rfl, rfl, rfl, rfl, rfl, hgood⟩ := hr.1 (by simpa using h1)
  obtain ⟨hf, hg⟩ := full_good (s := s) (ps := ps) (op := 5) (ta := 0) (w := zeroP) (co := []) (on := on) (gr := []) (od := []) (li := 0) (args := args) (ks := ks) (by rw [hk]; rfl) (by simp [UnusedOk]) (by decide)
  rw [hf] at hT
  unfold nodeR at hT
  rw [if_neg hg] at hT
  dsimp only at hT
  rw [if_neg (by decide), if_neg (by decide), if_neg (by decide), if_neg (by decide), if_pos rfl, if_pos hgood] at hT
  obtain ⟨a, b, rfl⟩ := two_of (ks := ks) (by omega)
  obtain ⟨b0, o0, s0, e0, r0, i0, l0, j0⟩ := hn.arg (j := 0) rfl
  exact ⟨b0, o0, e0, by omega, by omega, s0, .imm (by simpa using r0), hT.ok rfl (.refl _) i0⟩
theorem f115_ok (hn : RepN h s ps (.mk 4 ta w co on gr od li args) ks n) (hT : Tst K m h (fullR s ps (.mk 4 ta w co on gr od li args) ks)) : f115_nice n m h K := by
  refine ⟨n, s, ps, _, ks, rfl, hn, fun r hr => branch_intro (fun h1 => hT.err ?_ (by omega) (.refl _)) (fun h1 => ?_)⟩
  · by_cases hb : ((ks.length : Int) = arity 4 ∧ UnusedOk (.mk 4 ta w co on gr od li args))
    · obtain ⟨hf, hg⟩ := full_good (s := s) (ps := ps) hb.1 hb.2 (by decide)
      rw [hf]
      unfold nodeR
      rw [if_neg hg]
      dsimp only
      rw [if_neg (by decide), if_neg (by decide), if_neg (by decide), if_pos rfl, if_neg]
      intro hgood
      have h2 := hb.2
      simp [UnusedOk] at h2
      have : r = true := hr.2 ⟨by have := hb.1; simp [arity] at this; omega, h2.1, h2.2.1, h2.2.2.1, h2.2.2.2.1, h2.2.2.2.2.1, h2.2.2.2.2.2, hgood⟩
      rw [this] at h1; cases h1
    · exact full_bad hb
  obtain ⟨hk, rfl, rfl, rfl, rfl, rfl, rfl, hgood⟩ := hr.1 (by simpa using h1)
  obtain ⟨hf, hg⟩ := full_good (s := s) (ps := ps) (op := 4) (ta := 0) (w := zeroP) (co := []) (on := on) (gr := []) (od := []) (li := 0) (args := args) (ks := ks) (by rw [hk]; rfl) (by simp [UnusedOk]) (by decide)
  rw [hf] at hT
  unfold nodeR at hT
  rw [if_neg hg] at hT
  dsimp only at hT
  rw [if_neg (by decide), if_neg (by decide), if_neg (by decide), if_pos rfl, if_pos hgood] at hT
  obtain ⟨a, b, rfl⟩ := two_of (ks := ks) (by omega)
  obtain ⟨b0, o0, s0, e0, r0, i0, l0, j0⟩ := hn.arg (j := 0) rfl
  obtain ⟨b1, o1, s1, e1, r1, i1, l1, j1⟩ := hn.arg (j := 1) rfl
  refine ⟨b0, o0, e0, by omega, by omega, s0, .imm (by simpa using r0), b1, o1, e1, by omega, by omega, s1, .imm (by simpa using r1), by simpa using r0, by simpa using r1, fun sl h' hle hrow => ⟨sl, [a, b], rfl, ⟨⟨[s0, s1], hrow, rfl, fun j k hk => ?_⟩, by simp⟩, by simp, fun k hk => hn.len k hk, fun sl2 h2 hle2 hi2 => hT.ok (l := a ++ b) (by simp) (hle.trans hle2) (by simpa using hi2)⟩⟩
  match j, hk with
  | 0, hk => simp at hk; subst hk; exact ⟨s0, rfl, i0.mono hle⟩
  | 1, hk => simp at hk; subst hk; exact ⟨s1, rfl, i1.mono hle⟩
  | _ + 2, hk => simp at hk
theorem f117_ok {op : Int} (hop : op = 6 ∨ op = 7 ∨ op = 8) (hn : RepN h s ps (.mk op ta w co on gr od li args) ks n) (hT : Tst K m h (fullR s ps (.mk op ta w co on gr od li args) ks)) : f117_nice n m h K := by
  have x := hn.q_.parts
  have ha : arity op = 2 := by rcases hop with rfl | rfl | rfl <;> rfl
  have hne : op ≠ 1 ∧ op ≠ 2 ∧ op ≠ 3 ∧ op ≠ 4 ∧ op ≠ 5 ∧ op ≠ 9 ∧ op ≠ 10 := by omega
  refine ⟨n, 2, ⟨0, 0, ⟨0, 0, zeroO, zeroO, ⟨none, 0, 0⟩⟩, ⟨none, 0, 0⟩, ⟨none, 0, 0⟩, ⟨none, 0, 0⟩, ⟨none, 0, 0⟩, 0, ⟨none, 0, 0⟩⟩, s, ps, _, ks, .mk 0 0 zeroP [] [] [] [] 0 [], rfl, hn, QParts.rep ⟨rfl, rfl, repZero h, ⟨.nil _ _, by simp⟩, ⟨.nil _ _, by simp⟩, ⟨.nil _ _, by simp⟩, ⟨.nil _ _, by simp⟩, rfl, .nil _ _ _ _⟩, fun r hr => branch_intro (fun h1 => hT.err (full_bad fun e => ?_) (by omega) (.refl _)) (fun h1 => ?_)⟩
  · have e1 : (ks.length : Int) = arity op := e.1
    have : r = true := hr.2 ⟨by omega, by have := e.2; simp [UnusedOk, hne] at this; obtain ⟨rfl, rfl, rfl, rfl, rfl, rfl, rfl⟩ := this; rfl⟩
    rw [this] at h1; cases h1
  obtain ⟨hk, heq⟩ := hr.1 (by simpa using h1)
  simp only [Query.withOf, Query.mk.injEq] at heq
  obtain ⟨_, rfl, rfl, rfl, rfl, rfl, rfl, rfl, _⟩ := heq
  obtain ⟨hf, hg⟩ := full_good (s := s) (ps := ps) (op := op) (ta := 0) (w := zeroP) (co := []) (on := []) (gr := []) (od := []) (li := 0) (args := args) (ks := ks) (by omega) (by simp [UnusedOk]) (by omega)
  rw [hf] at hT
  unfold nodeR at hT
  rw [if_neg hg] at hT
  dsimp only at hT
  rw [if_neg hne.1, if_neg hne.2.1, if_neg hne.2.2.1, if_neg hne.2.2.2.1, if_neg hne.2.2.2.2.1, if_neg hne.2.2.2.2.2.1, if_neg hne.2.2.2.2.2.2] at hT
  obtain ⟨a, b, rfl⟩ := two_of hk
  obtain ⟨b0, o0, s0, e0, r0, i0, l0, j0⟩ := hn.arg (j := 0) rfl
  obtain ⟨b1, o1, s1, e1, r1, i1, l1, j1⟩ := hn.arg (j := 1) rfl
  refine ⟨b0, o0, e0, by omega, by omega, s0, .imm (by simpa using r0), b1, o1, e1, by omega, by omega, s1, .imm (by simpa using r1), s0, s1, a, b, rfl, i0, i1, fun r2 hr2 => branch_intro (fun d1 => hT.err (if_neg fun e => ?_) (by omega) (.refl _)) (fun d1 => ⟨b0, o0, e0, by omega, by omega, s0, .imm (by simpa using r0), hT.ok (if_pos (hr2.1 (by simpa using d1))) (.refl _) i0⟩)⟩
  have e : a = b := e
  rw [hr2.2 e] at d1; cases d1
theorem f114_ok (hn : RepN h s ps (.mk 3 ta w co on gr od li args) ks n) (hT : Tst K m h (fullR s ps (.mk 3 ta w co on gr od li args) ks)) : f114_nice n m h K := by
  have x := hn.q_.parts
  have cl := x.columns_.slen
  have clen := x.columns_.len
  refine ⟨n, 1, ⟨0, 0, ⟨0, 0, zeroO, zeroO, ⟨none, 0, 0⟩⟩, n.q.columns, ⟨none, 0, 0⟩, ⟨none, 0, 0⟩, ⟨none, 0, 0⟩, 0, ⟨none, 0, 0⟩⟩, s, ps, _, ks, .mk 0 0 zeroP co [] [] [] 0 [], rfl, hn, QParts.rep ⟨rfl, rfl, repZero h, x.columns_, ⟨.nil _ _, by simp⟩, ⟨.nil _ _, by simp⟩, ⟨.nil _ _, by simp⟩, rfl, .nil _ _ _ _⟩, fun r hr => branch_intro (fun h1 => hT.err (full_bad fun e => ?_) (by omega) (.refl _)) (fun h1 => ?_)⟩
  · have : r = true := hr.2 ⟨e.1, by have := e.2; simp [UnusedOk] at this; obtain ⟨rfl, rfl, rfl, rfl, rfl, rfl⟩ := this; rfl⟩
    rw [this] at h1; cases h1
  obtain ⟨hk, heq⟩ := hr.1 (by simpa using h1)
  simp only [Query.withOf, Query.mk.injEq] at heq
  obtain ⟨_, rfl, rfl, _, rfl, rfl, rfl, rfl, _⟩ := heq
  obtain ⟨hf, hg⟩ := full_good (s := s) (ps := ps) (op := 3) (ta := 0) (w := zeroP) (co := co) (on := []) (gr := []) (od := []) (li := 0) (args := args) (ks := ks) hk (by simp [UnusedOk]) (by decide)
  rw [hf] at hT
  unfold nodeR at hT
  rw [if_neg hg] at hT
  dsimp only at hT
  rw [if_neg (by decide), if_neg (by decide), if_pos rfl] at hT
  obtain ⟨a, rfl⟩ := one_of hk
  obtain ⟨b0, o0, s0, e0, r0, i0, l0, j0⟩ := hn.arg (j := 0) rfl
  have sl0 := i0.slen
  simp only [List.getD_cons_zero] at hT
  refine branch_intro (fun d1 => hT.err (if_neg fun e => e.1 ((len0 cl).1 d1)) (by omega) (.refl _)) (fun d1 => ?_)
  have hne : co ≠ [] := fun e => by rw [(len0 cl).2 e] at d1; cases d1
  refine ⟨by omega, by omega, by omega, by omega, fun ⟨i, l⟩ => i ≤ co.length ∧ l = (co.take i).map (fun c => a.getD c.toNat 0) ∧ GoodUpto (fun _ c => inL a c = true) co i, fun ⟨i, _⟩ => co.length - i, ⟨(0, []), ⟨by omega, by simp, .zero⟩, MT⟩, ?_⟩
  rintro ⟨i, _⟩ ⟨hi, rfl, hgo⟩
  dsimp only
  refine branch_dec (fun hlt => ?_) (fun hge sl h' hle hrow => ?_)
  · obtain ⟨c, hc⟩ := getx cl hlt
    obtain ⟨b1, o1, ea1, r1⟩ := x.columns_.at' hc
    have cbad : ¬ inL a c = true → K (.tup [.val (.slice none 0 0), .val (.int .i64 100)]) m h := fun hx => hT.err (if_neg fun e => hx (e.2 i c hc)) (by omega) (.refl _)
    refine ⟨b1, o1, ea1, by omega, hlt, c, .imm r1, branch_dec (fun d2 => cbad fun e => ?_) (fun d2 => ⟨b0, o0, e0, by omega, by omega, s0, .imm (by simpa using r0), branch_dec (fun d3 => cbad fun e => ?_) (fun d3 => ?_)⟩)⟩
    · have := inL_iff.1 e; omega
    · have := inL_iff.1 e; omega
    obtain ⟨b2, o2, ea2, r2⟩ := i0.inb (n := c) (by omega) (by omega)
    refine ⟨b0, o0, e0, by omega, by omega, s0, .imm (by simpa using r0), b2, o2, ea2, by omega, by omega, _, .imm r2, ?_, ?_, (i + 1, (co.take (i + 1)).map (fun c => a.getD c.toNat 0)), ⟨by omega, rfl, hgo.succ hc (inL_iff.2 ⟨by omega, by omega⟩)⟩, by show co.length - (i + 1) < co.length - i; omega, ?_⟩
    · simp; omega
    · simp; omega
    · rw [map_take_succ hc, List.map_append]
      exact MT
  · rw [List.take_of_length_le (by omega)] at hrow
    exact hT.ok (if_pos ⟨hne, hgo.all (by omega)⟩) hle ⟨hrow, by simp; omega⟩
theorem f118_ok (hn : RepN h s ps (.mk 9 ta w co on gr od li args) ks n) (hT : Tst K m h (fullR s ps (.mk 9 ta w co on gr od li args) ks)) : f118_nice n m h K := by
  have x := hn.q_.parts
  refine ⟨n, s, ps, _, ks, rfl, hn, n, 1, ⟨0, 0, ⟨0, 0, zeroO, zeroO, ⟨none, 0, 0⟩⟩, ⟨none, 0, 0⟩, ⟨none, 0, 0⟩, n.q.group, n.q.order, n.q.limit, ⟨none, 0, 0⟩⟩, s, ps, _, ks, .mk 0 0 zeroP [] [] gr od li [], rfl, hn, QParts.rep ⟨rfl, rfl, repZero h, ⟨.nil _ _, by simp⟩, ⟨.nil _ _, by simp⟩, x.group_, x.order_, x.limit_, .nil _ _ _ _⟩, fun r hr => branch_intro (fun h1 => hT.err (full_bad fun e => ?_) (by omega) (.refl _)) (fun h1 => ?_)⟩
  · have : r = true := hr.2 ⟨e.1, by have := e.2; simp [UnusedOk] at this; obtain ⟨rfl, rfl, rfl, rfl⟩ := this; rfl⟩
    rw [this] at h1; cases h1
  obtain ⟨hk, heq⟩ := hr.1 (by simpa using h1)
  simp only [Query.withOf, Query.mk.injEq] at heq
  obtain ⟨_, rfl, rfl, rfl, rfl, _, _, _, _⟩ := heq
  obtain ⟨hf, hg⟩ := full_good (s := s) (ps := ps) (op := 9) (ta := 0) (w := zeroP) (co := []) (on := []) (gr := gr) (od := od) (li := li) (args := args) (ks := ks) hk (by simp [UnusedOk]) (by decide)
  rw [hf] at hT
  unfold nodeR at hT
  rw [if_neg hg] at hT
  dsimp only at hT
  rw [if_neg (by decide), if_neg (by decide), if_neg (by decide), if_neg (by decide), if_neg (by decide), if_pos rfl] at hT
  obtain ⟨a, rfl⟩ := one_of hk
  obtain ⟨b0, o0, s0, e0, r0, i0, l0, j0⟩ := hn.arg (j := 0) rfl
  refine ⟨n, s, ps, _, [a], a, rfl, hn, rfl, fun r2 hr2 => branch_intro (fun d1 => hT.err (if_neg fun e => ?_) (by omega) (.refl _)) (fun d1 => ⟨b0, o0, e0, by omega, by omega, s0, .imm (by simpa using r0), hT.ok (if_pos ?_) (.refl _) i0⟩)⟩
  · rw [hr2.2 ⟨_, _, _, _, _, _, _, _, _, rfl, e⟩] at d1; cases d1
  · obtain ⟨_, _, _, _, _, _, _, _, _, e, hh⟩ := hr2.1 (by simpa using d1)
    cases e; exact hh
theorem f119_ok (hn : RepN h s ps (.mk 10 ta w co on gr od li args) ks n) (hT : Tst K m h (fullR s ps (.mk 10 ta w co on gr od li args) ks)) : f119_nice n m h K := by
  have x := hn.q_.parts
  refine ⟨n, s, ps, _, ks, rfl, hn, n, 2, ⟨0, 0, ⟨0, 0, zeroO, zeroO, ⟨none, 0, 0⟩⟩, ⟨none, 0, 0⟩, ⟨none, 0, 0⟩, n.q.group, n.q.order, n.q.limit, ⟨none, 0, 0⟩⟩, s, ps, _, ks, .mk 0 0 zeroP [] [] gr od li [], rfl, hn, QParts.rep ⟨rfl, rfl, repZero h, ⟨.nil _ _, by simp⟩, ⟨.nil _ _, by simp⟩, x.group_, x.order_, x.limit_, .nil _ _ _ _⟩, fun r hr => branch_intro (fun h1 => hT.err (full_bad fun e => ?_) (by omega) (.refl _)) (fun h1 => ?_)⟩
  · have : r = true := hr.2 ⟨e.1, by have := e.2; simp [UnusedOk] at this; obtain ⟨rfl, rfl, rfl, rfl⟩ := this; rfl⟩
    rw [this] at h1; cases h1
  obtain ⟨hk, heq⟩ := hr.1 (by simpa using h1)
  simp only [Query.withOf, Query.mk.injEq] at heq
  obtain ⟨_, rfl, rfl, rfl, rfl, _, _, _, _⟩ := heq
  obtain ⟨hf, hg⟩ := full_good (s := s) (ps := ps) (op := 10) (ta := 0) (w := zeroP) (co := []) (on := []) (gr := gr) (od := od) (li := li) (args := args) (ks := ks) hk (by simp [UnusedOk]) (by decide)
  rw [hf] at hT
  unfold nodeR at hT
  rw [if_neg hg] at hT
  dsimp only at hT
  rw [if_neg (by decide), if_neg (by decide), if_neg (by decide), if_neg (by decide), if_neg (by decide), if_neg (by decide), if_pos rfl] at hT
  obtain ⟨a, b, rfl⟩ := two_of hk
  obtain ⟨b0, o0, s0, e0, r0, i0, l0, j0⟩ := hn.arg (j := 0) rfl
  obtain ⟨b1, o1, s1, e1, r1, i1, l1, j1⟩ := hn.arg (j := 1) rfl
  refine ⟨b0, o0, e0, by omega, by omega, s0, .imm (by simpa using r0), b1, o1, e1, by omega, by omega, s1, .imm (by simpa using r1), s0, s1, a, b, rfl, i0, i1, fun r3 hr3 => branch_intro (fun d2 => ⟨by simpa using r0, by simpa using r1, hT.err (if_neg fun e => ?_) (by omega) (.refl _)⟩) (fun d2 => ⟨by simpa using r0, by simpa using r1, n, s, ps, _, [a, b], a, rfl, hn, rfl, fun r2 hr2 => branch_intro (fun d1 => hT.err (if_neg fun e => ?_) (by omega) (.refl _)) (fun d1 => ⟨b0, o0, e0, by omega, by omega, s0, .imm (by simpa using r0), hT.ok (if_pos ⟨hr3.1 (by simpa using d2), ?_⟩) (.refl _) i0⟩)⟩)⟩
  · have e : a = b := e.1
    rw [hr3.2 e] at d2; cases d2
  · rw [hr2.2 ⟨_, _, _, _, _, _, _, _, _, rfl, e.2⟩] at d1; cases d1
  · obtain ⟨_, _, _, _, _, _, _, _, _, e, hh⟩ := hr2.1 (by simpa using d1)
    cases e; exact hh
end
end Go.Ps
namespace Go.Ps
open Go Go.Vc Go.Proofs
def fv (f : Nat) : CV := .val (.func (.func f) #[] #[])
def OperatorS : Vc.Spec := fun cvs m h K => ∃ op, cvs = [cI op] ∧
  branch (op == 1) (K (fv 112) m h) (branch (op == 2) (K (fv 113) m h) (branch (op == 3) (K (fv 114) m h) (branch (op == 4) (K (fv 115) m h) (branch (op == 5) (K (fv 116) m h) (branch (op == 6) (K (fv 117) m h) (branch (op == 7) (K (fv 117) m h) (branch (op == 8) (K (fv 117) m h) (branch (op == 9) (K (fv 118) m h) (branch (op == 10) (K (fv 119) m h) (K (.val .nilFunc) m h))))))))))
noncomputable def f65_ctx (N : Nat) (sc : SchV) (p : Sl) (v : QV) (m : MH) : Ctx :=
  ctx2 [(65, KindsQS N), (92, OperatorS), (112, TestS (· = 1)), (113, TestS (· = 2)), (114, TestS (· = 3)), (115, TestS (· = 4)), (116, TestS (· = 5)), (117, TestS (fun op => op = 6 ∨ op = 7 ∨ op = 8)), (118, TestS (· = 9)), (119, TestS (· = 10))]
   [(3, { A := Nat × List Sl × PH, st := fun ⟨i, ss, h⟩ => mkSt 62 65 [(1, sv p), (3, .at (.ptr 3 0)), (5, .at (.ptr 5 0)), (8, .at (.ptr 8 0)), (21, sv v.args), (22, iv v.args.len), (23, iv i)] [(3, .cells 28 (sc.enc.map .val)), (5, .cells 43 (v.enc.map .val)), (8, .cells 155 ((sc.enc ++ eS p ++ v.enc).map .val ++ [.lst 41])), (41, .lst 39 1 (ss.map eS))] m h })] [] [] false
def f92_nice (op : Int) (m : MH) (h : PH) (K : CV → MH → PH → Prop) : Prop :=
    ∀ (b : Nat) (m' : MH), Unheld m h b -> MUpd m m' b (Obj.cells (Array.mk [Value.nilFunc, Value.nilFunc, Value.nilFunc, Value.nilFunc, Value.nilFunc, Value.nilFunc, Value.nilFunc, 
    Value.nilFunc, Value.nilFunc, Value.nilFunc, Value.nilFunc]) 175) -> ∃ (cs : Array Value), ∃ (E : TypeId), MAt m' b (Obj.cells cs E) /\ 11 <= cs.size /\ ∀ (m'_1 : MH), MUpd m' m'_1 
    b (Obj.cells (Array.mk (Value.nilFunc :: Value.func (Fn.func 112) (Array.mk []) (Array.mk []) :: Value.func (Fn.func 113) (Array.mk []) (Array.mk []) :: Value.func (Fn.func 114) 
    (Array.mk []) (Array.mk []) :: Value.func (Fn.func 115) (Array.mk []) (Array.mk []) :: Value.func (Fn.func 116) (Array.mk []) (Array.mk []) :: Value.func (Fn.func 117) (Array.mk 
    []) (Array.mk []) :: Value.func (Fn.func 117) (Array.mk []) (Array.mk []) :: Value.func (Fn.func 117) (Array.mk []) (Array.mk []) :: Value.func (Fn.func 118) (Array.mk []) 
    (Array.mk []) :: Value.func (Fn.func 119) (Array.mk []) (Array.mk []) :: List.append._f [] PUnit.unit (List.drop 11 cs.toList))) E) -> branch (decide (op < 0)) (K (CV.val 
    Value.nilFunc) m'_1 h) (branch (decide (op ≥ 11)) (K (CV.val Value.nilFunc) m'_1 h) (0 <= op /\ op < 11 /\ ∃ (y : Option Nat), RdAt m'_1 h b (0 + op.toNat * 1) [encF y] /\ K 
    (CV.val (encF y)) m'_1 h))
theorem f92_vc (op : Int) (m : MH) (h : PH) (K : CV → MH → PH → Prop) : f92_nice op m h K = (fnVC (ctx4 [] [] [] [] [175] [] false) Tryz.f92 (bodyOf Tryz.f92) (entry Tryz.f92.ntmps [cI op] m h) K) := by kernel_rfl
def f65_nice (N : Nat) (sc : SchV) (p : Sl) (v : QV) (m : MH) (h : PH) (K : CV → MH → PH → Prop) : Prop :=
    ∃ (I : Nat × List Sl × PH -> Prop), ∃ (mu : Nat × List Sl × PH -> Nat), (∃ (x : Nat × List Sl × PH), I x /\ eQ (sQs p) /\ eQ (sQp 3 0) /\ eQ (sQp 5 0) /\ eQ (sQp 8 0) /\ eQ (sQs 
    v.args) /\ eQ (sQi (↑v.args.len : Int)) /\ sQi 0 = sQi (↑x.1 : Int) /\ eQ (oQ 28 [aQi sc.version, aQs sc.tables]) /\ eQ (oQ 43 (List.map At.val (QV.enc v))) /\ eQ (oQ 155 [aQi 
    sc.version, aQs sc.tables, aQs p, aQi v.op, aQi v.table, aQi v.where_.op, aQi v.where_.cmp, aQi v.where_.left.kind, aQi v.where_.left.index, aQi v.where_.left.value.kind, aQi 
    v.where_.left.value.int, At.val (Value.string v.where_.left.value.text), aQi v.where_.right.kind, aQi v.where_.right.index, aQi v.where_.right.value.kind, aQi 
    v.where_.right.value.int, At.val (Value.string v.where_.right.value.text), aQs v.where_.args, aQs v.columns, aQs v.on, aQs v.group, aQs v.order, aQi v.limit, aQs v.args, At.lst 
    41]) /\ some (Own.lst 39 1 []) = some (Own.lst 39 1 (List.map eS x.2.1)) /\ m = m /\ h = x.2.2 /\ True) /\ ∀ (x : Nat × List Sl × PH), I x -> branch (decide ((↑x.1 : Int) < 
    (↑v.args.len : Int))) (∃ (b : Nat), ∃ (off : Nat), v.args.a = some (Addr.mk b off none) /\ 0 <= (↑x.1 : Int) /\ (↑x.1 : Int) < (↑v.args.len : Int) /\ ∃ (y : QV), RdAt m x.2.2 b 
    (off + (↑x.1 : Int).toNat * 21) (QV.enc y) /\ ∃ (sc_1 : SchV), ∃ (p_1 : Sl), ∃ (v_1 : QV), ∃ (s : Sch), ∃ (ps : List Int), ∃ (q : Query), [cQa [vQi sc.version, vQs sc.tables], cQs 
    p, cQa (QV.enc y)] = [cQa [vQi sc_1.version, vQs sc_1.tables], cQs p_1, cQa (QV.enc v_1)] /\ RepS x.2.2 s sc_1 /\ small8 s /\ Ints x.2.2 p_1 ps /\ RepQ x.2.2 q v_1 /\ SizeOf.sizeOf 
    q < N /\ ∀ (sl : Sl) (h' : PH), x.2.2.le h' -> Ints h' sl (kindsQ s ps q).1 -> branch ((kindsQ s ps q).2 != 0) (K (CV.tup [cQn, CV.val (vQi (kindsQ s ps q).2)]) m h') (((List.map 
    eS x.2.1).length + 1) * 24 <= 140737488355328 /\ (List.map eS x.2.1).length < 140737488355328 /\ ∃ (y : Nat × List Sl × PH), I y /\ mu y < mu x /\ eQ (sQs p) /\ eQ (sQp 3 0) /\ eQ 
    (sQp 5 0) /\ eQ (sQp 8 0) /\ eQ (sQs v.args) /\ eQ (sQi (↑v.args.len : Int)) /\ sQi (IntKind.i64.wrap ((↑x.1 : Int) + 1)) = sQi (↑y.1 : Int) /\ eQ (oQ 28 [aQi sc.version, aQs 
    sc.tables]) /\ eQ (oQ 43 (List.map At.val (QV.enc v))) /\ eQ (oQ 155 [aQi sc.version, aQs sc.tables, aQs p, aQi v.op, aQi v.table, aQi v.where_.op, aQi v.where_.cmp, aQi 
    v.where_.left.kind, aQi v.where_.left.index, aQi v.where_.left.value.kind, aQi v.where_.left.value.int, At.val (Value.string v.where_.left.value.text), aQi v.where_.right.kind, aQi 
    v.where_.right.index, aQi v.where_.right.value.kind, aQi v.where_.right.value.int, At.val (Value.string v.where_.right.value.text), aQs v.where_.args, aQs v.columns, aQs v.on, aQs 
    v.group, aQs v.order, aQi v.limit, aQs v.args, At.lst 41]) /\ some (Own.lst 39 1 (List.map eS x.2.1 ++ [[vQs sl]])) = some (Own.lst 39 1 (List.map eS y.2.1)) /\ m = m /\ h' = y.2.2 
    /\ True)) (∃ (op : Int), [cQi v.op] = [cQi op] /\ branch (op == 1) (∀ (s : Sl) (h' : PH), x.2.2.le h' -> RowIn h' s 1 (List.map eS x.2.1) -> ∃ (n : NV), ∃ (s_1 : Sch), ∃ (ps : List 
    Int), ∃ (q : Query), ∃ (ks : List (List Int)), [cQa [vQi sc.version, vQs sc.tables, vQs p, vQi v.op, vQi v.table, vQi v.where_.op, vQi v.where_.cmp, vQi v.where_.left.kind, vQi 
    v.where_.left.index, vQi v.where_.left.value.kind, vQi v.where_.left.value.int, Value.string v.where_.left.value.text, vQi v.where_.right.kind, vQi v.where_.right.index, vQi 
    v.where_.right.value.kind, vQi v.where_.right.value.int, Value.string v.where_.right.value.text, vQs v.where_.args, vQs v.columns, vQs v.on, vQs v.group, vQs v.order, vQi v.limit, 
    vQs v.args, vQs s]] = [cQa [vQi n.s.version, vQs n.s.tables, vQs n.params, vQi n.q.op, vQi n.q.table, vQi n.q.where_.op, vQi n.q.where_.cmp, vQi n.q.where_.left.kind, vQi 
    n.q.where_.left.index, vQi n.q.where_.left.value.kind, vQi n.q.where_.left.value.int, Value.string n.q.where_.left.value.text, vQi n.q.where_.right.kind, vQi 
    n.q.where_.right.index, vQi n.q.where_.right.value.kind, vQi n.q.where_.right.value.int, Value.string n.q.where_.right.value.text, vQs n.q.where_.args, vQs n.q.columns, vQs n.q.on, 
    vQs n.q.group, vQs n.q.order, vQi n.q.limit, vQs n.q.args, vQs n.args]] /\ RepN h' s_1 ps q ks n /\ small8 s_1 /\ q.op = 1 /\ ∀ (r : List Int × Int), fin r = fullR s_1 ps q ks -> ∀ 
    (sl : Sl) (h'_1 : PH), h'.le h'_1 -> Ints h'_1 sl r.1 -> branch (r.2 != 0) (K (CV.tup [cQn, cQi r.2]) m h'_1) (branch (decide ((↑sl.len : Int) > 12)) (K (CV.tup [cQn, cQi 2]) m 
    h'_1) (K (CV.tup [cQs sl, cQi 0]) m h'_1))) (branch (op == 2) (∀ (s : Sl) (h' : PH), x.2.2.le h' -> RowIn h' s 1 (List.map eS x.2.1) -> ∃ (n : NV), ∃ (s_1 : Sch), ∃ (ps : List 
    Int), ∃ (q : Query), ∃ (ks : List (List Int)), [cQa [vQi sc.version, vQs sc.tables, vQs p, vQi v.op, vQi v.table, vQi v.where_.op, vQi v.where_.cmp, vQi v.where_.left.kind, vQi 
    v.where_.left.index, vQi v.where_.left.value.kind, vQi v.where_.left.value.int, Value.string v.where_.left.value.text, vQi v.where_.right.kind, vQi v.where_.right.index, vQi 
    v.where_.right.value.kind, vQi v.where_.right.value.int, Value.string v.where_.right.value.text, vQs v.where_.args, vQs v.columns, vQs v.on, vQs v.group, vQs v.order, vQi v.limit, 
    vQs v.args, vQs s]] = [cQa [vQi n.s.version, vQs n.s.tables, vQs n.params, vQi n.q.op, vQi n.q.table, vQi n.q.where_.op, vQi n.q.where_.cmp, vQi n.q.where_.left.kind, vQi 
    n.q.where_.left.index, vQi n.q.where_.left.value.kind, vQi n.q.where_.left.value.int, Value.string n.q.where_.left.value.text, vQi n.q.where_.right.kind, vQi 
    n.q.where_.right.index, vQi n.q.where_.right.value.kind, vQi n.q.where_.right.value.int, Value.string n.q.where_.right.value.text, vQs n.q.where_.args, vQs n.q.columns, vQs n.q.on, 
    vQs n.q.group, vQs n.q.order, vQi n.q.limit, vQs n.q.args, vQs n.args]] /\ RepN h' s_1 ps q ks n /\ small8 s_1 /\ q.op = 2 /\ ∀ (r : List Int × Int), fin r = fullR s_1 ps q ks -> ∀ 
    (sl : Sl) (h'_1 : PH), h'.le h'_1 -> Ints h'_1 sl r.1 -> branch (r.2 != 0) (K (CV.tup [cQn, cQi r.2]) m h'_1) (branch (decide ((↑sl.len : Int) > 12)) (K (CV.tup [cQn, cQi 2]) m 
    h'_1) (K (CV.tup [cQs sl, cQi 0]) m h'_1))) (branch (op == 3) (∀ (s : Sl) (h' : PH), x.2.2.le h' -> RowIn h' s 1 (List.map eS x.2.1) -> ∃ (n : NV), ∃ (s_1 : Sch), ∃ (ps : List 
    Int), ∃ (q : Query), ∃ (ks : List (List Int)), [cQa [vQi sc.version, vQs sc.tables, vQs p, vQi v.op, vQi v.table, vQi v.where_.op, vQi v.where_.cmp, vQi v.where_.left.kind, vQi 
    v.where_.left.index, vQi v.where_.left.value.kind, vQi v.where_.left.value.int, Value.string v.where_.left.value.text, vQi v.where_.right.kind, vQi v.where_.right.index, vQi 
    v.where_.right.value.kind, vQi v.where_.right.value.int, Value.string v.where_.right.value.text, vQs v.where_.args, vQs v.columns, vQs v.on, vQs v.group, vQs v.order, vQi v.limit, 
    vQs v.args, vQs s]] = [cQa [vQi n.s.version, vQs n.s.tables, vQs n.params, vQi n.q.op, vQi n.q.table, vQi n.q.where_.op, vQi n.q.where_.cmp, vQi n.q.where_.left.kind, vQi 
    n.q.where_.left.index, vQi n.q.where_.left.value.kind, vQi n.q.where_.left.value.int, Value.string n.q.where_.left.value.text, vQi n.q.where_.right.kind, vQi 
    n.q.where_.right.index, vQi n.q.where_.right.value.kind, vQi n.q.where_.right.value.int, Value.string n.q.where_.right.value.text, vQs n.q.where_.args, vQs n.q.columns, vQs n.q.on, 
    vQs n.q.group, vQs n.q.order, vQi n.q.limit, vQs n.q.args, vQs n.args]] /\ RepN h' s_1 ps q ks n /\ small8 s_1 /\ q.op = 3 /\ ∀ (r : List Int × Int), fin r = fullR s_1 ps q ks -> ∀ 
    (sl : Sl) (h'_1 : PH), h'.le h'_1 -> Ints h'_1 sl r.1 -> branch (r.2 != 0) (K (CV.tup [cQn, cQi r.2]) m h'_1) (branch (decide ((↑sl.len : Int) > 12)) (K (CV.tup [cQn, cQi 2]) m 
    h'_1) (K (CV.tup [cQs sl, cQi 0]) m h'_1))) (branch (op == 4) (∀ (s : Sl) (h' : PH), x.2.2.le h' -> RowIn h' s 1 (List.map eS x.2.1) -> ∃ (n : NV), ∃ (s_1 : Sch), ∃ (ps : List 
    Int), ∃ (q : Query), ∃ (ks : List (List Int)), [cQa [vQi sc.version, vQs sc.tables, vQs p, vQi v.op, vQi v.table, vQi v.where_.op, vQi v.where_.cmp, vQi v.where_.left.kind, vQi 
    v.where_.left.index, vQi v.where_.left.value.kind, vQi v.where_.left.value.int, Value.string v.where_.left.value.text, vQi v.where_.right.kind, vQi v.where_.right.index, vQi 
    v.where_.right.value.kind, vQi v.where_.right.value.int, Value.string v.where_.right.value.text, vQs v.where_.args, vQs v.columns, vQs v.on, vQs v.group, vQs v.order, vQi v.limit, 
    vQs v.args, vQs s]] = [cQa [vQi n.s.version, vQs n.s.tables, vQs n.params, vQi n.q.op, vQi n.q.table, vQi n.q.where_.op, vQi n.q.where_.cmp, vQi n.q.where_.left.kind, vQi 
    n.q.where_.left.index, vQi n.q.where_.left.value.kind, vQi n.q.where_.left.value.int, Value.string n.q.where_.left.value.text, vQi n.q.where_.right.kind, vQi 
    n.q.where_.right.index, vQi n.q.where_.right.value.kind, vQi n.q.where_.right.value.int, Value.string n.q.where_.right.value.text, vQs n.q.where_.args, vQs n.q.columns, vQs n.q.on, 
    vQs n.q.group, vQs n.q.order, vQi n.q.limit, vQs n.q.args, vQs n.args]] /\ RepN h' s_1 ps q ks n /\ small8 s_1 /\ q.op = 4 /\ ∀ (r : List Int × Int), fin r = fullR s_1 ps q ks -> ∀ 
    (sl : Sl) (h'_1 : PH), h'.le h'_1 -> Ints h'_1 sl r.1 -> branch (r.2 != 0) (K (CV.tup [cQn, cQi r.2]) m h'_1) (branch (decide ((↑sl.len : Int) > 12)) (K (CV.tup [cQn, cQi 2]) m 
    h'_1) (K (CV.tup [cQs sl, cQi 0]) m h'_1))) (branch (op == 5) (∀ (s : Sl) (h' : PH), x.2.2.le h' -> RowIn h' s 1 (List.map eS x.2.1) -> ∃ (n : NV), ∃ (s_1 : Sch), ∃ (ps : List 
    Int), ∃ (q : Query), ∃ (ks : List (List Int)), [cQa [vQi sc.version, vQs sc.tables, vQs p, vQi v.op, vQi v.table, vQi v.where_.op, vQi v.where_.cmp, vQi v.where_.left.kind, vQi 
    v.where_.left.index, vQi v.where_.left.value.kind, vQi v.where_.left.value.int, Value.string v.where_.left.value.text, vQi v.where_.right.kind, vQi v.where_.right.index, vQi 
    v.where_.right.value.kind, vQi v.where_.right.value.int, Value.string v.where_.right.value.text, vQs v.where_.args, vQs v.columns, vQs v.on, vQs v.group, vQs v.order, vQi v.limit, 
    vQs v.args, vQs s]] = [cQa [vQi n.s.version, vQs n.s.tables, vQs n.params, vQi n.q.op, vQi n.q.table, vQi n.q.where_.op, vQi n.q.where_.cmp, vQi n.q.where_.left.kind, vQi 
    n.q.where_.left.index, vQi n.q.where_.left.value.kind, vQi n.q.where_.left.value.int, Value.string n.q.where_.left.value.text, vQi n.q.where_.right.kind, vQi 
    n.q.where_.right.index, vQi n.q.where_.right.value.kind, vQi n.q.where_.right.value.int, Value.string n.q.where_.right.value.text, vQs n.q.where_.args, vQs n.q.columns, vQs n.q.on, 
    vQs n.q.group, vQs n.q.order, vQi n.q.limit, vQs n.q.args, vQs n.args]] /\ RepN h' s_1 ps q ks n /\ small8 s_1 /\ q.op = 5 /\ ∀ (r : List Int × Int), fin r = fullR s_1 ps q ks -> ∀ 
    (sl : Sl) (h'_1 : PH), h'.le h'_1 -> Ints h'_1 sl r.1 -> branch (r.2 != 0) (K (CV.tup [cQn, cQi r.2]) m h'_1) (branch (decide ((↑sl.len : Int) > 12)) (K (CV.tup [cQn, cQi 2]) m 
    h'_1) (K (CV.tup [cQs sl, cQi 0]) m h'_1))) (branch (op == 6) (∀ (s : Sl) (h' : PH), x.2.2.le h' -> RowIn h' s 1 (List.map eS x.2.1) -> ∃ (n : NV), ∃ (s_1 : Sch), ∃ (ps : List 
    Int), ∃ (q : Query), ∃ (ks : List (List Int)), [cQa [vQi sc.version, vQs sc.tables, vQs p, vQi v.op, vQi v.table, vQi v.where_.op, vQi v.where_.cmp, vQi v.where_.left.kind, vQi 
    v.where_.left.index, vQi v.where_.left.value.kind, vQi v.where_.left.value.int, Value.string v.where_.left.value.text, vQi v.where_.right.kind, vQi v.where_.right.index, vQi 
    v.where_.right.value.kind, vQi v.where_.right.value.int, Value.string v.where_.right.value.text, vQs v.where_.args, vQs v.columns, vQs v.on, vQs v.group, vQs v.order, vQi v.limit, 
    vQs v.args, vQs s]] = [cQa [vQi n.s.version, vQs n.s.tables, vQs n.params, vQi n.q.op, vQi n.q.table, vQi n.q.where_.op, vQi n.q.where_.cmp, vQi n.q.where_.left.kind, vQi 
    n.q.where_.left.index, vQi n.q.where_.left.value.kind, vQi n.q.where_.left.value.int, Value.string n.q.where_.left.value.text, vQi n.q.where_.right.kind, vQi 
    n.q.where_.right.index, vQi n.q.where_.right.value.kind, vQi n.q.where_.right.value.int, Value.string n.q.where_.right.value.text, vQs n.q.where_.args, vQs n.q.columns, vQs n.q.on, 
    vQs n.q.group, vQs n.q.order, vQi n.q.limit, vQs n.q.args, vQs n.args]] /\ RepN h' s_1 ps q ks n /\ small8 s_1 /\ (q.op = 6 ∨ q.op = 7 ∨ q.op = 8) /\ ∀ (r : List Int × Int), fin r 
    = fullR s_1 ps q ks -> ∀ (sl : Sl) (h'_1 : PH), h'.le h'_1 -> Ints h'_1 sl r.1 -> branch (r.2 != 0) (K (CV.tup [cQn, cQi r.2]) m h'_1) (branch (decide ((↑sl.len : Int) > 12)) (K 
    (CV.tup [cQn, cQi 2]) m h'_1) (K (CV.tup [cQs sl, cQi 0]) m h'_1))) (branch (op == 7) (∀ (s : Sl) (h' : PH), x.2.2.le h' -> RowIn h' s 1 (List.map eS x.2.1) -> ∃ (n : NV), ∃ (s_1 : 
    Sch), ∃ (ps : List Int), ∃ (q : Query), ∃ (ks : List (List Int)), [cQa [vQi sc.version, vQs sc.tables, vQs p, vQi v.op, vQi v.table, vQi v.where_.op, vQi v.where_.cmp, vQi 
    v.where_.left.kind, vQi v.where_.left.index, vQi v.where_.left.value.kind, vQi v.where_.left.value.int, Value.string v.where_.left.value.text, vQi v.where_.right.kind, vQi 
    v.where_.right.index, vQi v.where_.right.value.kind, vQi v.where_.right.value.int, Value.string v.where_.right.value.text, vQs v.where_.args, vQs v.columns, vQs v.on, vQs v.group, 
    vQs v.order, vQi v.limit, vQs v.args, vQs s]] = [cQa [vQi n.s.version, vQs n.s.tables, vQs n.params, vQi n.q.op, vQi n.q.table, vQi n.q.where_.op, vQi n.q.where_.cmp, vQi 
    n.q.where_.left.kind, vQi n.q.where_.left.index, vQi n.q.where_.left.value.kind, vQi n.q.where_.left.value.int, Value.string n.q.where_.left.value.text, vQi n.q.where_.right.kind, 
    vQi n.q.where_.right.index, vQi n.q.where_.right.value.kind, vQi n.q.where_.right.value.int, Value.string n.q.where_.right.value.text, vQs n.q.where_.args, vQs n.q.columns, vQs 
    n.q.on, vQs n.q.group, vQs n.q.order, vQi n.q.limit, vQs n.q.args, vQs n.args]] /\ RepN h' s_1 ps q ks n /\ small8 s_1 /\ (q.op = 6 ∨ q.op = 7 ∨ q.op = 8) /\ ∀ (r : List Int × 
    Int), fin r = fullR s_1 ps q ks -> ∀ (sl : Sl) (h'_1 : PH), h'.le h'_1 -> Ints h'_1 sl r.1 -> branch (r.2 != 0) (K (CV.tup [cQn, cQi r.2]) m h'_1) (branch (decide ((↑sl.len : Int) 
    > 12)) (K (CV.tup [cQn, cQi 2]) m h'_1) (K (CV.tup [cQs sl, cQi 0]) m h'_1))) (branch (op == 8) (∀ (s : Sl) (h' : PH), x.2.2.le h' -> RowIn h' s 1 (List.map eS x.2.1) -> ∃ (n : 
    NV), ∃ (s_1 : Sch), ∃ (ps : List Int), ∃ (q : Query), ∃ (ks : List (List Int)), [cQa [vQi sc.version, vQs sc.tables, vQs p, vQi v.op, vQi v.table, vQi v.where_.op, vQi 
    v.where_.cmp, vQi v.where_.left.kind, vQi v.where_.left.index, vQi v.where_.left.value.kind, vQi v.where_.left.value.int, Value.string v.where_.left.value.text, vQi 
    v.where_.right.kind, vQi v.where_.right.index, vQi v.where_.right.value.kind, vQi v.where_.right.value.int, Value.string v.where_.right.value.text, vQs v.where_.args, vQs 
    v.columns, vQs v.on, vQs v.group, vQs v.order, vQi v.limit, vQs v.args, vQs s]] = [cQa [vQi n.s.version, vQs n.s.tables, vQs n.params, vQi n.q.op, vQi n.q.table, vQi n.q.where_.op, 
    vQi n.q.where_.cmp, vQi n.q.where_.left.kind, vQi n.q.where_.left.index, vQi n.q.where_.left.value.kind, vQi n.q.where_.left.value.int, Value.string n.q.where_.left.value.text, vQi 
    n.q.where_.right.kind, vQi n.q.where_.right.index, vQi n.q.where_.right.value.kind, vQi n.q.where_.right.value.int, Value.string n.q.where_.right.value.text, vQs n.q.where_.args, 
    vQs n.q.columns, vQs n.q.on, vQs n.q.group, vQs n.q.order, vQi n.q.limit, vQs n.q.args, vQs n.args]] /\ RepN h' s_1 ps q ks n /\ small8 s_1 /\ (q.op = 6 ∨ q.op = 7 ∨ q.op = 8) /\ ∀ 
    (r : List Int × Int), fin r = fullR s_1 ps q ks -> ∀ (sl : Sl) (h'_1 : PH), h'.le h'_1 -> Ints h'_1 sl r.1 -> branch (r.2 != 0) (K (CV.tup [cQn, cQi r.2]) m h'_1) (branch (decide 
    ((↑sl.len : Int) > 12)) (K (CV.tup [cQn, cQi 2]) m h'_1) (K (CV.tup [cQs sl, cQi 0]) m h'_1))) (branch (op == 9) (∀ (s : Sl) (h' : PH), x.2.2.le h' -> RowIn h' s 1 (List.map eS 
    x.2.1) -> ∃ (n : NV), ∃ (s_1 : Sch), ∃ (ps : List Int), ∃ (q : Query), ∃ (ks : List (List Int)), [cQa [vQi sc.version, vQs sc.tables, vQs p, vQi v.op, vQi v.table, vQi v.where_.op, 
    vQi v.where_.cmp, vQi v.where_.left.kind, vQi v.where_.left.index, vQi v.where_.left.value.kind, vQi v.where_.left.value.int, Value.string v.where_.left.value.text, vQi 
    v.where_.right.kind, vQi v.where_.right.index, vQi v.where_.right.value.kind, vQi v.where_.right.value.int, Value.string v.where_.right.value.text, vQs v.where_.args, vQs 
    v.columns, vQs v.on, vQs v.group, vQs v.order, vQi v.limit, vQs v.args, vQs s]] = [cQa [vQi n.s.version, vQs n.s.tables, vQs n.params, vQi n.q.op, vQi n.q.table, vQi n.q.where_.op, 
    vQi n.q.where_.cmp, vQi n.q.where_.left.kind, vQi n.q.where_.left.index, vQi n.q.where_.left.value.kind, vQi n.q.where_.left.value.int, Value.string n.q.where_.left.value.text, vQi 
    n.q.where_.right.kind, vQi n.q.where_.right.index, vQi n.q.where_.right.value.kind, vQi n.q.where_.right.value.int, Value.string n.q.where_.right.value.text, vQs n.q.where_.args, 
    vQs n.q.columns, vQs n.q.on, vQs n.q.group, vQs n.q.order, vQi n.q.limit, vQs n.q.args, vQs n.args]] /\ RepN h' s_1 ps q ks n /\ small8 s_1 /\ q.op = 9 /\ ∀ (r : List Int × Int), 
    fin r = fullR s_1 ps q ks -> ∀ (sl : Sl) (h'_1 : PH), h'.le h'_1 -> Ints h'_1 sl r.1 -> branch (r.2 != 0) (K (CV.tup [cQn, cQi r.2]) m h'_1) (branch (decide ((↑sl.len : Int) > 12)) 
    (K (CV.tup [cQn, cQi 2]) m h'_1) (K (CV.tup [cQs sl, cQi 0]) m h'_1))) (branch (op == 10) (∀ (s : Sl) (h' : PH), x.2.2.le h' -> RowIn h' s 1 (List.map eS x.2.1) -> ∃ (n : NV), ∃ 
    (s_1 : Sch), ∃ (ps : List Int), ∃ (q : Query), ∃ (ks : List (List Int)), [cQa [vQi sc.version, vQs sc.tables, vQs p, vQi v.op, vQi v.table, vQi v.where_.op, vQi v.where_.cmp, vQi 
    v.where_.left.kind, vQi v.where_.left.index, vQi v.where_.left.value.kind, vQi v.where_.left.value.int, Value.string v.where_.left.value.text, vQi v.where_.right.kind, vQi 
    v.where_.right.index, vQi v.where_.right.value.kind, vQi v.where_.right.value.int, Value.string v.where_.right.value.text, vQs v.where_.args, vQs v.columns, vQs v.on, vQs v.group, 
    vQs v.order, vQi v.limit, vQs v.args, vQs s]] = [cQa [vQi n.s.version, vQs n.s.tables, vQs n.params, vQi n.q.op, vQi n.q.table, vQi n.q.where_.op, vQi n.q.where_.cmp, vQi 
    n.q.where_.left.kind, vQi n.q.where_.left.index, vQi n.q.where_.left.value.kind, vQi n.q.where_.left.value.int, Value.string n.q.where_.left.value.text, vQi n.q.where_.right.kind, 
    vQi n.q.where_.right.index, vQi n.q.where_.right.value.kind, vQi n.q.where_.right.value.int, Value.string n.q.where_.right.value.text, vQs n.q.where_.args, vQs n.q.columns, vQs 
    n.q.on, vQs n.q.group, vQs n.q.order, vQi n.q.limit, vQs n.q.args, vQs n.args]] /\ RepN h' s_1 ps q ks n /\ small8 s_1 /\ q.op = 10 /\ ∀ (r : List Int × Int), fin r = fullR s_1 ps 
    q ks -> ∀ (sl : Sl) (h'_1 : PH), h'.le h'_1 -> Ints h'_1 sl r.1 -> branch (r.2 != 0) (K (CV.tup [cQn, cQi r.2]) m h'_1) (branch (decide ((↑sl.len : Int) > 12)) (K (CV.tup [cQn, cQi 
    2]) m h'_1) (K (CV.tup [cQs sl, cQi 0]) m h'_1))) (K (CV.tup [cQn, cQi 100]) m x.2.2)))))))))))
theorem f65_vc (N : Nat) (sc : SchV) (p : Sl) (v : QV) (m : MH) (h : PH) (K : CV → MH → PH → Prop) : f65_nice N sc p v m h K = (fnVC (f65_ctx N sc p v m) Tryz.f65 (bodyOf Tryz.f65) (entry Tryz.f65.ntmps [aS sc, cS p, aQ v] m h) K) := by kernel_rfl
theorem f92_ok {op : Int} {m : MH} {h : PH} {K : CV → MH → PH → Prop} (hK : branch (op == 1) (K (fv 112) m h) (branch (op == 2) (K (fv 113) m h) (branch (op == 3) (K (fv 114) m h) (branch (op == 4) (K (fv 115) m h) (branch (op == 5) (K (fv 116) m h) (branch (op == 6) (K (fv 117) m h) (branch (op == 7) (K (fv 117) m h) (branch (op == 8) (K (fv 117) m h) (branch (op == 9) (K (fv 118) m h) (branch (op == 10) (K (fv 119) m h) (K (.val .nilFunc) m h))))))))))) : f92_nice op m h (Weak h K) := by
  intro b m1 hb hm1
  refine ⟨_, _, ⟨hm1.at_⟩, by decide, fun m2 hm2 => ?_⟩
  have hsub : Sub m m2 := ((Sub.refl m).upd hb.m_ hm1.other).upd hb.m_ hm2.other
  have e := hm2.at_
  have none_ : ∀ k, ¬ (1 ≤ op ∧ op ≤ 10) → op = k → K (.val .nilFunc) m h := fun k hn _ => by
    have : (op == 1) = false ∧ (op == 2) = false ∧ (op == 3) = false ∧ (op == 4) = false ∧ (op == 5) = false ∧ (op == 6) = false ∧ (op == 7) = false ∧ (op == 8) = false ∧ (op == 9) = false ∧ (op == 10) = false := by
      simp only [beq_eq_false_iff_ne]; omega
    obtain ⟨e1, e2, e3, e4, e5, e6, e7, e8, e9, e10⟩ := this
    rw [e1, e2, e3, e4, e5, e6, e7, e8, e9, e10] at hK
    exact hK
  refine branch_dec (fun h1 => .sub hsub (none_ _ (by omega) rfl)) (fun h1 => branch_dec (fun h2 => .sub hsub (none_ _ (by omega) rfl)) (fun h2 => ⟨by omega, by omega, ?_⟩))
  have : op = 0 ∨ op = 1 ∨ op = 2 ∨ op = 3 ∨ op = 4 ∨ op = 5 ∨ op = 6 ∨ op = 7 ∨ op = 8 ∨ op = 9 ∨ op = 10 := by omega
  rcases this with rfl | rfl | rfl | rfl | rfl | rfl | rfl | rfl | rfl | rfl | rfl
  · exact ⟨none, .lent _ _ _ e rfl, .sub hsub (none_ 0 (by omega) rfl)⟩
  · exact ⟨some 112, .lent _ _ _ e rfl, .sub hsub hK⟩
  · exact ⟨some 113, .lent _ _ _ e rfl, .sub hsub hK⟩
  · exact ⟨some 114, .lent _ _ _ e rfl, .sub hsub hK⟩
  · exact ⟨some 115, .lent _ _ _ e rfl, .sub hsub hK⟩
  · exact ⟨some 116, .lent _ _ _ e rfl, .sub hsub hK⟩
  · exact ⟨some 117, .lent _ _ _ e rfl, .sub hsub hK⟩
  · exact ⟨some 117, .lent _ _ _ e rfl, .sub hsub hK⟩
  · exact ⟨some 117, .lent _ _ _ e rfl, .sub hsub hK⟩
  · exact ⟨some 118, .lent _ _ _ e rfl, .sub hsub hK⟩
  · exact ⟨some 119, .lent _ _ _ e rfl, .sub hsub hK⟩
theorem f92_sound : Sound Tryz.prog 92 OperatorS := by
  refine fn_sound' (fn := Tryz.f92) (c := bodyOf Tryz.f92) Tryz.func92 rfl (by decide) ?_
  rintro cvs m h K ⟨op, rfl, hK⟩
  refine ⟨ctx4 [] [] [] [] [175] [] false, rfl, specs_nil, ?_⟩
  rw [← f92_vc op m h _]
  exact f92_ok hK
theorem f65_ok {N : Nat} {sc : SchV} {p : Sl} {v : QV} {s : Sch} {ps : List Int} {q : Query} {m : MH} {h : PH} {K : CV → MH → PH → Prop} (hs : RepS h s sc) (h8 : small8 s) (hp : Ints h p ps) (hq : RepQ h q v) (hN : SizeOf.sizeOf q < N + 1) (hK : KR K m h (kindsQ s ps q)) : f65_nice N sc p v m h K := by
  have hlt := @qargs_lt q
  have hqr := hq
  obtain ⟨op, ta, w, co, on, gr, od, li, args⟩ := q
  have x := hq.parts
  have e0 := x.op_
  have hl := x.args_.slen
  have hlen := x.args_.len
  simp only [Query.args] at hlt
  simp only [kindsQ] at hK
  refine ⟨fun ⟨i, ss, hx⟩ => i ≤ args.length ∧ PH.le h hx ∧ ∃ ks, Slices hx ss ks ∧ (args.take i).map (kindsQ s ps) = ks.map (fun k => (k, 0)), fun ⟨i, _, _⟩ => args.length - i, ⟨(0, [], h), ⟨by omega, .refl _, [], ⟨rfl, fun j s k h1 => by simp at h1⟩, by simp⟩, MT⟩, ?_⟩
  rintro ⟨i, ss, hx⟩ ⟨hi, hle, ks, hS, hks⟩
  have hkl : ks.length = i := by have := congrArg List.length hks; simp at this; omega
  have hsl : ss.length = i := by rw [hS.1, hkl]
  dsimp only
  refine branch_dec (fun hlt2 => ?_) (fun hge => ?_)
  · obtain ⟨q', hq'⟩ := getx hl hlt2
    obtain ⟨b1, o1, u, ea1, r1, hru⟩ := (x.args_.mono hle).at hq'
    refine ⟨b1, o1, ea1, by omega, hlt2, u, .imm r1, sc, p, u, s, ps, q', rfl, hs.mono hle, h8, hp.mono hle, hru, ?_, fun sl h' hle' hi' => branch_intro (fun h1 => ?_) (fun h1 => ?_)⟩
    · have := hlt (List.mem_of_getElem? hq'); omega
    · have he : (kindsQ s ps q').2 ≠ 0 := by simpa using h1
      rw [kindsQs_err he hks hq' rfl] at hK
      exact hK.err (hle.trans hle') (if_neg he)
    · have he : (kindsQ s ps q').2 = 0 := by simpa using h1
      refine ⟨by simp; omega, by simp; omega, (i + 1, ss ++ [sl], h'), ⟨by omega, hle.trans hle', ks ++ [(kindsQ s ps q').1], (hS.mono hle').snoc hi', ?_⟩, by show args.length - (i + 1) < args.length - i; omega, ?_⟩
      · rw [map_take_succ hq', hks, List.map_append]
        simp only [List.map_cons, List.map_nil]
        rw [← he]
      · rw [List.map_append]; exact MT
  · rw [List.take_of_length_le (by omega)] at hks
    rw [kindsQs_ok hks] at hK
    simp only [if_true] at hK
    have hK : KR K m h (fullR s ps (.mk op ta w co on gr od li args) ks) := hK
    have hrep : ∀ (sl : Sl) (h' : PH), PH.le hx h' → RowIn h' sl 1 (ss.map eS) → RepN h' s ps (.mk op ta w co on gr od li args) ks ⟨sc, p, v, sl⟩ := fun sl h' hle' hrow => by
      refine ⟨(hs.mono hle).mono hle', (hp.mono hle).mono hle', (hqr.mono hle).mono hle', ⟨⟨ss, hrow, hS.1.symm, fun j k hk => ?_⟩, by omega⟩, fun k hk => ?_⟩
      · have hj : j < ss.length := by rw [hS.1]; exact (List.getElem?_eq_some_iff.1 hk).1
        exact ⟨ss[j], List.getElem?_eq_getElem hj, (hS.2 j _ _ (List.getElem?_eq_getElem hj) hk).mono hle'⟩
      · obtain ⟨j, hj⟩ := List.mem_iff_getElem?.1 hk
        have := kinds_len hks j
        rwa [List.getD_eq_getElem?_getD, hj] at this
    have tail : ∀ (h' : PH), PH.le hx h' → ∀ r, fin r = fullR s ps (.mk op ta w co on gr od li args) ks → ∀ (sl : Sl) (h'' : PH), PH.le h' h'' → Ints h'' sl r.1 →
        branch (r.2 != 0) (K (.tup [.val (.slice none 0 0), .val (.int .i64 r.2)]) m h'') (branch (decide ((sl.len : Int) > 12)) (K (.tup [.val (.slice none 0 0), .val (.int .i64 2)]) m h'') (K (.tup [.val (.slice sl.a sl.len sl.cap), .val (.int .i64 0)]) m h'')) := by
      intro h' hle' r hr sl h'' hle2 hi'
      have hl3 : PH.le h h'' := (hle.trans hle').trans hle2
      rw [← hr] at hK
      have hsl := hi'.slen
      refine branch_intro (fun d1 => ?_) (fun d1 => branch_dec (fun d2 => ?_) (fun d2 => ?_))
      · have d1 : r.2 ≠ 0 := by simpa using d1
        exact hK.err hl3 (by unfold fin; rw [if_neg d1])
      · have d1 : r.2 = 0 := by simpa using d1
        exact hK.big (l := r.1) hl3 (by unfold fin; rw [if_pos d1]) (by omega)
      · have d1 : r.2 = 0 := by simpa using d1
        exact hK.ok (l := r.1) hl3 (by unfold fin; rw [if_pos d1]) (by omega) hi'.row
    refine ⟨v.op, rfl, ?_⟩
    rw [e0]
    refine branch_intro (fun c1 sl h' hle' hrow => ⟨⟨sc, p, v, sl⟩, s, ps, _, ks, by rw [← e0], hrep sl h' hle' hrow, h8, beq_iff_eq.1 c1, tail h' hle'⟩) (fun c1 => ?_)
    refine branch_intro (fun c2 sl h' hle' hrow => ⟨⟨sc, p, v, sl⟩, s, ps, _, ks, by rw [← e0], hrep sl h' hle' hrow, h8, beq_iff_eq.1 c2, tail h' hle'⟩) (fun c2 => ?_)
    refine branch_intro (fun c3 sl h' hle' hrow => ⟨⟨sc, p, v, sl⟩, s, ps, _, ks, by rw [← e0], hrep sl h' hle' hrow, h8, beq_iff_eq.1 c3, tail h' hle'⟩) (fun c3 => ?_)
    refine branch_intro (fun c4 sl h' hle' hrow => ⟨⟨sc, p, v, sl⟩, s, ps, _, ks, by rw [← e0], hrep sl h' hle' hrow, h8, beq_iff_eq.1 c4, tail h' hle'⟩) (fun c4 => ?_)
    refine branch_intro (fun c5 sl h' hle' hrow => ⟨⟨sc, p, v, sl⟩, s, ps, _, ks, by rw [← e0], hrep sl h' hle' hrow, h8, beq_iff_eq.1 c5, tail h' hle'⟩) (fun c5 => ?_)
    refine branch_intro (fun c6 sl h' hle' hrow => ⟨⟨sc, p, v, sl⟩, s, ps, _, ks, by rw [← e0], hrep sl h' hle' hrow, h8, .inl (beq_iff_eq.1 c6), tail h' hle'⟩) (fun c6 => ?_)
    refine branch_intro (fun c7 sl h' hle' hrow => ⟨⟨sc, p, v, sl⟩, s, ps, _, ks, by rw [← e0], hrep sl h' hle' hrow, h8, .inr (.inl (beq_iff_eq.1 c7)), tail h' hle'⟩) (fun c7 => ?_)
    refine branch_intro (fun c8 sl h' hle' hrow => ⟨⟨sc, p, v, sl⟩, s, ps, _, ks, by rw [← e0], hrep sl h' hle' hrow, h8, .inr (.inr (beq_iff_eq.1 c8)), tail h' hle'⟩) (fun c8 => ?_)
    refine branch_intro (fun c9 sl h' hle' hrow => ⟨⟨sc, p, v, sl⟩, s, ps, _, ks, by rw [← e0], hrep sl h' hle' hrow, h8, beq_iff_eq.1 c9, tail h' hle'⟩) (fun c9 => ?_)
    refine branch_intro (fun c10 sl h' hle' hrow => ⟨⟨sc, p, v, sl⟩, s, ps, _, ks, by rw [← e0], hrep sl h' hle' hrow, h8, beq_iff_eq.1 c10, tail h' hle'⟩) (fun c10 => hK.err hle ?_)
    refine full_bad fun e => ?_
    have : arity op = -1 := by simp only [arity]; simp only [*, Bool.or_false, Bool.false_or, Bool.or_true, Bool.true_or, Bool.and_true, Bool.true_and, Bool.and_false, Bool.false_and, Bool.not_true, Bool.not_false, Bool.false_eq_true, if_true, if_false, ↓reduceIte]
    have := e.1
    simp only [Query.op] at this
    omega
theorem f112_sound : Sound Tryz.prog 112 (TestS (· = 1)) := by
  refine fn_sound (fn := Tryz.f112) (c := bodyOf Tryz.f112) Tryz.func112 rfl (by decide) ?_
  rintro cvs m h K ⟨n, s, ps, q, ks, rfl, hn, h8, hop, hT⟩
  obtain ⟨op, ta, w, co, on, gr, od, li, args⟩ := q
  refine ⟨ctx2 [(126, PlainNS), (62, KindsOfS)] [] [] [] false, rfl, (specs_cons f126_sound (specs_cons f62_sound specs_nil)), ?_⟩
  rw [← f112_vc n m h K]
  cases (show op = 1 from hop)
  exact f112_ok hn h8 ⟨hT⟩
theorem f113_sound : Sound Tryz.prog 113 (TestS (· = 2)) := by
  refine fn_sound (fn := Tryz.f113) (c := bodyOf Tryz.f113) Tryz.func113 rfl (by decide) ?_
  rintro cvs m h K ⟨n, s, ps, q, ks, rfl, hn, h8, hop, hT⟩
  obtain ⟨op, ta, w, co, on, gr, od, li, args⟩ := q
  refine ⟨ctx2 [(126, PlainNS), (63, PredCheckS)] [] [] [] false, rfl, (specs_cons f126_sound (specs_cons f63_sound specs_nil)), ?_⟩
  rw [← f113_vc n m h K]
  cases (show op = 2 from hop)
  exact f113_ok hn ⟨hT⟩
theorem f114_sound : Sound Tryz.prog 114 (TestS (· = 3)) := by
  refine fn_sound (fn := Tryz.f114) (c := bodyOf Tryz.f114) Tryz.func114 rfl (by decide) ?_
  rintro cvs m h K ⟨n, s, ps, q, ks, rfl, hn, h8, hop, hT⟩
  obtain ⟨op, ta, w, co, on, gr, od, li, args⟩ := q
  refine ⟨f114_ctx n m h, rfl, (specs_cons f126_sound specs_nil), ?_⟩
  rw [← f114_vc n m h K]
  cases (show op = 3 from hop)
  exact f114_ok hn ⟨hT⟩
theorem f115_sound (h101 : Sound Tryz.prog 101 ConcatS) : Sound Tryz.prog 115 (TestS (· = 4)) := by
  refine fn_sound (fn := Tryz.f115) (c := bodyOf Tryz.f115) Tryz.func115 rfl (by decide) ?_
  rintro cvs m h K ⟨n, s, ps, q, ks, rfl, hn, h8, hop, hT⟩
  obtain ⟨op, ta, w, co, on, gr, od, li, args⟩ := q
  refine ⟨ctx2 [(127, PairedNS), (101, ConcatS)] [] [] [] false, rfl, (specs_cons f127_sound (specs_cons h101 specs_nil)), ?_⟩
  rw [← f115_vc n m h K]
  cases (show op = 4 from hop)
  exact f115_ok hn ⟨hT⟩
theorem f116_sound : Sound Tryz.prog 116 (TestS (· = 5)) := by
  refine fn_sound (fn := Tryz.f116) (c := bodyOf Tryz.f116) Tryz.func116 rfl (by decide) ?_
  rintro cvs m h K ⟨n, s, ps, q, ks, rfl, hn, h8, hop, hT⟩
  obtain ⟨op, ta, w, co, on, gr, od, li, args⟩ := q
  refine ⟨ctx2 [(127, PairedNS)] [] [] [] false, rfl, (specs_cons f127_sound specs_nil), ?_⟩
  rw [← f116_vc n m h K]
  cases (show op = 5 from hop)
  exact f116_ok hn ⟨hT⟩
theorem f117_sound : Sound Tryz.prog 117 (TestS (fun op => op = 6 ∨ op = 7 ∨ op = 8)) := by
  refine fn_sound (fn := Tryz.f117) (c := bodyOf Tryz.f117) Tryz.func117 rfl (by decide) ?_
  rintro cvs m h K ⟨n, s, ps, q, ks, rfl, hn, h8, hop, hT⟩
  obtain ⟨op, ta, w, co, on, gr, od, li, args⟩ := q
  refine ⟨ctx2 [(126, PlainNS), (99, SameInts)] [] [] [] false, rfl, (specs_cons f126_sound (specs_cons f99_sound specs_nil)), ?_⟩
  rw [← f117_vc n m h K]
  exact f117_ok hop hn ⟨hT⟩
theorem f118_sound : Sound Tryz.prog 118 (TestS (· = 9)) := by
  refine fn_sound (fn := Tryz.f118) (c := bodyOf Tryz.f118) Tryz.func118 rfl (by decide) ?_
  rintro cvs m h K ⟨n, s, ps, q, ks, rfl, hn, h8, hop, hT⟩
  obtain ⟨op, ta, w, co, on, gr, od, li, args⟩ := q
  refine ⟨ctx2 [(126, PlainNS), (128, RankingS), (129, RankedNS)] [] [] [] false, rfl, (specs_cons f126_sound (specs_cons f128_sound (specs_cons f129_sound specs_nil))), ?_⟩
  rw [← f118_vc n m h K]
  cases (show op = 9 from hop)
  exact f118_ok hn ⟨hT⟩
theorem f119_sound : Sound Tryz.prog 119 (TestS (· = 10)) := by
  refine fn_sound (fn := Tryz.f119) (c := bodyOf Tryz.f119) Tryz.func119 rfl (by decide) ?_
  rintro cvs m h K ⟨n, s, ps, q, ks, rfl, hn, h8, hop, hT⟩
  obtain ⟨op, ta, w, co, on, gr, od, li, args⟩ := q
  refine ⟨ctx2 [(126, PlainNS), (99, SameInts), (128, RankingS), (129, RankedNS)] [] [] [] false, rfl, (specs_cons f126_sound (specs_cons f99_sound (specs_cons f128_sound (specs_cons f129_sound specs_nil)))), ?_⟩
  rw [← f119_vc n m h K]
  cases (show op = 10 from hop)
  exact f119_ok hn ⟨hT⟩
theorem f65_all (h101 : Sound Tryz.prog 101 ConcatS) : ∀ N, Sound Tryz.prog 65 (KindsQS N)
  | 0 => by
    refine fn_sound (fn := Tryz.f65) (c := bodyOf Tryz.f65) Tryz.func65 rfl (by decide) ?_
    rintro cvs m h K ⟨sc, p, v, s, ps, q, rfl, _, _, _, _, hN, _⟩
    omega
  | N + 1 => by
    refine fn_sound (fn := Tryz.f65) (c := bodyOf Tryz.f65) Tryz.func65 rfl (by decide) ?_
    rintro cvs m h K ⟨sc, p, v, s, ps, q, rfl, hs, h8, hp, hq, hN, hK⟩
    refine ⟨f65_ctx N sc p v m, rfl, (specs_cons (f65_all h101 N) (specs_cons f92_sound (specs_cons f112_sound (specs_cons f113_sound (specs_cons f114_sound (specs_cons (f115_sound h101) (specs_cons f116_sound (specs_cons f117_sound (specs_cons f118_sound (specs_cons f119_sound specs_nil)))))))))), ?_⟩
    rw [← f65_vc N sc p v m h K]
    exact f65_ok hs h8 hp hq hN hK
end Go.Ps
namespace Go.Ps
open Go Go.Vc Go.Proofs
def zeroPV : PV := ⟨0, 0, zeroO, zeroO, ⟨none, 0, 0⟩⟩
def CopyPS (N : Nat) : Vc.Spec := fun cvs m h K => ∃ v p, cvs = [aP v] ∧ RepP h p v ∧ SizeOf.sizeOf p < N ∧ ∀ v' h', PH.le h h' → RepP h' p v' → K (aP v') m h'
def CopyPA : Vc.Spec := fun cvs m h K => ∃ v p, cvs = [aP v] ∧ RepP h p v ∧ ∀ v' h', PH.le h h' → RepP h' p v' → K (aP v') m h'
def CloneIS : Vc.Spec := fun cvs m h K => ∃ s l, cvs = [cS s] ∧ Ints h s l ∧ ∀ s' h', PH.le h h' → Ints h' s' l → K (cS s') m h'
def ClonePS : Vc.Spec := fun cvs m h K => ∃ s l, cvs = [cS s] ∧ Pairs h s l ∧ ∀ s' h', PH.le h h' → Pairs h' s' l → K (cS s') m h'
def CloneSS : Vc.Spec := fun cvs m h K => ∃ s l, cvs = [cS s] ∧ Sorts h s l ∧ ∀ s' h', PH.le h h' → Sorts h' s' l → K (cS s') m h'
noncomputable def f66_ctx (N : Nat) (v : PV) (m : MH) : Ctx :=
  ctx2 [(66, CopyPS N)] [(4, { A := Nat × List PV × PH, st := fun ⟨i, us, h⟩ => mkSt 24 25 [(1, .at (.ptr 1 0)), (2, .at (.ptr 2 0)), (9, sv v.args), (10, iv v.args.len), (11, iv i)] [(1, .cells 38 ((v.enc.take 12).map .val ++ [.lst 20])), (2, .cells 38 (zeroPV.enc.map .val)), (20, .lst 38 13 (us.map PV.enc))] m h })] [] [] false
def f66_nice (N : Nat) (v : PV) (m : MH) (h : PH) (K : CV → MH → PH → Prop) : Prop :=
    ∃ (I : Nat × List PV × PH -> Prop), ∃ (mu : Nat × List PV × PH -> Nat), (∃ (x : Nat × List PV × PH), I x /\ eQ (sQp 1 0) /\ eQ (sQp 2 0) /\ eQ (sQs v.args) /\ eQ (sQi (↑v.args.len 
    : Int)) /\ sQi 0 = sQi (↑x.1 : Int) /\ eQ (oQ 38 [aQi v.op, aQi v.cmp, aQi v.left.kind, aQi v.left.index, aQi v.left.value.kind, aQi v.left.value.int, At.val (Value.string 
    v.left.value.text), aQi v.right.kind, aQi v.right.index, aQi v.right.value.kind, aQi v.right.value.int, At.val (Value.string v.right.value.text), At.lst 20]) /\ eQ (oQ 38 zP) /\ 
    some (Own.lst 38 13 []) = some (Own.lst 38 13 (List.map PV.enc x.2.1)) /\ m = m /\ h = x.2.2 /\ True) /\ ∀ (x : Nat × List PV × PH), I x -> branch (decide ((↑x.1 : Int) < 
    (↑v.args.len : Int))) (∃ (b : Nat), ∃ (off : Nat), v.args.a = some (Addr.mk b off none) /\ 0 <= (↑x.1 : Int) /\ (↑x.1 : Int) < (↑v.args.len : Int) /\ ∃ (y : PV), RdAt m x.2.2 b 
    (off + (↑x.1 : Int).toNat * 13) (PV.enc y) /\ ∃ (v_1 : PV), ∃ (p : Pred), [cQa (PV.enc y)] = [cQa (PV.enc v_1)] /\ RepP x.2.2 p v_1 /\ SizeOf.sizeOf p < N /\ ∀ (v' : PV) (h' : PH), 
    x.2.2.le h' -> RepP h' p v' -> ((List.map PV.enc x.2.1).length + 1) * 136 <= 140737488355328 /\ (List.map PV.enc x.2.1).length < 140737488355328 /\ ∃ (y : Nat × List PV × PH), I y 
    /\ mu y < mu x /\ eQ (sQp 1 0) /\ eQ (sQp 2 0) /\ eQ (sQs v.args) /\ eQ (sQi (↑v.args.len : Int)) /\ sQi (IntKind.i64.wrap ((↑x.1 : Int) + 1)) = sQi (↑y.1 : Int) /\ eQ (oQ 38 [aQi 
    v.op, aQi v.cmp, aQi v.left.kind, aQi v.left.index, aQi v.left.value.kind, aQi v.left.value.int, At.val (Value.string v.left.value.text), aQi v.right.kind, aQi v.right.index, aQi 
    v.right.value.kind, aQi v.right.value.int, At.val (Value.string v.right.value.text), At.lst 20]) /\ eQ (oQ 38 zP) /\ some (Own.lst 38 13 (List.map PV.enc x.2.1 ++ [[vQi v'.op, vQi 
    v'.cmp, vQi v'.left.kind, vQi v'.left.index, vQi v'.left.value.kind, vQi v'.left.value.int, Value.string v'.left.value.text, vQi v'.right.kind, vQi v'.right.index, vQi 
    v'.right.value.kind, vQi v'.right.value.int, Value.string v'.right.value.text, Value.slice v'.args.a v'.args.len v'.args.cap]])) = some (Own.lst 38 13 (List.map PV.enc y.2.1)) /\ m 
    = m /\ h' = y.2.2 /\ True) (∀ (s : Sl) (h' : PH), x.2.2.le h' -> RowIn h' s 13 (List.map PV.enc x.2.1) -> K (cQa [vQi v.op, vQi v.cmp, vQi v.left.kind, vQi v.left.index, vQi 
    v.left.value.kind, vQi v.left.value.int, Value.string v.left.value.text, vQi v.right.kind, vQi v.right.index, vQi v.right.value.kind, vQi v.right.value.int, Value.string 
    v.right.value.text, vQs s]) m h')
theorem f66_vc (N : Nat) (v : PV) (m : MH) (h : PH) (K : CV → MH → PH → Prop) : f66_nice N v m h K = (fnVC (f66_ctx N v m) Tryz.f66 (bodyOf Tryz.f66) (entry Tryz.f66.ntmps [aP v] m h) K) := by kernel_rfl
def f67n_nice (n c : Nat) (m : MH) (h : PH) (K : CV → MH → PH → Prop) : Prop :=
    K (cQn) m h
theorem f67n_vc (n c : Nat) (m : MH) (h : PH) (K : CV → MH → PH → Prop) : f67n_nice n c m h K = (fnVC (ctx2 [] [] [] [] false) Tryz.f67 (bodyOf Tryz.f67) (entry Tryz.f67.ntmps [.val (.slice none n c)] m h) K) := by kernel_rfl
def f67s_nice (a : Addr) (n c : Nat) (m : MH) (h : PH) (K : CV → MH → PH → Prop) : Prop :=
    ∃ (ys : List (List Value)), RowsOk 1 ys /\ RowIn h (Sl.mk (some a) n c) 1 ys /\ (0 + ys.length) * 8 <= 140737488355328 /\ 0 + ys.length <= 140737488355328 /\ ∀ (s : Sl) (h' : PH), 
    h.le h' -> RowIn h' s 1 ([] ++ ys) -> K (cQs s) m h'
theorem f67s_vc (a : Addr) (n c : Nat) (m : MH) (h : PH) (K : CV → MH → PH → Prop) : f67s_nice a n c m h K = (fnVC (ctx2 [] [] [] [] false) Tryz.f67 (bodyOf Tryz.f67) (entry Tryz.f67.ntmps [.val (.slice (some a) n c)] m h) K) := by kernel_rfl
def f68n_nice (n c : Nat) (m : MH) (h : PH) (K : CV → MH → PH → Prop) : Prop :=
    K (cQn) m h
theorem f68n_vc (n c : Nat) (m : MH) (h : PH) (K : CV → MH → PH → Prop) : f68n_nice n c m h K = (fnVC (ctx2 [] [] [] [] false) Tryz.f68 (bodyOf Tryz.f68) (entry Tryz.f68.ntmps [.val (.slice none n c)] m h) K) := by kernel_rfl
def f68s_nice (a : Addr) (n c : Nat) (m : MH) (h : PH) (K : CV → MH → PH → Prop) : Prop :=
    ∃ (ys : List (List Value)), RowsOk 2 ys /\ RowIn h (Sl.mk (some a) n c) 2 ys /\ (0 + ys.length) * 16 <= 140737488355328 /\ 0 + ys.length <= 140737488355328 /\ ∀ (s : Sl) (h' : PH), 
    h.le h' -> RowIn h' s 2 ([] ++ ys) -> K (cQs s) m h'
theorem f68s_vc (a : Addr) (n c : Nat) (m : MH) (h : PH) (K : CV → MH → PH → Prop) : f68s_nice a n c m h K = (fnVC (ctx2 [] [] [] [] false) Tryz.f68 (bodyOf Tryz.f68) (entry Tryz.f68.ntmps [.val (.slice (some a) n c)] m h) K) := by kernel_rfl
def f69n_nice (n c : Nat) (m : MH) (h : PH) (K : CV → MH → PH → Prop) : Prop :=
    K (cQn) m h
theorem f69n_vc (n c : Nat) (m : MH) (h : PH) (K : CV → MH → PH → Prop) : f69n_nice n c m h K = (fnVC (ctx2 [] [] [] [] false) Tryz.f69 (bodyOf Tryz.f69) (entry Tryz.f69.ntmps [.val (.slice none n c)] m h) K) := by kernel_rfl
def f69s_nice (a : Addr) (n c : Nat) (m : MH) (h : PH) (K : CV → MH → PH → Prop) : Prop :=
    ∃ (ys : List (List Value)), RowsOk 2 ys /\ RowIn h (Sl.mk (some a) n c) 2 ys /\ (0 + ys.length) * 16 <= 140737488355328 /\ 0 + ys.length <= 140737488355328 /\ ∀ (s : Sl) (h' : PH), 
    h.le h' -> RowIn h' s 2 ([] ++ ys) -> K (cQs s) m h'
theorem f69s_vc (a : Addr) (n c : Nat) (m : MH) (h : PH) (K : CV → MH → PH → Prop) : f69s_nice a n c m h K = (fnVC (ctx2 [] [] [] [] false) Tryz.f69 (bodyOf Tryz.f69) (entry Tryz.f69.ntmps [.val (.slice (some a) n c)] m h) K) := by kernel_rfl
theorem f66_ok {N : Nat} {v : PV} {p : Pred} {m : MH} {h : PH} {K : CV → MH → PH → Prop} (hp : RepP h p v) (hN : SizeOf.sizeOf p < N + 1) (hK : ∀ v' h', PH.le h h' → RepP h' p v' → K (aP v') m h') : f66_nice N v m h K := by
  have hargs := @args_lt p
  obtain ⟨op, cmp, l, r, ps⟩ := p
  obtain ⟨rfl, rfl, rfl, rfl, ha⟩ := hp.parts
  have hl := ha.slen
  have hlen := ha.len
  simp only [Pred.args] at hargs
  refine ⟨fun ⟨i, us, hx⟩ => i ≤ ps.length ∧ PH.le h hx ∧ us.length = i ∧ ∀ (j : Nat) x, (ps.take i)[j]? = some x → ∃ u, us[j]? = some u ∧ RepP hx x u, fun ⟨i, _, _⟩ => ps.length - i, ⟨(0, [], h), ⟨by omega, .refl _, rfl, fun j x hx => by simp at hx⟩, MT⟩, ?_⟩
  rintro ⟨i, us, hx⟩ ⟨hi, hle, hul, hus⟩
  dsimp only
  refine branch_dec (fun hlt => ?_) (fun hge sl h' hle' hrow => hK ⟨v.op, v.cmp, v.left, v.right, sl⟩ h' (hle.trans hle') (RepP.mk (v := ⟨v.op, v.cmp, v.left, v.right, sl⟩) ⟨⟨us, hrow, by omega, fun j x hx => ?_⟩, hlen⟩))
  · obtain ⟨q, hq⟩ := getx hl hlt
    obtain ⟨b1, o1, u, e1, r1, hru⟩ := (ha.mono hle).at hq
    refine ⟨b1, o1, e1, by omega, hlt, u, .imm r1, u, q, rfl, hru, ?_, fun v' h' hle' hr' => ⟨by simp; omega, by simp; omega, (i + 1, us ++ [v'], h'), ⟨by omega, hle.trans hle', by simp [hul], fun j x hx => ?_⟩, by show ps.length - (i + 1) < ps.length - i; omega, ?_⟩⟩
    · have := hargs (List.mem_of_getElem? hq); omega
    · rw [List.take_add_one, hq] at hx
      by_cases hj : j < i
      · rw [List.getElem?_append_left (by simp; omega)] at hx
        obtain ⟨u', h1, h2⟩ := hus j x hx
        exact ⟨u', by rw [List.getElem?_append_left (by omega)]; exact h1, h2.mono hle'⟩
      · rw [List.getElem?_append_right (by simp; omega)] at hx
        have hjl := (List.getElem?_eq_some_iff.1 hx).1
        simp at hjl
        have : j = i := by omega
        subst this
        simp only [List.length_take, Nat.min_eq_left hi, Nat.sub_self] at hx
        simp at hx
        subst hx
        exact ⟨v', by rw [List.getElem?_append_right (by omega), hul]; simp, hr'⟩
    · rw [List.map_append]; exact MT
  · rw [List.take_of_length_le (by omega)] at hus
    obtain ⟨u, h1, h2⟩ := hus j x hx
    exact ⟨u, h1, h2.mono hle'⟩
theorem f66_all : ∀ N, Sound Tryz.prog 66 (CopyPS N)
  | 0 => by
    refine fn_sound (fn := Tryz.f66) (c := bodyOf Tryz.f66) Tryz.func66 rfl (by decide) ?_
    rintro cvs m h K ⟨v, p, rfl, _, hN, _⟩
    omega
  | N + 1 => by
    refine fn_sound (fn := Tryz.f66) (c := bodyOf Tryz.f66) Tryz.func66 rfl (by decide) ?_
    rintro cvs m h K ⟨v, p, rfl, hp, hN, hK⟩
    refine ⟨f66_ctx N v m, rfl, specs_cons (f66_all N) specs_nil, ?_⟩
    rw [← f66_vc N v m h K]
    exact f66_ok hp hN hK
theorem f66_sound : Sound Tryz.prog 66 CopyPA := sound_of_all f66_all fun _ _ _ _ ⟨v, p, e, h1, h2⟩ => ⟨SizeOf.sizeOf p + 1, v, p, e, h1, by omega, h2⟩
theorem rowsOk_pairs (l : List (Int × Int)) : RowsOk 2 (l.map pairEnc) := by
  constructor
  · intro e he; obtain ⟨x, _, rfl⟩ := List.mem_map.1 he; rfl
  · intro e he u hu; obtain ⟨x, _, rfl⟩ := List.mem_map.1 he; simp [pairEnc] at hu; rcases hu with rfl | rfl <;> rfl
theorem rowsOk_sorts (l : List (Int × Bool)) : RowsOk 2 (l.map sortEnc) := by
  constructor
  · intro e he; obtain ⟨x, _, rfl⟩ := List.mem_map.1 he; rfl
  · intro e he u hu; obtain ⟨x, _, rfl⟩ := List.mem_map.1 he; simp [sortEnc] at hu; rcases hu with rfl | rfl <;> rfl
theorem row_none {h : PH} {n c sz : Nat} {α : Type} {enc : α → List Value} {l : List α} (r : RowIn h ⟨none, n, c⟩ sz (l.map enc)) : l = [] := by
  rcases r.row with e | ⟨b, o, e, _⟩
  · simpa using e
  · cases e
theorem f67_sound : Sound Tryz.prog 67 CloneIS := by
  refine fn_sound (fn := Tryz.f67) (c := bodyOf Tryz.f67) Tryz.func67 rfl (by decide) ?_
  rintro cvs m h K ⟨⟨a, n, c⟩, l, rfl, hl, hK⟩
  refine ⟨ctx2 [] [] [] [] false, rfl, specs_nil, ?_⟩
  have hlen := hl.len
  cases a with
  | none =>
    have e := row_none hl.row
    subst e
    show fnVC _ _ _ (entry Tryz.f67.ntmps [.val (.slice none n c)] m h) K
    rw [← f67n_vc n c m h K]
    exact hK ⟨none, 0, 0⟩ h (.refl _) ⟨.nil _ _, by simp⟩
  | some a =>
    show fnVC _ _ _ (entry Tryz.f67.ntmps [.val (.slice (some a) n c)] m h) K
    rw [← f67s_vc a n c m h K]
    exact ⟨_, rowsOk_ints l, hl.row, by simp; omega, by simp; omega, fun s' h' hle hrow => hK s' h' hle ⟨hrow, hlen⟩⟩
theorem f68_sound : Sound Tryz.prog 68 ClonePS := by
  refine fn_sound (fn := Tryz.f68) (c := bodyOf Tryz.f68) Tryz.func68 rfl (by decide) ?_
  rintro cvs m h K ⟨⟨a, n, c⟩, l, rfl, hl, hK⟩
  refine ⟨ctx2 [] [] [] [] false, rfl, specs_nil, ?_⟩
  have hlen := hl.len
  cases a with
  | none =>
    have e := row_none hl.row
    subst e
    show fnVC _ _ _ (entry Tryz.f68.ntmps [.val (.slice none n c)] m h) K
    rw [← f68n_vc n c m h K]
    exact hK ⟨none, 0, 0⟩ h (.refl _) ⟨.nil _ _, by simp⟩
  | some a =>
    show fnVC _ _ _ (entry Tryz.f68.ntmps [.val (.slice (some a) n c)] m h) K
    rw [← f68s_vc a n c m h K]
    exact ⟨_, rowsOk_pairs l, hl.row, by simp; omega, by simp; omega, fun s' h' hle hrow => hK s' h' hle ⟨hrow, hlen⟩⟩
theorem f69_sound : Sound Tryz.prog 69 CloneSS := by
  refine fn_sound (fn := Tryz.f69) (c := bodyOf Tryz.f69) Tryz.func69 rfl (by decide) ?_
  rintro cvs m h K ⟨⟨a, n, c⟩, l, rfl, hl, hK⟩
  refine ⟨ctx2 [] [] [] [] false, rfl, specs_nil, ?_⟩
  have hlen := hl.len
  cases a with
  | none =>
    have e := row_none hl.row
    subst e
    show fnVC _ _ _ (entry Tryz.f69.ntmps [.val (.slice none n c)] m h) K
    rw [← f69n_vc n c m h K]
    exact hK ⟨none, 0, 0⟩ h (.refl _) ⟨.nil _ _, by simp⟩
  | some a =>
    show fnVC _ _ _ (entry Tryz.f69.ntmps [.val (.slice (some a) n c)] m h) K
    rw [← f69s_vc a n c m h K]
    exact ⟨_, rowsOk_sorts l, hl.row, by simp; omega, by simp; omega, fun s' h' hle hrow => hK s' h' hle ⟨hrow, hlen⟩⟩
end Go.Ps
namespace Go.Ps
open Go Go.Vc Go.Proofs
def Vals (h : PH) (s : Sl) (l : List VV) : Prop := RepL h 3 VV.enc Eq s l
theorem Vals.mono {h h' : PH} {s : Sl} {l : List VV} (x : Vals h s l) (le : PH.le h h') : Vals h' s l := RepL.mono x le fun _ _ e => e
def bindO (ps : List VV) (o : OV) : OV := if o.kind = 2 ∧ 0 ≤ o.index ∧ o.index < ps.length then ⟨3, 0, ps.getD o.index.toNat zeroV⟩ else o
mutual
def bindP (ps : List VV) : Pred → Pred
  | .mk op cmp l r args => .mk op cmp (bindO ps l) (bindO ps r) (bindPs ps args)
def bindPs (ps : List VV) : List Pred → List Pred
  | [] => []
  | p :: r => bindP ps p :: bindPs ps r
end
theorem bindPs_map (ps : List VV) : ∀ l, bindPs ps l = l.map (bindP ps)
  | [] => by simp [bindPs]
  | p :: r => by simp [bindPs, bindPs_map ps r]
theorem bindO_nil (o : OV) : bindO [] o = o := by unfold bindO; rw [if_neg]; simp
mutual
theorem bindP_nil : ∀ p, bindP [] p = p
  | .mk op cmp l r args => by simp only [bindP, bindO_nil, bindPs_nil args]
theorem bindPs_nil : ∀ l, bindPs [] l = l
  | [] => by simp [bindPs]
  | p :: r => by simp only [bindPs, bindP_nil p, bindPs_nil r]
end
structure Step where
  op : Int
  table : Int
  wher : Pred
  columns : List Int
  on : List (Int × Int)
  group : List Int
  order : List (Int × Bool)
  limit : Int
  left : Int
  right : Int
def Step.query (t : Step) : Query := .mk t.op t.table t.wher t.columns t.on t.group t.order t.limit []
structure RepSt (h : PH) (t : Step) (v : SV2) : Prop where
  op_ : v.op = t.op
  table_ : v.table = t.table
  where_ : RepP h t.wher v.where_
  columns_ : Ints h v.columns t.columns
  on_ : Pairs h v.on t.on
  group_ : Ints h v.group t.group
  order_ : Sorts h v.order t.order
  limit_ : v.limit = t.limit
  left_ : v.left = t.left
  right_ : v.right = t.right
theorem RepSt.mono {h h' : PH} {t : Step} {v : SV2} (x : RepSt h t v) (le : PH.le h h') : RepSt h' t v := ⟨x.op_, x.table_, x.where_.mono le, x.columns_.mono le, x.on_.mono le, x.group_.mono le, x.order_.mono le, x.limit_, x.left_, x.right_⟩
def aT (v : SV2) : CV := .val (.agg ⟨v.enc⟩)
def zeroQV : QV := ⟨0, 0, zeroPV, ⟨none, 0, 0⟩, ⟨none, 0, 0⟩, ⟨none, 0, 0⟩, ⟨none, 0, 0⟩, 0, ⟨none, 0, 0⟩⟩
def BoundS : Vc.Spec := fun cvs m h K => ∃ o s ps, cvs = [aO o, cS s] ∧ Vals h s ps ∧ K (aO (bindO ps o)) m h
def BindS (N : Nat) : Vc.Spec := fun cvs m h K => ∃ v s p ps, cvs = [aP v, cS s] ∧ RepP h p v ∧ Vals h s ps ∧ SizeOf.sizeOf p < N ∧ ∀ v' h', PH.le h h' → RepP h' (bindP ps p) v' → K (aP v') m h'
def BindA : Vc.Spec := fun cvs m h K => ∃ v s p ps, cvs = [aP v, cS s] ∧ RepP h p v ∧ Vals h s ps ∧ ∀ v' h', PH.le h h' → RepP h' (bindP ps p) v' → K (aP v') m h'
def CopyQS (N : Nat) : Vc.Spec := fun cvs m h K => ∃ v q, cvs = [aQ v] ∧ RepQ h q v ∧ SizeOf.sizeOf q < N ∧ ∀ v' h', PH.le h h' → RepQ h' q v' → K (aQ v') m h'
def CopyQA : Vc.Spec := fun cvs m h K => ∃ v q, cvs = [aQ v] ∧ RepQ h q v ∧ ∀ v' h', PH.le h h' → RepQ h' q v' → K (aQ v') m h'
def NodeTS : Vc.Spec := fun cvs m h K => ∃ v t, cvs = [aT v] ∧ RepSt h t v ∧ ∀ v' h', PH.le h h' → RepQ h' t.query v' → K (aQ v') m h'
def SameTS : Vc.Spec := fun cvs m h K => ∃ v w t u, cvs = [aT v, aT w] ∧ RepSt h t v ∧ RepSt h u w ∧ ∀ r : Bool, (r = true ↔ t = u) → K (cB r) m h
noncomputable def f58_ctx (N : Nat) (v : PV) (s : Sl) (m : MH) (h : PH) : Ctx :=
  ctx2 [(58, BindS N), (84, BoundS)] [(3, { A := Nat × OV × OV × List PV × PH, st := fun ⟨i, l, r, us, h⟩ => mkSt 40 42 [(1, sv s), (2, .at (.ptr 2 0)), (4, .at (.ptr 4 0)), (5, .at (.ptr 5 0)), (22, iv v.args.len), (23, iv i)] [(2, .cells 38 (v.enc.map .val)), (4, .cells 38 (zeroPV.enc.map .val)), (5, .cells 38 (([Value.int .i64 v.op, Value.int .i64 v.cmp] ++ l.enc ++ r.enc).map .val ++ [.lst 36])), (36, .lst 38 13 (us.map PV.enc))] m h })]
   [(2, { A := OV × OV, st := fun ⟨l, r⟩ => mkSt 40 42 [(1, sv s), (2, .at (.ptr 2 0)), (4, .at (.ptr 4 0)), (5, .at (.ptr 5 0))] [(2, .cells 38 (v.enc.map .val)), (4, .cells 38 (zeroPV.enc.map .val)), (5, .cells 38 (([Value.int .i64 v.op, Value.int .i64 v.cmp] ++ l.enc ++ r.enc ++ [Value.slice none 0 0]).map .val))] m h })] [] false
noncomputable def f28_ctx (N : Nat) (v : QV) (co : List Int) (on : List (Int × Int)) (gr : List Int) (od : List (Int × Bool)) (m : MH) : Ctx :=
  ctx2 [(58, BindA), (28, CopyQS N)] [(9, { A := Nat × PV × List QV × PH, st := fun ⟨i, w, us, h⟩ => mkSt 46 47 [(1, .at (.ptr 1 0)), (2, .at (.ptr 2 0)), (3, .at (.ptr 3 0)), (29, iv v.args.len), (30, iv i)] [(1, .cells 43 (v.enc.map .val)), (2, .cells 43 (zeroQV.enc.map .val)), (3, .cells 43 (([Value.int .i64 v.op, Value.int .i64 v.table] ++ w.enc).map .val ++ [.lst 12, .lst 16, .lst 20, .lst 24, .val (.int .i64 v.limit), .lst 42])), (12, .lst 3 1 (co.map eI)), (16, .lst 78 2 (on.map pairEnc)), (20, .lst 3 1 (gr.map eI)), (24, .lst 80 2 (od.map sortEnc)), (42, .lst 43 21 (us.map QV.enc))] m h })] [] [] false
def f84_nice (o : OV) (s : Sl) (m : MH) (h : PH) (K : CV → MH → PH → Prop) : Prop :=
    branch (o.kind == 2) (branch (decide (o.index ≥ 0)) (branch (decide (o.index < (↑s.len : Int))) (∃ (b : Nat), ∃ (off : Nat), s.a = some (Addr.mk b off none) /\ 0 <= o.index /\ 
    o.index < (↑s.len : Int) /\ ∃ (y : VV), RdAt m h b (off + o.index.toNat * 3) (VV.enc y) /\ K (cQa [vQi 3, vQi 0, vQi y.kind, vQi y.int, Value.string y.text]) m h) (K (cQa (OV.enc 
    o)) m h)) (K (cQa (OV.enc o)) m h)) (K (cQa (OV.enc o)) m h)
theorem f84_vc (o : OV) (s : Sl) (m : MH) (h : PH) (K : CV → MH → PH → Prop) : f84_nice o s m h K = (fnVC (ctx2 [] [] [] [] false) Tryz.f84 (bodyOf Tryz.f84) (entry Tryz.f84.ntmps [aO o, cS s] m h) K) := by kernel_rfl
def f58_nice (N : Nat) (v : PV) (s : Sl) (m : MH) (h : PH) (K : CV → MH → PH → Prop) : Prop :=
    ∃ (I : OV × OV -> Prop), ((∃ (o : OV), ∃ (s_1 : Sl), ∃ (ps : List VV), [cQa (OV.enc v.left), cQs s] = [cQa (OV.enc o), cQs s_1] /\ Vals h s_1 ps /\ (∃ (o_1 : OV), ∃ (s_2 : Sl), ∃ 
    (ps_1 : List VV), [cQa (OV.enc v.right), cQs s] = [cQa (OV.enc o_1), cQs s_2] /\ Vals h s_2 ps_1 /\ ∃ (x : OV × OV), I x /\ eQ (sQs s) /\ eQ (sQp 2 0) /\ eQ (sQp 4 0) /\ eQ (sQp 5 
    0) /\ eQ (oQ 38 (List.map At.val (PV.enc v))) /\ eQ (oQ 38 zP) /\ oQ 38 [aQi v.op, aQi v.cmp, At.val (vQi (bindO ps o).kind), At.val (vQi (bindO ps o).index), At.val (vQi (bindO ps 
    o).value.kind), At.val (vQi (bindO ps o).value.int), At.val (Value.string (bindO ps o).value.text), At.val (vQi (bindO ps_1 o_1).kind), At.val (vQi (bindO ps_1 o_1).index), At.val 
    (vQi (bindO ps_1 o_1).value.kind), At.val (vQi (bindO ps_1 o_1).value.int), At.val (Value.string (bindO ps_1 o_1).value.text), aQn] = oQ 38 [aQi v.op, aQi v.cmp, aQi x.1.kind, aQi 
    x.1.index, aQi x.1.value.kind, aQi x.1.value.int, At.val (Value.string x.1.value.text), aQi x.2.kind, aQi x.2.index, aQi x.2.value.kind, aQi x.2.value.int, At.val (Value.string 
    x.2.value.text), aQn] /\ m = m /\ h = h /\ True) /\ ∃ (o_1 : OV), ∃ (s_2 : Sl), ∃ (ps_1 : List VV), [cQa (OV.enc v.right), cQs s] = [cQa (OV.enc o_1), cQs s_2] /\ Vals h s_2 ps_1 
    /\ ∃ (x : OV × OV), I x /\ eQ (sQs s) /\ eQ (sQp 2 0) /\ eQ (sQp 4 0) /\ eQ (sQp 5 0) /\ eQ (oQ 38 (List.map At.val (PV.enc v))) /\ eQ (oQ 38 zP) /\ oQ 38 [aQi v.op, aQi v.cmp, 
    At.val (vQi (bindO ps o).kind), At.val (vQi (bindO ps o).index), At.val (vQi (bindO ps o).value.kind), At.val (vQi (bindO ps o).value.int), At.val (Value.string (bindO ps 
    o).value.text), At.val (vQi (bindO ps_1 o_1).kind), At.val (vQi (bindO ps_1 o_1).index), At.val (vQi (bindO ps_1 o_1).value.kind), At.val (vQi (bindO ps_1 o_1).value.int), At.val 
    (Value.string (bindO ps_1 o_1).value.text), aQn] = oQ 38 [aQi v.op, aQi v.cmp, aQi x.1.kind, aQi x.1.index, aQi x.1.value.kind, aQi x.1.value.int, At.val (Value.string 
    x.1.value.text), aQi x.2.kind, aQi x.2.index, aQi x.2.value.kind, aQi x.2.value.int, At.val (Value.string x.2.value.text), aQn] /\ m = m /\ h = h /\ True) /\ ∃ (o : OV), ∃ (s_1 : 
    Sl), ∃ (ps : List VV), [cQa (OV.enc v.left), cQs s] = [cQa (OV.enc o), cQs s_1] /\ Vals h s_1 ps /\ ∃ (o_1 : OV), ∃ (s_2 : Sl), ∃ (ps_1 : List VV), [cQa (OV.enc v.right), cQs s] = 
    [cQa (OV.enc o_1), cQs s_2] /\ Vals h s_2 ps_1 /\ ∃ (x : OV × OV), I x /\ eQ (sQs s) /\ eQ (sQp 2 0) /\ eQ (sQp 4 0) /\ eQ (sQp 5 0) /\ eQ (oQ 38 (List.map At.val (PV.enc v))) /\ 
    eQ (oQ 38 zP) /\ oQ 38 [aQi v.op, aQi v.cmp, At.val (vQi (bindO ps o).kind), At.val (vQi (bindO ps o).index), At.val (vQi (bindO ps o).value.kind), At.val (vQi (bindO ps 
    o).value.int), At.val (Value.string (bindO ps o).value.text), At.val (vQi (bindO ps_1 o_1).kind), At.val (vQi (bindO ps_1 o_1).index), At.val (vQi (bindO ps_1 o_1).value.kind), 
    At.val (vQi (bindO ps_1 o_1).value.int), At.val (Value.string (bindO ps_1 o_1).value.text), aQn] = oQ 38 [aQi v.op, aQi v.cmp, aQi x.1.kind, aQi x.1.index, aQi x.1.value.kind, aQi 
    x.1.value.int, At.val (Value.string x.1.value.text), aQi x.2.kind, aQi x.2.index, aQi x.2.value.kind, aQi x.2.value.int, At.val (Value.string x.2.value.text), aQn] /\ m = m /\ h = 
    h /\ True) /\ ∀ (x : OV × OV), I x -> ∃ (I : Nat × OV × OV × List PV × PH -> Prop), ∃ (mu : Nat × OV × OV × List PV × PH -> Nat), (∃ (x_1 : Nat × OV × OV × List PV × PH), I x_1 /\ 
    eQ (sQs s) /\ eQ (sQp 2 0) /\ eQ (sQp 4 0) /\ eQ (sQp 5 0) /\ eQ (sQi (↑v.args.len : Int)) /\ sQi 0 = sQi (↑x_1.1 : Int) /\ eQ (oQ 38 (List.map At.val (PV.enc v))) /\ eQ (oQ 38 zP) 
    /\ oQ 38 [aQi v.op, aQi v.cmp, aQi x.1.kind, aQi x.1.index, aQi x.1.value.kind, aQi x.1.value.int, At.val (Value.string x.1.value.text), aQi x.2.kind, aQi x.2.index, aQi 
    x.2.value.kind, aQi x.2.value.int, At.val (Value.string x.2.value.text), At.lst 36] = oQ 38 [aQi v.op, aQi v.cmp, aQi x_1.2.1.kind, aQi x_1.2.1.index, aQi x_1.2.1.value.kind, aQi 
    x_1.2.1.value.int, At.val (Value.string x_1.2.1.value.text), aQi x_1.2.2.1.kind, aQi x_1.2.2.1.index, aQi x_1.2.2.1.value.kind, aQi x_1.2.2.1.value.int, At.val (Value.string 
    x_1.2.2.1.value.text), At.lst 36] /\ some (Own.lst 38 13 []) = some (Own.lst 38 13 (List.map PV.enc x_1.2.2.2.1)) /\ m = m /\ h = x_1.2.2.2.2 /\ True) /\ ∀ (x : Nat × OV × OV × 
    List PV × PH), I x -> branch (decide ((↑x.1 : Int) < (↑v.args.len : Int))) (∃ (b : Nat), ∃ (off : Nat), v.args.a = some (Addr.mk b off none) /\ 0 <= (↑x.1 : Int) /\ (↑x.1 : Int) < 
    (↑v.args.len : Int) /\ ∃ (y : PV), RdAt m x.2.2.2.2 b (off + (↑x.1 : Int).toNat * 13) (PV.enc y) /\ ∃ (v_1 : PV), ∃ (s_1 : Sl), ∃ (p : Pred), ∃ (ps : List VV), [cQa (PV.enc y), cQs 
    s] = [cQa (PV.enc v_1), cQs s_1] /\ RepP x.2.2.2.2 p v_1 /\ Vals x.2.2.2.2 s_1 ps /\ SizeOf.sizeOf p < N /\ ∀ (v' : PV) (h' : PH), x.2.2.2.2.le h' -> RepP h' (bindP ps p) v' -> 
    RdAt m h' b (off + (↑x.1 : Int).toNat * 13) (PV.enc y) /\ RdCells h' b (off + (↑x.1 : Int).toNat * 13) (PV.enc y) /\ ((List.map PV.enc x.2.2.2.1).length + 1) * 136 <= 
    140737488355328 /\ (List.map PV.enc x.2.2.2.1).length < 140737488355328 /\ ∃ (y : Nat × OV × OV × List PV × PH), I y /\ mu y < mu x /\ eQ (sQs s) /\ eQ (sQp 2 0) /\ eQ (sQp 4 0) /\ 
    eQ (sQp 5 0) /\ eQ (sQi (↑v.args.len : Int)) /\ sQi (IntKind.i64.wrap ((↑x.1 : Int) + 1)) = sQi (↑y.1 : Int) /\ eQ (oQ 38 (List.map At.val (PV.enc v))) /\ eQ (oQ 38 zP) /\ oQ 38 
    [aQi v.op, aQi v.cmp, aQi x.2.1.kind, aQi x.2.1.index, aQi x.2.1.value.kind, aQi x.2.1.value.int, At.val (Value.string x.2.1.value.text), aQi x.2.2.1.kind, aQi x.2.2.1.index, aQi 
    x.2.2.1.value.kind, aQi x.2.2.1.value.int, At.val (Value.string x.2.2.1.value.text), At.lst 36] = oQ 38 [aQi v.op, aQi v.cmp, aQi y.2.1.kind, aQi y.2.1.index, aQi y.2.1.value.kind, 
    aQi y.2.1.value.int, At.val (Value.string y.2.1.value.text), aQi y.2.2.1.kind, aQi y.2.2.1.index, aQi y.2.2.1.value.kind, aQi y.2.2.1.value.int, At.val (Value.string 
    y.2.2.1.value.text), At.lst 36] /\ some (Own.lst 38 13 (List.map PV.enc x.2.2.2.1 ++ [[vQi v'.op, vQi v'.cmp, vQi v'.left.kind, vQi v'.left.index, vQi v'.left.value.kind, vQi 
    v'.left.value.int, Value.string v'.left.value.text, vQi v'.right.kind, vQi v'.right.index, vQi v'.right.value.kind, vQi v'.right.value.int, Value.string v'.right.value.text, 
    Value.slice v'.args.a v'.args.len v'.args.cap]])) = some (Own.lst 38 13 (List.map PV.enc y.2.2.2.1)) /\ m = m /\ h' = y.2.2.2.2 /\ True) (∀ (s : Sl) (h' : PH), x.2.2.2.2.le h' -> 
    RowIn h' s 13 (List.map PV.enc x.2.2.2.1) -> K (cQa [vQi v.op, vQi v.cmp, vQi x.2.1.kind, vQi x.2.1.index, vQi x.2.1.value.kind, vQi x.2.1.value.int, Value.string x.2.1.value.text, 
    vQi x.2.2.1.kind, vQi x.2.2.1.index, vQi x.2.2.1.value.kind, vQi x.2.2.1.value.int, Value.string x.2.2.1.value.text, vQs s]) m h')
theorem f58_vc (N : Nat) (v : PV) (s : Sl) (m : MH) (h : PH) (K : CV → MH → PH → Prop) : f58_nice N v s m h K = (fnVC (f58_ctx N v s m h) Tryz.f58 (bodyOf Tryz.f58) (entry Tryz.f58.ntmps [aP v, cS s] m h) K) := by kernel_rfl
def f28_nice (N : Nat) (v : QV) (co : List Int) (on : List (Int × Int)) (gr : List Int) (od : List (Int × Bool)) (m : MH) (h : PH) (K : CV → MH → PH → Prop) : Prop :=
    ∃ (v_1 : PV), ∃ (s : Sl), ∃ (p : Pred), ∃ (ps : List VV), [cQa (PV.enc v.where_), cQn] = [cQa (PV.enc v_1), cQs s] /\ RepP h p v_1 /\ Vals h s ps /\ ∀ (v' : PV) (h' : PH), h.le h' 
    -> RepP h' (bindP ps p) v' -> ∃ (ys : List (List Value)), RowsOk 1 ys /\ RowIn h' (Sl.mk v.columns.a v.columns.len v.columns.cap) 1 ys /\ ys.length * 8 <= 140737488355328 /\ 
    ys.length <= 140737488355328 /\ ∃ (ys_1 : List (List Value)), RowsOk 2 ys_1 /\ RowIn h' (Sl.mk v.on.a v.on.len v.on.cap) 2 ys_1 /\ ys_1.length * 16 <= 140737488355328 /\ 
    ys_1.length <= 140737488355328 /\ ∃ (ys_2 : List (List Value)), RowsOk 1 ys_2 /\ RowIn h' (Sl.mk v.group.a v.group.len v.group.cap) 1 ys_2 /\ ys_2.length * 8 <= 140737488355328 /\ 
    ys_2.length <= 140737488355328 /\ ∃ (ys_3 : List (List Value)), RowsOk 2 ys_3 /\ RowIn h' (Sl.mk v.order.a v.order.len v.order.cap) 2 ys_3 /\ ys_3.length * 16 <= 140737488355328 /\ 
    ys_3.length <= 140737488355328 /\ ∃ (I : Nat × PV × List QV × PH -> Prop), ∃ (mu : Nat × PV × List QV × PH -> Nat), (∃ (x : Nat × PV × List QV × PH), I x /\ eQ (sQp 1 0) /\ eQ (sQp 
    2 0) /\ eQ (sQp 3 0) /\ eQ (sQi (↑v.args.len : Int)) /\ sQi 0 = sQi (↑x.1 : Int) /\ eQ (oQ 43 (List.map At.val (QV.enc v))) /\ eQ (oQ 43 zQ) /\ oQ 43 [aQi v.op, aQi v.table, At.val 
    (vQi v'.op), At.val (vQi v'.cmp), At.val (vQi v'.left.kind), At.val (vQi v'.left.index), At.val (vQi v'.left.value.kind), At.val (vQi v'.left.value.int), At.val (Value.string 
    v'.left.value.text), At.val (vQi v'.right.kind), At.val (vQi v'.right.index), At.val (vQi v'.right.value.kind), At.val (vQi v'.right.value.int), At.val (Value.string 
    v'.right.value.text), At.val (Value.slice v'.args.a v'.args.len v'.args.cap), At.lst 12, At.lst 16, At.lst 20, At.lst 24, aQi v.limit, At.lst 42] = oQ 43 [aQi v.op, aQi v.table, 
    aQi x.2.1.op, aQi x.2.1.cmp, aQi x.2.1.left.kind, aQi x.2.1.left.index, aQi x.2.1.left.value.kind, aQi x.2.1.left.value.int, At.val (Value.string x.2.1.left.value.text), aQi 
    x.2.1.right.kind, aQi x.2.1.right.index, aQi x.2.1.right.value.kind, aQi x.2.1.right.value.int, At.val (Value.string x.2.1.right.value.text), aQs x.2.1.args, At.lst 12, At.lst 16, 
    At.lst 20, At.lst 24, aQi v.limit, At.lst 42] /\ some (Own.lst 3 1 ys) = some (Own.lst 3 1 (List.map eI co)) /\ some (Own.lst 78 2 ys_1) = some (Own.lst 78 2 (List.map pairEnc on)) 
    /\ some (Own.lst 3 1 ys_2) = some (Own.lst 3 1 (List.map eI gr)) /\ some (Own.lst 80 2 ys_3) = some (Own.lst 80 2 (List.map sortEnc od)) /\ some (Own.lst 43 21 []) = some (Own.lst 
    43 21 (List.map QV.enc x.2.2.1)) /\ m = m /\ h' = x.2.2.2 /\ True) /\ ∀ (x : Nat × PV × List QV × PH), I x -> branch (decide ((↑x.1 : Int) < (↑v.args.len : Int))) (∃ (b : Nat), ∃ 
    (off : Nat), v.args.a = some (Addr.mk b off none) /\ 0 <= (↑x.1 : Int) /\ (↑x.1 : Int) < (↑v.args.len : Int) /\ ∃ (y : QV), RdAt m x.2.2.2 b (off + (↑x.1 : Int).toNat * 21) (QV.enc 
    y) /\ ∃ (v_2 : QV), ∃ (q : Query), [cQa (QV.enc y)] = [cQa (QV.enc v_2)] /\ RepQ x.2.2.2 q v_2 /\ SizeOf.sizeOf q < N /\ ∀ (v' : QV) (h' : PH), x.2.2.2.le h' -> RepQ h' q v' -> 
    RdAt m h' b (off + (↑x.1 : Int).toNat * 21) (QV.enc y) /\ RdCells h' b (off + (↑x.1 : Int).toNat * 21) (QV.enc y) /\ ((List.map QV.enc x.2.2.1).length + 1) * 280 <= 140737488355328 
    /\ (List.map QV.enc x.2.2.1).length < 140737488355328 /\ ∃ (y : Nat × PV × List QV × PH), I y /\ mu y < mu x /\ eQ (sQp 1 0) /\ eQ (sQp 2 0) /\ eQ (sQp 3 0) /\ eQ (sQi (↑v.args.len 
    : Int)) /\ sQi (IntKind.i64.wrap ((↑x.1 : Int) + 1)) = sQi (↑y.1 : Int) /\ eQ (oQ 43 (List.map At.val (QV.enc v))) /\ eQ (oQ 43 zQ) /\ oQ 43 [aQi v.op, aQi v.table, aQi x.2.1.op, 
    aQi x.2.1.cmp, aQi x.2.1.left.kind, aQi x.2.1.left.index, aQi x.2.1.left.value.kind, aQi x.2.1.left.value.int, At.val (Value.string x.2.1.left.value.text), aQi x.2.1.right.kind, 
    aQi x.2.1.right.index, aQi x.2.1.right.value.kind, aQi x.2.1.right.value.int, At.val (Value.string x.2.1.right.value.text), aQs x.2.1.args, At.lst 12, At.lst 16, At.lst 20, At.lst 
    24, aQi v.limit, At.lst 42] = oQ 43 [aQi v.op, aQi v.table, aQi y.2.1.op, aQi y.2.1.cmp, aQi y.2.1.left.kind, aQi y.2.1.left.index, aQi y.2.1.left.value.kind, aQi 
    y.2.1.left.value.int, At.val (Value.string y.2.1.left.value.text), aQi y.2.1.right.kind, aQi y.2.1.right.index, aQi y.2.1.right.value.kind, aQi y.2.1.right.value.int, At.val 
    (Value.string y.2.1.right.value.text), aQs y.2.1.args, At.lst 12, At.lst 16, At.lst 20, At.lst 24, aQi v.limit, At.lst 42] /\ eQ (some (Own.lst 3 1 (List.map eI co))) /\ eQ (some 
    (Own.lst 78 2 (List.map pairEnc on))) /\ eQ (some (Own.lst 3 1 (List.map eI gr))) /\ eQ (some (Own.lst 80 2 (List.map sortEnc od))) /\ some (Own.lst 43 21 (List.map QV.enc x.2.2.1 
    ++ [[vQi v'.op, vQi v'.table, vQi v'.where_.op, vQi v'.where_.cmp, vQi v'.where_.left.kind, vQi v'.where_.left.index, vQi v'.where_.left.value.kind, vQi v'.where_.left.value.int, 
    Value.string v'.where_.left.value.text, vQi v'.where_.right.kind, vQi v'.where_.right.index, vQi v'.where_.right.value.kind, vQi v'.where_.right.value.int, Value.string 
    v'.where_.right.value.text, Value.slice v'.where_.args.a v'.where_.args.len v'.where_.args.cap, Value.slice v'.columns.a v'.columns.len v'.columns.cap, Value.slice v'.on.a 
    v'.on.len v'.on.cap, Value.slice v'.group.a v'.group.len v'.group.cap, Value.slice v'.order.a v'.order.len v'.order.cap, vQi v'.limit, Value.slice v'.args.a v'.args.len 
    v'.args.cap]])) = some (Own.lst 43 21 (List.map QV.enc y.2.2.1)) /\ m = m /\ h' = y.2.2.2 /\ True) (∀ (s : Sl) (h' : PH), x.2.2.2.le h' -> RowIn h' s 1 (List.map eI co) -> ∀ (s_1 : 
    Sl) (h'_1 : PH), h'.le h'_1 -> RowIn h'_1 s_1 2 (List.map pairEnc on) -> ∀ (s_2 : Sl) (h' : PH), h'_1.le h' -> RowIn h' s_2 1 (List.map eI gr) -> ∀ (s_3 : Sl) (h'_2 : PH), h'.le 
    h'_2 -> RowIn h'_2 s_3 2 (List.map sortEnc od) -> ∀ (s_4 : Sl) (h' : PH), h'_2.le h' -> RowIn h' s_4 21 (List.map QV.enc x.2.2.1) -> K (cQa [vQi v.op, vQi v.table, vQi x.2.1.op, 
    vQi x.2.1.cmp, vQi x.2.1.left.kind, vQi x.2.1.left.index, vQi x.2.1.left.value.kind, vQi x.2.1.left.value.int, Value.string x.2.1.left.value.text, vQi x.2.1.right.kind, vQi 
    x.2.1.right.index, vQi x.2.1.right.value.kind, vQi x.2.1.right.value.int, Value.string x.2.1.right.value.text, vQs x.2.1.args, vQs s, vQs s_1, vQs s_2, vQs s_3, vQi v.limit, vQs 
    s_4]) m h')
theorem f28_vc (N : Nat) (v : QV) (co : List Int) (on : List (Int × Int)) (gr : List Int) (od : List (Int × Bool)) (m : MH) (h : PH) (K : CV → MH → PH → Prop) : f28_nice N v co on gr od m h K = (fnVC (f28_ctx N v co on gr od m) Tryz.f28 (bodyOf Tryz.f28) (entry Tryz.f28.ntmps [aQ v] m h) K) := by kernel_rfl
def f43_nice (v : SV2) (m : MH) (h : PH) (K : CV → MH → PH → Prop) : Prop :=
    ∃ (v_1 : QV), ∃ (q : Query), [cQa [vQi v.op, vQi v.table, vQi v.where_.op, vQi v.where_.cmp, vQi v.where_.left.kind, vQi v.where_.left.index, vQi v.where_.left.value.kind, vQi 
    v.where_.left.value.int, Value.string v.where_.left.value.text, vQi v.where_.right.kind, vQi v.where_.right.index, vQi v.where_.right.value.kind, vQi v.where_.right.value.int, 
    Value.string v.where_.right.value.text, vQs v.where_.args, vQs v.columns, vQs v.on, vQs v.group, vQs v.order, vQi v.limit, vQn]] = [cQa (QV.enc v_1)] /\ RepQ h q v_1 /\ ∀ (v' : QV) 
    (h' : PH), h.le h' -> RepQ h' q v' -> K (cQa [vQi v'.op, vQi v'.table, vQi v'.where_.op, vQi v'.where_.cmp, vQi v'.where_.left.kind, vQi v'.where_.left.index, vQi 
    v'.where_.left.value.kind, vQi v'.where_.left.value.int, Value.string v'.where_.left.value.text, vQi v'.where_.right.kind, vQi v'.where_.right.index, vQi 
    v'.where_.right.value.kind, vQi v'.where_.right.value.int, Value.string v'.where_.right.value.text, Value.slice v'.where_.args.a v'.where_.args.len v'.where_.args.cap, Value.slice 
    v'.columns.a v'.columns.len v'.columns.cap, Value.slice v'.on.a v'.on.len v'.on.cap, Value.slice v'.group.a v'.group.len v'.group.cap, Value.slice v'.order.a v'.order.len 
    v'.order.cap, vQi v'.limit, Value.slice v'.args.a v'.args.len v'.args.cap]) m h'
theorem f43_vc (v : SV2) (m : MH) (h : PH) (K : CV → MH → PH → Prop) : f43_nice v m h K = (fnVC (ctx2 [(28, CopyQA)] [] [] [] false) Tryz.f43 (bodyOf Tryz.f43) (entry Tryz.f43.ntmps [aT v] m h) K) := by kernel_rfl
def f20_nice (v w : SV2) (m : MH) (h : PH) (K : CV → MH → PH → Prop) : Prop :=
    branch (v.left == w.left) (branch (v.right == w.right) (∃ (v_1 : SV2), ∃ (t : Step), [cQa (SV2.enc v)] = [cQa (SV2.enc v_1)] /\ RepSt h t v_1 /\ ∀ (v' : QV) (h' : PH), h.le h' -> 
    RepQ h' (Query.mk t.op t.table t.wher t.columns t.on t.group t.order t.limit []) v' -> ∃ (v : SV2), ∃ (t : Step), [cQa (SV2.enc w)] = [cQa (SV2.enc v)] /\ RepSt h' t v /\ ∀ (v'_1 : 
    QV) (h'_1 : PH), h'.le h'_1 -> RepQ h'_1 (Query.mk t.op t.table t.wher t.columns t.on t.group t.order t.limit []) v'_1 -> ∃ (v : QV), ∃ (w : QV), ∃ (p : Query), ∃ (q : Query), [cQa 
    [vQi v'.op, vQi v'.table, vQi v'.where_.op, vQi v'.where_.cmp, vQi v'.where_.left.kind, vQi v'.where_.left.index, vQi v'.where_.left.value.kind, vQi v'.where_.left.value.int, 
    Value.string v'.where_.left.value.text, vQi v'.where_.right.kind, vQi v'.where_.right.index, vQi v'.where_.right.value.kind, vQi v'.where_.right.value.int, Value.string 
    v'.where_.right.value.text, Value.slice v'.where_.args.a v'.where_.args.len v'.where_.args.cap, Value.slice v'.columns.a v'.columns.len v'.columns.cap, Value.slice v'.on.a 
    v'.on.len v'.on.cap, Value.slice v'.group.a v'.group.len v'.group.cap, Value.slice v'.order.a v'.order.len v'.order.cap, vQi v'.limit, Value.slice v'.args.a v'.args.len 
    v'.args.cap], cQa [vQi v'_1.op, vQi v'_1.table, vQi v'_1.where_.op, vQi v'_1.where_.cmp, vQi v'_1.where_.left.kind, vQi v'_1.where_.left.index, vQi v'_1.where_.left.value.kind, vQi 
    v'_1.where_.left.value.int, Value.string v'_1.where_.left.value.text, vQi v'_1.where_.right.kind, vQi v'_1.where_.right.index, vQi v'_1.where_.right.value.kind, vQi 
    v'_1.where_.right.value.int, Value.string v'_1.where_.right.value.text, Value.slice v'_1.where_.args.a v'_1.where_.args.len v'_1.where_.args.cap, Value.slice v'_1.columns.a 
    v'_1.columns.len v'_1.columns.cap, Value.slice v'_1.on.a v'_1.on.len v'_1.on.cap, Value.slice v'_1.group.a v'_1.group.len v'_1.group.cap, Value.slice v'_1.order.a v'_1.order.len 
    v'_1.order.cap, vQi v'_1.limit, Value.slice v'_1.args.a v'_1.args.len v'_1.args.cap]] = [cQa (QV.enc v), cQa (QV.enc w)] /\ RepQ h'_1 p v /\ RepQ h'_1 q w /\ ∀ (r : Bool), (r = 
    true ↔ p = q) -> K (cQb r) m h'_1) (K (cQb false) m h)) (K (cQb false) m h)
theorem f20_vc (v w : SV2) (m : MH) (h : PH) (K : CV → MH → PH → Prop) : f20_nice v w m h K = (fnVC (ctx2 [(43, NodeTS), (24, EqQA)] [] [] [] false) Tryz.f20 (bodyOf Tryz.f20) (entry Tryz.f20.ntmps [aT v, aT w] m h) K) := by kernel_rfl
theorem f84_ok {o : OV} {s : Sl} {ps : List VV} {m : MH} {h : PH} {K : CV → MH → PH → Prop} (hs : Vals h s ps) (hK : K (aO (bindO ps o)) m h) : f84_nice o s m h K := by
  have hl := RepL.slen hs
  unfold bindO at hK
  refine branch_intro (fun h1 => branch_dec (fun h2 => branch_dec (fun h3 => ?_) (fun h3 => ?_)) (fun h2 => ?_)) (fun h1 => ?_)
  · have h1 : o.kind = 2 := by simpa using h1
    rw [if_pos ⟨h1, h2, by omega⟩] at hK
    have hx : ps[o.index.toNat]? = some (ps.getD o.index.toNat zeroV) := by
      rw [List.getD_eq_getElem?_getD, List.getElem?_eq_getElem (by omega)]; simp
    obtain ⟨b, off, v, e, r, rfl⟩ := RepL.at hs hx
    exact ⟨b, off, e, by omega, h3, _, .imm r, hK⟩
  · rw [if_neg (fun e => by omega)] at hK; exact hK
  · rw [if_neg (fun e => by omega)] at hK; exact hK
  · have h1 : o.kind ≠ 2 := by simpa using h1
    rw [if_neg (fun e => h1 e.1)] at hK; exact hK
theorem f84_sound : Sound Tryz.prog 84 BoundS := by
  refine fn_sound (fn := Tryz.f84) (c := bodyOf Tryz.f84) Tryz.func84 rfl (by decide) ?_
  rintro cvs m h K ⟨o, s, ps, rfl, hs, hK⟩
  refine ⟨ctx2 [] [] [] [] false, rfl, specs_nil, ?_⟩
  rw [← f84_vc o s m h K]
  exact f84_ok hs hK
/-- The representation of a list that grows. -/
theorem reps_snoc {α β : Type} {ps : List α} {us : List β} {i : Nat} {R R' : α → β → Prop} {q : α} {v : β} (hi : i ≤ ps.length) (hul : us.length = i) (hq : ps[i]? = some q) (hus : ∀ (j : Nat) x, (ps.take i)[j]? = some x → ∃ u, us[j]? = some u ∧ R x u) (hR : ∀ x u, R x u → R' x u) (hv : R' q v) :
    ∀ (j : Nat) x, (ps.take (i + 1))[j]? = some x → ∃ u, (us ++ [v])[j]? = some u ∧ R' x u := by
  intro j x hx
  rw [List.take_add_one, hq] at hx
  by_cases hj : j < i
  · rw [List.getElem?_append_left (by simp; omega)] at hx
    obtain ⟨u', h1, h2⟩ := hus j x hx
    exact ⟨u', by rw [List.getElem?_append_left (by omega)]; exact h1, hR _ _ h2⟩
  · rw [List.getElem?_append_right (by simp; omega)] at hx
    have hjl := (List.getElem?_eq_some_iff.1 hx).1
    simp at hjl
    have : j = i := by omega
    subst this
    simp only [List.length_take, Nat.min_eq_left hi, Nat.sub_self] at hx
    simp at hx
    subst hx
    exact ⟨v, by rw [List.getElem?_append_right (by omega), hul]; simp, hv⟩
theorem f58_ok {N : Nat} {v : PV} {s : Sl} {p : Pred} {ps : List VV} {m : MH} {h : PH} {K : CV → MH → PH → Prop} (hp : RepP h p v) (hs : Vals h s ps) (hN : SizeOf.sizeOf p < N + 1) (hK : ∀ v' h', PH.le h h' → RepP h' (bindP ps p) v' → K (aP v') m h') : f58_nice N v s m h K := by
  have hargs := @args_lt p
  obtain ⟨op, cmp, l, r, qs⟩ := p
  obtain ⟨rfl, rfl, rfl, rfl, ha⟩ := hp.parts
  have hl := ha.slen
  have hlen := ha.len
  simp only [Pred.args] at hargs
  simp only [bindP, bindPs_map] at hK
  refine ⟨fun x => x = (bindO ps v.left, bindO ps v.right), ?_, ?_⟩
  · repeat' (first | exact ⟨(bindO ps v.left, bindO ps v.right), rfl, MT⟩ | refine ⟨v.left, s, ps, rfl, hs, ?_⟩ | refine ⟨v.right, s, ps, rfl, hs, ?_⟩ | apply And.intro)
  rintro _ rfl
  dsimp only
  refine ⟨fun ⟨i, l, r, us, hx⟩ => l = bindO ps v.left ∧ r = bindO ps v.right ∧ i ≤ qs.length ∧ PH.le h hx ∧ us.length = i ∧ ∀ (j : Nat) x, (qs.take i)[j]? = some x → ∃ u, us[j]? = some u ∧ RepP hx (bindP ps x) u, fun ⟨i, _, _, _, _⟩ => qs.length - i, ⟨(0, bindO ps v.left, bindO ps v.right, [], h), ⟨rfl, rfl, by omega, .refl _, rfl, fun j x hx => by simp at hx⟩, MT⟩, ?_⟩
  rintro ⟨i, _, _, us, hx⟩ ⟨rfl, rfl, hi, hle, hul, hus⟩
  dsimp only
  refine branch_dec (fun hlt => ?_) (fun hge sl h' hle' hrow => hK ⟨v.op, v.cmp, bindO ps v.left, bindO ps v.right, sl⟩ h' (hle.trans hle') (RepP.mk (v := ⟨v.op, v.cmp, bindO ps v.left, bindO ps v.right, sl⟩) ⟨⟨us, hrow, by simp; omega, fun j x hx => ?_⟩, by simp; omega⟩))
  · obtain ⟨q, hq⟩ := getx hl hlt
    obtain ⟨b1, o1, u, e1, r1, hru⟩ := (ha.mono hle).at hq
    refine ⟨b1, o1, e1, by omega, hlt, u, .imm r1, u, s, q, ps, rfl, hru, hs.mono hle, ?_, fun v' h' hle' hr' => ⟨.imm (r1.mono hle'), r1.mono hle', by simp; omega, by simp; omega, (i + 1, bindO ps v.left, bindO ps v.right, us ++ [v'], h'), ⟨rfl, rfl, by show i + 1 ≤ qs.length; omega, hle.trans hle', by simp [hul], reps_snoc (R' := fun x u => RepP h' (bindP ps x) u) hi hul hq hus (fun _ _ h2 => h2.mono hle') hr'⟩, by show qs.length - (i + 1) < qs.length - i; omega, ?_⟩⟩
    · have := hargs (List.mem_of_getElem? hq); omega
    · rw [List.map_append]; exact MT
  · rw [List.take_of_length_le (by omega)] at hus
    rw [List.getElem?_map, Option.map_eq_some_iff] at hx
    obtain ⟨y, hy, rfl⟩ := hx
    obtain ⟨u, h1, h2⟩ := hus j y hy
    exact ⟨u, h1, h2.mono hle'⟩
theorem f58_all : ∀ N, Sound Tryz.prog 58 (BindS N)
  | 0 => by
    refine fn_sound (fn := Tryz.f58) (c := bodyOf Tryz.f58) Tryz.func58 rfl (by decide) ?_
    rintro cvs m h K ⟨v, s, p, ps, rfl, _, _, hN, _⟩
    omega
  | N + 1 => by
    refine fn_sound (fn := Tryz.f58) (c := bodyOf Tryz.f58) Tryz.func58 rfl (by decide) ?_
    rintro cvs m h K ⟨v, s, p, ps, rfl, hp, hs, hN, hK⟩
    refine ⟨f58_ctx N v s m h, rfl, specs_cons (f58_all N) (specs_cons f84_sound specs_nil), ?_⟩
    rw [← f58_vc N v s m h K]
    exact f58_ok hp hs hN hK
theorem f58_sound : Sound Tryz.prog 58 BindA := sound_of_all f58_all fun _ _ _ _ ⟨v, s, p, ps, e, h1, h2, h3⟩ => ⟨SizeOf.sizeOf p + 1, v, s, p, ps, e, h1, h2, by omega, h3⟩
theorem rowsOk_q (l : List QV) : RowsOk 21 (l.map QV.enc) := by
  constructor
  · intro e he; obtain ⟨x, _, rfl⟩ := List.mem_map.1 he; rfl
  · intro e he u hu; obtain ⟨x, _, rfl⟩ := List.mem_map.1 he; simp [QV.enc] at hu; rcases hu with rfl | rfl | rfl | rfl | rfl | rfl | rfl | rfl | rfl | rfl | rfl | rfl | rfl | rfl | rfl | rfl | rfl | rfl | rfl | rfl | rfl <;> rfl
theorem f28_ok {N : Nat} {v : QV} {op ta : Int} {w : Pred} {co : List Int} {on : List (Int × Int)} {gr : List Int} {od : List (Int × Bool)} {li : Int} {args : List Query} {m : MH} {h : PH} {K : CV → MH → PH → Prop} (x : QParts h op ta w co on gr od li args v) (hN : ∀ q ∈ args, SizeOf.sizeOf q < N) (hK : ∀ v' h', PH.le h h' → RepQ h' (.mk op ta w co on gr od li args) v' → K (aQ v') m h') : f28_nice N v co on gr od m h K := by
  have hl := x.args_.slen
  have hlen := x.args_.len
  have l1 := x.columns_.len
  have l2 := x.on_.len
  have l3 := x.group_.len
  have l4 := x.order_.len
  refine ⟨v.where_, ⟨none, 0, 0⟩, w, [], rfl, x.where_, .nil _ _ _ _, fun wv h1 hle1 hw => ⟨_, rowsOk_ints co, (x.columns_.mono hle1).row, by simp; omega, by simp; omega, _, rowsOk_pairs on, (x.on_.mono hle1).row, by simp; omega, by simp; omega, _, rowsOk_ints gr, (x.group_.mono hle1).row, by simp; omega, by simp; omega, _, rowsOk_sorts od, (x.order_.mono hle1).row, by simp; omega, by simp; omega, ?_⟩⟩
  rw [bindP_nil] at hw
  refine ⟨fun ⟨i, w', us, hx⟩ => w' = wv ∧ i ≤ args.length ∧ PH.le h1 hx ∧ us.length = i ∧ ∀ (j : Nat) q, (args.take i)[j]? = some q → ∃ u, us[j]? = some u ∧ RepQ hx q u, fun ⟨i, _, _, _⟩ => args.length - i, ⟨(0, wv, [], h1), ⟨rfl, by omega, .refl _, rfl, fun j x hx => by simp at hx⟩, MT⟩, ?_⟩
  rintro ⟨i, wv, us, hx⟩ ⟨rfl, hi, hle, hul, hus⟩
  dsimp only
  refine branch_dec (fun hlt => ?_) (fun hge => ?_)
  · obtain ⟨q, hq⟩ := getx hl hlt
    obtain ⟨b1, o1, u, e1, r1, hru⟩ := (x.args_.mono (hle1.trans hle)).at hq
    refine ⟨b1, o1, e1, by omega, hlt, u, .imm r1, u, q, rfl, hru, hN q (List.mem_of_getElem? hq), fun v' h' hle' hr' => ⟨.imm (r1.mono hle'), r1.mono hle', by simp; omega, by simp; omega, (i + 1, wv, us ++ [v'], h'), ⟨rfl, by show i + 1 ≤ args.length; omega, hle.trans hle', by simp [hul], reps_snoc (R' := RepQ h') hi hul hq hus (fun _ _ h2 => h2.mono hle') hr'⟩, by show args.length - (i + 1) < args.length - i; omega, ?_⟩⟩
    rw [List.map_append]; exact MT
  · rw [List.take_of_length_le (by omega)] at hus
    intro s1 h2 hle2 r1 s2 h3 hle3 r2 s3 h4 hle4 r3 s4 h5 hle5 r4 s5 h6 hle6 r5
    have a5 := hle6
    have a4 := hle5.trans a5
    have a3 := hle4.trans a4
    have a2 := hle3.trans a3
    have a1 := hle2.trans a2
    have a0 := hle.trans a1
    exact hK ⟨v.op, v.table, wv, s1, s2, s3, s4, v.limit, s5⟩ h6 (hle1.trans a0) (QParts.rep ⟨x.op_, x.table_, hw.mono a0, ⟨r1.mono a2, l1⟩, ⟨r2.mono a3, l2⟩, ⟨r3.mono a4, l3⟩, ⟨r4.mono a5, l4⟩, x.limit_, ⟨⟨us, r5, by omega, fun j q hq => by
      obtain ⟨u, e1, e2⟩ := hus j q hq
      exact ⟨u, e1, e2.mono a1⟩⟩, hlen⟩⟩)
theorem f28_all : ∀ N, Sound Tryz.prog 28 (CopyQS N)
  | 0 => by
    refine fn_sound (fn := Tryz.f28) (c := bodyOf Tryz.f28) Tryz.func28 rfl (by decide) ?_
    rintro cvs m h K ⟨v, q, rfl, _, hN, _⟩
    omega
  | N + 1 => by
    refine fn_sound (fn := Tryz.f28) (c := bodyOf Tryz.f28) Tryz.func28 rfl (by decide) ?_
    rintro cvs m h K ⟨v, q, rfl, hq, hN, hK⟩
    have hargs := @qargs_lt q
    obtain ⟨op, ta, w, co, on, gr, od, li, args⟩ := q
    refine ⟨f28_ctx N v co on gr od m, rfl, specs_cons f58_sound (specs_cons (f28_all N) specs_nil), ?_⟩
    rw [← f28_vc N v co on gr od m h K]
    exact f28_ok hq.parts (fun q hq => by have := hargs (q := q) hq; omega) hK
theorem f28_sound : Sound Tryz.prog 28 CopyQA := sound_of_all f28_all fun _ _ _ _ ⟨v, q, e, h1, h2⟩ => ⟨SizeOf.sizeOf q + 1, v, q, e, h1, by omega, h2⟩
theorem f43_ok {v : SV2} {t : Step} {m : MH} {h : PH} {K : CV → MH → PH → Prop} (x : RepSt h t v) (hK : ∀ v' h', PH.le h h' → RepQ h' t.query v' → K (aQ v') m h') : f43_nice v m h K :=
  ⟨⟨v.op, v.table, v.where_, v.columns, v.on, v.group, v.order, v.limit, ⟨none, 0, 0⟩⟩, t.query, rfl, QParts.rep ⟨x.op_, x.table_, x.where_, x.columns_, x.on_, x.group_, x.order_, x.limit_, .nil _ _ _ _⟩, hK⟩
theorem f43_sound : Sound Tryz.prog 43 NodeTS := by
  refine fn_sound (fn := Tryz.f43) (c := bodyOf Tryz.f43) Tryz.func43 rfl (by decide) ?_
  rintro cvs m h K ⟨v, t, rfl, x, hK⟩
  refine ⟨ctx2 [(28, CopyQA)] [] [] [] false, rfl, specs_cons f28_sound specs_nil, ?_⟩
  rw [← f43_vc v m h K]
  exact f43_ok x hK
theorem f20_ok {v w : SV2} {t u : Step} {m : MH} {h : PH} {K : CV → MH → PH → Prop} (x : RepSt h t v) (y : RepSt h u w) (hK : ∀ r : Bool, (r = true ↔ t = u) → K (cB r) m h) : f20_nice v w m h (Weak h K) := by
  refine branch_intro (fun h1 => branch_intro (fun h2 => ⟨v, t, rfl, x, fun v1 h3 hle1 q1 => ⟨w, u, rfl, y.mono hle1, fun v2 h4 hle2 q2 => ⟨v1, v2, _, _, rfl, RepQ.mono hle2 q1, q2, fun r hr => .out (Sub.refl m) (hle1.trans hle2) (hK r (hr.trans ?_))⟩⟩⟩) (fun h2 => .here (hK false ⟨fun e => (by cases e), fun e => ?_⟩))) (fun h1 => .here (hK false ⟨fun e => (by cases e), fun e => ?_⟩))
  · have h1 : t.left = u.left := by rw [x.left_, y.left_] at h1; simpa using h1
    have h2 : t.right = u.right := by rw [x.right_, y.right_] at h2; simpa using h2
    obtain ⟨a1, a2, a3, a4, a5, a6, a7, a8, a9, a10⟩ := t
    obtain ⟨b1, b2, b3, b4, b5, b6, b7, b8, b9, b10⟩ := u
    dsimp only at h1 h2 ⊢
    subst h1 h2
    constructor
    · intro e; injection e with e1 e2 e3 e4 e5 e6 e7 e8; rw [e1, e2, e3, e4, e5, e6, e7, e8]
    · intro e; injection e with e1 e2 e3 e4 e5 e6 e7 e8; rw [e1, e2, e3, e4, e5, e6, e7, e8]
  · subst e; rw [x.right_, y.right_] at h2; simp at h2
  · subst e; rw [x.left_, y.left_] at h1; simp at h1
theorem f20_sound : Sound Tryz.prog 20 SameTS := by
  refine fn_sound' (fn := Tryz.f20) (c := bodyOf Tryz.f20) Tryz.func20 rfl (by decide) ?_
  rintro cvs m h K ⟨v, w, t, u, rfl, x, y, hK⟩
  refine ⟨ctx2 [(43, NodeTS), (24, EqQA)] [] [] [] false, rfl, specs_cons f43_sound (specs_cons f24_sound specs_nil), ?_⟩
  rw [← f20_vc v w m h _]
  exact f20_ok x y hK
end Go.Ps
namespace Go.Ps
open Go Go.Vc Go.Proofs
def CaseOk (m : MH) (h : PH) (cb : Nat) : Prop := ∃ r, CaseAt m h cb r
theorem CaseOk.mono {m : MH} {h h' : PH} {cb : Nat} (x : CaseOk m h cb) (le : PH.le h h') : CaseOk m h' cb := by
  obtain ⟨r, s, cs, k, h1, h2, h3⟩ := x
  exact ⟨r, s, cs, k, h1, h2.mono le, h3⟩
theorem MOther.refl (m : MH) (cb : Nat) : MOther m m cb := ⟨fun _ _ => rfl⟩
theorem MOther.trans {m m' m'' : MH} {cb : Nat} (a : MOther m m' cb) (b : MOther m' m'' cb) : MOther m m'' cb := ⟨fun c hc => (b.other c hc).trans (a.other c hc)⟩
def I64 (n : Int) : Prop := -9223372036854775808 ≤ n ∧ n ≤ 9223372036854775807
structure ValW (v : VV) : Prop where
  int_ : I64 v.int
  text_ : v.text.size ≤ 64
structure OpdW (o : OV) : Prop where
  index_ : I64 o.index
  value_ : ValW o.value
def IntW : Vc.Spec := fun cvs m h K => ∃ cb n, cvs = [cP cb, cI n] ∧ CaseOk m h cb ∧ ∀ k m', 0 ≤ k → (k < n ∨ k = 0) → MOther m m' cb → CaseOk m' h cb → K (cI k) m' h
def BoolW : Vc.Spec := fun cvs m h K => ∃ cb n, cvs = [cP cb, cI n] ∧ 0 ≤ n ∧ n ≤ 1000 ∧ CaseOk m h cb ∧ ∀ r m', MOther m m' cb → CaseOk m' h cb → K (cB r) m' h
def NumberW : Vc.Spec := fun cvs m h K => ∃ cb, cvs = [cP cb] ∧ CaseOk m h cb ∧ ∀ k m', I64 k → MOther m m' cb → CaseOk m' h cb → K (cI k) m' h
def TextW : Vc.Spec := fun cvs m h K => ∃ cb, cvs = [cP cb] ∧ CaseOk m h cb ∧ ∀ t m', t.size ≤ 64 → MOther m m' cb → CaseOk m' h cb → K (cStr t) m' h
def ValueW : Vc.Spec := fun cvs m h K => ∃ cb kind, cvs = [cP cb, cI kind] ∧ CaseOk m h cb ∧ ∀ v m', ValW v → MOther m m' cb → CaseOk m' h cb → K (aV v) m' h
theorem intW : Sound Tryz.prog 12 IntW := by
  refine ⟨int_sound.1, fun cvs vs m h w K hS hp => int_sound.2 cvs vs m h w K ?_ hp⟩
  obtain ⟨cb, n, rfl, ⟨r, hr⟩, hK⟩ := hS
  refine ⟨cb, n, r, rfl, hr, fun m' ho hc => hK _ m' ?_ ?_ ho ⟨_, hc⟩⟩
  · cases r with
    | nil => simp [cInt]
    | cons b r =>
      simp only [cInt]
      split
      · simp
      · exact Int.emod_nonneg _ (by omega)
  · cases r with
    | nil => simp [cInt]
    | cons b r =>
      simp only [cInt]
      split
      · simp
      · exact .inl (Int.emod_lt_of_pos _ (by omega))
noncomputable def f108_ctx (h : PH) : Ctx :=
  ctx2 [(12, IntW)] [(18, { A := Nat × ByteArray × MH, st := fun ⟨i, t, m⟩ => mkSt 37 38 [(3, vv (.string t)), (4, iv i)] [] m h }), (23, { A := Nat × ByteArray × MH, st := fun ⟨i, t, m⟩ => mkSt 37 38 [(3, vv (.string t)), (5, iv i)] [] m h })] [] [] false
def f10_nice (cb : Nat) (n : Int) (m : MH) (h : PH) (K : CV → MH → PH → Prop) : Prop :=
    ∃ (cb_1 : Nat), ∃ (n_1 : Int), [cQp cb 0, cQi n] = [cQp cb_1 0, cQi n_1] /\ CaseOk m h cb_1 /\ ∀ (k : Int) (m' : MH), 0 <= k -> k < n_1 ∨ k = 0 -> MOther m m' cb_1 -> CaseOk m' h 
    cb_1 -> K (cQb (k == IntKind.i64.wrap (n - 1))) m' h
theorem f10_vc (cb : Nat) (n : Int) (m : MH) (h : PH) (K : CV → MH → PH → Prop) : f10_nice cb n m h K = (fnVC (ctx2 [(12, IntW)] [] [] [] false) Tryz.f10 (bodyOf Tryz.f10) (entry Tryz.f10.ntmps [cP cb, cI n] m h) K) := by kernel_rfl
def f107_nice (cb : Nat) (m : MH) (h : PH) (K : CV → MH → PH → Prop) : Prop :=
    ∃ (cb_1 : Nat), ∃ (n : Int), [cQp cb 0, cQi 12] = [cQp cb_1 0, cQi n] /\ CaseOk m h cb_1 /\ ∀ (k : Int) (m' : MH), 0 <= k -> k < n ∨ k = 0 -> MOther m m' cb_1 -> CaseOk m' h cb_1 
    -> branch (k == 9) (K (cQi (Int.negSucc 0)) m' h) (branch (k == 10) (K (cQi 9223372036854775807) m' h) (branch (k == 11) (K (cQi (Int.negSucc 9223372036854775807)) m' h) (((4 : 
    Int) = 0 -> False) /\ K (cQi (k.tmod 4)) m' h)))
theorem f107_vc (cb : Nat) (m : MH) (h : PH) (K : CV → MH → PH → Prop) : f107_nice cb m h K = (fnVC (ctx2 [(12, IntW)] [] [] [] false) Tryz.f107 (bodyOf Tryz.f107) (entry Tryz.f107.ntmps [cP cb] m h) K) := by kernel_rfl
def f108_nice (cb : Nat) (m : MH) (h : PH) (K : CV → MH → PH → Prop) : Prop :=
    ∃ (cb_1 : Nat), ∃ (n : Int), [cQp cb 0, cQi 10] = [cQp cb_1 0, cQi n] /\ CaseOk m h cb_1 /\ ∀ (k : Int) (m' : MH), 0 <= k -> k < n ∨ k = 0 -> MOther m m' cb_1 -> CaseOk m' h cb_1 
    -> branch (k == 0) (K (CV.val (Value.string (ByteArray.mk (Array.mk [OfNat.ofNat 97])))) m' h) (branch (k == 1) (K (CV.val (Value.string (ByteArray.mk (Array.mk [OfNat.ofNat 
    97])))) m' h) (branch (k == 2) (K (CV.val (Value.string (ByteArray.mk (Array.mk [OfNat.ofNat 97])))) m' h) (branch (k == 3) (K (CV.val (Value.string (ByteArray.mk (Array.mk 
    [OfNat.ofNat 98])))) m' h) (branch (k == 4) (K (CV.val (Value.string (ByteArray.mk (Array.mk [OfNat.ofNat 98])))) m' h) (branch (k == 5) (K (CV.val vQz) m' h) (branch (k == 6) (K 
    (CV.val (Value.string (ByteArray.mk (Array.mk [OfNat.ofNat 97, OfNat.ofNat 0])))) m' h) (branch (k == 7) (K (CV.val (Value.string (ByteArray.mk (Array.mk [OfNat.ofNat 255])))) m' 
    h) (branch (k == 8) (∃ (I : Nat × ByteArray × MH -> Prop), ∃ (mu : Nat × ByteArray × MH -> Nat), (∃ (x : Nat × ByteArray × MH), I x /\ SV.at aQz = SV.at (At.val (Value.string 
    x.2.1)) /\ sQi 0 = sQi (↑x.1 : Int) /\ m' = x.2.2 /\ h = h /\ True) /\ ∀ (x : Nat × ByteArray × MH), I x -> branch (decide ((↑x.1 : Int) < 64)) (x.2.1.size < 9223372036854775807 /\ 
    ∃ (y : Nat × ByteArray × MH), I y /\ mu y < mu x /\ SV.at (At.val (Value.string (x.2.1 ++ ByteArray.mk (Array.mk [OfNat.ofNat 255])))) = SV.at (At.val (Value.string y.2.1)) /\ sQi 
    (IntKind.i64.wrap ((↑x.1 : Int) + 1)) = sQi (↑y.1 : Int) /\ x.2.2 = y.2.2 /\ h = h /\ True) (K (CV.val (Value.string x.2.1)) x.2.2 h)) (∃ (I : Nat × ByteArray × MH -> Prop), ∃ (mu 
    : Nat × ByteArray × MH -> Nat), (∃ (x : Nat × ByteArray × MH), I x /\ SV.at aQz = SV.at (At.val (Value.string x.2.1)) /\ sQi 0 = sQi (↑x.1 : Int) /\ m' = x.2.2 /\ h = h /\ True) /\ 
    ∀ (x : Nat × ByteArray × MH), I x -> branch (decide ((↑x.1 : Int) < 64)) (x.2.1.size < 9223372036854775807 /\ ∃ (y : Nat × ByteArray × MH), I y /\ mu y < mu x /\ SV.at (At.val 
    (Value.string (x.2.1 ++ ByteArray.mk (Array.mk [OfNat.ofNat 98])))) = SV.at (At.val (Value.string y.2.1)) /\ sQi (IntKind.i64.wrap ((↑x.1 : Int) + 1)) = sQi (↑y.1 : Int) /\ x.2.2 = 
    y.2.2 /\ h = h /\ True) (K (CV.val (Value.string x.2.1)) x.2.2 h))))))))))
theorem f108_vc (cb : Nat) (m : MH) (h : PH) (K : CV → MH → PH → Prop) : f108_nice cb m h K = (fnVC (f108_ctx h) Tryz.f108 (bodyOf Tryz.f108) (entry Tryz.f108.ntmps [cP cb] m h) K) := by kernel_rfl
def f80_nice (cb : Nat) (kind : Int) (m : MH) (h : PH) (K : CV → MH → PH → Prop) : Prop :=
    branch (kind == 3) (∃ (cb_1 : Nat), ∃ (n : Int), [cQp cb 0, cQi 2] = [cQp cb_1 0, cQi n] /\ CaseOk m h cb_1 /\ ∀ (k : Int) (m' : MH), 0 <= k -> k < n ∨ k = 0 -> MOther m m' cb_1 -> 
    CaseOk m' h cb_1 -> K (cQa [vQi kind, vQi k, vQz]) m' h) (branch (kind == 4) (∃ (cb_1 : Nat), [cQp cb 0] = [cQp cb_1 0] /\ CaseOk m h cb_1 /\ ∀ (k : Int) (m' : MH), I64 k -> MOther 
    m m' cb_1 -> CaseOk m' h cb_1 -> K (cQa [vQi kind, vQi k, vQz]) m' h) (∃ (cb_1 : Nat), [cQp cb 0] = [cQp cb_1 0] /\ CaseOk m h cb_1 /\ ∀ (t : ByteArray) (m' : MH), t.size <= 64 -> 
    MOther m m' cb_1 -> CaseOk m' h cb_1 -> K (cQa [vQi 5, vQi 0, Value.string t]) m' h))
theorem f80_vc (cb : Nat) (kind : Int) (m : MH) (h : PH) (K : CV → MH → PH → Prop) : f80_nice cb kind m h K = (fnVC (ctx2 [(12, IntW), (107, NumberW), (108, TextW)] [] [] [] false) Tryz.f80 (bodyOf Tryz.f80) (entry Tryz.f80.ntmps [cP cb, cI kind] m h) K) := by kernel_rfl
theorem f10_ok {cb : Nat} {n : Int} {m : MH} {h : PH} {K : CV → MH → PH → Prop} (hc : CaseOk m h cb) (hK : ∀ r m', MOther m m' cb → CaseOk m' h cb → K (cB r) m' h) : f10_nice cb n m h K :=
  ⟨cb, n, rfl, hc, fun _ m' _ _ ho hc' => hK _ m' ho hc'⟩
theorem f107_ok {cb : Nat} {m : MH} {h : PH} {K : CV → MH → PH → Prop} (hc : CaseOk m h cb) (hK : ∀ k m', I64 k → MOther m m' cb → CaseOk m' h cb → K (cI k) m' h) : f107_nice cb m h K := by
  refine ⟨cb, 12, rfl, hc, fun k m' h0 h1 ho hc' => branch_intro (fun _ => hK _ m' ⟨by omega, by omega⟩ ho hc') (fun _ => branch_intro (fun _ => hK _ m' ⟨by omega, by omega⟩ ho hc') (fun _ => branch_intro (fun _ => hK _ m' ⟨by omega, by omega⟩ ho hc') (fun _ => ⟨by omega, hK _ m' ?_ ho hc'⟩)))⟩
  rw [Int.tmod_eq_emod_of_nonneg h0]
  exact ⟨by omega, by omega⟩
theorem f108_ok {cb : Nat} {m : MH} {h : PH} {K : CV → MH → PH → Prop} (hc : CaseOk m h cb) (hK : ∀ t m', t.size ≤ 64 → MOther m m' cb → CaseOk m' h cb → K (cStr t) m' h) : f108_nice cb m h K := by
  refine ⟨cb, 10, rfl, hc, fun k m' h0 h1 ho hc' => ?_⟩
  refine branch_intro (fun _ => hK _ m' (by decide) ho hc') (fun _ => branch_intro (fun _ => hK _ m' (by decide) ho hc') (fun _ => branch_intro (fun _ => hK _ m' (by decide) ho hc') (fun _ => branch_intro (fun _ => hK _ m' (by decide) ho hc') (fun _ => branch_intro (fun _ => hK _ m' (by decide) ho hc') (fun _ => branch_intro (fun _ => hK _ m' (by decide) ho hc') (fun _ => branch_intro (fun _ => hK _ m' (by decide) ho hc') (fun _ => branch_intro (fun _ => hK _ m' (by decide) ho hc') (fun _ => branch_intro (fun _ => ?_) (fun _ => ?_)))))))))
  all_goals
    refine ⟨fun ⟨i, t, mx⟩ => mx = m' ∧ i ≤ 64 ∧ t.size = i, fun ⟨i, _, _⟩ => 64 - i, ⟨(0, ⟨#[]⟩, m'), ⟨rfl, by omega, rfl⟩, MT⟩, ?_⟩
    rintro ⟨i, t, m'⟩ ⟨rfl, hi, ht⟩
    dsimp only
    refine branch_dec (fun hlt => ⟨?_, (i + 1, _, m'), ⟨rfl, by omega, ?_⟩, by show 64 - (i + 1) < 64 - i; omega, MT⟩) (fun hge => hK t m' (by omega) ho hc')
    · rw [ht]; show i + 1 ≤ _; omega
    · rw [ByteArray.size_append, ht]; rfl
theorem f80_ok {cb : Nat} {kind : Int} {m : MH} {h : PH} {K : CV → MH → PH → Prop} (hc : CaseOk m h cb) (hK : ∀ v m', ValW v → MOther m m' cb → CaseOk m' h cb → K (aV v) m' h) : f80_nice cb kind m h K := by
  refine branch_intro (fun _ => ⟨cb, 2, rfl, hc, fun k m' h0 h1 ho hc' => hK ⟨kind, k, ⟨#[]⟩⟩ m' ⟨⟨by show -9223372036854775808 ≤ k; omega, by show k ≤ 9223372036854775807; omega⟩, by show (ByteArray.mk #[]).size ≤ 64; decide⟩ ho hc'⟩) (fun _ => branch_intro (fun _ => ⟨cb, rfl, hc, fun k m' hk ho hc' => hK ⟨kind, k, ⟨#[]⟩⟩ m' ⟨hk, by show (ByteArray.mk #[]).size ≤ 64; decide⟩ ho hc'⟩) (fun _ => ⟨cb, rfl, hc, fun t m' ht ho hc' => hK ⟨5, 0, t⟩ m' ⟨⟨by simp, by simp⟩, ht⟩ ho hc'⟩))
theorem f10_sound : Sound Tryz.prog 10 BoolW := by
  refine fn_sound (fn := Tryz.f10) (c := bodyOf Tryz.f10) Tryz.func10 rfl (by decide) ?_
  rintro cvs m h K ⟨cb, n, rfl, _, _, hc, hK⟩
  refine ⟨ctx2 [(12, IntW)] [] [] [] false, rfl, specs_cons intW specs_nil, ?_⟩
  rw [← f10_vc cb n m h K]
  exact f10_ok hc hK
theorem f107_sound : Sound Tryz.prog 107 NumberW := by
  refine fn_sound (fn := Tryz.f107) (c := bodyOf Tryz.f107) Tryz.func107 rfl (by decide) ?_
  rintro cvs m h K ⟨cb, rfl, hc, hK⟩
  refine ⟨ctx2 [(12, IntW)] [] [] [] false, rfl, specs_cons intW specs_nil, ?_⟩
  rw [← f107_vc cb m h K]
  exact f107_ok hc hK
theorem f108_sound : Sound Tryz.prog 108 TextW := by
  refine fn_sound (fn := Tryz.f108) (c := bodyOf Tryz.f108) Tryz.func108 rfl (by decide) ?_
  rintro cvs m h K ⟨cb, rfl, hc, hK⟩
  refine ⟨f108_ctx h, rfl, specs_cons intW specs_nil, ?_⟩
  rw [← f108_vc cb m h K]
  exact f108_ok hc hK
theorem f80_sound : Sound Tryz.prog 80 ValueW := by
  refine fn_sound (fn := Tryz.f80) (c := bodyOf Tryz.f80) Tryz.func80 rfl (by decide) ?_
  rintro cvs m h K ⟨cb, kind, rfl, hc, hK⟩
  refine ⟨ctx2 [(12, IntW), (107, NumberW), (108, TextW)] [] [] [] false, rfl, specs_cons intW (specs_cons f107_sound (specs_cons f108_sound specs_nil)), ?_⟩
  rw [← f80_vc cb kind m h K]
  exact f80_ok hc hK
end Go.Ps
