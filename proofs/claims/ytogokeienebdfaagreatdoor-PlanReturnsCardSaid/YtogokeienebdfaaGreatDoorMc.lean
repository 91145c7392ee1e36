/-
  Part 3 of a proof that a law of the given program returns true: a condition generator that is proved sound, and contracts of functions. No condition of its own. Own work, joined by a program (pack2.py).
-/
import Derived.Test.YtogokeienebdfaaGreatDoorMb
namespace Go.Ps
open Go Go.Vc Go.Proofs
noncomputable section
variable {K : CV → MH → PH → Prop} {m : MH} {h : PH} {s : Sch} {ps : List Int} {cb : Nat} {sc : SchV} {v : QV} {q : Query} {p : Pred} {l : List Int} {i : Nat} {N : Nat} {m' : MH} {h' : PH} {co : List Int} {gr : List Int} {od : List (Int × Bool)} {w : Pred} {ta : Int} {li : Int} {xs : List (List Value)} {sz : Nat} {k : Nat} {ks : List (List Int)} {rs : List Int} {r : Sl} {a : List Int} {b : Nat}
def Sub (m m' : MH) : Prop := ∀ b o, m b = some o → m' b = some o
theorem Sub.refl (m : MH) : Sub m m := fun _ _ e => e
theorem Sub.free (h : Sub m m') (hb : m' b = none) : m b = none := by
 cases e : m b with
 | none => rfl
 | some o => rw [h b o e] at hb; cases hb
theorem Sub.upd {mx : MH} (h : Sub m mx) (hb : m b = none) (ho : ∀ b', b' ≠ b → m' b' = mx b') : Sub m m' := fun b' o e => by
 have hne : b' ≠ b := fun e' => by rw [e', hb] at e; cases e
 rw [ho b' hne, h b' o e]
def MapS (m : MH) (b : Nat) (ns : List ByteArray) : Prop := MapAt m b (ns.map fun n => (.string n, .bool true))
theorem MapS.other {b' : Nat} {ns : List ByteArray} (h : MapS m b ns) (hne : b ≠ b') (ho : ∀ c, c ≠ b' → m' c = m c) : MapS m' b ns := by
 obtain ⟨es, cl, h1, h2⟩ := h.ex
 exact ⟨es, cl, by rw [ho b hne, h1], h2⟩
def NamedS : Vc.Spec := fun cvs m h K => ∃ v s, cvs = [aS v] ∧ RepS h s v ∧ ∀ r : Bool, (r = true ↔ Good TabT s.tables) → K (cB r) m h
def TableS : Vc.Spec := fun cvs m h K => ∃ v s t, ∃ i : Nat, cvs = [aS v, cI i] ∧ RepS h s v ∧ s.tables[i]? = some t ∧ ∀ r : Bool, (r = true ↔ TabT (s.tables.take i) t) → K (cB r) m h
def f60_ctx (v : SchV) (h : PH) : Ctx :=
 ctx2 [(85, NameS)] [(3, { A := Nat × Nat × MH, st := fun ⟨i, b1, mx⟩ => mkSt 79 80 [(3, vv (.map (some b1))), (11, sv v.tables), (12, iv v.tables.len), (13, iv i)] [] mx h }),
  (10, { A := Nat × Nat × Nat × Nat × Sl × MH, st := fun ⟨i, k, b1, b2, sl, mx⟩ => mkSt 79 80 [(3, vv (.map (some b1))), (6, vv (.map (some b2))), (11, sv v.tables), (12, iv v.tables.len), (13, iv i), (45, sv sl), (46, iv sl.len), (47, iv k)] [] mx h })] [] [] false
def f76_ctx (v : SchV) (i : Nat) (m : MH) (h : PH) : Ctx :=
 ctx2 [(106, NameS), (78, KindS)] [(5, { A := Nat × TabV, st := fun ⟨k, w⟩ => mkSt 94 96 [(1, iv i), (2, .at (.ptr 2 0)), (5, .at (.ptr 5 0)), (6, iv k)] [(2, .cells 28 (v.enc.map .val)), (5, .cells 72 (w.enc.map .val))] m h }),
  (10, { A := Nat × TabV, st := fun ⟨k, w⟩ => mkSt 94 96 [(5, .at (.ptr 5 0)), (53, iv w.columns.len), (54, iv k)] [(5, .cells 72 (w.enc.map .val))] m h }),
  (15, { A := Nat × Nat × TabV, st := fun ⟨k, j, w⟩ => mkSt 94 96 [(5, .at (.ptr 5 0)), (7, iv k), (8, iv j), (53, iv w.columns.len), (54, iv k)] [(5, .cells 72 (w.enc.map .val))] m h })] [] [] false
def f60_nice (v : SchV) (m : MH) (h : PH) (K : CV → MH → PH → Prop) : Prop :=
 ∀ (b : Nat) (m' : MH), Unheld m h b -> MUpd m m' b (Obj.map (Array.mk []) 0) -> ∃ (I : Nat × Nat × MH -> Prop) (mu : Nat × Nat × MH -> Nat), (∃ (x : Nat × Nat × MH), I x /\ SV.at
 (At.val (Value.map (some b))) = SV.at (At.val (Value.map (some x.2.1))) /\ eQ (sQs v.tables) /\ eQ (sQi ↑v.tables.len) /\ sQi 0 = sQi ↑x.1 /\ m' = x.2.2 /\ h = h /\ True) /\ ∀ (x :
 Nat × Nat × MH), I x -> branch (decide ((↑x.1 : Int) < ↑v.tables.len)) (∃ (b off : Nat), v.tables.a = some (Addr.mk b off none) /\ 0 <= (↑x.1 : Int) /\ (↑x.1 : Int) < ↑v.tables.len
 /\ ∃ (y : TabV), RdAt x.2.2 h b (off + (↑x.1 : Int).toNat * 5) [Value.string y.name, vQs y.columns, vQi y.key, vQs y.references, vQs y.checks] /\ ∃ (s : ByteArray), [CV.val
 (Value.string y.name)] = [CV.val (Value.string s)] /\ branch (!nameOk s) (K (cQb false) x.2.2 h) (∃ (kvs : List (Value × ((f60_ctx v h).dec 4).X)), ∃ (Ok : Value -> Prop), MapAt
 x.2.2 x.2.1 (List.map (fun (p : Value × ((f60_ctx v h).dec 4).X) => (p.1, Value.bool p.2)) kvs) /\ KeyLaw Tryz.prog 9 Ok /\ Ok (Value.string y.name) /\ (∀ (e : Value × ((f60_ctx v
 h).dec 4).X), List.Mem e kvs -> Ok e.1) /\ ((∀ (e : Value × ((f60_ctx v h).dec 4).X), List.Mem e kvs -> e.1 = Value.string y.name -> False) -> branch (decide (y.key < 1)) (K (cQb
 false) x.2.2 h) (branch (decide (y.key > (↑y.columns.len : Int))) (K (cQb false) x.2.2 h) (∃ (kvs : List (Value × Value)) (Ok : Value -> Prop), MapAt x.2.2 x.2.1 kvs /\ KeyLaw
 Tryz.prog 9 Ok /\ Ok (Value.string y.name) /\ (∀ (e : Value × Value), List.Mem e kvs -> Ok e.1) /\ (∀ (e : Value × Value), List.Mem e kvs -> e.1 = Value.string y.name -> False) /\
 ∀ (m' : MH), MSame x.2.2 m' x.2.1 -> MapAt m' x.2.1 (kvs ++ [(Value.string y.name, Value.bool true)]) -> ∀ (b : Nat) (m'_1 : MH), Unheld m' h b -> MUpd m' m'_1 b (Obj.map (Array.mk
 []) 0) -> ∃ (I_1 : Nat × Nat × Nat × Nat × Sl × MH -> Prop) (mu_1 : Nat × Nat × Nat × Nat × Sl × MH -> Nat), (∃ (x_1 : Nat × Nat × Nat × Nat × Sl × MH), I_1 x_1 /\ SV.at (At.val
 (Value.map (some x.2.1))) = SV.at (At.val (Value.map (some x_1.2.2.1))) /\ SV.at (At.val (Value.map (some b))) = SV.at (At.val (Value.map (some x_1.2.2.2.1))) /\ eQ (sQs v.tables)
 /\ eQ (sQi ↑v.tables.len) /\ sQi ↑x.1 = sQi ↑x_1.1 /\ sQs y.columns = sQs x_1.2.2.2.2.1 /\ sQi ↑y.columns.len = sQi ↑x_1.2.2.2.2.1.len /\ sQi 0 = sQi ↑x_1.2.1 /\ m'_1 =
 x_1.2.2.2.2.2 /\ h = h /\ True) /\ ∀ (x_1 : Nat × Nat × Nat × Nat × Sl × MH), I_1 x_1 -> branch (decide ((↑x_1.2.1 : Int) < ↑x_1.2.2.2.2.1.len)) (∃ (b off : Nat), x_1.2.2.2.2.1.a =
 some (Addr.mk b off none) /\ 0 <= (↑x_1.2.1 : Int) /\ (↑x_1.2.1 : Int) < ↑x_1.2.2.2.2.1.len /\ ∃ (y : ColV), RdAt x_1.2.2.2.2.2 h b (off + (↑x_1.2.1 : Int).toNat * 2) [Value.string
 y.name, vQi y.kind] /\ ∃ (s : ByteArray), [CV.val (Value.string y.name)] = [CV.val (Value.string s)] /\ branch (!nameOk s) (K (cQb false) x_1.2.2.2.2.2 h) (∃ (kvs : List (Value ×
 ((f60_ctx v h).dec 4).X)), ∃ (Ok : Value -> Prop), MapAt x_1.2.2.2.2.2 x_1.2.2.2.1 (List.map (fun (p : Value × ((f60_ctx v h).dec 4).X) => (p.1, Value.bool p.2)) kvs) /\ KeyLaw
 Tryz.prog 9 Ok /\ Ok (Value.string y.name) /\ (∀ (e : Value × ((f60_ctx v h).dec 4).X), List.Mem e kvs -> Ok e.1) /\ ((∀ (e : Value × ((f60_ctx v h).dec 4).X), List.Mem e kvs ->
 e.1 = Value.string y.name -> False) -> ∃ (kvs : List (Value × Value)) (Ok : Value -> Prop), MapAt x_1.2.2.2.2.2 x_1.2.2.2.1 kvs /\ KeyLaw Tryz.prog 9 Ok /\ Ok (Value.string y.name)
 /\ (∀ (e : Value × Value), List.Mem e kvs -> Ok e.1) /\ (∀ (e : Value × Value), List.Mem e kvs -> e.1 = Value.string y.name -> False) /\ ∀ (m' : MH), MSame x_1.2.2.2.2.2 m'
 x_1.2.2.2.1 -> MapAt m' x_1.2.2.2.1 (kvs ++ [(Value.string y.name, Value.bool true)]) -> branch (y.kind != 3) (branch (y.kind != 4) (branch (y.kind != 5) (K (cQb false) m' h) (∃ (x
 : Nat × Nat × Nat × Nat × Sl × MH), I_1 x /\ mu_1 x < mu_1 x_1 /\ SV.at (At.val (Value.map (some x_1.2.2.1))) = SV.at (At.val (Value.map (some x.2.2.1))) /\ SV.at (At.val
 (Value.map (some x_1.2.2.2.1))) = SV.at (At.val (Value.map (some x.2.2.2.1))) /\ eQ (sQs v.tables) /\ eQ (sQi ↑v.tables.len) /\ sQi ↑x_1.1 = sQi ↑x.1 /\ sQs x_1.2.2.2.2.1 = sQs
 x.2.2.2.2.1 /\ sQi ↑x_1.2.2.2.2.1.len = sQi ↑x.2.2.2.2.1.len /\ sQi (IntKind.i64.wrap ((↑x_1.2.1 : Int) + 1)) = sQi ↑x.2.1 /\ m' = x.2.2.2.2.2 /\ h = h /\ True)) (∃ (x : Nat × Nat
 × Nat × Nat × Sl × MH), I_1 x /\ mu_1 x < mu_1 x_1 /\ SV.at (At.val (Value.map (some x_1.2.2.1))) = SV.at (At.val (Value.map (some x.2.2.1))) /\ SV.at (At.val (Value.map (some
 x_1.2.2.2.1))) = SV.at (At.val (Value.map (some x.2.2.2.1))) /\ eQ (sQs v.tables) /\ eQ (sQi ↑v.tables.len) /\ sQi ↑x_1.1 = sQi ↑x.1 /\ sQs x_1.2.2.2.2.1 = sQs x.2.2.2.2.1 /\ sQi
 ↑x_1.2.2.2.2.1.len = sQi ↑x.2.2.2.2.1.len /\ sQi (IntKind.i64.wrap ((↑x_1.2.1 : Int) + 1)) = sQi ↑x.2.1 /\ m' = x.2.2.2.2.2 /\ h = h /\ True)) (∃ (x : Nat × Nat × Nat × Nat × Sl ×
 MH), I_1 x /\ mu_1 x < mu_1 x_1 /\ SV.at (At.val (Value.map (some x_1.2.2.1))) = SV.at (At.val (Value.map (some x.2.2.1))) /\ SV.at (At.val (Value.map (some x_1.2.2.2.1))) = SV.at
 (At.val (Value.map (some x.2.2.2.1))) /\ eQ (sQs v.tables) /\ eQ (sQi ↑v.tables.len) /\ sQi ↑x_1.1 = sQi ↑x.1 /\ sQs x_1.2.2.2.2.1 = sQs x.2.2.2.2.1 /\ sQi ↑x_1.2.2.2.2.1.len = sQi
 ↑x.2.2.2.2.1.len /\ sQi (IntKind.i64.wrap ((↑x_1.2.1 : Int) + 1)) = sQi ↑x.2.1 /\ m' = x.2.2.2.2.2 /\ h = h /\ True)) /\ ∀ (y_1 : Bool), List.Mem (Value.string y.name, y_1) kvs ->
 branch y_1 (K (cQb false) x_1.2.2.2.2.2 h) (∃ (kvs : List (Value × Value)) (Ok : Value -> Prop), MapAt x_1.2.2.2.2.2 x_1.2.2.2.1 kvs /\ KeyLaw Tryz.prog 9 Ok /\ Ok (Value.string
 y.name) /\ (∀ (e : Value × Value), List.Mem e kvs -> Ok e.1) /\ (∀ (e : Value × Value), List.Mem e kvs -> e.1 = Value.string y.name -> False) /\ ∀ (m' : MH), MSame x_1.2.2.2.2.2 m'
 x_1.2.2.2.1 -> MapAt m' x_1.2.2.2.1 (kvs ++ [(Value.string y.name, Value.bool true)]) -> branch (y.kind != 3) (branch (y.kind != 4) (branch (y.kind != 5) (K (cQb false) m' h) (∃ (x
 : Nat × Nat × Nat × Nat × Sl × MH), I_1 x /\ mu_1 x < mu_1 x_1 /\ SV.at (At.val (Value.map (some x_1.2.2.1))) = SV.at (At.val (Value.map (some x.2.2.1))) /\ SV.at (At.val
 (Value.map (some x_1.2.2.2.1))) = SV.at (At.val (Value.map (some x.2.2.2.1))) /\ eQ (sQs v.tables) /\ eQ (sQi ↑v.tables.len) /\ sQi ↑x_1.1 = sQi ↑x.1 /\ sQs x_1.2.2.2.2.1 = sQs
 x.2.2.2.2.1 /\ sQi ↑x_1.2.2.2.2.1.len = sQi ↑x.2.2.2.2.1.len /\ sQi (IntKind.i64.wrap ((↑x_1.2.1 : Int) + 1)) = sQi ↑x.2.1 /\ m' = x.2.2.2.2.2 /\ h = h /\ True)) (∃ (x : Nat × Nat
 × Nat × Nat × Sl × MH), I_1 x /\ mu_1 x < mu_1 x_1 /\ SV.at (At.val (Value.map (some x_1.2.2.1))) = SV.at (At.val (Value.map (some x.2.2.1))) /\ SV.at (At.val (Value.map (some
 x_1.2.2.2.1))) = SV.at (At.val (Value.map (some x.2.2.2.1))) /\ eQ (sQs v.tables) /\ eQ (sQi ↑v.tables.len) /\ sQi ↑x_1.1 = sQi ↑x.1 /\ sQs x_1.2.2.2.2.1 = sQs x.2.2.2.2.1 /\ sQi
 ↑x_1.2.2.2.2.1.len = sQi ↑x.2.2.2.2.1.len /\ sQi (IntKind.i64.wrap ((↑x_1.2.1 : Int) + 1)) = sQi ↑x.2.1 /\ m' = x.2.2.2.2.2 /\ h = h /\ True)) (∃ (x : Nat × Nat × Nat × Nat × Sl ×
 MH), I_1 x /\ mu_1 x < mu_1 x_1 /\ SV.at (At.val (Value.map (some x_1.2.2.1))) = SV.at (At.val (Value.map (some x.2.2.1))) /\ SV.at (At.val (Value.map (some x_1.2.2.2.1))) = SV.at
 (At.val (Value.map (some x.2.2.2.1))) /\ eQ (sQs v.tables) /\ eQ (sQi ↑v.tables.len) /\ sQi ↑x_1.1 = sQi ↑x.1 /\ sQs x_1.2.2.2.2.1 = sQs x.2.2.2.2.1 /\ sQi ↑x_1.2.2.2.2.1.len = sQi
 ↑x.2.2.2.2.1.len /\ sQi (IntKind.i64.wrap ((↑x_1.2.1 : Int) + 1)) = sQi ↑x.2.1 /\ m' = x.2.2.2.2.2 /\ h = h /\ True)))) (∃ (x_2 : Nat × Nat × MH), I x_2 /\ mu x_2 < mu x /\ SV.at
 (At.val (Value.map (some x_1.2.2.1))) = SV.at (At.val (Value.map (some x_2.2.1))) /\ eQ (sQs v.tables) /\ eQ (sQi ↑v.tables.len) /\ sQi (IntKind.i64.wrap ((↑x_1.1 : Int) + 1)) =
 sQi ↑x_2.1 /\ x_1.2.2.2.2.2 = x_2.2.2 /\ h = h /\ True)))) /\ ∀ (y_1 : Bool), List.Mem (Value.string y.name, y_1) kvs -> branch y_1 (K (cQb false) x.2.2 h) (branch (decide (y.key <
 1)) (K (cQb false) x.2.2 h) (branch (decide (y.key > (↑y.columns.len : Int))) (K (cQb false) x.2.2 h) (∃ (kvs : List (Value × Value)) (Ok : Value -> Prop), MapAt x.2.2 x.2.1 kvs /\
 KeyLaw Tryz.prog 9 Ok /\ Ok (Value.string y.name) /\ (∀ (e : Value × Value), List.Mem e kvs -> Ok e.1) /\ (∀ (e : Value × Value), List.Mem e kvs -> e.1 = Value.string y.name ->
 False) /\ ∀ (m' : MH), MSame x.2.2 m' x.2.1 -> MapAt m' x.2.1 (kvs ++ [(Value.string y.name, Value.bool true)]) -> ∀ (b : Nat) (m'_1 : MH), Unheld m' h b -> MUpd m' m'_1 b (Obj.map
 (Array.mk []) 0) -> ∃ (I_1 : Nat × Nat × Nat × Nat × Sl × MH -> Prop) (mu_1 : Nat × Nat × Nat × Nat × Sl × MH -> Nat), (∃ (x_1 : Nat × Nat × Nat × Nat × Sl × MH), I_1 x_1 /\ SV.at
 (At.val (Value.map (some x.2.1))) = SV.at (At.val (Value.map (some x_1.2.2.1))) /\ SV.at (At.val (Value.map (some b))) = SV.at (At.val (Value.map (some x_1.2.2.2.1))) /\ eQ (sQs
 v.tables) /\ eQ (sQi ↑v.tables.len) /\ sQi ↑x.1 = sQi ↑x_1.1 /\ sQs y.columns = sQs x_1.2.2.2.2.1 /\ sQi ↑y.columns.len = sQi ↑x_1.2.2.2.2.1.len /\ sQi 0 = sQi ↑x_1.2.1 /\ m'_1 =
 x_1.2.2.2.2.2 /\ h = h /\ True) /\ ∀ (x_1 : Nat × Nat × Nat × Nat × Sl × MH), I_1 x_1 -> branch (decide ((↑x_1.2.1 : Int) < ↑x_1.2.2.2.2.1.len)) (∃ (b off : Nat), x_1.2.2.2.2.1.a =
 some (Addr.mk b off none) /\ 0 <= (↑x_1.2.1 : Int) /\ (↑x_1.2.1 : Int) < ↑x_1.2.2.2.2.1.len /\ ∃ (y : ColV), RdAt x_1.2.2.2.2.2 h b (off + (↑x_1.2.1 : Int).toNat * 2) [Value.string
 y.name, vQi y.kind] /\ ∃ (s : ByteArray), [CV.val (Value.string y.name)] = [CV.val (Value.string s)] /\ branch (!nameOk s) (K (cQb false) x_1.2.2.2.2.2 h) (∃ (kvs : List (Value ×
 ((f60_ctx v h).dec 4).X)), ∃ (Ok : Value -> Prop), MapAt x_1.2.2.2.2.2 x_1.2.2.2.1 (List.map (fun (p : Value × ((f60_ctx v h).dec 4).X) => (p.1, Value.bool p.2)) kvs) /\ KeyLaw
 Tryz.prog 9 Ok /\ Ok (Value.string y.name) /\ (∀ (e : Value × ((f60_ctx v h).dec 4).X), List.Mem e kvs -> Ok e.1) /\ ((∀ (e : Value × ((f60_ctx v h).dec 4).X), List.Mem e kvs ->
 e.1 = Value.string y.name -> False) -> ∃ (kvs : List (Value × Value)) (Ok : Value -> Prop), MapAt x_1.2.2.2.2.2 x_1.2.2.2.1 kvs /\ KeyLaw Tryz.prog 9 Ok /\ Ok (Value.string y.name)
 /\ (∀ (e : Value × Value), List.Mem e kvs -> Ok e.1) /\ (∀ (e : Value × Value), List.Mem e kvs -> e.1 = Value.string y.name -> False) /\ ∀ (m' : MH), MSame x_1.2.2.2.2.2 m'
 x_1.2.2.2.1 -> MapAt m' x_1.2.2.2.1 (kvs ++ [(Value.string y.name, Value.bool true)]) -> branch (y.kind != 3) (branch (y.kind != 4) (branch (y.kind != 5) (K (cQb false) m' h) (∃ (x
 : Nat × Nat × Nat × Nat × Sl × MH), I_1 x /\ mu_1 x < mu_1 x_1 /\ SV.at (At.val (Value.map (some x_1.2.2.1))) = SV.at (At.val (Value.map (some x.2.2.1))) /\ SV.at (At.val
 (Value.map (some x_1.2.2.2.1))) = SV.at (At.val (Value.map (some x.2.2.2.1))) /\ eQ (sQs v.tables) /\ eQ (sQi ↑v.tables.len) /\ sQi ↑x_1.1 = sQi ↑x.1 /\ sQs x_1.2.2.2.2.1 = sQs
 x.2.2.2.2.1 /\ sQi ↑x_1.2.2.2.2.1.len = sQi ↑x.2.2.2.2.1.len /\ sQi (IntKind.i64.wrap ((↑x_1.2.1 : Int) + 1)) = sQi ↑x.2.1 /\ m' = x.2.2.2.2.2 /\ h = h /\ True)) (∃ (x : Nat × Nat
 × Nat × Nat × Sl × MH), I_1 x /\ mu_1 x < mu_1 x_1 /\ SV.at (At.val (Value.map (some x_1.2.2.1))) = SV.at (At.val (Value.map (some x.2.2.1))) /\ SV.at (At.val (Value.map (some
 x_1.2.2.2.1))) = SV.at (At.val (Value.map (some x.2.2.2.1))) /\ eQ (sQs v.tables) /\ eQ (sQi ↑v.tables.len) /\ sQi ↑x_1.1 = sQi ↑x.1 /\ sQs x_1.2.2.2.2.1 = sQs x.2.2.2.2.1 /\ sQi
 ↑x_1.2.2.2.2.1.len = sQi ↑x.2.2.2.2.1.len /\ sQi (IntKind.i64.wrap ((↑x_1.2.1 : Int) + 1)) = sQi ↑x.2.1 /\ m' = x.2.2.2.2.2 /\ h = h /\ True)) (∃ (x : Nat × Nat × Nat × Nat × Sl ×
 MH), I_1 x /\ mu_1 x < mu_1 x_1 /\ SV.at (At.val (Value.map (some x_1.2.2.1))) = SV.at (At.val (Value.map (some x.2.2.1))) /\ SV.at (At.val (Value.map (some x_1.2.2.2.1))) = SV.at
 (At.val (Value.map (some x.2.2.2.1))) /\ eQ (sQs v.tables) /\ eQ (sQi ↑v.tables.len) /\ sQi ↑x_1.1 = sQi ↑x.1 /\ sQs x_1.2.2.2.2.1 = sQs x.2.2.2.2.1 /\ sQi ↑x_1.2.2.2.2.1.len = sQi
 ↑x.2.2.2.2.1.len /\ sQi (IntKind.i64.wrap ((↑x_1.2.1 : Int) + 1)) = sQi ↑x.2.1 /\ m' = x.2.2.2.2.2 /\ h = h /\ True)) /\ ∀ (y_2 : Bool), List.Mem (Value.string y.name, y_2) kvs ->
 branch y_2 (K (cQb false) x_1.2.2.2.2.2 h) (∃ (kvs : List (Value × Value)) (Ok : Value -> Prop), MapAt x_1.2.2.2.2.2 x_1.2.2.2.1 kvs /\ KeyLaw Tryz.prog 9 Ok /\ Ok (Value.string
 y.name) /\ (∀ (e : Value × Value), List.Mem e kvs -> Ok e.1) /\ (∀ (e : Value × Value), List.Mem e kvs -> e.1 = Value.string y.name -> False) /\ ∀ (m' : MH), MSame x_1.2.2.2.2.2 m'
 x_1.2.2.2.1 -> MapAt m' x_1.2.2.2.1 (kvs ++ [(Value.string y.name, Value.bool true)]) -> branch (y.kind != 3) (branch (y.kind != 4) (branch (y.kind != 5) (K (cQb false) m' h) (∃ (x
 : Nat × Nat × Nat × Nat × Sl × MH), I_1 x /\ mu_1 x < mu_1 x_1 /\ SV.at (At.val (Value.map (some x_1.2.2.1))) = SV.at (At.val (Value.map (some x.2.2.1))) /\ SV.at (At.val
 (Value.map (some x_1.2.2.2.1))) = SV.at (At.val (Value.map (some x.2.2.2.1))) /\ eQ (sQs v.tables) /\ eQ (sQi ↑v.tables.len) /\ sQi ↑x_1.1 = sQi ↑x.1 /\ sQs x_1.2.2.2.2.1 = sQs
 x.2.2.2.2.1 /\ sQi ↑x_1.2.2.2.2.1.len = sQi ↑x.2.2.2.2.1.len /\ sQi (IntKind.i64.wrap ((↑x_1.2.1 : Int) + 1)) = sQi ↑x.2.1 /\ m' = x.2.2.2.2.2 /\ h = h /\ True)) (∃ (x : Nat × Nat
 × Nat × Nat × Sl × MH), I_1 x /\ mu_1 x < mu_1 x_1 /\ SV.at (At.val (Value.map (some x_1.2.2.1))) = SV.at (At.val (Value.map (some x.2.2.1))) /\ SV.at (At.val (Value.map (some
 x_1.2.2.2.1))) = SV.at (At.val (Value.map (some x.2.2.2.1))) /\ eQ (sQs v.tables) /\ eQ (sQi ↑v.tables.len) /\ sQi ↑x_1.1 = sQi ↑x.1 /\ sQs x_1.2.2.2.2.1 = sQs x.2.2.2.2.1 /\ sQi
 ↑x_1.2.2.2.2.1.len = sQi ↑x.2.2.2.2.1.len /\ sQi (IntKind.i64.wrap ((↑x_1.2.1 : Int) + 1)) = sQi ↑x.2.1 /\ m' = x.2.2.2.2.2 /\ h = h /\ True)) (∃ (x : Nat × Nat × Nat × Nat × Sl ×
 MH), I_1 x /\ mu_1 x < mu_1 x_1 /\ SV.at (At.val (Value.map (some x_1.2.2.1))) = SV.at (At.val (Value.map (some x.2.2.1))) /\ SV.at (At.val (Value.map (some x_1.2.2.2.1))) = SV.at
 (At.val (Value.map (some x.2.2.2.1))) /\ eQ (sQs v.tables) /\ eQ (sQi ↑v.tables.len) /\ sQi ↑x_1.1 = sQi ↑x.1 /\ sQs x_1.2.2.2.2.1 = sQs x.2.2.2.2.1 /\ sQi ↑x_1.2.2.2.2.1.len = sQi
 ↑x.2.2.2.2.1.len /\ sQi (IntKind.i64.wrap ((↑x_1.2.1 : Int) + 1)) = sQi ↑x.2.1 /\ m' = x.2.2.2.2.2 /\ h = h /\ True)))) (∃ (x_2 : Nat × Nat × MH), I x_2 /\ mu x_2 < mu x /\ SV.at
 (At.val (Value.map (some x_1.2.2.1))) = SV.at (At.val (Value.map (some x_2.2.1))) /\ eQ (sQs v.tables) /\ eQ (sQi ↑v.tables.len) /\ sQi (IntKind.i64.wrap ((↑x_1.1 : Int) + 1)) =
 sQi ↑x_2.1 /\ x_1.2.2.2.2.2 = x_2.2.2 /\ h = h /\ True)))))) (K (cQb true) x.2.2 h)
theorem f60_vc (v : SchV) (m : MH) (h : PH) (K : CV → MH → PH → Prop) : f60_nice v m h K = (fnVC (f60_ctx v h) Tryz.f60 (bodyOf Tryz.f60) (entry Tryz.f60.ntmps [aS v] m h) K) := by kernel_rfl
def f76_nice (v : SchV) (i : Nat) (m : MH) (h : PH) (K : CV → MH → PH → Prop) : Prop :=
 ∃ (b off : Nat), v.tables.a = some (Addr.mk b off none) /\ 0 <= (↑i : Int) /\ (↑i : Int) < ↑v.tables.len /\ ∃ (y : TabV), RdAt m h b (off + (↑i : Int).toNat * 5) [Value.string
 y.name, vQs y.columns, vQi y.key, vQs y.references, vQs y.checks] /\ ∃ (s : ByteArray), [CV.val (Value.string y.name)] = [CV.val (Value.string s)] /\ branch (!nameOk s) (K (cQb
 false) m h) (branch ((↑y.columns.len : Int) == 0) (K (cQb false) m h) (branch (decide (y.key < 1)) (K (cQb false) m h) (branch (decide (y.key > (↑y.columns.len : Int))) (K (cQb
 false) m h) (∃ (I : Nat × TabV -> Prop) (mu : Nat × TabV -> Nat), (∃ (x : Nat × TabV), I x /\ eQ (sQi ↑i) /\ eP 2 /\ eP 5 /\ sQi 0 = sQi ↑x.1 /\ eQ (oQ 28 [aQi v.version, aQs
 v.tables]) /\ oQ 72 [aQt y.name, aQs y.columns, aQi y.key, aQs y.references, aQs y.checks] = oQ 72 [aQt x.2.name, aQs x.2.columns, aQi x.2.key, aQs x.2.references, aQs x.2.checks]
 /\ m = m /\ h = h /\ True) /\ ∀ (x : Nat × TabV), I x -> branch (decide ((↑x.1 : Int) < ↑i)) (∃ (b off : Nat), v.tables.a = some (Addr.mk b off none) /\ 0 <= (↑x.1 : Int) /\ (↑x.1
 : Int) < ↑v.tables.len /\ ∃ (y : ByteArray), RdAt m h b (off + (↑x.1 : Int).toNat * 5 + 0) [Value.string y] /\ branch (y.toList == x.2.name.toList) (K (cQb false) m h) (∃ (x_1 :
 Nat × TabV), I x_1 /\ mu x_1 < mu x /\ eQ (sQi ↑i) /\ eP 2 /\ eP 5 /\ sQi (IntKind.i64.wrap ((↑x.1 : Int) + 1)) = sQi ↑x_1.1 /\ eQ (oQ 28 [aQi v.version, aQs v.tables]) /\ oQ 72
 [aQt x.2.name, aQs x.2.columns, aQi x.2.key, aQs x.2.references, aQs x.2.checks] = oQ 72 [aQt x_1.2.name, aQs x_1.2.columns, aQi x_1.2.key, aQs x_1.2.references, aQs x_1.2.checks]
 /\ m = m /\ h = h /\ True)) (∃ (I : Nat × TabV -> Prop) (mu : Nat × TabV -> Nat), (∃ (x_1 : Nat × TabV), I x_1 /\ eP 5 /\ sQi ↑x.2.columns.len = sQi ↑x_1.2.columns.len /\ sQi 0 =
 sQi ↑x_1.1 /\ oQ 72 [aQt x.2.name, aQs x.2.columns, aQi x.2.key, aQs x.2.references, aQs x.2.checks] = oQ 72 [aQt x_1.2.name, aQs x_1.2.columns, aQi x_1.2.key, aQs
 x_1.2.references, aQs x_1.2.checks] /\ m = m /\ h = h /\ True) /\ ∀ (x : Nat × TabV), I x -> branch (decide ((↑x.1 : Int) < ↑x.2.columns.len)) (∃ (b off : Nat), x.2.columns.a =
 some (Addr.mk b off none) /\ 0 <= (↑x.1 : Int) /\ (↑x.1 : Int) < ↑x.2.columns.len /\ ∃ (y : ByteArray), RdAt m h b (off + (↑x.1 : Int).toNat * 2 + 0) [Value.string y] /\ ∃ (s :
 ByteArray), [CV.val (Value.string y)] = [CV.val (Value.string s)] /\ branch (!nameOk s) (K (cQb false) m h) (∃ (b off : Nat), x.2.columns.a = some (Addr.mk b off none) /\ 0 <=
 (↑x.1 : Int) /\ (↑x.1 : Int) < ↑x.2.columns.len /\ ∃ (y : Int), RdAt m h b (off + (↑x.1 : Int).toNat * 2 + 1) [vQi y] /\ ∃ (k : Int), [cQi y] = [cQi k] /\ branch (!colKind k) (K
 (cQb false) m h) (∃ (I_1 : Nat × Nat × TabV -> Prop) (mu_1 : Nat × Nat × TabV -> Nat), (∃ (x_1 : Nat × Nat × TabV), I_1 x_1 /\ eP 5 /\ sQi ↑x.1 = sQi ↑x_1.1 /\ sQi 0 = sQi ↑x_1.2.1
 /\ sQi ↑x.2.columns.len = sQi ↑x_1.2.2.columns.len /\ sQi ↑x.1 = sQi ↑x_1.1 /\ oQ 72 [aQt x.2.name, aQs x.2.columns, aQi x.2.key, aQs x.2.references, aQs x.2.checks] = oQ 72 [aQt
 x_1.2.2.name, aQs x_1.2.2.columns, aQi x_1.2.2.key, aQs x_1.2.2.references, aQs x_1.2.2.checks] /\ m = m /\ h = h /\ True) /\ ∀ (x_1 : Nat × Nat × TabV), I_1 x_1 -> branch (decide
 ((↑x_1.2.1 : Int) < ↑x_1.1)) (∃ (b off : Nat), x_1.2.2.columns.a = some (Addr.mk b off none) /\ 0 <= (↑x_1.2.1 : Int) /\ (↑x_1.2.1 : Int) < ↑x_1.2.2.columns.len /\ ∃ (y :
 ByteArray), RdAt m h b (off + (↑x_1.2.1 : Int).toNat * 2 + 0) [Value.string y] /\ ∃ (b off : Nat), x_1.2.2.columns.a = some (Addr.mk b off none) /\ 0 <= (↑x_1.1 : Int) /\ (↑x_1.1 :
 Int) < ↑x_1.2.2.columns.len /\ ∃ (y_1 : ByteArray), RdAt m h b (off + (↑x_1.1 : Int).toNat * 2 + 0) [Value.string y_1] /\ branch (y.toList == y_1.toList) (K (cQb false) m h) (∃ (x
 : Nat × Nat × TabV), I_1 x /\ mu_1 x < mu_1 x_1 /\ eP 5 /\ sQi ↑x_1.1 = sQi ↑x.1 /\ sQi (IntKind.i64.wrap ((↑x_1.2.1 : Int) + 1)) = sQi ↑x.2.1 /\ sQi ↑x_1.2.2.columns.len = sQi
 ↑x.2.2.columns.len /\ sQi ↑x_1.1 = sQi ↑x.1 /\ oQ 72 [aQt x_1.2.2.name, aQs x_1.2.2.columns, aQi x_1.2.2.key, aQs x_1.2.2.references, aQs x_1.2.2.checks] = oQ 72 [aQt x.2.2.name,
 aQs x.2.2.columns, aQi x.2.2.key, aQs x.2.2.references, aQs x.2.2.checks] /\ m = m /\ h = h /\ True)) (∃ (x_2 : Nat × TabV), I x_2 /\ mu x_2 < mu x /\ eP 5 /\ sQi
 ↑x_1.2.2.columns.len = sQi ↑x_2.2.columns.len /\ sQi (IntKind.i64.wrap ((↑x_1.1 : Int) + 1)) = sQi ↑x_2.1 /\ oQ 72 [aQt x_1.2.2.name, aQs x_1.2.2.columns, aQi x_1.2.2.key, aQs
 x_1.2.2.references, aQs x_1.2.2.checks] = oQ 72 [aQt x_2.2.name, aQs x_2.2.columns, aQi x_2.2.key, aQs x_2.2.references, aQs x_2.2.checks] /\ m = m /\ h = h /\ True)))) (K (cQb
 true) m h))))))
theorem f76_vc (v : SchV) (i : Nat) (m : MH) (h : PH) (K : CV → MH → PH → Prop) : f76_nice v i m h K = (fnVC (f76_ctx v i m h) Tryz.f76 (bodyOf Tryz.f76) (entry Tryz.f76.ntmps [aS v, cI i] m h) K) := by kernel_rfl
theorem MapS.snoc {ns : List ByteArray} {n : ByteArray} (h : MapAt m b ((ns.map fun n => (Value.string n, Value.bool true)) ++ [(.string n, .bool true)])) : MapS m b (ns ++ [n]) := by
 unfold MapS; rw [List.map_append]; exact h
theorem MapS.look {ns : List ByteArray} (h : MapS m b ns) : MapAt m b (List.map (fun p : Value × Bool => (p.fst, Value.bool p.snd)) (ns.map fun n => (Value.string n, true))) := by
 rw [List.map_map]; exact h
theorem names_ok {β : Type} {ns : List ByteArray} {x : β} : ∀ e : Value × β, e ∈ (ns.map fun n => (Value.string n, x)) → ∃ s, e.fst = .string s := fun e he => by
 obtain ⟨n, _, rfl⟩ := List.mem_map.1 he
 exact ⟨n, rfl⟩
theorem names_no {β : Type} {ns : List ByteArray} {x : β} {n : ByteArray} (h : n ∉ ns) : ∀ e : Value × β, e ∈ (ns.map fun n => (Value.string n, x)) → e.fst = .string n → False := fun e he h' => by
 obtain ⟨n', hn, rfl⟩ := List.mem_map.1 he
 exact h (by have : n' = n := (by injection h'); rwa [← this])
theorem names_not {β : Type} {ns : List ByteArray} {x : β} {n : ByteArray} (h : ∀ e : Value × β, e ∈ (ns.map fun n => (Value.string n, x)) → e.fst = .string n → False) : n ∉ ns := fun hn => h (.string n, x) (List.mem_map.2 ⟨n, hn, rfl⟩) rfl
theorem names_in {β : Type} {ns : List ByteArray} {x y : β} {n : ByteArray} (h : (Value.string n, y) ∈ (ns.map fun n => (Value.string n, x))) : n ∈ ns ∧ y = x := by
 obtain ⟨n', hn, e⟩ := List.mem_map.1 h
 injection e with e1 e2
 injection e1 with e1
 exact ⟨by rwa [← e1], e2.symm⟩
theorem f60_ok {v : SchV} (hs : RepS h s v) (hK : ∀ r : Bool, (r = true ↔ Good TabT s.tables) → K (cB r) m h) : f60_nice v m h (Weak h K) := by
 have hl := hs.tables.slen
 have hlen := hs.tables.len
 have hf : ¬ Good TabT s.tables → K (cB false) m h := fun h => hK false ⟨fun e => (by cases e), fun e => (h e).elim⟩
 intro b m1 hb hm1
 refine ⟨fun ⟨i, b1, mx⟩ => i ≤ s.tables.length ∧ Sub m mx ∧ m b1 = none ∧ MapS mx b1 ((s.tables.take i).map Tab.name) ∧ GoodUpto TabT s.tables i, fun ⟨i, _, _⟩ => s.tables.length - i, ⟨(0, b, m1), ⟨by omega, (Sub.refl m).upd hb.m_ hm1.other, hb.m_, ⟨_, _, hm1.at_, rfl⟩, .zero⟩, MT⟩, ?_⟩
 rintro ⟨i, b1, mx⟩ ⟨hi, hsub, hb1, hmap, hgood⟩
 dsimp only
 refine branch_dec (fun hlt => ?_) (fun hge => .sub hsub (hK true ⟨fun _ => hgood.all (by omega), fun _ => rfl⟩))
 obtain ⟨t, hx⟩ := getx hl hlt
 obtain ⟨bb, o, w, ea, hr, hrep⟩ := hs.tables.at hx
 have hcl := RepL.slen hrep.columns
 have hcb := RepL.len hrep.columns
 have hnm := hrep.name
 have hky := hrep.key
 have bad : ¬ TabT (s.tables.take i) t → Weak h K (.val (.bool false)) mx h := fun hn => .sub hsub (hf (Good.not hx hn))
 have rest : t.name ∉ (s.tables.take i).map Tab.name → nameOk w.name = true → 1 ≤ w.key → w.key ≤ w.columns.len → Good ColT t.columns → TabT (s.tables.take i) t := fun h1 h2 h3 h4 h5 => ⟨by rw [← hnm]; exact h2, by rw [← hky]; exact h3, by rw [← hky]; omega, h1, h5⟩
 refine ⟨bb, o, ea, by omega, hlt, w, .imm hr, w.name, rfl, branch_intro (fun h1 => bad fun ht => ?_) (fun h1 => ⟨_, _, hmap.look, strLaw, ⟨_, rfl⟩, names_ok, fun hno => branch_dec (fun h2 => bad fun ht => ?_) (fun h2 => branch_dec (fun h3 => bad fun ht => ?_) (fun h3 => ⟨_, _, hmap, strLaw, ⟨_, rfl⟩, names_ok, names_no (names_not hno), fun m2 hs2 hm2 b2 m3 hb2 hm3 => ?_⟩)), fun y hy => ?_⟩)⟩
 · have := ht.1; rw [← hnm] at this; rw [this] at h1; cases h1
 · have := ht.2.1; omega
 · have := ht.2.2.1; omega
 · have hm2 := MapS.snoc hm2
   have hsub2 : Sub m m2 := hsub.upd hb1 hs2.other
   have hsub3 : Sub m m3 := hsub2.upd (hsub2.free hb2.m_) hm3.other
   have hne : b1 ≠ b2 := fun e => by
    obtain ⟨es, cl, e1, _⟩ := hm2.ex
    rw [e, hb2.m_] at e1; cases e1
   have hno' : t.name ∉ (s.tables.take i).map Tab.name := by rw [← hnm]; exact names_not hno
   rw [hnm, ← map_take_succ hx] at hm2
   refine ⟨fun ⟨i', k, b1', b2', sl, my⟩ => i' = i ∧ b1' = b1 ∧ b2' = b2 ∧ sl = w.columns ∧ k ≤ t.columns.length ∧ Sub m my ∧ MapS my b1 ((s.tables.take (i + 1)).map Tab.name) ∧ MapS my b2 ((t.columns.take k).map ColV.name) ∧ GoodUpto ColT t.columns k, fun ⟨_, k, _, _, _, _⟩ => t.columns.length - k,
    ⟨(i, 0, b1, b2, w.columns, m3), ⟨rfl, rfl, rfl, rfl, by omega, hsub3, hm2.other hne hm3.other, ⟨_, _, hm3.at_, rfl⟩, .zero⟩, MT⟩, ?_⟩
   rintro ⟨i, k, b1, b2, _, my⟩ ⟨rfl, rfl, rfl, rfl, hk, hsuby, hmy1, hmy2, hg2⟩
   dsimp only
   refine branch_dec (fun hlt2 => ?_) (fun hge2 => ?_)
   · obtain ⟨c, hc⟩ := getx hcl hlt2
     obtain ⟨bc, oc, ec, rc⟩ := Cols.at hrep.columns hc
     have cbad : ∀ mz, Sub m mz → ¬ ColT (t.columns.take k) c → Weak h K (.val (.bool false)) mz h := fun mz hz hn => .sub hz (hf (Good.not hx (fun ht => Good.not hc hn ht.2.2.2.2)))
     refine ⟨bc, oc, ec, by omega, hlt2, c, .imm rc, c.name, rfl, branch_intro (fun h4 => cbad my hsuby fun ht => ?_) (fun h4 => ⟨_, _, hmy2.look, strLaw, ⟨_, rfl⟩, names_ok, fun hno2 => ⟨_, _, hmy2, strLaw, ⟨_, rfl⟩, names_ok, names_no (names_not hno2), fun m4 hs4 hm4 => ?_⟩, fun y hy => ?_⟩)⟩
     · rw [ht.1] at h4; cases h4
     · have hm4 := MapS.snoc hm4
       rw [← map_take_succ hc] at hm4
       have hsub4 : Sub m m4 := hsuby.upd (hsub2.free hb2.m_) hs4.other
       have cgood : colKind c.kind = true → ColT (t.columns.take k) c := fun e => ⟨by simpa using h4, e, names_not hno2⟩
       have ckind : colKind c.kind = false → ¬ ColT (t.columns.take k) c := fun e ht => by rw [ht.2.1] at e; cases e
       have m1' := hmy1.other hne hs4.other
       repeat' (first | (refine branch_intro (fun _ => ?_) (fun _ => ?_)) | (refine cbad m4 hsub4 (ckind ?_); simp_all [colKind]; done) | exact ⟨(i, k + 1, b1, b2, w.columns, m4), ⟨rfl, rfl, rfl, rfl, by show k + 1 ≤ t.columns.length; omega, hsub4, m1', hm4, hg2.succ hc (cgood (by simp_all [colKind]))⟩, by show t.columns.length - (k + 1) < t.columns.length - k; omega, MT⟩)
     · obtain ⟨hin, rfl⟩ := names_in hy
       exact branch_intro (fun _ => cbad my hsuby fun ht => ht.2.2 hin) (fun e => by cases e)
   · refine ⟨(i + 1, b1, my), ⟨by omega, hsuby, hb1, hmy1, hgood.succ hx (rest hno' (by simpa using h1) (by omega) (by omega) (hg2.all (by omega)))⟩, ?_, MT⟩
     show s.tables.length - (i + 1) < s.tables.length - i
     omega
 · obtain ⟨hin, rfl⟩ := names_in hy
   exact branch_intro (fun _ => bad fun ht => ht.2.2.2.1 (by rw [← hnm]; exact hin)) (fun e => by cases e)
theorem f60_sound : Sound Tryz.prog 60 NamedS := by
 refine fn_sound' (fn := Tryz.f60) (c := bodyOf Tryz.f60) Tryz.func60 rfl (by decide) ?_
 rintro cvs m h K ⟨v, s, rfl, hs, hK⟩
 refine ⟨f60_ctx v h, rfl, specs_cons f85_sound specs_nil, ?_⟩
 rw [← f60_vc v m h _]
 exact f60_ok hs hK
theorem noteq_succ {α : Type} {f : α → ByteArray} {l : List α} {x : α} {n : ByteArray} (hx : l[i]? = some x) (h : n ∉ (l.take i).map f) (hn : f x ≠ n) : n ∉ (l.take (i + 1)).map f := by
 rw [map_take_succ hx, List.mem_append]
 rintro (e | e)
 · exact h e
 · simp at e; exact hn e.symm
theorem eq_in {α : Type} {f : α → ByteArray} {l : List α} {x : α} {n : ByteArray} (hx : l[i]? = some x) (hi : i < k) (hn : f x = n) : n ∈ (l.take k).map f :=
 List.mem_map.2 ⟨x, List.mem_of_getElem? (i := i) (by rw [List.getElem?_take, if_pos hi, hx]), hn⟩
theorem f76_ok {v : SchV} {t : Tab} (hs : RepS h s v) (hx : s.tables[i]? = some t) (hK : ∀ r : Bool, (r = true ↔ TabT (s.tables.take i) t) → K (cB r) m h) : f76_nice v i m h K := by
 have hl := hs.tables.slen
 have hlen := hs.tables.len
 have hil : i < s.tables.length := (List.getElem?_eq_some_iff.1 hx).1
 have bad : ¬ TabT (s.tables.take i) t → K (.val (.bool false)) m h := fun h => hK false ⟨fun e => (by cases e), fun e => (h e).elim⟩
 obtain ⟨bb, o, w, ea, hr, hrep⟩ := hs.tables.at hx
 have hcl := RepL.slen hrep.columns
 have hcb := RepL.len hrep.columns
 have hnm := hrep.name
 have hky := hrep.key
 refine ⟨bb, o, ea, by omega, by omega, w, .imm hr, w.name, rfl, branch_intro (fun h1 => bad fun ht => ?_) (fun h1 => branch_intro (fun h2 => bad fun ht => ?_) (fun h2 => branch_dec (fun h3 => bad fun ht => ?_) (fun h3 => branch_dec (fun h4 => bad fun ht => ?_) (fun h4 => ?_))))⟩
 · have := ht.1; rw [← hnm] at this; rw [this] at h1; cases h1
 · have := ht.2.1; have := ht.2.2.1; have : (w.columns.len : Int) = 0 := (by simpa using h2); omega
 · have := ht.2.1; omega
 · have := ht.2.2.1; omega
 refine ⟨fun ⟨k, w'⟩ => w' = w ∧ k ≤ i ∧ t.name ∉ (s.tables.take k).map Tab.name, fun ⟨k, _⟩ => i - k, ⟨(0, w), ⟨rfl, by omega, by simp⟩, MT⟩, ?_⟩
 rintro ⟨k, w⟩ ⟨rfl, hk, hno⟩
 dsimp only
 refine branch_dec (fun hlt => ?_) (fun hge => ?_)
 · obtain ⟨t', hx'⟩ : ∃ t', s.tables[k]? = some t' := ⟨s.tables[k]'(by omega), List.getElem?_eq_getElem _⟩
   obtain ⟨b', o', w', ea', hr', hrep'⟩ := hs.tables.at hx'
   refine ⟨b', o', ea', by omega, by omega, w'.name, .imm (RdCells.part hr' 0 1), branch_intro (fun e => bad fun ht => ?_) (fun e => ?_)⟩
   · refine ht.2.2.2.1 (eq_in hx' (by omega) ?_)
     rw [← hrep'.name, ← hnm]; exact bytes_ext (by simpa using e)
   · refine ⟨(k + 1, w), ⟨rfl, by omega, noteq_succ hx' hno fun e' => ?_⟩, by show i - (k + 1) < i - k; omega, MT⟩
     rw [← hrep'.name, ← hnm] at e'
     rw [e'] at e; simp at e
 · have hki : k = i := by omega
   subst hki
   refine ⟨fun ⟨k, w'⟩ => w' = w ∧ k ≤ t.columns.length ∧ GoodUpto ColT t.columns k, fun ⟨k, _⟩ => t.columns.length - k, ⟨(0, w), ⟨rfl, by omega, .zero⟩, MT⟩, ?_⟩
   rintro ⟨c, w⟩ ⟨rfl, hc, hg⟩
   dsimp only
   refine branch_dec (fun hlt => ?_) (fun hge2 => hK true ⟨fun _ => ⟨by rw [← hnm]; simpa using h1, by omega, by omega, hno, hg.all (by omega)⟩, fun _ => rfl⟩)
   obtain ⟨x, hxc⟩ := getx hcl hlt
   obtain ⟨bc, oc, ec, rc⟩ := Cols.at hrep.columns hxc
   have cbad : ¬ ColT (t.columns.take c) x → K (.val (.bool false)) m h := fun hn => bad fun ht => Good.not hxc hn ht.2.2.2.2
   refine ⟨bc, oc, ec, by omega, hlt, x.name, .imm (RdCells.part rc 0 1), x.name, rfl, branch_intro (fun e1 => cbad fun ht => ?_) (fun e1 => ⟨bc, oc, ec, by omega, hlt, x.kind, .imm (RdCells.part rc 1 1), x.kind, rfl, branch_intro (fun e2 => cbad fun ht => ?_) (fun e2 => ?_)⟩)⟩
   · rw [ht.1] at e1; cases e1
   · rw [ht.2.1] at e2; cases e2
   refine ⟨fun ⟨c', j, w'⟩ => w' = w ∧ c' = c ∧ j ≤ c ∧ x.name ∉ (t.columns.take j).map ColV.name, fun ⟨_, j, _⟩ => c - j, ⟨(c, 0, w), ⟨rfl, rfl, by omega, by simp⟩, MT⟩, ?_⟩
   rintro ⟨c, j, w⟩ ⟨rfl, rfl, hj, hnoj⟩
   dsimp only
   refine branch_dec (fun hlt3 => ?_) (fun hge3 => ?_)
   · obtain ⟨y, hy⟩ : ∃ y, t.columns[j]? = some y := ⟨t.columns[j]'(by omega), List.getElem?_eq_getElem _⟩
     obtain ⟨by', oy, ey, ry⟩ := Cols.at hrep.columns hy
     refine ⟨by', oy, ey, by omega, by omega, y.name, .imm (RdCells.part ry 0 1), bc, oc, ec, by omega, hlt, x.name, .imm (RdCells.part rc 0 1), branch_intro (fun e => cbad fun ht => ?_) (fun e => ?_)⟩
     · exact ht.2.2 (eq_in hy (by omega) (bytes_ext (by simpa using e)))
     · refine ⟨(c, j + 1, w), ⟨rfl, rfl, by show j + 1 ≤ c; omega, noteq_succ hy hnoj fun e' => ?_⟩, by show c - (j + 1) < c - j; omega, MT⟩
       rw [e'] at e; simp at e
   · have : j = c := by omega
     subst this
     exact ⟨(j + 1, w), ⟨rfl, by omega, hg.succ hxc ⟨by simpa using e1, by simpa using e2, hnoj⟩⟩, by show t.columns.length - (j + 1) < t.columns.length - j; omega, MT⟩
theorem f76_sound : Sound Tryz.prog 76 TableS := by
 refine fn_sound (fn := Tryz.f76) (c := bodyOf Tryz.f76) Tryz.func76 rfl (by decide) ?_
 rintro cvs m h K ⟨v, s, t, i, rfl, hs, hx, hK⟩
 refine ⟨f76_ctx v i m h, rfl, specs_cons f106_sound (specs_cons f78_sound specs_nil), ?_⟩
 rw [← f76_vc v i m h K]
 exact f76_ok hs hx hK
def KindAt (t g : Tab) (k : Nat) (c : Int) : Prop := 0 ≤ c ∧ c < t.columns.length ∧ ∃ x y, t.columns[c.toNat]? = some x ∧ g.columns[k]? = some y ∧ x.kind = y.kind
def RefT (tabs : List Tab) (t : Tab) (_ : List Ref) (r : Ref) : Prop := 0 ≤ r.table ∧ r.table < tabs.length ∧ ∃ g, tabs[r.table.toNat]? = some g ∧ (r.columns.length : Int) = g.key ∧ Good (fun pre c => KindAt t g pre.length c) r.columns
def RefsT (tabs : List Tab) (_ : List Tab) (t : Tab) : Prop := Good (RefT tabs t) t.refs
def ReferS : Vc.Spec := fun cvs m h K => ∃ v s, cvs = [aS v] ∧ RepS h s v ∧ Good TabT s.tables ∧ ∀ r : Bool, (r = true ↔ Good (RefsT s.tables) s.tables) → K (cB r) m h
def RefsOfS : Vc.Spec := fun cvs m h K => ∃ v s t, ∃ i : Nat, cvs = [aS v, cI i] ∧ RepS h s v ∧ Good TabT s.tables ∧ s.tables[i]? = some t ∧ ∀ r : Bool, (r = true ↔ RefsT s.tables [] t) → K (cB r) m h
def f61_ctx (v : SchV) (m : MH) (h : PH) : Ctx :=
 ctx2 [] [(2, { A := Nat, st := fun i => mkSt 82 83 [(1, .at (.ptr 1 0)), (11, sv v.tables), (12, iv v.tables.len), (13, iv i)] [(1, .cells 28 (v.enc.map .val))] m h }),
  (5, { A := Nat × Nat × TabV, st := fun ⟨i, k, w⟩ => mkSt 82 83 [(1, .at (.ptr 1 0)), (4, .at (.ptr 4 0)), (11, sv v.tables), (12, iv v.tables.len), (13, iv i), (18, sv w.references), (19, iv w.references.len), (20, iv k)] [(1, .cells 28 (v.enc.map .val)), (4, .cells 72 (w.enc.map .val))] m h }),
  (13, { A := Nat × Nat × Nat × TabV × TabV × Sl, st := fun ⟨i, k, j, w, g, sl⟩ => mkSt 82 83 [(1, .at (.ptr 1 0)), (4, .at (.ptr 4 0)), (7, .at (.ptr 7 0)), (11, sv v.tables), (12, iv v.tables.len), (13, iv i), (18, sv w.references), (19, iv w.references.len), (20, iv k), (48, sv sl), (49, iv sl.len), (50, iv j)] [(1, .cells 28 (v.enc.map .val)), (4, .cells 72 (w.enc.map .val)), (7, .cells 72 (g.enc.map .val))] m h })] [] [] false
def f77_ctx (v : SchV) (m : MH) (h : PH) : Ctx :=
 ctx2 [] [(3, { A := Nat × TabV, st := fun ⟨k, w⟩ => mkSt 85 87 [(2, .at (.ptr 2 0)), (5, .at (.ptr 5 0)), (16, sv w.references), (17, iv w.references.len), (18, iv k)] [(2, .cells 28 (v.enc.map .val)), (5, .cells 72 (w.enc.map .val))] m h }),
  (8, { A := Nat × Nat × TabV × RefV, st := fun ⟨k, j, w, r⟩ => mkSt 85 87 [(2, .at (.ptr 2 0)), (5, .at (.ptr 5 0)), (7, .at (.ptr 7 0)), (16, sv w.references), (17, iv w.references.len), (18, iv k), (47, sv r.columns), (48, iv r.columns.len), (49, iv j)] [(2, .cells 28 (v.enc.map .val)), (5, .cells 72 (w.enc.map .val)), (7, .cells 86 (r.enc.map .val))] m h })] [] [] false
def f61_nice (v : SchV) (m : MH) (h : PH) (K : CV → MH → PH → Prop) : Prop :=
 ∃ (I : Nat -> Prop) (mu : Nat -> Nat), (∃ (x : Nat), I x /\ eP 1 /\ eQ (sQs v.tables) /\ eQ (sQi ↑v.tables.len) /\ sQi 0 = sQi ↑x /\ eQ (oQ 28 [aQi v.version, aQs v.tables]) /\ m =
 m /\ h = h /\ True) /\ ∀ (x : Nat), I x -> branch (decide ((↑x : Int) < ↑v.tables.len)) (∃ (b off : Nat), v.tables.a = some (Addr.mk b off none) /\ 0 <= (↑x : Int) /\ (↑x : Int) <
 ↑v.tables.len /\ ∃ (y : TabV), RdAt m h b (off + (↑x : Int).toNat * 5) [Value.string y.name, vQs y.columns, vQi y.key, vQs y.references, vQs y.checks] /\ ∃ (I_1 : Nat × Nat × TabV
 -> Prop) (mu_1 : Nat × Nat × TabV -> Nat), (∃ (x_1 : Nat × Nat × TabV), I_1 x_1 /\ eP 1 /\ eP 4 /\ eQ (sQs v.tables) /\ eQ (sQi ↑v.tables.len) /\ sQi ↑x = sQi ↑x_1.1 /\ sQs
 y.references = sQs x_1.2.2.references /\ sQi ↑y.references.len = sQi ↑x_1.2.2.references.len /\ sQi 0 = sQi ↑x_1.2.1 /\ eQ (oQ 28 [aQi v.version, aQs v.tables]) /\ oQ 72 [aQt
 y.name, aQs y.columns, aQi y.key, aQs y.references, aQs y.checks] = oQ 72 [aQt x_1.2.2.name, aQs x_1.2.2.columns, aQi x_1.2.2.key, aQs x_1.2.2.references, aQs x_1.2.2.checks] /\ m
 = m /\ h = h /\ True) /\ ∀ (x_1 : Nat × Nat × TabV), I_1 x_1 -> branch (decide ((↑x_1.2.1 : Int) < ↑x_1.2.2.references.len)) (∃ (b off : Nat), x_1.2.2.references.a = some (Addr.mk
 b off none) /\ 0 <= (↑x_1.2.1 : Int) /\ (↑x_1.2.1 : Int) < ↑x_1.2.2.references.len /\ ∃ (y : RefV), RdAt m h b (off + (↑x_1.2.1 : Int).toNat * 2) [vQs y.columns, vQi y.table] /\
 branch (decide (y.table < 0)) (K (cQb false) m h) (branch (decide (y.table ≥ (↑v.tables.len : Int))) (K (cQb false) m h) (∃ (b off : Nat), v.tables.a = some (Addr.mk b off none) /\
 0 <= y.table /\ y.table < (↑v.tables.len : Int) /\ ∃ (y_1 : TabV), RdAt m h b (off + y.table.toNat * 5) [Value.string y_1.name, vQs y_1.columns, vQi y_1.key, vQs y_1.references,
 vQs y_1.checks] /\ branch ((↑y.columns.len : Int) != y_1.key) (K (cQb false) m h) (∃ (I : Nat × Nat × Nat × TabV × TabV × Sl -> Prop) (mu : Nat × Nat × Nat × TabV × TabV × Sl ->
 Nat), (∃ (x : Nat × Nat × Nat × TabV × TabV × Sl), I x /\ eP 1 /\ eP 4 /\ eP 7 /\ eQ (sQs v.tables) /\ eQ (sQi ↑v.tables.len) /\ sQi ↑x_1.1 = sQi ↑x.1 /\ sQs x_1.2.2.references =
 sQs x.2.2.2.1.references /\ sQi ↑x_1.2.2.references.len = sQi ↑x.2.2.2.1.references.len /\ sQi ↑x_1.2.1 = sQi ↑x.2.1 /\ sQs y.columns = sQs x.2.2.2.2.2 /\ sQi ↑y.columns.len = sQi
 ↑x.2.2.2.2.2.len /\ sQi 0 = sQi ↑x.2.2.1 /\ eQ (oQ 28 [aQi v.version, aQs v.tables]) /\ oQ 72 [aQt x_1.2.2.name, aQs x_1.2.2.columns, aQi x_1.2.2.key, aQs x_1.2.2.references, aQs
 x_1.2.2.checks] = oQ 72 [aQt x.2.2.2.1.name, aQs x.2.2.2.1.columns, aQi x.2.2.2.1.key, aQs x.2.2.2.1.references, aQs x.2.2.2.1.checks] /\ oQ 72 [aQt y_1.name, aQs y_1.columns, aQi
 y_1.key, aQs y_1.references, aQs y_1.checks] = oQ 72 [aQt x.2.2.2.2.1.name, aQs x.2.2.2.2.1.columns, aQi x.2.2.2.2.1.key, aQs x.2.2.2.2.1.references, aQs x.2.2.2.2.1.checks] /\ m =
 m /\ h = h /\ True) /\ ∀ (x : Nat × Nat × Nat × TabV × TabV × Sl), I x -> branch (decide ((↑x.2.2.1 : Int) < ↑x.2.2.2.2.2.len)) (∃ (b off : Nat), x.2.2.2.2.2.a = some (Addr.mk b
 off none) /\ 0 <= (↑x.2.2.1 : Int) /\ (↑x.2.2.1 : Int) < ↑x.2.2.2.2.2.len /\ ∃ (y : Int), RdAt m h b (off + (↑x.2.2.1 : Int).toNat * 1) [vQi y] /\ branch (decide (y < 0)) (K (cQb
 false) m h) (branch (decide (y ≥ (↑x.2.2.2.1.columns.len : Int))) (K (cQb false) m h) (∃ (b off : Nat), x.2.2.2.1.columns.a = some (Addr.mk b off none) /\ 0 <= y /\ y <
 (↑x.2.2.2.1.columns.len : Int) /\ ∃ (y_2 : Int), RdAt m h b (off + y.toNat * 2 + 1) [vQi y_2] /\ ∃ (b off : Nat), x.2.2.2.2.1.columns.a = some (Addr.mk b off none) /\ 0 <=
 (↑x.2.2.1 : Int) /\ (↑x.2.2.1 : Int) < ↑x.2.2.2.2.1.columns.len /\ ∃ (y : Int), RdAt m h b (off + (↑x.2.2.1 : Int).toNat * 2 + 1) [vQi y] /\ branch (y_2 != y) (K (cQb false) m h)
 (∃ (x_2 : Nat × Nat × Nat × TabV × TabV × Sl), I x_2 /\ mu x_2 < mu x /\ eP 1 /\ eP 4 /\ eP 7 /\ eQ (sQs v.tables) /\ eQ (sQi ↑v.tables.len) /\ sQi ↑x.1 = sQi ↑x_2.1 /\ sQs
 x.2.2.2.1.references = sQs x_2.2.2.2.1.references /\ sQi ↑x.2.2.2.1.references.len = sQi ↑x_2.2.2.2.1.references.len /\ sQi ↑x.2.1 = sQi ↑x_2.2.1 /\ sQs x.2.2.2.2.2 = sQs
 x_2.2.2.2.2.2 /\ sQi ↑x.2.2.2.2.2.len = sQi ↑x_2.2.2.2.2.2.len /\ sQi (IntKind.i64.wrap ((↑x.2.2.1 : Int) + 1)) = sQi ↑x_2.2.2.1 /\ eQ (oQ 28 [aQi v.version, aQs v.tables]) /\ oQ
 72 [aQt x.2.2.2.1.name, aQs x.2.2.2.1.columns, aQi x.2.2.2.1.key, aQs x.2.2.2.1.references, aQs x.2.2.2.1.checks] = oQ 72 [aQt x_2.2.2.2.1.name, aQs x_2.2.2.2.1.columns, aQi
 x_2.2.2.2.1.key, aQs x_2.2.2.2.1.references, aQs x_2.2.2.2.1.checks] /\ oQ 72 [aQt x.2.2.2.2.1.name, aQs x.2.2.2.2.1.columns, aQi x.2.2.2.2.1.key, aQs x.2.2.2.2.1.references, aQs
 x.2.2.2.2.1.checks] = oQ 72 [aQt x_2.2.2.2.2.1.name, aQs x_2.2.2.2.2.1.columns, aQi x_2.2.2.2.2.1.key, aQs x_2.2.2.2.2.1.references, aQs x_2.2.2.2.2.1.checks] /\ m = m /\ h = h /\
 True)))) (∃ (x_2 : Nat × Nat × TabV), I_1 x_2 /\ mu_1 x_2 < mu_1 x_1 /\ eP 1 /\ eP 4 /\ eQ (sQs v.tables) /\ eQ (sQi ↑v.tables.len) /\ sQi ↑x.1 = sQi ↑x_2.1 /\ sQs
 x.2.2.2.1.references = sQs x_2.2.2.references /\ sQi ↑x.2.2.2.1.references.len = sQi ↑x_2.2.2.references.len /\ sQi (IntKind.i64.wrap ((↑x.2.1 : Int) + 1)) = sQi ↑x_2.2.1 /\ eQ (oQ
 28 [aQi v.version, aQs v.tables]) /\ oQ 72 [aQt x.2.2.2.1.name, aQs x.2.2.2.1.columns, aQi x.2.2.2.1.key, aQs x.2.2.2.1.references, aQs x.2.2.2.1.checks] = oQ 72 [aQt x_2.2.2.name,
 aQs x_2.2.2.columns, aQi x_2.2.2.key, aQs x_2.2.2.references, aQs x_2.2.2.checks] /\ m = m /\ h = h /\ True))))) (∃ (x_2 : Nat), I x_2 /\ mu x_2 < mu x /\ eP 1 /\ eQ (sQs v.tables)
 /\ eQ (sQi ↑v.tables.len) /\ sQi (IntKind.i64.wrap ((↑x_1.1 : Int) + 1)) = sQi ↑x_2 /\ eQ (oQ 28 [aQi v.version, aQs v.tables]) /\ m = m /\ h = h /\ True)) (K (cQb true) m h)
theorem f61_vc (v : SchV) (m : MH) (h : PH) (K : CV → MH → PH → Prop) : f61_nice v m h K = (fnVC (f61_ctx v m h) Tryz.f61 (bodyOf Tryz.f61) (entry Tryz.f61.ntmps [aS v] m h) K) := by kernel_rfl
def f77_nice (v : SchV) (i : Nat) (m : MH) (h : PH) (K : CV → MH → PH → Prop) : Prop :=
 ∃ (b off : Nat), v.tables.a = some (Addr.mk b off none) /\ 0 <= (↑i : Int) /\ (↑i : Int) < ↑v.tables.len /\ ∃ (y : TabV), RdAt m h b (off + (↑i : Int).toNat * 5) [Value.string
 y.name, vQs y.columns, vQi y.key, vQs y.references, vQs y.checks] /\ ∃ (I : Nat × TabV -> Prop) (mu : Nat × TabV -> Nat), (∃ (x : Nat × TabV), I x /\ eP 2 /\ eP 5 /\ sQs
 y.references = sQs x.2.references /\ sQi ↑y.references.len = sQi ↑x.2.references.len /\ sQi 0 = sQi ↑x.1 /\ eQ (oQ 28 [aQi v.version, aQs v.tables]) /\ oQ 72 [aQt y.name, aQs
 y.columns, aQi y.key, aQs y.references, aQs y.checks] = oQ 72 [aQt x.2.name, aQs x.2.columns, aQi x.2.key, aQs x.2.references, aQs x.2.checks] /\ m = m /\ h = h /\ True) /\ ∀ (x :
 Nat × TabV), I x -> branch (decide ((↑x.1 : Int) < ↑x.2.references.len)) (∃ (b off : Nat), x.2.references.a = some (Addr.mk b off none) /\ 0 <= (↑x.1 : Int) /\ (↑x.1 : Int) <
 ↑x.2.references.len /\ ∃ (y : RefV), RdAt m h b (off + (↑x.1 : Int).toNat * 2) [vQs y.columns, vQi y.table] /\ branch (decide (y.table < 0)) (K (cQb false) m h) (branch (decide
 (y.table ≥ (↑v.tables.len : Int))) (K (cQb false) m h) (∃ (b off : Nat), v.tables.a = some (Addr.mk b off none) /\ 0 <= y.table /\ y.table < (↑v.tables.len : Int) /\ ∃ (y_1 : Int),
 RdAt m h b (off + y.table.toNat * 5 + 2) [vQi y_1] /\ branch ((↑y.columns.len : Int) != y_1) (K (cQb false) m h) (∃ (I_1 : Nat × Nat × TabV × RefV -> Prop) (mu_1 : Nat × Nat × TabV
 × RefV -> Nat), (∃ (x_1 : Nat × Nat × TabV × RefV), I_1 x_1 /\ eP 2 /\ eP 5 /\ eP 7 /\ sQs x.2.references = sQs x_1.2.2.1.references /\ sQi ↑x.2.references.len = sQi
 ↑x_1.2.2.1.references.len /\ sQi ↑x.1 = sQi ↑x_1.1 /\ sQs y.columns = sQs x_1.2.2.2.columns /\ sQi ↑y.columns.len = sQi ↑x_1.2.2.2.columns.len /\ sQi 0 = sQi ↑x_1.2.1 /\ eQ (oQ 28
 [aQi v.version, aQs v.tables]) /\ oQ 72 [aQt x.2.name, aQs x.2.columns, aQi x.2.key, aQs x.2.references, aQs x.2.checks] = oQ 72 [aQt x_1.2.2.1.name, aQs x_1.2.2.1.columns, aQi
 x_1.2.2.1.key, aQs x_1.2.2.1.references, aQs x_1.2.2.1.checks] /\ oQ 86 [aQs y.columns, aQi y.table] = oQ 86 [aQs x_1.2.2.2.columns, aQi x_1.2.2.2.table] /\ m = m /\ h = h /\ True)
 /\ ∀ (x_1 : Nat × Nat × TabV × RefV), I_1 x_1 -> branch (decide ((↑x_1.2.1 : Int) < ↑x_1.2.2.2.columns.len)) (∃ (b off : Nat), x_1.2.2.2.columns.a = some (Addr.mk b off none) /\ 0
 <= (↑x_1.2.1 : Int) /\ (↑x_1.2.1 : Int) < ↑x_1.2.2.2.columns.len /\ ∃ (y : Int), RdAt m h b (off + (↑x_1.2.1 : Int).toNat * 1) [vQi y] /\ branch (decide (y < 0)) (K (cQb false) m
 h) (branch (decide (y ≥ (↑x_1.2.2.1.columns.len : Int))) (K (cQb false) m h) (∃ (b off : Nat), x_1.2.2.1.columns.a = some (Addr.mk b off none) /\ 0 <= y /\ y <
 (↑x_1.2.2.1.columns.len : Int) /\ ∃ (y_2 : Int), RdAt m h b (off + y.toNat * 2 + 1) [vQi y_2] /\ ∃ (b off : Nat), v.tables.a = some (Addr.mk b off none) /\ 0 <= x_1.2.2.2.table /\
 x_1.2.2.2.table < (↑v.tables.len : Int) /\ ∃ (y : Sl), RdAt m h b (off + x_1.2.2.2.table.toNat * 5 + 1) [vQs y] /\ ∃ (b off : Nat), y.a = some (Addr.mk b off none) /\ 0 <=
 (↑x_1.2.1 : Int) /\ (↑x_1.2.1 : Int) < ↑y.len /\ ∃ (y : Int), RdAt m h b (off + (↑x_1.2.1 : Int).toNat * 2 + 1) [vQi y] /\ branch (y_2 != y) (K (cQb false) m h) (∃ (x : Nat × Nat ×
 TabV × RefV), I_1 x /\ mu_1 x < mu_1 x_1 /\ eP 2 /\ eP 5 /\ eP 7 /\ sQs x_1.2.2.1.references = sQs x.2.2.1.references /\ sQi ↑x_1.2.2.1.references.len = sQi ↑x.2.2.1.references.len
 /\ sQi ↑x_1.1 = sQi ↑x.1 /\ sQs x_1.2.2.2.columns = sQs x.2.2.2.columns /\ sQi ↑x_1.2.2.2.columns.len = sQi ↑x.2.2.2.columns.len /\ sQi (IntKind.i64.wrap ((↑x_1.2.1 : Int) + 1)) =
 sQi ↑x.2.1 /\ eQ (oQ 28 [aQi v.version, aQs v.tables]) /\ oQ 72 [aQt x_1.2.2.1.name, aQs x_1.2.2.1.columns, aQi x_1.2.2.1.key, aQs x_1.2.2.1.references, aQs x_1.2.2.1.checks] = oQ
 72 [aQt x.2.2.1.name, aQs x.2.2.1.columns, aQi x.2.2.1.key, aQs x.2.2.1.references, aQs x.2.2.1.checks] /\ oQ 86 [aQs x_1.2.2.2.columns, aQi x_1.2.2.2.table] = oQ 86 [aQs
 x.2.2.2.columns, aQi x.2.2.2.table] /\ m = m /\ h = h /\ True)))) (∃ (x_2 : Nat × TabV), I x_2 /\ mu x_2 < mu x /\ eP 2 /\ eP 5 /\ sQs x_1.2.2.1.references = sQs x_2.2.references
 /\ sQi ↑x_1.2.2.1.references.len = sQi ↑x_2.2.references.len /\ sQi (IntKind.i64.wrap ((↑x_1.1 : Int) + 1)) = sQi ↑x_2.1 /\ eQ (oQ 28 [aQi v.version, aQs v.tables]) /\ oQ 72 [aQt
 x_1.2.2.1.name, aQs x_1.2.2.1.columns, aQi x_1.2.2.1.key, aQs x_1.2.2.1.references, aQs x_1.2.2.1.checks] = oQ 72 [aQt x_2.2.name, aQs x_2.2.columns, aQi x_2.2.key, aQs
 x_2.2.references, aQs x_2.2.checks] /\ m = m /\ h = h /\ True))))) (K (cQb true) m h)
theorem f77_vc (v : SchV) (i : Nat) (m : MH) (h : PH) (K : CV → MH → PH → Prop) : f77_nice v i m h K = (fnVC (f77_ctx v m h) Tryz.f77 (bodyOf Tryz.f77) (entry Tryz.f77.ntmps [aS v, cI i] m h) K) := by kernel_rfl
theorem Ints.at' {s : Sl} (r : Ints h s l) {x : Int} (hi : l[i]? = some x) : ∃ b o, s.a = some ⟨b, o, none⟩ ∧ RdCells h b (o + i * 1) [.int .i64 x] := by
 obtain ⟨b, o, e, k⟩ := r.at hi
 exact ⟨b, o, e, by rwa [Nat.mul_one]⟩
theorem take_len {α : Type} {l : List α} {x : α} (h : l[i]? = some x) : (l.take i).length = i := by
 have := (List.getElem?_eq_some_iff.1 h).1
 rw [List.length_take]; omega
theorem Good.key_le {tabs : List Tab} (h : Good TabT tabs) {g : Tab} (hg : tabs[i]? = some g) : g.key ≤ g.columns.length := (h i g hg).2.2.1
theorem f61_ok {v : SchV} (hs : RepS h s v) (hgood : Good TabT s.tables) (hK : ∀ r : Bool, (r = true ↔ Good (RefsT s.tables) s.tables) → K (cB r) m h) : f61_nice v m h K := by
 have hl := hs.tables.slen
 have hlen := hs.tables.len
 have hf : ¬ Good (RefsT s.tables) s.tables → K (.val (.bool false)) m h := fun h => hK false ⟨fun e => (by cases e), fun e => (h e).elim⟩
 refine ⟨fun i => i ≤ s.tables.length ∧ GoodUpto (RefsT s.tables) s.tables i, fun i => s.tables.length - i, ⟨0, ⟨by omega, .zero⟩, MT⟩, fun i ⟨hi, hg⟩ => branch_dec (fun hlt => ?_) (fun hge => hK true ⟨fun _ => hg.all (by omega), fun _ => rfl⟩)⟩
 obtain ⟨t, hx⟩ := getx hl hlt
 obtain ⟨b, o, w, ea, hr, hrep⟩ := hs.tables.at hx
 have hcl := RepL.slen hrep.columns
 have hrl := RepL.slen hrep.refs
 have hrb := RepL.len hrep.refs
 refine ⟨b, o, ea, by omega, hlt, w, .imm hr, fun ⟨i', k, w'⟩ => i' = i ∧ w' = w ∧ k ≤ t.refs.length ∧ GoodUpto (RefT s.tables t) t.refs k, fun ⟨_, k, _⟩ => t.refs.length - k, ⟨(i, 0, w), ⟨rfl, rfl, by omega, .zero⟩, MT⟩, ?_⟩
 rintro ⟨i, k, w⟩ ⟨rfl, rfl, hk, hg2⟩
 dsimp only
 refine branch_dec (fun hlt2 => ?_) (fun hge2 => ⟨i + 1, ⟨by omega, hg.succ hx (hg2.all (by omega))⟩, by show s.tables.length - (i + 1) < s.tables.length - i; omega, MT⟩)
 obtain ⟨r, hrx⟩ := getx hrl hlt2
 obtain ⟨b2, o2, rv, ea2, hr2, hrep2⟩ := hrep.refs.at hrx
 have rcl := hrep2.columns.slen
 have rcb := hrep2.columns.len
 have rt := hrep2.table
 have bad : ¬ RefT s.tables t (t.refs.take k) r → K (.val (.bool false)) m h := fun hn => hf (Good.not hx (Good.not hrx hn))
 refine ⟨b2, o2, ea2, by omega, hlt2, rv, .imm hr2, branch_dec (fun h1 => bad fun ht => ?_) (fun h1 => branch_dec (fun h2 => bad fun ht => ?_) (fun h2 => ?_))⟩
 · have := ht.1; omega
 · have := ht.2.1; omega
 obtain ⟨g, b3, o3, gv, hgx, ea3, hr3, hrep3⟩ := hs.table (t := rv.table) (by omega) (by omega)
 have gcl := RepL.slen hrep3.columns
 have hkey := hgood.key_le hgx
 have gk := hrep3.key
 refine ⟨b3, o3, ea3, by omega, by omega, gv, .imm hr3, branch_intro (fun h3 => bad fun ht => ?_) (fun h3 => ?_)⟩
 · obtain ⟨_, _, g', hg', hk', _⟩ := ht
   rw [← rt, hgx] at hg'
   cases hg'
   have : (rv.columns.len : Int) ≠ gv.key := by simpa using h3
   omega
 have h3 : (rv.columns.len : Int) = gv.key := by simpa using h3
 refine ⟨fun ⟨i', k', j, w', g', sl⟩ => i' = i ∧ k' = k ∧ w' = w ∧ g' = gv ∧ sl = rv.columns ∧ j ≤ r.columns.length ∧ GoodUpto (fun pre c => KindAt t g pre.length c) r.columns j, fun ⟨_, _, j, _, _, _⟩ => r.columns.length - j, ⟨(i, k, 0, w, gv, rv.columns), ⟨rfl, rfl, rfl, rfl, rfl, by omega, .zero⟩, MT⟩, ?_⟩
 rintro ⟨i, k, j, w, gv, _⟩ ⟨rfl, rfl, rfl, rfl, rfl, hj, hg3⟩
 dsimp only
 refine branch_dec (fun hlt3 => ?_) (fun hge3 => ⟨(i, k + 1, w), ⟨rfl, rfl, by show k + 1 ≤ t.refs.length; omega, hg2.succ hrx ⟨by omega, by omega, g, by rw [← rt]; exact hgx, by omega, hg3.all (by omega)⟩⟩, by show t.refs.length - (k + 1) < t.refs.length - k; omega, MT⟩)
 obtain ⟨c, hc⟩ := getx rcl hlt3
 obtain ⟨b4, o4, ea4, hr4⟩ := hrep2.columns.at' hc
 have htl := take_len hc
 have cbad : ¬ KindAt t g j c → K (.val (.bool false)) m h := fun hn => bad fun ht => by
  obtain ⟨_, _, g', hg', _, hgo⟩ := ht
  rw [← rt, hgx] at hg'
  cases hg'
  have := hgo j c hc
  dsimp only at this
  rw [htl] at this
  exact hn this
 refine ⟨b4, o4, ea4, by omega, hlt3, c, .imm hr4, branch_dec (fun h5 => cbad fun ht => ?_) (fun h5 => branch_dec (fun h6 => cbad fun ht => ?_) (fun h6 => ?_))⟩
 · have := ht.1; omega
 · have := ht.2.1; omega
 obtain ⟨x, hxx⟩ : ∃ x, t.columns[c.toNat]? = some x := ⟨t.columns[c.toNat]'(by omega), List.getElem?_eq_getElem _⟩
 obtain ⟨y, hyy⟩ : ∃ y, g.columns[j]? = some y := ⟨g.columns[j]'(by omega), List.getElem?_eq_getElem _⟩
 obtain ⟨b5, o5, ea5, hr5⟩ := Cols.at hrep.columns hxx
 obtain ⟨b6, o6, ea6, hr6⟩ := Cols.at hrep3.columns hyy
 refine ⟨b5, o5, ea5, by omega, by omega, x.kind, .imm (RdCells.part hr5 1 1), b6, o6, ea6, by omega, by omega, y.kind, .imm (RdCells.part hr6 1 1), branch_intro (fun h7 => cbad fun ht => ?_) (fun h7 => ?_)⟩
 · obtain ⟨_, _, x', y', e1, e2, e3⟩ := ht
   rw [hxx] at e1; rw [hyy] at e2
   cases e1; cases e2
   rw [e3] at h7; simp at h7
 · exact ⟨(i, k, j + 1, w, gv, rv.columns), ⟨rfl, rfl, rfl, rfl, rfl, by show j + 1 ≤ r.columns.length; omega, hg3.succ hc (by show KindAt t g (List.take j r.columns).length c; rw [htl]; exact ⟨by omega, by omega, x, y, hxx, hyy, by simpa using h7⟩)⟩, by show r.columns.length - (j + 1) < r.columns.length - j; omega, MT⟩
theorem f61_sound : Sound Tryz.prog 61 ReferS := by
 refine fn_sound (fn := Tryz.f61) (c := bodyOf Tryz.f61) Tryz.func61 rfl (by decide) ?_
 rintro cvs m h K ⟨v, s, rfl, hs, hg, hK⟩
 refine ⟨f61_ctx v m h, rfl, specs_nil, ?_⟩
 rw [← f61_vc v m h K]
 exact f61_ok hs hg hK
theorem f77_ok {v : SchV} {t : Tab} (hs : RepS h s v) (hgood : Good TabT s.tables) (hx : s.tables[i]? = some t) (hK : ∀ r : Bool, (r = true ↔ RefsT s.tables [] t) → K (cB r) m h) : f77_nice v i m h K := by
 have hl := hs.tables.slen
 have hlen := hs.tables.len
 have hil : i < s.tables.length := (List.getElem?_eq_some_iff.1 hx).1
 have hf : ¬ RefsT s.tables [] t → K (.val (.bool false)) m h := fun h => hK false ⟨fun e => (by cases e), fun e => (h e).elim⟩
 obtain ⟨b, o, w, ea, hr, hrep⟩ := hs.tables.at hx
 have hcl := RepL.slen hrep.columns
 have hrl := RepL.slen hrep.refs
 have hrb := RepL.len hrep.refs
 refine ⟨b, o, ea, by omega, by omega, w, .imm hr, fun ⟨k, w'⟩ => w' = w ∧ k ≤ t.refs.length ∧ GoodUpto (RefT s.tables t) t.refs k, fun ⟨k, _⟩ => t.refs.length - k, ⟨(0, w), ⟨rfl, by omega, .zero⟩, MT⟩, ?_⟩
 rintro ⟨k, w⟩ ⟨rfl, hk, hg2⟩
 dsimp only
 refine branch_dec (fun hlt2 => ?_) (fun hge2 => hK true ⟨fun _ => hg2.all (by omega), fun _ => rfl⟩)
 obtain ⟨r, hrx⟩ := getx hrl hlt2
 obtain ⟨b2, o2, rv, ea2, hr2, hrep2⟩ := hrep.refs.at hrx
 have rcl := hrep2.columns.slen
 have rcb := hrep2.columns.len
 have rt := hrep2.table
 have bad : ¬ RefT s.tables t (t.refs.take k) r → K (.val (.bool false)) m h := fun hn => hf (Good.not hrx hn)
 refine ⟨b2, o2, ea2, by omega, hlt2, rv, .imm hr2, branch_dec (fun h1 => bad fun ht => ?_) (fun h1 => branch_dec (fun h2 => bad fun ht => ?_) (fun h2 => ?_))⟩
 · have := ht.1; omega
 · have := ht.2.1; omega
 obtain ⟨g, b3, o3, gv, hgx, ea3, hr3, hrep3⟩ := hs.table (t := rv.table) (by omega) (by omega)
 have gcl := RepL.slen hrep3.columns
 have hkey := hgood.key_le hgx
 have gk := hrep3.key
 refine ⟨b3, o3, ea3, by omega, by omega, gv.key, .imm (RdCells.part hr3 2 1), branch_intro (fun h3 => bad fun ht => ?_) (fun h3 => ?_)⟩
 · obtain ⟨_, _, g', hg', hk', _⟩ := ht
   rw [← rt, hgx] at hg'
   cases hg'
   have : (rv.columns.len : Int) ≠ gv.key := by simpa using h3
   omega
 have h3 : (rv.columns.len : Int) = gv.key := by simpa using h3
 refine ⟨fun ⟨k', j, w', r'⟩ => k' = k ∧ w' = w ∧ r' = rv ∧ j ≤ r.columns.length ∧ GoodUpto (fun pre c => KindAt t g pre.length c) r.columns j, fun ⟨_, j, _, _⟩ => r.columns.length - j, ⟨(k, 0, w, rv), ⟨rfl, rfl, rfl, by omega, .zero⟩, MT⟩, ?_⟩
 rintro ⟨k, j, w, rv⟩ ⟨rfl, rfl, rfl, hj, hg3⟩
 dsimp only
 refine branch_dec (fun hlt3 => ?_) (fun hge3 => ⟨(k + 1, w), ⟨rfl, by show k + 1 ≤ t.refs.length; omega, hg2.succ hrx ⟨by omega, by omega, g, by rw [← rt]; exact hgx, by omega, hg3.all (by omega)⟩⟩, by show t.refs.length - (k + 1) < t.refs.length - k; omega, MT⟩)
 obtain ⟨c, hc⟩ := getx rcl hlt3
 obtain ⟨b4, o4, ea4, hr4⟩ := hrep2.columns.at' hc
 have htl := take_len hc
 have cbad : ¬ KindAt t g j c → K (.val (.bool false)) m h := fun hn => bad fun ht => by
  obtain ⟨_, _, g', hg', _, hgo⟩ := ht
  rw [← rt, hgx] at hg'
  cases hg'
  have := hgo j c hc
  dsimp only at this
  rw [htl] at this
  exact hn this
 refine ⟨b4, o4, ea4, by omega, hlt3, c, .imm hr4, branch_dec (fun h5 => cbad fun ht => ?_) (fun h5 => branch_dec (fun h6 => cbad fun ht => ?_) (fun h6 => ?_))⟩
 · have := ht.1; omega
 · have := ht.2.1; omega
 obtain ⟨x, hxx⟩ : ∃ x, t.columns[c.toNat]? = some x := ⟨t.columns[c.toNat]'(by omega), List.getElem?_eq_getElem _⟩
 obtain ⟨y, hyy⟩ : ∃ y, g.columns[j]? = some y := ⟨g.columns[j]'(by omega), List.getElem?_eq_getElem _⟩
 obtain ⟨b5, o5, ea5, hr5⟩ := Cols.at hrep.columns hxx
 obtain ⟨b6, o6, ea6, hr6⟩ := Cols.at hrep3.columns hyy
 refine ⟨b5, o5, ea5, by omega, by omega, x.kind, .imm (RdCells.part hr5 1 1), b3, o3, ea3, by omega, by omega, gv.columns, .imm (RdCells.part hr3 1 1), b6, o6, ea6, by omega, by omega, y.kind, .imm (RdCells.part hr6 1 1), branch_intro (fun h7 => cbad fun ht => ?_) (fun h7 => ?_)⟩
 · obtain ⟨_, _, x', y', e1, e2, e3⟩ := ht
   rw [hxx] at e1; rw [hyy] at e2
   cases e1; cases e2
   rw [e3] at h7; simp at h7
 · exact ⟨(k, j + 1, w, rv), ⟨rfl, rfl, rfl, by show j + 1 ≤ r.columns.length; omega, hg3.succ hc (by show KindAt t g (List.take j r.columns).length c; rw [htl]; exact ⟨by omega, by omega, x, y, hxx, hyy, by simpa using h7⟩)⟩, by show r.columns.length - (j + 1) < r.columns.length - j; omega, MT⟩
theorem f77_sound : Sound Tryz.prog 77 RefsOfS := by
 refine fn_sound (fn := Tryz.f77) (c := bodyOf Tryz.f77) Tryz.func77 rfl (by decide) ?_
 rintro cvs m h K ⟨v, s, t, i, rfl, hs, hg, hx, hK⟩
 refine ⟨f77_ctx v m h, rfl, specs_nil, ?_⟩
 rw [← f77_vc v i m h K]
 exact f77_ok hs hg hx hK
def TabLim (t : Tab) : Prop := t.columns.length ≤ 8 ∧ t.refs.length ≤ 4 ∧ t.checks.length ≤ 4
def SchLim (s : Sch) : Prop := s.tables.length ≤ 8 ∧ Good (fun _ t => TabLim t) s.tables
def SchOk (s : Sch) : Prop := 0 ≤ s.version ∧ s.version ≤ 1000 ∧ Good TabT s.tables ∧ Good (RefsT s.tables) s.tables
def firstErr : List Int → Int
 | [] => 0
 | e :: r => if e = 0 then firstErr r else e
def tabErrs (s : Sch) (i : Nat) : List Int := match s.tables[i]? with | some t => t.checks.map (predErr (kindsT s i) []) | none => []
theorem firstErr_append (a b : List Int) (h : ∀ e ∈ a, e = 0) : firstErr (a ++ b) = firstErr b := by
 induction a with
 | nil => rfl
 | cons x a ih =>
  simp only [List.cons_append, firstErr]
  rw [if_pos (h x (by simp)), ih fun e he => h e (by simp [he])]
theorem firstErr_zero (a : List Int) (h : ∀ e ∈ a, e = 0) : firstErr a = 0 := by
 have := firstErr_append a [] h
 simpa [firstErr] using this
theorem firstErr_at {n : Nat} {f : Nat → List Int} {e : Int} (hi : i < n) (h1 : ∀ j < i, ∀ x ∈ f j, x = 0) (h2 : ∀ x ∈ (f i).take k, x = 0) (h3 : (f i)[k]? = some e) (he : e ≠ 0) : firstErr ((List.range n).flatMap f) = e := by
 obtain ⟨r, rfl⟩ : ∃ r, n = i + (1 + r) := ⟨n - i - 1, by omega⟩
 rw [List.range_add, List.flatMap_append, firstErr_append]
 · rw [show (List.range (1 + r)).map (i + ·) = i :: (List.range' (i + 1) r) from ?_, List.flatMap_cons, ← List.take_append_drop k (f i), List.append_assoc, firstErr_append _ _ h2, drop_cons h3]
   · simp [firstErr, he]
   · rw [Nat.add_comm 1 r, List.range_succ_eq_map]
     simp [List.range'_eq_map_range, Nat.add_assoc, Nat.add_comm 1]
 · intro x hx
   obtain ⟨j, hj, hx⟩ := List.mem_flatMap.1 hx
   exact h1 j (List.mem_range.1 hj) x hx
open Classical in
def schErr (s : Sch) : Int := if SchLim s then (if SchOk s then firstErr ((List.range s.tables.length).flatMap (tabErrs s)) else 70) else 2
def SchCheckS : Vc.Spec := fun cvs m h K => ∃ v s, cvs = [aS v] ∧ RepS h s v ∧ K (cI (schErr s)) m h
def f31_ctx (v : SchV) (m : MH) (h : PH) : Ctx :=
 ctx2 [(60, NamedS), (61, ReferS), (62, KindsOfS), (63, PredCheckS)]
  [(4, { A := Nat, st := fun i => mkSt 83 84 [(1, .at (.ptr 1 0)), (16, sv v.tables), (17, iv v.tables.len), (18, iv i)] [(1, .cells 28 (v.enc.map .val))] m h }),
   (12, { A := Nat × PH, st := fun ⟨i, hx⟩ => mkSt 83 84 [(1, .at (.ptr 1 0)), (58, sv v.tables), (59, iv v.tables.len), (60, iv i)] [(1, .cells 28 (v.enc.map .val))] m hx }),
   (16, { A := Nat × Nat × Sl × Sl × PH, st := fun ⟨i, k, ks, cs, hx⟩ => mkSt 83 84 [(1, .at (.ptr 1 0)), (7, sv ks), (58, sv v.tables), (59, iv v.tables.len), (60, iv i), (69, sv cs), (70, iv cs.len), (71, iv k)] [(1, .cells 28 (v.enc.map .val))] m hx })] [] [] false
def f53_ctx (v : SchV) (m : MH) (h : PH) : Ctx :=
 ctx2 [(76, TableS), (77, RefsOfS), (52, KindsOfS), (57, PredCheckS)]
  [(4, { A := Nat, st := fun i => mkSt 96 97 [(1, .at (.ptr 1 0)), (16, sv v.tables), (17, iv v.tables.len), (18, iv i)] [(1, .cells 28 (v.enc.map .val))] m h }),
   (12, { A := Nat, st := fun i => mkSt 96 97 [(1, .at (.ptr 1 0)), (49, iv v.tables.len), (50, iv i)] [(1, .cells 28 (v.enc.map .val))] m h }),
   (18, { A := Nat, st := fun i => mkSt 96 97 [(1, .at (.ptr 1 0)), (60, iv v.tables.len), (61, iv i)] [(1, .cells 28 (v.enc.map .val))] m h }),
   (24, { A := Nat × PH, st := fun ⟨i, hx⟩ => mkSt 96 97 [(1, .at (.ptr 1 0)), (71, iv v.tables.len), (72, iv i)] [(1, .cells 28 (v.enc.map .val))] m hx }),
   (27, { A := Nat × Nat × Sl × PH, st := fun ⟨i, k, cs, hx⟩ => mkSt 96 97 [(1, .at (.ptr 1 0)), (7, iv i), (71, iv v.tables.len), (72, iv i), (80, sv cs), (81, iv cs.len), (82, iv k)] [(1, .cells 28 (v.enc.map .val))] m hx })] [] [] false
def f31_nice (v : SchV) (m : MH) (h : PH) (K : CV → MH → PH → Prop) : Prop :=
 branch (decide ((↑v.tables.len : Int) > 8)) (K (cQi 2) m h) (∃ (I : Nat -> Prop) (mu : Nat -> Nat), (∃ (x : Nat), I x /\ eP 1 /\ eQ (sQs v.tables) /\ eQ (sQi ↑v.tables.len) /\ sQi
 0 = sQi ↑x /\ eQ (oQ 28 [aQi v.version, aQs v.tables]) /\ m = m /\ h = h /\ True) /\ ∀ (x : Nat), I x -> branch (decide ((↑x : Int) < ↑v.tables.len)) (∃ (b off : Nat), v.tables.a =
 some (Addr.mk b off none) /\ 0 <= (↑x : Int) /\ (↑x : Int) < ↑v.tables.len /\ ∃ (y : TabV), RdAt m h b (off + (↑x : Int).toNat * 5) [Value.string y.name, vQs y.columns, vQi y.key,
 vQs y.references, vQs y.checks] /\ branch (decide ((↑y.columns.len : Int) > 8)) (K (cQi 2) m h) (branch (decide ((↑y.references.len : Int) > 4)) (K (cQi 2) m h) (branch (decide
 ((↑y.checks.len : Int) > 4)) (K (cQi 2) m h) (∃ (x_1 : Nat), I x_1 /\ mu x_1 < mu x /\ eP 1 /\ eQ (sQs v.tables) /\ eQ (sQi ↑v.tables.len) /\ sQi (IntKind.i64.wrap ((↑x : Int) +
 1)) = sQi ↑x_1 /\ eQ (oQ 28 [aQi v.version, aQs v.tables]) /\ m = m /\ h = h /\ True)))) (branch (decide (v.version < 0)) (K (cQi 70) m h) (branch (decide (v.version > 1000)) (K
 (cQi 70) m h) (∃ (v_1 : SchV) (s : Sch), [cQa [vQi v.version, vQs v.tables]] = [cQa [vQi v_1.version, vQs v_1.tables]] /\ RepS h s v_1 /\ ∀ (r : Bool), (r = true ↔ Good TabT
 s.tables) -> branch (!r) (K (cQi 70) m h) (∃ (v_2 : SchV) (s : Sch), [cQa [vQi v.version, vQs v.tables]] = [cQa [vQi v_2.version, vQs v_2.tables]] /\ RepS h s v_2 /\ Good TabT
 s.tables /\ ∀ (r : Bool), (r = true ↔ Good (RefsT s.tables) s.tables) -> branch (!r) (K (cQi 70) m h) (∃ (I : Nat × PH -> Prop) (mu : Nat × PH -> Nat), (∃ (x : Nat × PH), I x /\ eP
 1 /\ eQ (sQs v.tables) /\ eQ (sQi ↑v.tables.len) /\ sQi 0 = sQi ↑x.1 /\ eQ (oQ 28 [aQi v.version, aQs v.tables]) /\ m = m /\ h = x.2 /\ True) /\ ∀ (x : Nat × PH), I x -> branch
 (decide ((↑x.1 : Int) < ↑v.tables.len)) (∃ (b off : Nat), v.tables.a = some (Addr.mk b off none) /\ 0 <= (↑x.1 : Int) /\ (↑x.1 : Int) < ↑v.tables.len /\ ∃ (y : TabV), RdAt m x.2 b
 (off + (↑x.1 : Int).toNat * 5) [Value.string y.name, vQs y.columns, vQi y.key, vQs y.references, vQs y.checks] /\ ∃ (v_3 : SchV) (s : Sch) (t : Int), [cQa [vQi v.version, vQs
 v.tables], cQi ↑x.1] = [cQa [vQi v_3.version, vQs v_3.tables], cQi t] /\ RepS x.2 s v_3 /\ small8 s /\ ∀ (sl : Sl) (h' : PH), x.2.le h' -> Ints h' sl (kindsT s t) -> ∃ (I_1 : Nat ×
 Nat × Sl × Sl × PH -> Prop) (mu_1 : Nat × Nat × Sl × Sl × PH -> Nat), (∃ (x_1 : Nat × Nat × Sl × Sl × PH), I_1 x_1 /\ eP 1 /\ sQs sl = sQs x_1.2.2.1 /\ eQ (sQs v.tables) /\ eQ (sQi
 ↑v.tables.len) /\ sQi ↑x.1 = sQi ↑x_1.1 /\ sQs y.checks = sQs x_1.2.2.2.1 /\ sQi ↑y.checks.len = sQi ↑x_1.2.2.2.1.len /\ sQi 0 = sQi ↑x_1.2.1 /\ eQ (oQ 28 [aQi v.version, aQs
 v.tables]) /\ m = m /\ h' = x_1.2.2.2.2 /\ True) /\ ∀ (x_1 : Nat × Nat × Sl × Sl × PH), I_1 x_1 -> branch (decide ((↑x_1.2.1 : Int) < ↑x_1.2.2.2.1.len)) (∃ (b off : Nat),
 x_1.2.2.2.1.a = some (Addr.mk b off none) /\ 0 <= (↑x_1.2.1 : Int) /\ (↑x_1.2.1 : Int) < ↑x_1.2.2.2.1.len /\ ∃ (y : PV), RdAt m x_1.2.2.2.2 b (off + (↑x_1.2.1 : Int).toNat * 13)
 (PV.enc y) /\ ∃ (s t : Sl) (v_4 : PV), ∃ (cols params : List Int) (p : Pred), [cQs x_1.2.2.1, cQn, cQa (PV.enc y)] = [cQs s, cQs t, cQa (PV.enc v_4)] /\ Ints x_1.2.2.2.2 s cols /\
 Ints x_1.2.2.2.2 t params /\ RepP x_1.2.2.2.2 p v_4 /\ branch (predErr cols params p != 0) (K (cQi (predErr cols params p)) m x_1.2.2.2.2) (∃ (x : Nat × Nat × Sl × Sl × PH), I_1 x
 /\ mu_1 x < mu_1 x_1 /\ eP 1 /\ sQs x_1.2.2.1 = sQs x.2.2.1 /\ eQ (sQs v.tables) /\ eQ (sQi ↑v.tables.len) /\ sQi ↑x_1.1 = sQi ↑x.1 /\ sQs x_1.2.2.2.1 = sQs x.2.2.2.1 /\ sQi
 ↑x_1.2.2.2.1.len = sQi ↑x.2.2.2.1.len /\ sQi (IntKind.i64.wrap ((↑x_1.2.1 : Int) + 1)) = sQi ↑x.2.1 /\ eQ (oQ 28 [aQi v.version, aQs v.tables]) /\ m = m /\ x_1.2.2.2.2 = x.2.2.2.2
 /\ True)) (∃ (x_2 : Nat × PH), I x_2 /\ mu x_2 < mu x /\ eP 1 /\ eQ (sQs v.tables) /\ eQ (sQi ↑v.tables.len) /\ sQi (IntKind.i64.wrap ((↑x_1.1 : Int) + 1)) = sQi ↑x_2.1 /\ eQ (oQ
 28 [aQi v.version, aQs v.tables]) /\ m = m /\ x_1.2.2.2.2 = x_2.2 /\ True)) (K (cQi 0) m x.2)))))))
theorem f31_vc (v : SchV) (m : MH) (h : PH) (K : CV → MH → PH → Prop) : f31_nice v m h K = (fnVC (f31_ctx v m h) Tryz.f31 (bodyOf Tryz.f31) (entry Tryz.f31.ntmps [aS v] m h) K) := by kernel_rfl
def f53_nice (v : SchV) (m : MH) (h : PH) (K : CV → MH → PH → Prop) : Prop :=
 branch (decide ((↑v.tables.len : Int) > 8)) (K (cQi 2) m h) (∃ (I : Nat -> Prop) (mu : Nat -> Nat), (∃ (x : Nat), I x /\ eP 1 /\ eQ (sQs v.tables) /\ eQ (sQi ↑v.tables.len) /\ sQi
 0 = sQi ↑x /\ eQ (oQ 28 [aQi v.version, aQs v.tables]) /\ m = m /\ h = h /\ True) /\ ∀ (x : Nat), I x -> branch (decide ((↑x : Int) < ↑v.tables.len)) (∃ (b off : Nat), v.tables.a =
 some (Addr.mk b off none) /\ 0 <= (↑x : Int) /\ (↑x : Int) < ↑v.tables.len /\ ∃ (y : TabV), RdAt m h b (off + (↑x : Int).toNat * 5) [Value.string y.name, vQs y.columns, vQi y.key,
 vQs y.references, vQs y.checks] /\ branch (decide ((↑y.columns.len : Int) > 8)) (K (cQi 2) m h) (branch (decide ((↑y.references.len : Int) > 4)) (K (cQi 2) m h) (branch (decide
 ((↑y.checks.len : Int) > 4)) (K (cQi 2) m h) (∃ (x_1 : Nat), I x_1 /\ mu x_1 < mu x /\ eP 1 /\ eQ (sQs v.tables) /\ eQ (sQi ↑v.tables.len) /\ sQi (IntKind.i64.wrap ((↑x : Int) +
 1)) = sQi ↑x_1 /\ eQ (oQ 28 [aQi v.version, aQs v.tables]) /\ m = m /\ h = h /\ True)))) (branch (decide (v.version < 0)) (K (cQi 70) m h) (branch (decide (v.version > 1000)) (K
 (cQi 70) m h) (∃ (I : Nat -> Prop) (mu : Nat -> Nat), (∃ (x : Nat), I x /\ eP 1 /\ eQ (sQi ↑v.tables.len) /\ sQi 0 = sQi ↑x /\ eQ (oQ 28 [aQi v.version, aQs v.tables]) /\ m = m /\
 h = h /\ True) /\ ∀ (x : Nat), I x -> branch (decide ((↑x : Int) < ↑v.tables.len)) (∃ (v_1 : SchV) (s : Sch), ∃ (t : Tab) (i : Nat), [cQa [vQi v.version, vQs v.tables], cQi ↑x] =
 [cQa [vQi v_1.version, vQs v_1.tables], cQi ↑i] /\ RepS h s v_1 /\ s.tables[i]? = some t /\ ∀ (r : Bool), (r = true ↔ TabT (List.take i s.tables) t) -> branch (!r) (K (cQi 70) m h)
 (∃ (x_1 : Nat), I x_1 /\ mu x_1 < mu x /\ eP 1 /\ eQ (sQi ↑v.tables.len) /\ sQi (IntKind.i64.wrap ((↑x : Int) + 1)) = sQi ↑x_1 /\ eQ (oQ 28 [aQi v.version, aQs v.tables]) /\ m = m
 /\ h = h /\ True)) (∃ (I : Nat -> Prop) (mu : Nat -> Nat), (∃ (x : Nat), I x /\ eP 1 /\ eQ (sQi ↑v.tables.len) /\ sQi 0 = sQi ↑x /\ eQ (oQ 28 [aQi v.version, aQs v.tables]) /\ m =
 m /\ h = h /\ True) /\ ∀ (x : Nat), I x -> branch (decide ((↑x : Int) < ↑v.tables.len)) (∃ (v_1 : SchV) (s : Sch), ∃ (t : Tab) (i : Nat), [cQa [vQi v.version, vQs v.tables], cQi
 ↑x] = [cQa [vQi v_1.version, vQs v_1.tables], cQi ↑i] /\ RepS h s v_1 /\ Good TabT s.tables /\ s.tables[i]? = some t /\ ∀ (r : Bool), (r = true ↔ RefsT s.tables [] t) -> branch
 (!r) (K (cQi 70) m h) (∃ (x_1 : Nat), I x_1 /\ mu x_1 < mu x /\ eP 1 /\ eQ (sQi ↑v.tables.len) /\ sQi (IntKind.i64.wrap ((↑x : Int) + 1)) = sQi ↑x_1 /\ eQ (oQ 28 [aQi v.version,
 aQs v.tables]) /\ m = m /\ h = h /\ True)) (∃ (I : Nat × PH -> Prop) (mu : Nat × PH -> Nat), (∃ (x : Nat × PH), I x /\ eP 1 /\ eQ (sQi ↑v.tables.len) /\ sQi 0 = sQi ↑x.1 /\ eQ (oQ
 28 [aQi v.version, aQs v.tables]) /\ m = m /\ h = x.2 /\ True) /\ ∀ (x : Nat × PH), I x -> branch (decide ((↑x.1 : Int) < ↑v.tables.len)) (∃ (b off : Nat), v.tables.a = some
 (Addr.mk b off none) /\ 0 <= (↑x.1 : Int) /\ (↑x.1 : Int) < ↑v.tables.len /\ ∃ (y : Sl), RdAt m x.2 b (off + (↑x.1 : Int).toNat * 5 + 4) [vQs y] /\ ∃ (I_1 : Nat × Nat × Sl × PH ->
 Prop) (mu_1 : Nat × Nat × Sl × PH -> Nat), (∃ (x_1 : Nat × Nat × Sl × PH), I_1 x_1 /\ eP 1 /\ sQi ↑x.1 = sQi ↑x_1.1 /\ eQ (sQi ↑v.tables.len) /\ sQi ↑x.1 = sQi ↑x_1.1 /\ sQs y =
 sQs x_1.2.2.1 /\ sQi ↑y.len = sQi ↑x_1.2.2.1.len /\ sQi 0 = sQi ↑x_1.2.1 /\ eQ (oQ 28 [aQi v.version, aQs v.tables]) /\ m = m /\ x.2 = x_1.2.2.2 /\ True) /\ ∀ (x_1 : Nat × Nat × Sl
 × PH), I_1 x_1 -> branch (decide ((↑x_1.2.1 : Int) < ↑x_1.2.2.1.len)) (∃ (b off : Nat), x_1.2.2.1.a = some (Addr.mk b off none) /\ 0 <= (↑x_1.2.1 : Int) /\ (↑x_1.2.1 : Int) <
 ↑x_1.2.2.1.len /\ ∃ (y : PV), RdAt m x_1.2.2.2 b (off + (↑x_1.2.1 : Int).toNat * 13) (PV.enc y) /\ ∃ (v_1 : SchV) (s : Sch) (t : Int), [cQa [vQi v.version, vQs v.tables], cQi
 ↑x_1.1] = [cQa [vQi v_1.version, vQs v_1.tables], cQi t] /\ RepS x_1.2.2.2 s v_1 /\ small8 s /\ ∀ (sl : Sl) (h' : PH), x_1.2.2.2.le h' -> Ints h' sl (kindsT s t) -> ∃ (s t : Sl)
 (v_2 : PV), ∃ (cols params : List Int) (p : Pred), [cQs sl, cQn, cQa (PV.enc y)] = [cQs s, cQs t, cQa (PV.enc v_2)] /\ Ints h' s cols /\ Ints h' t params /\ RepP h' p v_2 /\ branch
 (predErr cols params p != 0) (K (cQi (predErr cols params p)) m h') (∃ (x : Nat × Nat × Sl × PH), I_1 x /\ mu_1 x < mu_1 x_1 /\ eP 1 /\ sQi ↑x_1.1 = sQi ↑x.1 /\ eQ (sQi
 ↑v.tables.len) /\ sQi ↑x_1.1 = sQi ↑x.1 /\ sQs x_1.2.2.1 = sQs x.2.2.1 /\ sQi ↑x_1.2.2.1.len = sQi ↑x.2.2.1.len /\ sQi (IntKind.i64.wrap ((↑x_1.2.1 : Int) + 1)) = sQi ↑x.2.1 /\ eQ
 (oQ 28 [aQi v.version, aQs v.tables]) /\ m = m /\ h' = x.2.2.2 /\ True)) (∃ (x_2 : Nat × PH), I x_2 /\ mu x_2 < mu x /\ eP 1 /\ eQ (sQi ↑v.tables.len) /\ sQi (IntKind.i64.wrap
 ((↑x_1.1 : Int) + 1)) = sQi ↑x_2.1 /\ eQ (oQ 28 [aQi v.version, aQs v.tables]) /\ m = m /\ x_1.2.2.2 = x_2.2 /\ True)) (K (cQi 0) m x.2)))))))
theorem f53_vc (v : SchV) (m : MH) (h : PH) (K : CV → MH → PH → Prop) : f53_nice v m h K = (fnVC (f53_ctx v m h) Tryz.f53 (bodyOf Tryz.f53) (entry Tryz.f53.ntmps [aS v] m h) K) := by kernel_rfl
theorem Weak.out {hx : PH} {r : CV} (hm : Sub m m') (hle : PH.le h hx) (hK : K r m h) : Weak h K r m' hx := ⟨m, h, hm, .refl _, hle, hK⟩
theorem schErr_lim (h : ¬ SchLim s) : schErr s = 2 := by unfold schErr; rw [if_neg h]
theorem schErr_bad (h : SchLim s) (h' : ¬ SchOk s) : schErr s = 70 := by unfold schErr; rw [if_pos h, if_neg h']
theorem schErr_ok (h : SchLim s) (h' : SchOk s) : schErr s = firstErr ((List.range s.tables.length).flatMap (tabErrs s)) := by unfold schErr; rw [if_pos h, if_pos h']
theorem tabErrs_at {t : Tab} (hx : s.tables[i]? = some t) (hp : t.checks[k]? = some p) : (tabErrs s i)[k]? = some (predErr (kindsT s i) [] p) := by
 unfold tabErrs; rw [hx]; simp [hp]
theorem tabErrs_len {t : Tab} (hx : s.tables[i]? = some t) : (tabErrs s i).length = t.checks.length := by
 unfold tabErrs; rw [hx]; simp
theorem zero_succ {e : Int} (hk : l[k]? = some e) (h : ∀ x ∈ l.take k, x = 0) (he : e = 0) : ∀ x ∈ l.take (k + 1), x = 0 := by
 intro x hx
 rw [List.take_add_one, hk, List.mem_append] at hx
 rcases hx with hx | hx
 · exact h x hx
 · simp at hx; rw [hx, he]
theorem zero_all {f : Nat → List Int} (h : ∀ j < i, ∀ x ∈ f j, x = 0) (hl : (f i).length ≤ k) (h2 : ∀ x ∈ (f i).take k, x = 0) : ∀ j < i + 1, ∀ x ∈ f j, x = 0 := by
 intro j hj x hx
 by_cases e : j = i
 · subst e; rw [List.take_of_length_le hl] at h2; exact h2 x hx
 · exact h j (by omega) x hx
theorem f31_ok {v : SchV} (hs : RepS h s v) (hK : K (cI (schErr s)) m h) : f31_nice v m h (Weak h K) := by
 have hl := hs.tables.slen
 have hlen := hs.tables.len
 have hver := hs.version
 have out : ∀ (hx : PH) (x : Int), PH.le h hx → schErr s = x → Weak h K (.val (.int .i64 x)) m hx := fun hx x hle e => .out (Sub.refl m) hle (by rw [← e]; exact hK)
 refine branch_dec (fun h1 => out h _ (.refl _) (schErr_lim fun e => by have := e.1; omega)) (fun h1 => ?_)
 refine ⟨fun i => i ≤ s.tables.length ∧ GoodUpto (fun _ t => TabLim t) s.tables i, fun i => s.tables.length - i, ⟨0, ⟨by omega, .zero⟩, MT⟩, fun i ⟨hi, hg⟩ => branch_dec (fun hlt => ?_) (fun hge => ?_)⟩
 · obtain ⟨t, hx⟩ := getx hl hlt
   obtain ⟨b, o, w, ea, hr, hrep⟩ := hs.tables.at hx
   have e1 := RepL.slen hrep.columns
   have e2 := RepL.slen hrep.refs
   have e3 := RepL.slen hrep.checks
   have bad : ¬ TabLim t → Weak h K (.val (.int .i64 2)) m h := fun hn => out h _ (.refl _) (schErr_lim fun e => Good.not hx hn e.2)
   refine ⟨b, o, ea, by omega, hlt, w, .imm hr, branch_dec (fun h2 => bad fun e => ?_) (fun h2 => branch_dec (fun h3 => bad fun e => ?_) (fun h3 => branch_dec (fun h4 => bad fun e => ?_) (fun h4 => ⟨i + 1, ⟨by omega, hg.succ hx ⟨by omega, by omega, by omega⟩⟩, by show s.tables.length - (i + 1) < s.tables.length - i; omega, MT⟩)))⟩
   · have := e.1; omega
   · have := e.2.1; omega
   · have := e.2.2; omega
 have lim : SchLim s := ⟨by omega, hg.all (by omega)⟩
 have h8 : small8 s := fun t ht => by
  obtain ⟨j, hj⟩ := List.mem_iff_getElem?.1 ht
  exact (lim.2 j t hj).1
 have bad : ¬ SchOk s → Weak h K (.val (.int .i64 70)) m h := fun hn => out h _ (.refl _) (schErr_bad lim hn)
 refine branch_dec (fun h2 => bad fun e => ?_) (fun h2 => branch_dec (fun h3 => bad fun e => ?_) (fun h3 => ⟨v, s, rfl, hs, fun r hr => branch_intro (fun h4 => bad fun e => ?_) (fun h4 => ⟨v, s, rfl, hs, hr.1 (by simpa using h4), fun r2 hr2 => branch_intro (fun h5 => bad fun e => ?_) (fun h5 => ?_)⟩)⟩))
 · have := e.1; omega
 · have := e.2.1; omega
 · rw [hr.2 e.2.2.1] at h4; cases h4
 · rw [hr2.2 e.2.2.2] at h5; cases h5
 have ok : SchOk s := ⟨by omega, by omega, hr.1 (by simpa using h4), hr2.1 (by simpa using h5)⟩
 rw [schErr_ok lim ok] at out
 refine ⟨fun ⟨i, hx⟩ => i ≤ s.tables.length ∧ PH.le h hx ∧ ∀ j < i, ∀ x ∈ tabErrs s j, x = 0, fun ⟨i, _⟩ => s.tables.length - i, ⟨(0, h), ⟨by omega, .refl _, fun j hj => by omega⟩, MT⟩, ?_⟩
 rintro ⟨i, hx⟩ ⟨hi, hle, hz⟩
 dsimp only
 refine branch_dec (fun hlt => ?_) (fun hge => out hx _ hle (firstErr_zero _ fun e he => ?_))
 · obtain ⟨t, ht⟩ := getx hl hlt
   obtain ⟨b, o, w, ea, hr, hrep⟩ := (hs.mono hle).tables.at ht
   have cl := RepL.slen hrep.checks
   have cb := RepL.len hrep.checks
   refine ⟨b, o, ea, by omega, hlt, w, .imm hr, v, s, i, rfl, hs.mono hle, h8, fun sl h' hle' hints => ?_⟩
   refine ⟨fun ⟨i', k, ks, cs, hy⟩ => i' = i ∧ cs = w.checks ∧ k ≤ t.checks.length ∧ PH.le h' hy ∧ Ints hy ks (kindsT s i) ∧ ∀ x ∈ (tabErrs s i).take k, x = 0, fun ⟨_, k, _, _, _⟩ => t.checks.length - k, ⟨(i, 0, sl, w.checks, h'), ⟨rfl, rfl, by omega, .refl _, hints, fun x hx => by simp at hx⟩, MT⟩, ?_⟩
   rintro ⟨i, k, ks, _, hy⟩ ⟨rfl, rfl, hk, hle2, hints2, hz2⟩
   dsimp only
   have hlh : PH.le h hy := (hle.trans hle').trans hle2
   refine branch_dec (fun hlt2 => ?_) (fun hge2 => ⟨(i + 1, hy), ⟨by omega, hlh, zero_all hz (k := k) (by rw [tabErrs_len ht]; omega) hz2⟩, by show s.tables.length - (i + 1) < s.tables.length - i; omega, MT⟩)
   obtain ⟨p, hp⟩ := getx cl hlt2
   obtain ⟨b2, o2, pv, ea2, hr2', hrep2⟩ := ((hrep.checks.mono hle').mono hle2).at hp
   refine ⟨b2, o2, ea2, by omega, hlt2, pv, .imm hr2', ks, ⟨none, 0, 0⟩, pv, kindsT s i, [], p, rfl, hints2, ⟨.nil _ _, by simp⟩, hrep2, branch_intro (fun h6 => ?_) (fun h6 => ?_)⟩
   · exact out hy _ hlh (firstErr_at (by omega) hz hz2 (tabErrs_at ht hp) (by simpa using h6))
   · exact ⟨(i, k + 1, ks, w.checks, hy), ⟨rfl, rfl, by show k + 1 ≤ t.checks.length; omega, hle2, hints2, zero_succ (tabErrs_at ht hp) hz2 (by simpa using h6)⟩, by show t.checks.length - (k + 1) < t.checks.length - k; omega, MT⟩
 · obtain ⟨j, hj, hx⟩ := List.mem_flatMap.1 he
   exact hz j (by have := List.mem_range.1 hj; omega) e hx
theorem f53_ok {v : SchV} (hs : RepS h s v) (hK : K (cI (schErr s)) m h) : f53_nice v m h (Weak h K) := by
 have hl := hs.tables.slen
 have hlen := hs.tables.len
 have hver := hs.version
 have out : ∀ (hx : PH) (x : Int), PH.le h hx → schErr s = x → Weak h K (.val (.int .i64 x)) m hx := fun hx x hle e => .out (Sub.refl m) hle (by rw [← e]; exact hK)
 refine branch_dec (fun h1 => out h _ (.refl _) (schErr_lim fun e => by have := e.1; omega)) (fun h1 => ?_)
 refine ⟨fun i => i ≤ s.tables.length ∧ GoodUpto (fun _ t => TabLim t) s.tables i, fun i => s.tables.length - i, ⟨0, ⟨by omega, .zero⟩, MT⟩, fun i ⟨hi, hg⟩ => branch_dec (fun hlt => ?_) (fun hge => ?_)⟩
 · obtain ⟨t, hx⟩ := getx hl hlt
   obtain ⟨b, o, w, ea, hr, hrep⟩ := hs.tables.at hx
   have e1 := RepL.slen hrep.columns
   have e2 := RepL.slen hrep.refs
   have e3 := RepL.slen hrep.checks
   have bad : ¬ TabLim t → Weak h K (.val (.int .i64 2)) m h := fun hn => out h _ (.refl _) (schErr_lim fun e => Good.not hx hn e.2)
   refine ⟨b, o, ea, by omega, hlt, w, .imm hr, branch_dec (fun h2 => bad fun e => ?_) (fun h2 => branch_dec (fun h3 => bad fun e => ?_) (fun h3 => branch_dec (fun h4 => bad fun e => ?_) (fun h4 => ⟨i + 1, ⟨by omega, hg.succ hx ⟨by omega, by omega, by omega⟩⟩, by show s.tables.length - (i + 1) < s.tables.length - i; omega, MT⟩)))⟩
   · have := e.1; omega
   · have := e.2.1; omega
   · have := e.2.2; omega
 have lim : SchLim s := ⟨by omega, hg.all (by omega)⟩
 have h8 : small8 s := fun t ht => by
  obtain ⟨j, hj⟩ := List.mem_iff_getElem?.1 ht
  exact (lim.2 j t hj).1
 have bad : ¬ SchOk s → Weak h K (.val (.int .i64 70)) m h := fun hn => out h _ (.refl _) (schErr_bad lim hn)
 refine branch_dec (fun h2 => bad fun e => ?_) (fun h2 => branch_dec (fun h3 => bad fun e => ?_) (fun h3 => ?_))
 · have := e.1; omega
 · have := e.2.1; omega
 clear hi hg hge
 refine ⟨fun i => i ≤ s.tables.length ∧ GoodUpto TabT s.tables i, fun i => s.tables.length - i, ⟨0, ⟨by omega, .zero⟩, MT⟩, fun i ⟨hi, hg⟩ => branch_dec (fun hlt => ?_) (fun hge => ?_)⟩
 · obtain ⟨t, hx⟩ := getx hl hlt
   refine ⟨v, s, t, i, rfl, hs, hx, fun r hr => branch_intro (fun h4 => bad fun e => ?_) (fun h4 => ⟨i + 1, ⟨by omega, hg.succ hx (hr.1 (by simpa using h4))⟩, by show s.tables.length - (i + 1) < s.tables.length - i; omega, MT⟩)⟩
   rw [hr.2 (e.2.2.1 i t hx)] at h4; cases h4
 have good := hg.all (by omega)
 clear hi hg hge
 refine ⟨fun i => i ≤ s.tables.length ∧ GoodUpto (RefsT s.tables) s.tables i, fun i => s.tables.length - i, ⟨0, ⟨by omega, .zero⟩, MT⟩, fun i ⟨hi, hg⟩ => branch_dec (fun hlt => ?_) (fun hge => ?_)⟩
 · obtain ⟨t, hx⟩ := getx hl hlt
   refine ⟨v, s, t, i, rfl, hs, good, hx, fun r hr => branch_intro (fun h4 => bad fun e => ?_) (fun h4 => ⟨i + 1, ⟨by omega, hg.succ hx (hr.1 (by simpa using h4))⟩, by show s.tables.length - (i + 1) < s.tables.length - i; omega, MT⟩)⟩
   rw [hr.2 (e.2.2.2 i t hx)] at h4; cases h4
 have good2 := hg.all (by omega)
 clear hi hg hge
 have ok : SchOk s := ⟨by omega, by omega, good, good2⟩
 rw [schErr_ok lim ok] at out
 refine ⟨fun ⟨i, hx⟩ => i ≤ s.tables.length ∧ PH.le h hx ∧ ∀ j < i, ∀ x ∈ tabErrs s j, x = 0, fun ⟨i, _⟩ => s.tables.length - i, ⟨(0, h), ⟨by omega, .refl _, fun j hj => by omega⟩, MT⟩, ?_⟩
 rintro ⟨i, hx⟩ ⟨hi, hle, hz⟩
 dsimp only
 refine branch_dec (fun hlt => ?_) (fun hge => out hx _ hle (firstErr_zero _ fun e he => ?_))
 · obtain ⟨t, ht⟩ := getx hl hlt
   obtain ⟨b, o, w, ea, hr, hrep⟩ := (hs.mono hle).tables.at ht
   have cl := RepL.slen hrep.checks
   have cb := RepL.len hrep.checks
   refine ⟨b, o, ea, by omega, hlt, w.checks, .imm (RdCells.part hr 4 1), ?_⟩
   refine ⟨fun ⟨i', k, cs, hy⟩ => i' = i ∧ cs = w.checks ∧ k ≤ t.checks.length ∧ PH.le hx hy ∧ ∀ x ∈ (tabErrs s i).take k, x = 0, fun ⟨_, k, _, _⟩ => t.checks.length - k, ⟨(i, 0, w.checks, hx), ⟨rfl, rfl, by omega, .refl _, fun x hx => by simp at hx⟩, MT⟩, ?_⟩
   rintro ⟨i, k, _, hy⟩ ⟨rfl, rfl, hk, hle2, hz2⟩
   dsimp only
   have hlh : PH.le h hy := hle.trans hle2
   refine branch_dec (fun hlt2 => ?_) (fun hge2 => ⟨(i + 1, hy), ⟨by omega, hlh, zero_all hz (k := k) (by rw [tabErrs_len ht]; omega) hz2⟩, by show s.tables.length - (i + 1) < s.tables.length - i; omega, MT⟩)
   obtain ⟨p, hp⟩ := getx cl hlt2
   obtain ⟨b2, o2, pv, ea2, hr2', hrep2⟩ := (hrep.checks.mono hle2).at hp
   refine ⟨b2, o2, ea2, by omega, hlt2, pv, .imm hr2', v, s, i, rfl, hs.mono hlh, h8, fun sl h' hle' hints => ⟨sl, ⟨none, 0, 0⟩, pv, kindsT s i, [], p, rfl, hints, ⟨.nil _ _, by simp⟩, hrep2.mono hle', branch_intro (fun h6 => ?_) (fun h6 => ?_)⟩⟩
   · exact out h' _ (hlh.trans hle') (firstErr_at (by omega) hz hz2 (tabErrs_at ht hp) (by simpa using h6))
   · exact ⟨(i, k + 1, w.checks, h'), ⟨rfl, rfl, by show k + 1 ≤ t.checks.length; omega, hle2.trans hle', zero_succ (tabErrs_at ht hp) hz2 (by simpa using h6)⟩, by show t.checks.length - (k + 1) < t.checks.length - k; omega, MT⟩
 · obtain ⟨j, hj, hx⟩ := List.mem_flatMap.1 he
   exact hz j (by have := List.mem_range.1 hj; omega) e hx
theorem f31_sound : Sound Tryz.prog 31 SchCheckS := by
 refine fn_sound' (fn := Tryz.f31) (c := bodyOf Tryz.f31) Tryz.func31 rfl (by decide) ?_
 rintro cvs m h K ⟨v, s, rfl, hs, hK⟩
 refine ⟨f31_ctx v m h, rfl, specs_cons f60_sound (specs_cons f61_sound (specs_cons f62_sound (specs_cons f63_sound specs_nil))), ?_⟩
 rw [← f31_vc v m h _]
 exact f31_ok hs hK
theorem f53_sound : Sound Tryz.prog 53 SchCheckS := by
 refine fn_sound' (fn := Tryz.f53) (c := bodyOf Tryz.f53) Tryz.func53 rfl (by decide) ?_
 rintro cvs m h K ⟨v, s, rfl, hs, hK⟩
 refine ⟨f53_ctx v m h, rfl, specs_cons f76_sound (specs_cons f77_sound (specs_cons f52_sound (specs_cons f57_sound specs_nil))), ?_⟩
 rw [← f53_vc v m h _]
 exact f53_ok hs hK
mutual
def nodesQ : Query → Int → Int
 | .mk _ _ _ _ _ _ _ _ args, n => nodesQs args (n + 1)
def nodesQs : List Query → Int → Int
 | [], n => n
 | p :: ps, n => if n ≤ 24 then nodesQs ps (nodesQ p n) else n
end
mutual
def deeperQ : Query → Nat → Bool
 | .mk _ _ _ _ _ _ _ _ _, 0 => true
 | .mk _ _ _ _ _ _ _ _ args, n + 1 => deeperQs args n
def deeperQs : List Query → Nat → Bool
 | [], _ => false
 | p :: ps, n => deeperQ p n || deeperQs ps n
end
mutual
theorem nodesQ_bound : ∀ (p : Query) (n : Int), n ≤ 24 → n < nodesQ p n ∧ nodesQ p n ≤ 25
 | .mk _ _ _ _ _ _ _ _ args, n, h => by
  have := nodesQs_bound args (n + 1) (by omega)
  simp only [nodesQ]; omega
theorem nodesQs_bound : ∀ (ps : List Query) (n : Int), n ≤ 25 → n ≤ nodesQs ps n ∧ nodesQs ps n ≤ 25
 | [], n, h => by simp only [nodesQs]; omega
 | p :: ps, n, h => by
  simp only [nodesQs]
  split
  · rename_i h1
    have h2 := nodesQ_bound p n h1
    have h3 := nodesQs_bound ps (nodesQ p n) h2.2
    omega
  · omega
end
theorem nodesQs_over (ps : List Query) {n : Int} (h : ¬ n ≤ 24) : nodesQs ps n = n := by
 cases ps
 · simp [nodesQs]
 · simp only [nodesQs, if_neg h]
theorem deeperQs_any (n : Nat) : ∀ ps : List Query, deeperQs ps n = ps.any (deeperQ · n)
 | [] => by simp [deeperQs]
 | p :: ps => by simp [deeperQs, deeperQs_any n ps]
theorem RepQ.args {p : Query} (r : RepQ h p v) : RepQl h v.args p.args := by
 cases p
 exact r.parts.args_
def smallQ (q : Query) : Bool := decide (nodesQ q 0 ≤ 24) && !deeperQ q 8
def arity (op : Int) : Int :=
 if op == 1 then 0 else if op == 2 || op == 3 || op == 9 then 1 else if op == 4 || op == 5 || op == 6 || op == 7 || op == 8 || op == 10 then 2 else -1
def NodesQS (N : Nat) : Vc.Spec := fun cvs m h K => ∃ v p k, cvs = [aQ v, cI k, cI 24] ∧ RepQ h p v ∧ SizeOf.sizeOf p < N ∧ 0 ≤ k ∧ k ≤ 24 ∧ K (cI (nodesQ p k)) m h
def DeeperQS (N : Nat) : Vc.Spec := fun cvs m h K => ∃ v p, ∃ k : Nat, cvs = [aQ v, cI k] ∧ RepQ h p v ∧ SizeOf.sizeOf p < N ∧ k ≤ 100 ∧ K (cB (deeperQ p k)) m h
def SmallQS : Vc.Spec := fun cvs m h K => ∃ v p, cvs = [aQ v] ∧ RepQ h p v ∧ K (cB (smallQ p)) m h
def ArityS : Vc.Spec := fun cvs m h K => ∃ op, cvs = [cI op] ∧ K (cI (arity op)) m h
def inL (l : List Int) (n : Int) : Bool := decide (0 ≤ n) && decide (n < l.length)
def InS : Vc.Spec := fun cvs m h K => ∃ s l n, cvs = [cS s, cI n] ∧ Ints h s l ∧ K (cB (inL l n)) m h
def f41_ctx (N : Nat) (v : QV) (m : MH) (h : PH) : Ctx :=
 ctx2 [(41, NodesQS N)] [(3, { A := Nat × Int, st := fun x => mkSt 31 34 [(1, iv x.2), (2, iv 24), (3, .at (.ptr 3 0)), (7, iv x.1)] [(3, .cells 43 (v.enc.map .val))] m h })] [] [] false
def f42_ctx (N : Nat) (v : QV) (k : Nat) (m : MH) (h : PH) : Ctx :=
 ctx2 [(42, DeeperQS N)] [(4, { A := Nat, st := fun i => mkSt 23 25 [(1, iv k), (2, .at (.ptr 2 0)), (10, iv v.args.len), (11, iv i)] [(2, .cells 43 (v.enc.map .val))] m h })] [] [] false
def f41_nice (N : Nat) (v : QV) (k : Int) (m : MH) (h : PH) (K : CV → MH → PH → Prop) : Prop :=
 ∃ (I : Nat × Int -> Prop) (mu : Nat × Int -> Nat), (∃ (x : Nat × Int), I x /\ sQi (IntKind.i64.wrap (k + 1)) = sQi x.2 /\ eQ (sQi 24) /\ eP 3 /\ sQi 0 = sQi ↑x.1 /\ eQ (oQ 43
 (List.map At.val (QV.enc v))) /\ m = m /\ h = h /\ True) /\ ∀ (x : Nat × Int), I x -> branch (decide ((↑x.1 : Int) < ↑v.args.len)) (branch (decide (x.2 <= 24)) (∃ (b off : Nat),
 v.args.a = some (Addr.mk b off none) /\ 0 <= (↑x.1 : Int) /\ (↑x.1 : Int) < ↑v.args.len /\ ∃ (y : QV), RdAt m h b (off + (↑x.1 : Int).toNat * 21) (QV.enc y) /\ ∃ (v_1 : QV) (p :
 Query) (k : Int), [cQa (QV.enc y), cQi x.2, cQi 24] = [cQa (QV.enc v_1), cQi k, cQi 24] /\ RepQ h p v_1 /\ SizeOf.sizeOf p < N /\ 0 <= k /\ k <= 24 /\ ∃ (x_1 : Nat × Int), I x_1 /\
 mu x_1 < mu x /\ sQi (nodesQ p k) = sQi x_1.2 /\ eQ (sQi 24) /\ eP 3 /\ sQi (IntKind.i64.wrap ((↑x.1 : Int) + 1)) = sQi ↑x_1.1 /\ eQ (oQ 43 (List.map At.val (QV.enc v))) /\ m = m
 /\ h = h /\ True) (K (cQi x.2) m h)) (K (cQi x.2) m h)
theorem f41_vc (N : Nat) (v : QV) (k : Int) (m : MH) (h : PH) (K : CV → MH → PH → Prop) : f41_nice N v k m h K = (fnVC (f41_ctx N v m h) Tryz.f41 (bodyOf Tryz.f41) (entry Tryz.f41.ntmps [aQ v, cI k, cI 24] m h) K) := by kernel_rfl
def f42_nice (N : Nat) (v : QV) (k : Nat) (m : MH) (h : PH) (K : CV → MH → PH → Prop) : Prop :=
 branch ((↑k : Int) == 0) (K (cQb true) m h) (∃ (I : Nat -> Prop) (mu : Nat -> Nat), (∃ (x : Nat), I x /\ eQ (sQi ↑k) /\ eP 2 /\ eQ (sQi ↑v.args.len) /\ sQi 0 = sQi ↑x /\ eQ (oQ 43
 (List.map At.val (QV.enc v))) /\ m = m /\ h = h /\ True) /\ ∀ (x : Nat), I x -> branch (decide ((↑x : Int) < ↑v.args.len)) (∃ (b off : Nat), v.args.a = some (Addr.mk b off none) /\
 0 <= (↑x : Int) /\ (↑x : Int) < ↑v.args.len /\ ∃ (y : QV), RdAt m h b (off + (↑x : Int).toNat * 21) (QV.enc y) /\ ∃ (v_1 : QV) (p : Query) (k_1 : Nat), [cQa (QV.enc y), cQi
 (IntKind.i64.wrap ((↑k : Int) - 1))] = [cQa (QV.enc v_1), cQi ↑k_1] /\ RepQ h p v_1 /\ SizeOf.sizeOf p < N /\ k_1 <= 100 /\ branch (deeperQ p k_1) (K (cQb true) m h) (∃ (x_1 :
 Nat), I x_1 /\ mu x_1 < mu x /\ eQ (sQi ↑k) /\ eP 2 /\ eQ (sQi ↑v.args.len) /\ sQi (IntKind.i64.wrap ((↑x : Int) + 1)) = sQi ↑x_1 /\ eQ (oQ 43 (List.map At.val (QV.enc v))) /\ m =
 m /\ h = h /\ True)) (K (cQb false) m h))
theorem f42_vc (N : Nat) (v : QV) (k : Nat) (m : MH) (h : PH) (K : CV → MH → PH → Prop) : f42_nice N v k m h K = (fnVC (f42_ctx N v k m h) Tryz.f42 (bodyOf Tryz.f42) (entry Tryz.f42.ntmps [aQ v, cI k] m h) K) := by kernel_rfl
def f19_nice (N : Nat) (v : QV) (m : MH) (h : PH) (K : CV → MH → PH → Prop) : Prop :=
 ∃ (v_1 : QV) (p : Query) (k : Int), [cQa (QV.enc v), cQi 0, cQi 24] = [cQa (QV.enc v_1), cQi k, cQi 24] /\ RepQ h p v_1 /\ SizeOf.sizeOf p < N /\ 0 <= k /\ k <= 24 /\ branch
 (decide (nodesQ p k <= 24)) (∃ (v_2 : QV) (p : Query) (k : Nat), [cQa (QV.enc v), cQi 8] = [cQa (QV.enc v_2), cQi ↑k] /\ RepQ h p v_2 /\ SizeOf.sizeOf p < N /\ k <= 100 /\ K
 (CV.val (Value.bool !deeperQ p k)) m h) (K (cQb false) m h)
theorem f19_vc (N : Nat) (v : QV) (m : MH) (h : PH) (K : CV → MH → PH → Prop) : f19_nice N v m h K = (fnVC (ctx2 [(41, NodesQS N), (42, DeeperQS N)] [] [] [] false) Tryz.f19 (bodyOf Tryz.f19) (entry Tryz.f19.ntmps [aQ v] m h) K) := by kernel_rfl
def f48_nice (op : Int) (m : MH) (h : PH) (K : CV → MH → PH → Prop) : Prop :=
 branch (op == 1) (K (cQi 0) m h) (branch (op == 2) (K (cQi 1) m h) (branch (op == 3) (K (cQi 1) m h) (branch (op == 9) (K (cQi 1) m h) (branch (op == 4) (K (cQi 2) m h) (branch (op
 == 5) (K (cQi 2) m h) (branch (op == 6) (K (cQi 2) m h) (branch (op == 7) (K (cQi 2) m h) (branch (op == 8) (K (cQi 2) m h) (branch (op == 10) (K (cQi 2) m h) (K (cQi (Int.negSucc
 0)) m h))))))))))
theorem f48_vc (op : Int) (m : MH) (h : PH) (K : CV → MH → PH → Prop) : f48_nice op m h K = (fnVC (ctx2 [] [] [] [] false) Tryz.f48 (bodyOf Tryz.f48) (entry Tryz.f48.ntmps [cI op] m h) K) := by kernel_rfl
def f103_nice (s : Sl) (n : Int) (m : MH) (h : PH) (K : CV → MH → PH → Prop) : Prop :=
 branch (decide (n ≥ 0)) (K (cQb (decide (n < (↑s.len : Int)))) m h) (K (cQb false) m h)
theorem f103_vc (s : Sl) (n : Int) (m : MH) (h : PH) (K : CV → MH → PH → Prop) : f103_nice s n m h K = (fnVC (ctx2 [] [] [] [] false) Tryz.f103 (bodyOf Tryz.f103) (entry Tryz.f103.ntmps [cS s, cI n] m h) K) := by kernel_rfl
theorem f41_ok {p : Query} {k : Int} (hr : RepQ h p v) (hN : SizeOf.sizeOf p < N + 1) (h0 : 0 ≤ k) (h1 : k ≤ 24) (hK : K (cI (nodesQ p k)) m h) : f41_nice N v k m h K := by
 have hargs := hr.args
 have hlen := hargs.slen
 have hl := hargs.len
 refine ⟨fun x => x.1 ≤ p.args.length ∧ 0 ≤ x.2 ∧ x.2 ≤ 25 ∧ nodesQs (p.args.drop x.1) x.2 = nodesQ p k, fun x => p.args.length - x.1, ⟨(0, k + 1), ⟨by simp, by simp; omega, by simp; omega, ?_⟩, ?_⟩, ?_⟩
 · cases p; simp [nodesQ, Query.args]
 · rw [wrap_id (by omega) (by omega)]; exact MT
 rintro ⟨i, n⟩ ⟨hi, hn0, hn1, he⟩
 dsimp only at hi hn0 hn1 he ⊢
 refine branch_dec (fun hlt => branch_dec (fun hn => ?_) (fun hn => retI hK ?_)) (fun hge => retI hK ?_)
 · obtain ⟨q, hq⟩ := getx hlen hlt
   obtain ⟨b, o, u, ea, hrd, hru⟩ := hargs.at hq
   have hb := nodesQ_bound q n hn
   rw [drop_cons hq, nodesQs, if_pos hn] at he
   refine ⟨b, o, ea, by omega, hlt, u, .imm hrd, u, q, n, rfl, hru, ?_, hn0, hn, (i + 1, nodesQ q n), ⟨by dsimp only; omega, by dsimp only; omega, by dsimp only; omega, he⟩, by dsimp only; omega, MT⟩
   have := qargs_lt (List.mem_of_getElem? hq); omega
 · rw [← he, nodesQs_over _ hn]
 · rw [← he, List.drop_of_length_le (by omega)]; simp [nodesQs]
theorem f41_all : ∀ N, Sound Tryz.prog 41 (NodesQS N)
 | 0 => by
  refine fn_sound (fn := Tryz.f41) (c := bodyOf Tryz.f41) Tryz.func41 rfl (by decide) ?_
  rintro cvs m h K ⟨v, p, k, rfl, hr, hN, _⟩
  omega
 | N + 1 => by
  refine fn_sound (fn := Tryz.f41) (c := bodyOf Tryz.f41) Tryz.func41 rfl (by decide) ?_
  rintro cvs m h K ⟨v, p, k, rfl, hr, hN, h0, h1, hK⟩
  refine ⟨f41_ctx N v m h, rfl, specs_cons (f41_all N) specs_nil, ?_⟩
  rw [← f41_vc N v k m h K]
  exact f41_ok hr hN h0 h1 hK
theorem f42_ok {p : Query} (hr : RepQ h p v) (hN : SizeOf.sizeOf p < N + 1) (h1 : k ≤ 100) (hK : K (cB (deeperQ p k)) m h) : f42_nice N v k m h K := by
 have hargs := hr.args
 have hlen := hargs.slen
 have hl := hargs.len
 refine branch_intro (fun hk => retB hK ?_) (fun hk => ?_)
 · have : k = 0 := by have : (k : Int) = 0 := (by simpa using hk); omega
   subst this; cases p; simp [deeperQ]
 · have hk : k ≠ 0 := by intro e; subst e; simp at hk
   have hdk : deeperQ p k = p.args.any (deeperQ · (k - 1)) := by
    obtain ⟨k', rfl⟩ : ∃ k', k = k' + 1 := ⟨k - 1, by omega⟩
    cases p; simp [deeperQ, deeperQs_any, Query.args]
   rw [hdk] at hK
   refine ⟨fun i => i ≤ p.args.length ∧ (p.args.take i).any (deeperQ · (k - 1)) = false, fun i => p.args.length - i, ⟨0, ⟨by omega, by simp⟩, MT⟩, fun i hi => branch_dec (fun hlt => ?_) (fun hge => retB hK ?_)⟩
   · obtain ⟨q, hq⟩ := getx hlen hlt
     obtain ⟨b, o, u, ea, hrd, hru⟩ := hargs.at hq
     refine ⟨b, o, ea, by omega, hlt, u, .imm hrd, u, q, k - 1, ?_, hru, ?_, by omega, branch_intro (fun hd => retB hK ?_) (fun hd => ?_)⟩
     · rw [wrap_id (by omega) (by omega), show ((k - 1 : Nat) : Int) = (k : Int) - 1 by omega]
     · have := qargs_lt (List.mem_of_getElem? hq); omega
     · rw [List.any_eq_true]; exact ⟨q, List.mem_of_getElem? hq, hd⟩
     · refine ⟨i + 1, ⟨by omega, ?_⟩, by show p.args.length - (i + 1) < p.args.length - i; omega, MT⟩
       rw [List.take_add_one, List.any_append, hi.2, hq]; simpa using hd
   · have := hi.2
     rwa [List.take_of_length_le (by omega)] at this
theorem f42_all : ∀ N, Sound Tryz.prog 42 (DeeperQS N)
 | 0 => by
  refine fn_sound (fn := Tryz.f42) (c := bodyOf Tryz.f42) Tryz.func42 rfl (by decide) ?_
  rintro cvs m h K ⟨v, p, k, rfl, hr, hN, _⟩
  omega
 | N + 1 => by
  refine fn_sound (fn := Tryz.f42) (c := bodyOf Tryz.f42) Tryz.func42 rfl (by decide) ?_
  rintro cvs m h K ⟨v, p, k, rfl, hr, hN, h1, hK⟩
  refine ⟨f42_ctx N v k m h, rfl, specs_cons (f42_all N) specs_nil, ?_⟩
  rw [← f42_vc N v k m h K]
  exact f42_ok hr hN h1 hK
theorem f19_ok {p : Query} (hr : RepQ h p v) (hK : K (cB (smallQ p)) m h) : f19_nice (SizeOf.sizeOf p + 1) v m h K := by
 refine ⟨v, p, 0, rfl, hr, by omega, by omega, by omega, branch_intro (fun h1 => ⟨v, p, 8, rfl, hr, by omega, by omega, retB hK ?_⟩) (fun h1 => retB hK ?_)⟩
 · simp only [smallQ, h1, Bool.true_and]
 · simp only [smallQ, h1, Bool.false_and]
theorem f48_ok {op : Int} (hK : K (cI (arity op)) m h) : f48_nice op m h K := by
 unfold f48_nice
 repeat' (first | (refine branch_intro (fun _ => ?_) (fun _ => ?_)) | (refine retI hK ?_; simp only [arity]; simp only [*, Bool.or_false, Bool.false_or, Bool.or_true, Bool.true_or, Bool.and_true, Bool.true_and, Bool.and_false, Bool.false_and, Bool.not_true, Bool.not_false, Bool.false_eq_true, if_true, if_false, ↓reduceIte]; done) | (refine retI hK ?_; simp only [arity]; simp only [*, Bool.or_false, Bool.false_or, Bool.or_true, Bool.true_or, Bool.and_true, Bool.true_and, Bool.and_false, Bool.false_and, Bool.not_true, Bool.not_false, Bool.false_eq_true, if_true, if_false, ↓reduceIte]; rfl))
theorem f103_ok {s : Sl} {n : Int} (hs : Ints h s l) (hK : K (cB (inL l n)) m h) : f103_nice s n m h K := by
 have hl := hs.slen
 refine branch_dec (fun h1 => retB hK ?_) (fun h1 => retB hK ?_)
 · have h1 : 0 ≤ n := h1
   simp only [inL, hl, decide_eq_true h1, Bool.true_and]
 · have h1 : ¬ 0 ≤ n := by omega
   simp only [inL, decide_eq_false h1, Bool.false_and]
theorem f19_sound : Sound Tryz.prog 19 SmallQS := by
 refine fn_sound (fn := Tryz.f19) (c := bodyOf Tryz.f19) Tryz.func19 rfl (by decide) ?_
 rintro cvs m h K ⟨v, p, rfl, hr, hK⟩
 refine ⟨ctx2 [(41, NodesQS (SizeOf.sizeOf p + 1)), (42, DeeperQS (SizeOf.sizeOf p + 1))] [] [] [] false, rfl, specs_cons (f41_all _) (specs_cons (f42_all _) specs_nil), ?_⟩
 rw [← f19_vc (SizeOf.sizeOf p + 1) v m h K]
 exact f19_ok hr hK
theorem f48_sound : Sound Tryz.prog 48 ArityS := by
 refine fn_sound (fn := Tryz.f48) (c := bodyOf Tryz.f48) Tryz.func48 rfl (by decide) ?_
 rintro cvs m h K ⟨op, rfl, hK⟩
 refine ⟨ctx2 [] [] [] [] false, rfl, specs_nil, ?_⟩
 rw [← f48_vc op m h K]
 exact f48_ok hK
theorem f103_sound : Sound Tryz.prog 103 InS := by
 refine fn_sound (fn := Tryz.f103) (c := bodyOf Tryz.f103) Tryz.func103 rfl (by decide) ?_
 rintro cvs m h K ⟨s, l, n, rfl, hs, hK⟩
 refine ⟨ctx2 [] [] [] [] false, rfl, specs_nil, ?_⟩
 rw [← f103_vc s n m h K]
 exact f103_ok hs hK
def PairT (a b : List Int) (pre : List (Int × Int)) (p : Int × Int) : Prop := inL a p.1 = true ∧ inL b p.2 = true ∧ a.getD p.1.toNat 0 = b.getD p.2.toNat 0 ∧ ∀ q ∈ pre, q.1 ≠ p.1 ∧ q.2 ≠ p.2
def GroupT (a : List Int) (pre : List Int) (c : Int) : Prop := inL a c = true ∧ c ∉ pre
def OrderT (a : List Int) (_ : List (Int × Bool)) (o : Int × Bool) : Prop := inL a o.1 = true
structure RankOk (a : List Int) (group : List Int) (order : List (Int × Bool)) (limit : Int) : Prop where
 group_ : Good (GroupT a) group
 order_ : Good (OrderT a) order
 len_ : order.length ≤ 12
 low : 0 ≤ limit
 high : limit ≤ 100
def PairedS : Vc.Spec := fun cvs m h K => ∃ s t u on a b, cvs = [cS s, cS t, cS u] ∧ Pairs h s on ∧ Ints h t a ∧ Ints h u b ∧ ∀ r : Bool, (r = true ↔ Good (PairT a b) on) → K (cB r) m h
def RankedS : Vc.Spec := fun cvs m h K => ∃ v t g o a, cvs = [aQ v, cS t] ∧ Ints h v.group g ∧ Sorts h v.order o ∧ Ints h t a ∧ ∀ r : Bool, (r = true ↔ RankOk a g o v.limit) → K (cB r) m h
def f104_ctx (s t u : Sl) (m : MH) (h : PH) : Ctx :=
 ctx2 [(103, InS)] [(2, { A := Nat, st := fun i => mkSt 66 69 [(0, sv s), (1, sv t), (2, sv u), (10, sv s), (11, iv s.len), (12, iv i)] [] m h }),
  (7, { A := Nat × Nat × (Int × Int), st := fun ⟨i, k, p⟩ => mkSt 66 69 [(0, sv s), (1, sv t), (2, sv u), (7, iv i), (8, .at (.ptr 8 0)), (9, iv k), (10, sv s), (11, iv s.len), (12, iv i)] [(8, .cells 78 [.val (.int .i64 p.1), .val (.int .i64 p.2)])] m h })] [] [] false
def f105_ctx (v : QV) (t : Sl) (m : MH) (h : PH) : Ctx :=
 ctx2 [(103, InS)] [(2, { A := Nat, st := fun i => mkSt 62 64 [(1, sv t), (2, .at (.ptr 2 0)), (11, sv v.group), (12, iv v.group.len), (13, iv i)] [(2, .cells 43 (v.enc.map .val))] m h }),
  (7, { A := Nat × Nat × Int, st := fun ⟨i, k, c⟩ => mkSt 62 64 [(1, sv t), (2, .at (.ptr 2 0)), (5, iv i), (6, iv c), (7, iv k), (11, sv v.group), (12, iv v.group.len), (13, iv i)] [(2, .cells 43 (v.enc.map .val))] m h }),
  (13, { A := Nat, st := fun i => mkSt 62 64 [(1, sv t), (2, .at (.ptr 2 0)), (36, sv v.order), (37, iv v.order.len), (38, iv i)] [(2, .cells 43 (v.enc.map .val))] m h })] [] [] false
def f104_nice (s t u : Sl) (m : MH) (h : PH) (K : CV → MH → PH → Prop) : Prop :=
 ∃ (I : Nat -> Prop) (mu : Nat -> Nat), (∃ (x : Nat), I x /\ eQ (sQs s) /\ eQ (sQs t) /\ eQ (sQs u) /\ eQ (sQs s) /\ eQ (sQi ↑s.len) /\ sQi 0 = sQi ↑x /\ m = m /\ h = h /\ True) /\
 ∀ (x : Nat), I x -> branch (decide ((↑x : Int) < ↑s.len)) (∃ (b off : Nat), s.a = some (Addr.mk b off none) /\ 0 <= (↑x : Int) /\ (↑x : Int) < ↑s.len /\ ∃ (y : Int × Int), RdAt m h
 b (off + (↑x : Int).toNat * 2) [vQi y.1, vQi y.2] /\ (0 : Int) <= 0 /\ (0 : Int) < 2 /\ ∃ (s_1 : Sl) (l : List Int) (n : Int), [cQs t, cQi y.1] = [cQs s_1, cQi n] /\ Ints h s_1 l
 /\ branch (!inL l n) (K (cQb false) m h) ((0 : Int) <= 1 /\ (1 : Int) < 2 /\ ∃ (s_2 : Sl) (l : List Int) (n : Int), [cQs u, cQi y.2] = [cQs s_2, cQi n] /\ Ints h s_2 l /\ branch
 (!inL l n) (K (cQb false) m h) ((0 : Int) <= 0 /\ (0 : Int) < 2 /\ ∃ (b off : Nat), t.a = some (Addr.mk b off none) /\ 0 <= y.1 /\ y.1 < (↑t.len : Int) /\ ∃ (y_1 : Int), RdAt m h b
 (off + y.1.toNat * 1) [vQi y_1] /\ (0 : Int) <= 1 /\ (1 : Int) < 2 /\ ∃ (b off : Nat), u.a = some (Addr.mk b off none) /\ 0 <= y.2 /\ y.2 < (↑u.len : Int) /\ ∃ (y_2 : Int), RdAt m
 h b (off + y.2.toNat * 1) [vQi y_2] /\ branch (y_1 != y_2) (K (cQb false) m h) (∃ (I_1 : Nat × Nat × Int × Int -> Prop) (mu_1 : Nat × Nat × Int × Int -> Nat), (∃ (x_1 : Nat × Nat ×
 Int × Int), I_1 x_1 /\ eQ (sQs s) /\ eQ (sQs t) /\ eQ (sQs u) /\ sQi ↑x = sQi ↑x_1.1 /\ eP 8 /\ sQi 0 = sQi ↑x_1.2.1 /\ eQ (sQs s) /\ eQ (sQi ↑s.len) /\ sQi ↑x = sQi ↑x_1.1 /\ oQ
 78 [aQi y.1, aQi y.2] = oQ 78 [aQi x_1.2.2.1, aQi x_1.2.2.2] /\ m = m /\ h = h /\ True) /\ ∀ (x_1 : Nat × Nat × Int × Int), I_1 x_1 -> branch (decide ((↑x_1.2.1 : Int) < ↑x_1.1))
 (∃ (b off : Nat), s.a = some (Addr.mk b off none) /\ 0 <= (↑x_1.2.1 : Int) /\ (↑x_1.2.1 : Int) < ↑s.len /\ (0 : Int) <= 0 /\ (0 : Int) < 2 /\ ∃ (y : Int), RdAt m h b (off +
 (↑x_1.2.1 : Int).toNat * 2 + 0) [vQi y] /\ (0 : Int) <= 0 /\ (0 : Int) < 2 /\ branch (y == x_1.2.2.1) (K (cQb false) m h) (∃ (b off : Nat), s.a = some (Addr.mk b off none) /\ 0 <=
 (↑x_1.2.1 : Int) /\ (↑x_1.2.1 : Int) < ↑s.len /\ (0 : Int) <= 1 /\ (1 : Int) < 2 /\ ∃ (y : Int), RdAt m h b (off + (↑x_1.2.1 : Int).toNat * 2 + 1) [vQi y] /\ (0 : Int) <= 1 /\ (1 :
 Int) < 2 /\ branch (y == x_1.2.2.2) (K (cQb false) m h) (∃ (x : Nat × Nat × Int × Int), I_1 x /\ mu_1 x < mu_1 x_1 /\ eQ (sQs s) /\ eQ (sQs t) /\ eQ (sQs u) /\ sQi ↑x_1.1 = sQi
 ↑x.1 /\ eP 8 /\ sQi (IntKind.i64.wrap ((↑x_1.2.1 : Int) + 1)) = sQi ↑x.2.1 /\ eQ (sQs s) /\ eQ (sQi ↑s.len) /\ sQi ↑x_1.1 = sQi ↑x.1 /\ oQ 78 [aQi x_1.2.2.1, aQi x_1.2.2.2] = oQ 78
 [aQi x.2.2.1, aQi x.2.2.2] /\ m = m /\ h = h /\ True))) (∃ (x_2 : Nat), I x_2 /\ mu x_2 < mu x /\ eQ (sQs s) /\ eQ (sQs t) /\ eQ (sQs u) /\ eQ (sQs s) /\ eQ (sQi ↑s.len) /\ sQi
 (IntKind.i64.wrap ((↑x_1.1 : Int) + 1)) = sQi ↑x_2 /\ m = m /\ h = h /\ True))))) (K (cQb true) m h)
theorem f104_vc (s t u : Sl) (m : MH) (h : PH) (K : CV → MH → PH → Prop) : f104_nice s t u m h K = (fnVC (f104_ctx s t u m h) Tryz.f104 (bodyOf Tryz.f104) (entry Tryz.f104.ntmps [cS s, cS t, cS u] m h) K) := by kernel_rfl
def f105_nice (v : QV) (t : Sl) (m : MH) (h : PH) (K : CV → MH → PH → Prop) : Prop :=
 ∃ (I : Nat -> Prop) (mu : Nat -> Nat), (∃ (x : Nat), I x /\ eQ (sQs t) /\ eP 2 /\ eQ (sQs v.group) /\ eQ (sQi ↑v.group.len) /\ sQi 0 = sQi ↑x /\ eQ (oQ 43 (List.map At.val (QV.enc
 v))) /\ m = m /\ h = h /\ True) /\ ∀ (x : Nat), I x -> branch (decide ((↑x : Int) < ↑v.group.len)) (∃ (b off : Nat), v.group.a = some (Addr.mk b off none) /\ 0 <= (↑x : Int) /\ (↑x
 : Int) < ↑v.group.len /\ ∃ (y : Int), RdAt m h b (off + (↑x : Int).toNat * 1) [vQi y] /\ ∃ (s : Sl) (l : List Int) (n : Int), [cQs t, cQi y] = [cQs s, cQi n] /\ Ints h s l /\
 branch (!inL l n) (K (cQb false) m h) (∃ (I_1 : Nat × Nat × Int -> Prop) (mu_1 : Nat × Nat × Int -> Nat), (∃ (x_1 : Nat × Nat × Int), I_1 x_1 /\ eQ (sQs t) /\ eP 2 /\ sQi ↑x = sQi
 ↑x_1.1 /\ sQi y = sQi x_1.2.2 /\ sQi 0 = sQi ↑x_1.2.1 /\ eQ (sQs v.group) /\ eQ (sQi ↑v.group.len) /\ sQi ↑x = sQi ↑x_1.1 /\ eQ (oQ 43 (List.map At.val (QV.enc v))) /\ m = m /\ h =
 h /\ True) /\ ∀ (x_1 : Nat × Nat × Int), I_1 x_1 -> branch (decide ((↑x_1.2.1 : Int) < ↑x_1.1)) (∃ (b off : Nat), v.group.a = some (Addr.mk b off none) /\ 0 <= (↑x_1.2.1 : Int) /\
 (↑x_1.2.1 : Int) < ↑v.group.len /\ ∃ (y : Int), RdAt m h b (off + (↑x_1.2.1 : Int).toNat * 1) [vQi y] /\ branch (y == x_1.2.2) (K (cQb false) m h) (∃ (x : Nat × Nat × Int), I_1 x
 /\ mu_1 x < mu_1 x_1 /\ eQ (sQs t) /\ eP 2 /\ sQi ↑x_1.1 = sQi ↑x.1 /\ sQi x_1.2.2 = sQi x.2.2 /\ sQi (IntKind.i64.wrap ((↑x_1.2.1 : Int) + 1)) = sQi ↑x.2.1 /\ eQ (sQs v.group) /\
 eQ (sQi ↑v.group.len) /\ sQi ↑x_1.1 = sQi ↑x.1 /\ eQ (oQ 43 (List.map At.val (QV.enc v))) /\ m = m /\ h = h /\ True)) (∃ (x_2 : Nat), I x_2 /\ mu x_2 < mu x /\ eQ (sQs t) /\ eP 2
 /\ eQ (sQs v.group) /\ eQ (sQi ↑v.group.len) /\ sQi (IntKind.i64.wrap ((↑x_1.1 : Int) + 1)) = sQi ↑x_2 /\ eQ (oQ 43 (List.map At.val (QV.enc v))) /\ m = m /\ h = h /\ True))) (∃ (I
 : Nat -> Prop) (mu : Nat -> Nat), (∃ (x : Nat), I x /\ eQ (sQs t) /\ eP 2 /\ eQ (sQs v.order) /\ eQ (sQi ↑v.order.len) /\ sQi 0 = sQi ↑x /\ eQ (oQ 43 (List.map At.val (QV.enc v)))
 /\ m = m /\ h = h /\ True) /\ ∀ (x : Nat), I x -> branch (decide ((↑x : Int) < ↑v.order.len)) (∃ (b off : Nat), v.order.a = some (Addr.mk b off none) /\ 0 <= (↑x : Int) /\ (↑x :
 Int) < ↑v.order.len /\ ∃ (y : Int × Bool), RdAt m h b (off + (↑x : Int).toNat * 2) [vQi y.1, Value.bool y.2] /\ ∃ (s : Sl) (l : List Int) (n : Int), [cQs t, cQi y.1] = [cQs s, cQi
 n] /\ Ints h s l /\ branch (!inL l n) (K (cQb false) m h) (∃ (x_1 : Nat), I x_1 /\ mu x_1 < mu x /\ eQ (sQs t) /\ eP 2 /\ eQ (sQs v.order) /\ eQ (sQi ↑v.order.len) /\ sQi
 (IntKind.i64.wrap ((↑x : Int) + 1)) = sQi ↑x_1 /\ eQ (oQ 43 (List.map At.val (QV.enc v))) /\ m = m /\ h = h /\ True)) (branch (decide ((↑v.order.len : Int) <= 12)) (branch (decide
 (v.limit ≥ 0)) (K (cQb (decide (v.limit <= 100))) m h) (K (cQb false) m h)) (K (cQb false) m h)))
theorem f105_vc (v : QV) (t : Sl) (m : MH) (h : PH) (K : CV → MH → PH → Prop) : f105_nice v t m h K = (fnVC (f105_ctx v t m h) Tryz.f105 (bodyOf Tryz.f105) (entry Tryz.f105.ntmps [aQ v, cS t] m h) K) := by kernel_rfl
theorem mem_take {α : Type} {l : List α} {x : α} (hx : l[i]? = some x) (hi : i < k) : x ∈ l.take k := List.mem_of_getElem? (i := i) (by rw [List.getElem?_take, if_pos hi, hx])
theorem take_mem {α : Type} {l : List α} {x y : α} (hx : l[i]? = some x) (hy : y ∈ l.take (i + 1)) : y ∈ l.take i ∨ y = x := by
 rw [List.take_add_one, hx, List.mem_append] at hy
 rcases hy with h | h
 · exact .inl h
 · simp at h; exact .inr h
theorem inL_iff {n : Int} : inL l n = true ↔ 0 ≤ n ∧ n < l.length := by simp [inL]
theorem f104_ok {s t u : Sl} {on : List (Int × Int)} {b : List Int} (hs : Pairs h s on) (ht : Ints h t a) (hu : Ints h u b) (hK : ∀ r : Bool, (r = true ↔ Good (PairT a b) on) → K (cB r) m h) : f104_nice s t u m h K := by
 have hl := hs.slen
 have hlen := hs.len
 have ta := ht.slen
 have ub := hu.slen
 refine ⟨fun i => i ≤ on.length ∧ GoodUpto (PairT a b) on i, fun i => on.length - i, ⟨0, ⟨by omega, .zero⟩, MT⟩, fun i ⟨hi, hg⟩ => branch_dec (fun hlt => ?_) (fun hge => hK true ⟨fun _ => hg.all (by omega), fun _ => rfl⟩)⟩
 obtain ⟨p, hp⟩ := getx hl hlt
 obtain ⟨b1, o1, e1, r1⟩ := hs.at hp
 have bad : ¬ PairT a b (on.take i) p → K (.val (.bool false)) m h := fun hn => hK false ⟨fun e => (by cases e), fun e => (Good.not hp hn e).elim⟩
 refine ⟨b1, o1, e1, by omega, hlt, p, .imm r1, by omega, by omega, t, a, p.1, rfl, ht, branch_intro (fun h1 => bad fun hh => ?_) (fun h1 => ⟨by omega, by omega, u, b, p.2, rfl, hu, branch_intro (fun h2 => bad fun hh => ?_) (fun h2 => ?_)⟩)⟩
 · rw [hh.1] at h1; cases h1
 · rw [hh.2.1] at h2; cases h2
 have i1 : inL a p.1 = true := by simpa using h1
 have i2 : inL b p.2 = true := by simpa using h2
 have i1' := inL_iff.1 i1
 have i2' := inL_iff.1 i2
 obtain ⟨b2, o2, e2, r2⟩ := ht.inb i1'.1 i1'.2
 obtain ⟨b3, o3, e3, r3⟩ := hu.inb i2'.1 i2'.2
 refine ⟨by omega, by omega, b2, o2, e2, by omega, by omega, _, .imm r2, by omega, by omega, b3, o3, e3, by omega, by omega, _, .imm r3, branch_intro (fun h3 => bad fun hh => ?_) (fun h3 => ?_)⟩
 · rw [hh.2.2.1] at h3; simp at h3
 refine ⟨fun ⟨i', k, p'⟩ => i' = i ∧ p' = p ∧ k ≤ i ∧ ∀ q ∈ on.take k, q.1 ≠ p.1 ∧ q.2 ≠ p.2, fun ⟨_, k, _⟩ => i - k, ⟨(i, 0, p), ⟨rfl, rfl, by omega, fun q hq => by simp at hq⟩, MT⟩, ?_⟩
 rintro ⟨i, k, p⟩ ⟨rfl, rfl, hk, hno⟩
 dsimp only
 refine branch_dec (fun hlt2 => ?_) (fun hge2 => ?_)
 · obtain ⟨q, hq⟩ : ∃ q, on[k]? = some q := ⟨on[k]'(by omega), List.getElem?_eq_getElem _⟩
   obtain ⟨b4, o4, e4, r4⟩ := hs.at hq
   refine ⟨b4, o4, e4, by omega, by omega, by omega, by omega, q.1, .imm (RdCells.part r4 0 1), by omega, by omega, branch_intro (fun h4 => bad fun hh => ?_) (fun h4 => ⟨b4, o4, e4, by omega, by omega, by omega, by omega, q.2, .imm (RdCells.part r4 1 1), by omega, by omega, branch_intro (fun h5 => bad fun hh => ?_) (fun h5 => ?_)⟩)⟩
   · exact (hh.2.2.2 q (mem_take hq (by omega))).1 (by simpa using h4)
   · exact (hh.2.2.2 q (mem_take hq (by omega))).2 (by simpa using h5)
   · refine ⟨(i, k + 1, p), ⟨rfl, rfl, by show k + 1 ≤ i; omega, fun q' hq' => ?_⟩, by show i - (k + 1) < i - k; omega, MT⟩
     rcases take_mem hq hq' with e | rfl
     · exact hno q' e
     · exact ⟨by simpa using h4, by simpa using h5⟩
 · have : k = i := by omega
   subst this
   exact ⟨k + 1, ⟨by omega, hg.succ hp ⟨i1, i2, by simpa using h3, hno⟩⟩, by show on.length - (k + 1) < on.length - k; omega, MT⟩
theorem f105_ok {t : Sl} {g : List Int} {o : List (Int × Bool)} (hg : Ints h v.group g) (ho : Sorts h v.order o) (ht : Ints h t a) (hK : ∀ r : Bool, (r = true ↔ RankOk a g o v.limit) → K (cB r) m h) : f105_nice v t m h K := by
 have gl := hg.slen
 have glen := hg.len
 have ol := ho.slen
 have olen := ho.len
 have bad : ¬ RankOk a g o v.limit → K (.val (.bool false)) m h := fun hn => hK false ⟨fun e => (by cases e), fun e => (hn e).elim⟩
 refine ⟨fun i => i ≤ g.length ∧ GoodUpto (GroupT a) g i, fun i => g.length - i, ⟨0, ⟨by omega, .zero⟩, MT⟩, fun i ⟨hi, hgi⟩ => branch_dec (fun hlt => ?_) (fun hge => ?_)⟩
 · obtain ⟨c, hc⟩ := getx gl hlt
   obtain ⟨b1, o1, e1, r1⟩ := hg.at' hc
   refine ⟨b1, o1, e1, by omega, hlt, c, .imm r1, t, a, c, rfl, ht, branch_intro (fun h1 => bad fun hh => Good.not hc (fun hx => ?_) hh.group_) (fun h1 => ?_)⟩
   · rw [hx.1] at h1; cases h1
   refine ⟨fun ⟨i', k, c'⟩ => i' = i ∧ c' = c ∧ k ≤ i ∧ c ∉ g.take k, fun ⟨_, k, _⟩ => i - k, ⟨(i, 0, c), ⟨rfl, rfl, by omega, by simp⟩, MT⟩, ?_⟩
   rintro ⟨i, k, c⟩ ⟨rfl, rfl, hk, hno⟩
   dsimp only
   refine branch_dec (fun hlt2 => ?_) (fun hge2 => ?_)
   · obtain ⟨q, hq⟩ : ∃ q, g[k]? = some q := ⟨g[k]'(by omega), List.getElem?_eq_getElem _⟩
     obtain ⟨b4, o4, e4, r4⟩ := hg.at' hq
     refine ⟨b4, o4, e4, by omega, by omega, q, .imm r4, branch_intro (fun h4 => bad fun hh => Good.not hc (fun hx => ?_) hh.group_) (fun h4 => ?_)⟩
     · refine hx.2 ?_
       have : q = c := by simpa using h4
       rw [← this]; exact mem_take hq (by omega)
     · refine ⟨(i, k + 1, c), ⟨rfl, rfl, by show k + 1 ≤ i; omega, fun hq' => ?_⟩, by show i - (k + 1) < i - k; omega, MT⟩
       rcases take_mem hq hq' with e | rfl
       · exact hno e
       · simp at h4
   · have : k = i := by omega
     subst this
     exact ⟨k + 1, ⟨by omega, hgi.succ hc ⟨by simpa using h1, hno⟩⟩, by show g.length - (k + 1) < g.length - k; omega, MT⟩
 have gg := hgi.all (by omega)
 clear hi hgi hge
 refine ⟨fun i => i ≤ o.length ∧ GoodUpto (OrderT a) o i, fun i => o.length - i, ⟨0, ⟨by omega, .zero⟩, MT⟩, fun i ⟨hi, hoi⟩ => branch_dec (fun hlt => ?_) (fun hge => ?_)⟩
 · obtain ⟨c, hc⟩ := getx ol hlt
   obtain ⟨b1, o1, e1, r1⟩ := ho.at hc
   refine ⟨b1, o1, e1, by omega, hlt, c, .imm r1, t, a, c.1, rfl, ht, branch_intro (fun h1 => bad fun hh => Good.not hc (fun hx => ?_) hh.order_) (fun h1 => ⟨i + 1, ⟨by omega, hoi.succ hc (by simpa [OrderT] using h1)⟩, by show o.length - (i + 1) < o.length - i; omega, MT⟩)⟩
   rw [show inL a c.1 = true from hx] at h1; cases h1
 have oo := hoi.all (by omega)
 refine branch_dec (fun h1 => branch_dec (fun h2 => ?_) (fun h2 => bad fun hh => ?_)) (fun h1 => bad fun hh => ?_)
 · refine hK (decide (v.limit ≤ 100)) ⟨fun e => ⟨gg, oo, by omega, h2, by simpa using e⟩, fun e => decide_eq_true e.high⟩
 · have := hh.low; omega
 · have := hh.len_; omega
theorem f104_sound : Sound Tryz.prog 104 PairedS := by
 refine fn_sound (fn := Tryz.f104) (c := bodyOf Tryz.f104) Tryz.func104 rfl (by decide) ?_
 rintro cvs m h K ⟨s, t, u, on, a, b, rfl, hs, ht, hu, hK⟩
 refine ⟨f104_ctx s t u m h, rfl, specs_cons f103_sound specs_nil, ?_⟩
 rw [← f104_vc s t u m h K]
 exact f104_ok hs ht hu hK
theorem f105_sound : Sound Tryz.prog 105 RankedS := by
 refine fn_sound (fn := Tryz.f105) (c := bodyOf Tryz.f105) Tryz.func105 rfl (by decide) ?_
 rintro cvs m h K ⟨v, t, g, o, a, rfl, hg, ho, ht, hK⟩
 refine ⟨f105_ctx v t m h, rfl, specs_cons f103_sound specs_nil, ?_⟩
 rw [← f105_vc v t m h K]
 exact f105_ok hg ho ht hK
def zeroP : Pred := .mk 0 0 zeroO zeroO []
def UnusedOk : Query → Prop
 | .mk op ta w co on gr od li _ => (op = 1 ∨ ta = 0) ∧ (op = 2 ∨ w = zeroP) ∧ (op = 3 ∨ co = []) ∧ (op = 4 ∨ op = 5 ∨ on = []) ∧ (op = 9 ∨ op = 10 ∨ (gr = [] ∧ od = [] ∧ li = 0))
def limK (l : List Int) : List Int × Int := if l.length ≤ 12 then (l, 0) else ([], 2)
def errK (e : Int) : List Int × Int := ([], e)
open Classical in
def nodeR (s : Sch) (ps : List Int) (q : Query) (a b : List Int) : List Int × Int :=
 if arity (match q with | .mk op .. => op) < 0 ∨ ¬ UnusedOk q then errK 100 else
 match q with
 | .mk op ta w co on gr od li _ =>
  if op = 1 then (if 0 ≤ ta ∧ ta < s.tables.length then limK (kindsT s ta) else errK 100)
  else if op = 2 then (if predErr a ps w = 0 then limK a else errK (predErr a ps w))
  else if op = 3 then (if co ≠ [] ∧ Good (fun _ c => inL a c = true) co then limK (co.map fun c => a.getD c.toNat 0) else errK 100)
  else if op = 4 then (if Good (PairT a b) on then limK (a ++ b) else errK 100)
  else if op = 5 then (if Good (PairT a b) on then limK a else errK 100)
  else if op = 9 then (if RankOk a gr od li then limK a else errK 100)
  else if op = 10 then (if a = b ∧ RankOk a gr od li then limK a else errK 100)
  else (if a = b then limK a else errK 100)
def UnusedS : Vc.Spec := fun cvs m h K => ∃ v q, cvs = [aQ v] ∧ RepQ h q v ∧ ∀ r : Bool, (r = true ↔ UnusedOk q) → K (cB r) m h
def KR (K : CV → MH → PH → Prop) (m : MH) (h : PH) (r : List Int × Int) : Prop := ∀ sl h', PH.le h h' → Ints h' sl r.1 → K (.tup [cS sl, cI r.2]) m h'
def NodeS : Vc.Spec := fun cvs m h K => ∃ sc p v a b s ps q la lb, cvs = [aS sc, cS p, aQ v, cS a, cS b] ∧ RepS h s sc ∧ small8 s ∧ Ints h p ps ∧ RepQ h q v ∧ Ints h a la ∧ Ints h b lb ∧ la.length ≤ 12 ∧ lb.length ≤ 12 ∧ KR K m h (nodeR s ps q la lb)
def f75_ctx (m : MH) : Ctx :=
 ctx2 [(48, ArityS), (102, UnusedS), (52, KindsOfS), (57, PredCheckS), (103, InS), (104, PairedS), (105, RankedS), (36, SameInts)]
  [(20, { A := Nat × Sl × Sl × List Int × PH, st := fun ⟨i, a, co, l, h⟩ => mkSt 121 126 [(3, sv a), (12, .at (.lst 94)), (78, sv co), (79, iv co.len), (80, iv i)] [(94, .lst 3 1 (l.map eI))] m h })] [] [] false
def f102_ctx (v : QV) (m : MH) (h : PH) : Ctx :=
 ctx3 [(50, EqPA)] [] [(2, { A := Bool, st := fun r => mkSt 78 79 [(1, .at (.ptr 1 0)), (3, bv r)] [(1, .cells 43 (v.enc.map .val))] m h })]
  [(2, [(9, { A := Bool × Bool, st := fun x => mkSt 78 79 [(1, .at (.ptr 1 0)), (3, bv x.1), (20, bv x.2)] [(1, .cells 43 (v.enc.map .val))] m h }),
   (11, { A := Bool × Bool, st := fun x => mkSt 78 79 [(1, .at (.ptr 1 0)), (3, bv x.1), (31, bv x.2)] [(1, .cells 43 (v.enc.map .val))] m h }),
   (11, { A := Bool × Bool, st := fun x => mkSt 78 79 [(1, .at (.ptr 1 0)), (3, bv x.1), (42, bv x.2)] [(1, .cells 43 (v.enc.map .val))] m h }),
   (16, { A := Bool × Bool, st := fun x => mkSt 78 79 [(1, .at (.ptr 1 0)), (3, bv x.1), (58, bv x.2)] [(1, .cells 43 (v.enc.map .val))] m h })])] [] false
def f102_nice (v : QV) (m : MH) (h : PH) (K : CV → MH → PH → Prop) : Prop :=
 ∃ (I : Bool -> Prop), branch (v.op == 9) (∃ (x : Bool), I x /\ eP 1 /\ sQb true = sQb x /\ eQ (oQ 43 (List.map At.val (QV.enc v))) /\ m = m /\ h = h /\ True) (∃ (x : Bool), I x /\
 eP 1 /\ sQb (v.op == 10) = sQb x /\ eQ (oQ 43 (List.map At.val (QV.enc v))) /\ m = m /\ h = h /\ True) /\ ∀ (x : Bool), I x -> ∃ (I : Bool × Bool -> Prop), branch (v.op == 1) (∃
 (x_1 : Bool × Bool), I x_1 /\ eP 1 /\ sQb x = sQb x_1.1 /\ sQb true = sQb x_1.2 /\ eQ (oQ 43 (List.map At.val (QV.enc v))) /\ m = m /\ h = h /\ True) (∃ (x_1 : Bool × Bool), I x_1
 /\ eP 1 /\ sQb x = sQb x_1.1 /\ sQb (v.table == 0) = sQb x_1.2 /\ eQ (oQ 43 (List.map At.val (QV.enc v))) /\ m = m /\ h = h /\ True) /\ ∀ (x : Bool × Bool), I x -> ∃ (I : Bool ×
 Bool -> Prop), branch x.2 (branch (v.op == 2) (∃ (x_1 : Bool × Bool), I x_1 /\ eP 1 /\ sQb x.1 = sQb x_1.1 /\ sQb true = sQb x_1.2 /\ eQ (oQ 43 (List.map At.val (QV.enc v))) /\ m =
 m /\ h = h /\ True) (∃ (v_1 w : PV), ∃ (p q : Pred), [cQa (PV.enc v.where_), cQa [vQi 0, vQi 0, vQi 0, vQi 0, vQi 0, vQi 0, vQz, vQi 0, vQi 0, vQi 0, vQi 0, vQz, vQn]] = [cQa
 (PV.enc v_1), cQa (PV.enc w)] /\ RepP h p v_1 /\ RepP h q w /\ ∀ (r : Bool), (r = true ↔ p = q) -> ∃ (x_1 : Bool × Bool), I x_1 /\ eP 1 /\ sQb x.1 = sQb x_1.1 /\ sQb r = sQb x_1.2
 /\ eQ (oQ 43 (List.map At.val (QV.enc v))) /\ m = m /\ h = h /\ True)) (∃ (x_1 : Bool × Bool), I x_1 /\ eP 1 /\ sQb x.1 = sQb x_1.1 /\ sQb false = sQb x_1.2 /\ eQ (oQ 43 (List.map
 At.val (QV.enc v))) /\ m = m /\ h = h /\ True) /\ ∀ (x : Bool × Bool), I x -> ∃ (I : Bool × Bool -> Prop), branch x.2 (branch (v.op == 3) (∃ (x_1 : Bool × Bool), I x_1 /\ eP 1 /\
 sQb x.1 = sQb x_1.1 /\ sQb true = sQb x_1.2 /\ eQ (oQ 43 (List.map At.val (QV.enc v))) /\ m = m /\ h = h /\ True) (∃ (x_1 : Bool × Bool), I x_1 /\ eP 1 /\ sQb x.1 = sQb x_1.1 /\
 sQb ((↑v.columns.len : Int) == 0) = sQb x_1.2 /\ eQ (oQ 43 (List.map At.val (QV.enc v))) /\ m = m /\ h = h /\ True)) (∃ (x_1 : Bool × Bool), I x_1 /\ eP 1 /\ sQb x.1 = sQb x_1.1 /\
 sQb false = sQb x_1.2 /\ eQ (oQ 43 (List.map At.val (QV.enc v))) /\ m = m /\ h = h /\ True) /\ ∀ (x : Bool × Bool), I x -> ∃ (I : Bool × Bool -> Prop), branch x.2 (branch (v.op ==
 4) (∃ (x_1 : Bool × Bool), I x_1 /\ eP 1 /\ sQb x.1 = sQb x_1.1 /\ sQb true = sQb x_1.2 /\ eQ (oQ 43 (List.map At.val (QV.enc v))) /\ m = m /\ h = h /\ True) (branch (v.op == 5) (∃
 (x_1 : Bool × Bool), I x_1 /\ eP 1 /\ sQb x.1 = sQb x_1.1 /\ sQb true = sQb x_1.2 /\ eQ (oQ 43 (List.map At.val (QV.enc v))) /\ m = m /\ h = h /\ True) (∃ (x_1 : Bool × Bool), I
 x_1 /\ eP 1 /\ sQb x.1 = sQb x_1.1 /\ sQb ((↑v.on.len : Int) == 0) = sQb x_1.2 /\ eQ (oQ 43 (List.map At.val (QV.enc v))) /\ m = m /\ h = h /\ True))) (∃ (x_1 : Bool × Bool), I x_1
 /\ eP 1 /\ sQb x.1 = sQb x_1.1 /\ sQb false = sQb x_1.2 /\ eQ (oQ 43 (List.map At.val (QV.enc v))) /\ m = m /\ h = h /\ True) /\ ∀ (x : Bool × Bool), I x -> branch x.2 (branch x.1
 (K (cQb true) m h) (branch ((↑v.group.len : Int) == 0) (branch ((↑v.order.len : Int) == 0) (K (cQb (v.limit == 0)) m h) (K (cQb false) m h)) (K (cQb false) m h))) (K (cQb false) m
 h)
theorem f102_vc (v : QV) (m : MH) (h : PH) (K : CV → MH → PH → Prop) : f102_nice v m h K = (fnVC (f102_ctx v m h) Tryz.f102 (bodyOf Tryz.f102) (entry Tryz.f102.ntmps [aQ v] m h) K) := by kernel_rfl
def f75_nice (sc : SchV) (p : Sl) (v : QV) (a b : Sl) (m : MH) (h : PH) (K : CV → MH → PH → Prop) : Prop :=
 ∃ (op : Int), [cQi v.op] = [cQi op] /\ branch (decide (arity op < 0)) (K (CV.tup [cQn, cQi 100]) m h) (∃ (v_1 : QV) (q : Query), [cQa (QV.enc v)] = [cQa (QV.enc v_1)] /\ RepQ h q
 v_1 /\ ∀ (r : Bool), (r = true ↔ UnusedOk q) -> branch (!r) (K (CV.tup [cQn, cQi 100]) m h) (∃ (ys : List (List Value)), RowsOk 1 ys /\ RowIn h (Sl.mk a.a a.len a.cap) 1 ys /\
 ys.length * 8 <= 140737488355328 /\ ys.length <= 140737488355328 /\ branch (v.op == 1) (branch (decide (v.table < 0)) (K (CV.tup [cQn, cQi 100]) m h) (branch (decide (v.table ≥
 (↑sc.tables.len : Int))) (K (CV.tup [cQn, cQi 100]) m h) (∃ (v_2 : SchV) (s : Sch) (t : Int), [cQa [vQi sc.version, vQs sc.tables], cQi v.table] = [cQa [vQi v_2.version, vQs
 v_2.tables], cQi t] /\ RepS h s v_2 /\ small8 s /\ ∀ (sl : Sl) (h' : PH), h.le h' -> Ints h' sl (kindsT s t) -> branch (decide ((↑sl.len : Int) > 12)) (K (CV.tup [cQn, cQi 2]) m
 h') (K (CV.tup [cQs sl, cQi 0]) m h')))) (branch (v.op == 2) (∃ (s t : Sl) (v_2 : PV), ∃ (cols params : List Int) (p_1 : Pred), [cQs a, cQs p, cQa (PV.enc v.where_)] = [cQs s, cQs
 t, cQa (PV.enc v_2)] /\ Ints h s cols /\ Ints h t params /\ RepP h p_1 v_2 /\ branch (predErr cols params p_1 != 0) (K (CV.tup [cQn, cQi (predErr cols params p_1)]) m h) (branch
 (decide ((↑ys.length : Int) > 12)) (K (CV.tup [cQn, cQi 2]) m h) (∀ (s : Sl) (h' : PH), h.le h' -> RowIn h' s 1 ys -> K (CV.tup [cQs s, cQi 0]) m h'))) (branch (v.op == 3) (branch
 ((↑v.columns.len : Int) == 0) (K (CV.tup [cQn, cQi 100]) m h) (∃ (I : Nat × Sl × Sl × List Int × PH -> Prop) (mu : Nat × Sl × Sl × List Int × PH -> Nat), (∃ (x : Nat × Sl × Sl ×
 List Int × PH), I x /\ sQs a = sQs x.2.1 /\ eL 94 /\ sQs v.columns = sQs x.2.2.1 /\ sQi ↑v.columns.len = sQi ↑x.2.2.1.len /\ sQi 0 = sQi ↑x.1 /\ some (Own.lst 3 1 []) = some
 (Own.lst 3 1 (List.map eI x.2.2.2.1)) /\ m = m /\ h = x.2.2.2.2 /\ True) /\ ∀ (x : Nat × Sl × Sl × List Int × PH), I x -> branch (decide ((↑x.1 : Int) < ↑x.2.2.1.len)) (∃ (b off :
 Nat), x.2.2.1.a = some (Addr.mk b off none) /\ 0 <= (↑x.1 : Int) /\ (↑x.1 : Int) < ↑x.2.2.1.len /\ ∃ (y : Int), RdAt m x.2.2.2.2 b (off + (↑x.1 : Int).toNat * 1) [vQi y] /\ ∃ (s :
 Sl) (l : List Int) (n : Int), [cQs x.2.1, cQi y] = [cQs s, cQi n] /\ Ints x.2.2.2.2 s l /\ branch (!inL l n) (K (CV.tup [cQn, cQi 100]) m x.2.2.2.2) (∃ (b off : Nat), x.2.1.a =
 some (Addr.mk b off none) /\ 0 <= y /\ y < (↑x.2.1.len : Int) /\ ∃ (y_1 : Int), RdAt m x.2.2.2.2 b (off + y.toNat * 1) [vQi y_1] /\ ((List.map eI x.2.2.2.1).length + 1) * 8 <=
 140737488355328 /\ (List.map eI x.2.2.2.1).length < 140737488355328 /\ ∃ (x_1 : Nat × Sl × Sl × List Int × PH), I x_1 /\ mu x_1 < mu x /\ sQs x.2.1 = sQs x_1.2.1 /\ eL 94 /\ sQs
 x.2.2.1 = sQs x_1.2.2.1 /\ sQi ↑x.2.2.1.len = sQi ↑x_1.2.2.1.len /\ sQi (IntKind.i64.wrap ((↑x.1 : Int) + 1)) = sQi ↑x_1.1 /\ some (Own.lst 3 1 (List.map eI x.2.2.2.1 ++ [[vQi
 y_1]])) = some (Own.lst 3 1 (List.map eI x_1.2.2.2.1)) /\ m = m /\ x.2.2.2.2 = x_1.2.2.2.2 /\ True)) (branch (decide ((↑(List.map eI x.2.2.2.1).length : Int) > 12)) (K (CV.tup
 [cQn, cQi 2]) m x.2.2.2.2) (∀ (s : Sl) (h' : PH), x.2.2.2.2.le h' -> RowIn h' s 1 (List.map eI x.2.2.2.1) -> K (CV.tup [cQs s, cQi 0]) m h')))) (branch (v.op == 4) (∃ (s t : Sl) (u
 : Sl) (on : List (Int × Int)), ∃ (a_2 b_1 : List Int), [cQs v.on, cQs a, cQs b] = [cQs s, cQs t, cQs u] /\ Pairs h s on /\ Ints h t a_2 /\ Ints h u b_1 /\ ∀ (r : Bool), (r = true ↔
 Good (PairT a_2 b_1) on) -> branch (!r) (K (CV.tup [cQn, cQi 100]) m h) (branch (v.op == 4) (∃ (ys_1 : List (List Value)), RowsOk 1 ys_1 /\ RowIn h (Sl.mk b.a b.len b.cap) 1 ys_1
 /\ (ys.length + ys_1.length) * 8 <= 140737488355328 /\ ys.length + ys_1.length <= 140737488355328 /\ branch (decide ((↑(ys ++ ys_1).length : Int) > 12)) (K (CV.tup [cQn, cQi 2]) m
 h) (∀ (s : Sl) (h' : PH), h.le h' -> RowIn h' s 1 (ys ++ ys_1) -> K (CV.tup [cQs s, cQi 0]) m h')) (branch (decide ((↑ys.length : Int) > 12)) (K (CV.tup [cQn, cQi 2]) m h) (∀ (s :
 Sl) (h' : PH), h.le h' -> RowIn h' s 1 ys -> K (CV.tup [cQs s, cQi 0]) m h')))) (branch (v.op == 5) (∃ (s t : Sl) (u : Sl) (on : List (Int × Int)), ∃ (a_2 b_1 : List Int), [cQs
 v.on, cQs a, cQs b] = [cQs s, cQs t, cQs u] /\ Pairs h s on /\ Ints h t a_2 /\ Ints h u b_1 /\ ∀ (r : Bool), (r = true ↔ Good (PairT a_2 b_1) on) -> branch (!r) (K (CV.tup [cQn,
 cQi 100]) m h) (branch (v.op == 4) (∃ (ys_1 : List (List Value)), RowsOk 1 ys_1 /\ RowIn h (Sl.mk b.a b.len b.cap) 1 ys_1 /\ (ys.length + ys_1.length) * 8 <= 140737488355328 /\
 ys.length + ys_1.length <= 140737488355328 /\ branch (decide ((↑(ys ++ ys_1).length : Int) > 12)) (K (CV.tup [cQn, cQi 2]) m h) (∀ (s : Sl) (h' : PH), h.le h' -> RowIn h' s 1 (ys
 ++ ys_1) -> K (CV.tup [cQs s, cQi 0]) m h')) (branch (decide ((↑ys.length : Int) > 12)) (K (CV.tup [cQn, cQi 2]) m h) (∀ (s : Sl) (h' : PH), h.le h' -> RowIn h' s 1 ys -> K (CV.tup
 [cQs s, cQi 0]) m h')))) (branch (v.op == 9) (∃ (v_2 : QV) (t : Sl), ∃ (g : List Int) (o : List (Int × Bool)) (a_2 : List Int), [cQa (QV.enc v), cQs a] = [cQa (QV.enc v_2), cQs t]
 /\ Ints h v_2.group g /\ Sorts h v_2.order o /\ Ints h t a_2 /\ ∀ (r : Bool), (r = true ↔ RankOk a_2 g o v_2.limit) -> branch (!r) (K (CV.tup [cQn, cQi 100]) m h) (branch (decide
 ((↑ys.length : Int) > 12)) (K (CV.tup [cQn, cQi 2]) m h) (∀ (s : Sl) (h' : PH), h.le h' -> RowIn h' s 1 ys -> K (CV.tup [cQs s, cQi 0]) m h'))) (∃ (s t : Sl), ∃ (a_2 b_1 : List
 Int), [cQs a, cQs b] = [cQs s, cQs t] /\ Ints h s a_2 /\ Ints h t b_1 /\ ∀ (r : Bool), (r = true ↔ a_2 = b_1) -> branch (!r) (K (CV.tup [cQn, cQi 100]) m h) (branch (v.op == 10) (∃
 (v_2 : QV) (t : Sl), ∃ (g : List Int) (o : List (Int × Bool)) (a_4 : List Int), [cQa (QV.enc v), cQs a] = [cQa (QV.enc v_2), cQs t] /\ Ints h v_2.group g /\ Sorts h v_2.order o /\
 Ints h t a_4 /\ ∀ (r : Bool), (r = true ↔ RankOk a_4 g o v_2.limit) -> branch (!r) (K (CV.tup [cQn, cQi 100]) m h) (branch (decide ((↑ys.length : Int) > 12)) (K (CV.tup [cQn, cQi
 2]) m h) (∀ (s : Sl) (h' : PH), h.le h' -> RowIn h' s 1 ys -> K (CV.tup [cQs s, cQi 0]) m h'))) (branch (decide ((↑ys.length : Int) > 12)) (K (CV.tup [cQn, cQi 2]) m h) (∀ (s : Sl)
 (h' : PH), h.le h' -> RowIn h' s 1 ys -> K (CV.tup [cQs s, cQi 0]) m h')))))))))))
theorem f75_vc (sc : SchV) (p : Sl) (v : QV) (a b : Sl) (m : MH) (h : PH) (K : CV → MH → PH → Prop) : f75_nice sc p v a b m h K = (fnVC (f75_ctx m) Tryz.f75 (bodyOf Tryz.f75) (entry Tryz.f75.ntmps [aS sc, cS p, aQ v, cS a, cS b] m h) K) := by kernel_rfl
theorem len0 {α : Type} {n : Nat} {l : List α} (h : n = l.length) : ((n : Int) == 0) = true ↔ l = [] := by
 rw [beq_iff_eq, h, ← List.length_eq_zero_iff]; omega
theorem repZero (h : PH) : RepP h zeroP ⟨0, 0, zeroO, zeroO, ⟨none, 0, 0⟩⟩ := RepP.mk (v := ⟨0, 0, zeroO, zeroO, ⟨none, 0, 0⟩⟩) (.nil _ _ _ _)
theorem f102_ok (hq : RepQ h q v) (hK : ∀ r : Bool, (r = true ↔ UnusedOk q) → K (cB r) m h) : f102_nice v m h K := by
 obtain ⟨op, ta, w, co, on, gr, od, li, args⟩ := q
 have a := hq.parts
 have e0 := a.op_
 have e1 := a.table_
 have e2 := a.limit_
 have l1 := len0 a.columns_.slen
 have l2 := len0 a.on_.slen
 have l3 := len0 a.group_.slen
 have l4 := len0 a.order_.slen
 simp only [UnusedOk] at hK
 subst e0 e1 e2
 refine ⟨fun r => (r = true ↔ v.op = 9 ∨ v.op = 10), branch_intro (fun h1 => ⟨true, by simp at h1; simp [h1], MT⟩) (fun h1 => ⟨_, ?_, MT⟩), fun r hr => ?_⟩
 · simp only [beq_eq_false_iff_ne] at h1; simp [h1]
 refine ⟨fun x => x.1 = r ∧ (x.2 = true ↔ (v.op = 1 ∨ v.table = 0)), branch_intro (fun h1 => ⟨(r, true), ⟨rfl, by simp at h1; simp [h1]⟩, MT⟩) (fun h1 => ⟨(r, _), ⟨rfl, ?_⟩, MT⟩), ?_⟩
 · simp only [beq_eq_false_iff_ne] at h1; simp [h1]
 rintro ⟨r, c⟩ ⟨rfl, hc⟩
 dsimp only at hc hr ⊢
 refine ⟨fun x => x.1 = r ∧ (x.2 = true ↔ (v.op = 1 ∨ v.table = 0) ∧ (v.op = 2 ∨ w = zeroP)), branch_intro (fun h1 => branch_intro (fun h2 => ⟨(r, true), ⟨rfl, ⟨fun _ => ⟨hc.1 h1, .inl (by simpa using h2)⟩, fun _ => rfl⟩⟩, MT⟩) (fun h2 => ⟨v.where_, ⟨0, 0, zeroO, zeroO, ⟨none, 0, 0⟩⟩, w, zeroP, rfl, a.where_, repZero h, fun r' hr' => ⟨(r, r'), ⟨rfl, ?_⟩, MT⟩⟩)) (fun h1 => ⟨(r, false), ⟨rfl, ?_⟩, MT⟩), ?_⟩
 · simp only [beq_eq_false_iff_ne] at h2; simp only [hr', hc.1 h1, h2, true_and, false_or]
 · rw [h1] at hc; simp only [Bool.false_eq_true, false_iff] at hc ⊢; exact fun e => hc e.1
 clear hc c
 rintro ⟨r, c⟩ ⟨rfl, hc⟩
 dsimp only at hc hr ⊢
 refine ⟨fun x => x.1 = r ∧ (x.2 = true ↔ (v.op = 1 ∨ v.table = 0) ∧ (v.op = 2 ∨ w = zeroP) ∧ (v.op = 3 ∨ co = [])), branch_intro (fun h1 => branch_intro (fun h2 => ⟨(r, true), ⟨rfl, ⟨fun _ => ⟨(hc.1 h1).1, (hc.1 h1).2, .inl (by simpa using h2)⟩, fun _ => rfl⟩⟩, MT⟩) (fun h2 => ⟨(r, _), ⟨rfl, ?_⟩, MT⟩)) (fun h1 => ⟨(r, false), ⟨rfl, ?_⟩, MT⟩), ?_⟩
 · simp only [beq_eq_false_iff_ne] at h2; simp only [l1, hc.1 h1, h2, true_and, false_or]
 · rw [h1] at hc; simp only [Bool.false_eq_true, false_iff] at hc ⊢; exact fun e => hc ⟨e.1, e.2.1⟩
 clear hc c
 rintro ⟨r, c⟩ ⟨rfl, hc⟩
 dsimp only at hc hr ⊢
 refine ⟨fun x => x.1 = r ∧ (x.2 = true ↔ (v.op = 1 ∨ v.table = 0) ∧ (v.op = 2 ∨ w = zeroP) ∧ (v.op = 3 ∨ co = []) ∧ (v.op = 4 ∨ v.op = 5 ∨ on = [])), branch_intro (fun h1 => branch_intro (fun h2 => ⟨(r, true), ⟨rfl, ⟨fun _ => ⟨(hc.1 h1).1, (hc.1 h1).2.1, (hc.1 h1).2.2, .inl (by simpa using h2)⟩, fun _ => rfl⟩⟩, MT⟩) (fun h2 => branch_intro (fun h3 => ⟨(r, true), ⟨rfl, ⟨fun _ => ⟨(hc.1 h1).1, (hc.1 h1).2.1, (hc.1 h1).2.2, .inr (.inl (by simpa using h3))⟩, fun _ => rfl⟩⟩, MT⟩) (fun h3 => ⟨(r, _), ⟨rfl, ?_⟩, MT⟩))) (fun h1 => ⟨(r, false), ⟨rfl, ?_⟩, MT⟩), ?_⟩
 · simp only [beq_eq_false_iff_ne] at h2 h3; simp only [l2, hc.1 h1, h2, h3, true_and, false_or]
 · rw [h1] at hc; simp only [Bool.false_eq_true, false_iff] at hc ⊢; exact fun e => hc ⟨e.1, e.2.1, e.2.2.1⟩
 clear hc c
 rintro ⟨r, c⟩ ⟨rfl, hc⟩
 dsimp only at hc hr ⊢
 refine branch_intro (fun h1 => branch_intro (fun h2 => hK true ⟨fun _ => ?_, fun _ => rfl⟩) (fun h2 => branch_intro (fun h3 => branch_intro (fun h4 => hK _ ?_) (fun h4 => hK false ?_)) (fun h3 => hK false ?_))) (fun h1 => hK false ?_)
 · obtain ⟨p1, p2, p3, p4⟩ := hc.1 h1
   refine ⟨p1, p2, p3, p4, ?_⟩
   rcases hr.1 h2 with e | e
   · exact .inl e
   · exact .inr (.inl e)
 · obtain ⟨p1, p2, p3, p4⟩ := hc.1 h1
   have nr : ¬ (v.op = 9 ∨ v.op = 10) := fun e => by rw [hr.2 e] at h2; cases h2
   rw [beq_iff_eq]
   refine ⟨fun e => ⟨p1, p2, p3, p4, .inr (.inr ⟨l3.1 h3, l4.1 h4, e⟩)⟩, fun e => ?_⟩
   rcases e.2.2.2.2 with e | e | e
   · exact (nr (.inl e)).elim
   · exact (nr (.inr e)).elim
   · exact e.2.2
 · have nr : ¬ (v.op = 9 ∨ v.op = 10) := fun e => by rw [hr.2 e] at h2; cases h2
   refine ⟨fun e => (by cases e), fun e => ?_⟩
   rcases e.2.2.2.2 with e | e | e
   · exact (nr (.inl e)).elim
   · exact (nr (.inr e)).elim
   · rw [l4.2 e.2.1] at h4; cases h4
 · have nr : ¬ (v.op = 9 ∨ v.op = 10) := fun e => by rw [hr.2 e] at h2; cases h2
   refine ⟨fun e => (by cases e), fun e => ?_⟩
   rcases e.2.2.2.2 with e | e | e
   · exact (nr (.inl e)).elim
   · exact (nr (.inr e)).elim
   · rw [l3.2 e.1] at h3; cases h3
 · refine ⟨fun e => (by cases e), fun e => ?_⟩
   rw [hc.2 ⟨e.1, e.2.1, e.2.2.1, e.2.2.2.1⟩] at h1; cases h1
theorem f102_sound : Sound Tryz.prog 102 UnusedS := by
 refine fn_sound (fn := Tryz.f102) (c := bodyOf Tryz.f102) Tryz.func102 rfl (by decide) ?_
 rintro cvs m h K ⟨v, q, rfl, hq, hK⟩
 refine ⟨f102_ctx v m h, rfl, specs_cons f50_sound specs_nil, ?_⟩
 rw [← f102_vc v m h K]
 exact f102_ok hq hK
theorem rowsOk_ints (l : List Int) : RowsOk 1 (l.map eI) := by
 constructor
 · intro e he; obtain ⟨x, _, rfl⟩ := List.mem_map.1 he; rfl
 · intro e he u hu; obtain ⟨x, _, rfl⟩ := List.mem_map.1 he; simp [eI] at hu; subst hu; rfl
theorem KR.err {r : List Int × Int} {e : Int} (hK : KR K m h r) (hle : PH.le h h') (he : r = errK e) : K (.tup [.val (.slice none 0 0), .val (.int .i64 e)]) m h' := by
 subst he
 exact hK ⟨none, 0, 0⟩ h' hle ⟨.nil _ _, by simp [errK]⟩
theorem KR.big {r : List Int × Int} (hK : KR K m h r) (hle : PH.le h h') (he : r = limK l) (hl : 12 < l.length) : K (.tup [.val (.slice none 0 0), .val (.int .i64 2)]) m h' :=
 hK.err hle (by rw [he, limK, if_neg (by omega)]; rfl)
theorem KR.ok {r : List Int × Int} {sl : Sl} (hK : KR K m h r) (hle : PH.le h h') (he : r = limK l) (hl : l.length ≤ 12) (hi : RowIn h' sl 1 (l.map eI)) : K (.tup [.val (.slice sl.a sl.len sl.cap), .val (.int .i64 0)]) m h' := by
 rw [he, limK, if_pos hl] at hK
 exact hK sl h' hle ⟨hi, by show l.length ≤ 17592186044416; omega⟩
theorem f75_ok {p : Sl} {a b : Sl} {la lb : List Int} (hs : RepS h s sc) (h8 : small8 s) (hp : Ints h p ps) (hq : RepQ h q v) (ha : Ints h a la) (hb : Ints h b lb) (la12 : la.length ≤ 12) (lb12 : lb.length ≤ 12) (hK : KR K m h (nodeR s ps q la lb)) : f75_nice sc p v a b m h K := by
 have hqr := hq
 obtain ⟨op, ta, w, co, on, gr, od, li, args⟩ := q
 have x := hq.parts
 have e0 := x.op_
 have e1 := x.table_
 have e2 := x.limit_
 have hsl := hs.tables.slen
 have hal := ha.slen
 have hcl := x.columns_.slen
 have hclen := x.columns_.len
 subst e0 e1 e2
 refine ⟨v.op, rfl, branch_dec (fun h1 => hK.err (.refl _) ?_) (fun h1 => ⟨v, _, rfl, hqr, fun r hr => branch_intro (fun h2 => hK.err (.refl _) ?_) (fun h2 => ?_)⟩)⟩
 · unfold nodeR; rw [if_pos (.inl h1)]
 · unfold nodeR; rw [if_pos (.inr fun e => by rw [hr.2 e] at h2; cases h2)]
 have hu : UnusedOk (.mk v.op v.table w co on gr od v.limit args) := hr.1 (by simpa using h2)
 unfold nodeR at hK
 rw [if_neg (fun e => e.elim h1 (fun e => e hu))] at hK
 dsimp only at hK
 clear hr h2
 refine ⟨la.map eI, rowsOk_ints _, ha.row, by simp; omega, by simp; omega, branch_intro (fun c1 => ?_) (fun c1 => branch_intro (fun c2 => ?_) (fun c2 => branch_intro (fun c3 => ?_) (fun c3 => branch_intro (fun c4 => ?_) (fun c4 => branch_intro (fun c5 => ?_) (fun c5 => branch_intro (fun c6 => ?_) (fun c6 => ?_))))))⟩
 · rw [beq_iff_eq] at c1
   rw [if_pos c1] at hK
   refine branch_dec (fun d1 => hK.err (.refl _) (if_neg (by omega))) (fun d1 => branch_dec (fun d2 => hK.err (.refl _) (if_neg (by omega))) (fun d2 => ⟨sc, s, v.table, rfl, hs, h8, fun sl h' hle hi => ?_⟩))
   rw [if_pos (by omega)] at hK
   have := hi.slen
   exact branch_dec (fun d3 => hK.big hle rfl (by omega)) (fun d3 => hK.ok hle rfl (by omega) hi.row)
 · rw [beq_eq_false_iff_ne] at c1
   rw [beq_iff_eq] at c2
   rw [if_neg c1, if_pos c2] at hK
   refine ⟨a, p, v.where_, la, ps, w, rfl, ha, hp, x.where_, branch_intro (fun d1 => hK.err (.refl _) (if_neg (by simpa using d1))) (fun d1 => ?_)⟩
   rw [if_pos (by simpa using d1)] at hK
   exact branch_dec (fun d3 => hK.big (.refl _) rfl (by simp at d3; omega)) (fun d3 sl h' hle hi => hK.ok hle rfl (by omega) hi)
 · rw [beq_eq_false_iff_ne] at c1 c2
   rw [beq_iff_eq] at c3
   rw [if_neg c1, if_neg c2, if_pos c3] at hK
   refine branch_intro (fun d1 => hK.err (.refl _) (if_neg fun e => e.1 ((len0 hcl).1 d1))) (fun d1 => ?_)
   have hne : co ≠ [] := fun e => by rw [(len0 hcl).2 e] at d1; cases d1
   refine ⟨fun ⟨i, a', co', l, hx⟩ => a' = a ∧ co' = v.columns ∧ hx = h ∧ i ≤ co.length ∧ l = (co.take i).map (fun c => la.getD c.toNat 0) ∧ GoodUpto (fun _ c => inL la c = true) co i, fun ⟨i, _, _, _, _⟩ => co.length - i, ⟨(0, a, v.columns, [], h), ⟨rfl, rfl, rfl, by omega, by simp, .zero⟩, MT⟩, ?_⟩
   rintro ⟨i, a, _, l, h⟩ ⟨rfl, rfl, rfl, hi, rfl, hg⟩
   dsimp only
   refine branch_dec (fun hlt => ?_) (fun hge => ?_)
   · obtain ⟨c, hc⟩ := getx hcl hlt
     obtain ⟨b1, o1, ea1, r1⟩ := x.columns_.at' hc
     refine ⟨b1, o1, ea1, by omega, hlt, c, .imm r1, a, la, c, rfl, ha, branch_intro (fun d2 => hK.err (.refl _) (if_neg fun e => ?_)) (fun d2 => ?_)⟩
     · have := e.2 i c hc; rw [this] at d2; cases d2
     have d2 : inL la c = true := by simpa using d2
     have d3 := inL_iff.1 d2
     obtain ⟨b2, o2, ea2, r2⟩ := ha.inb d3.1 d3.2
     refine ⟨b2, o2, ea2, by omega, by omega, _, .imm r2, ?_, ?_, (i + 1, a, v.columns, (co.take (i + 1)).map (fun c => la.getD c.toNat 0), h), ⟨rfl, rfl, rfl, by omega, rfl, hg.succ hc d2⟩, by show co.length - (i + 1) < co.length - i; omega, ?_⟩
     · simp; omega
     · simp; omega
     · rw [map_take_succ hc, List.map_append]
       exact MT
   · rw [if_pos ⟨hne, hg.all (by omega)⟩] at hK
     rw [List.take_of_length_le (by omega)]
     exact branch_dec (fun d3 => hK.big (.refl _) rfl (by simp at d3 ⊢; omega)) (fun d3 sl h' hle hi => hK.ok hle rfl (by simp at d3 ⊢; omega) hi)
 · rw [beq_eq_false_iff_ne] at c1 c2 c3
   have c4' := beq_iff_eq.1 c4
   rw [if_neg c1, if_neg c2, if_neg c3, if_pos c4'] at hK
   refine ⟨v.on, a, b, on, la, lb, rfl, x.on_, ha, hb, fun r hr => branch_intro (fun d1 => hK.err (.refl _) (if_neg fun e => ?_)) (fun d1 => branch_intro (fun _ => ⟨lb.map eI, rowsOk_ints _, hb.row, by simp; omega, by simp; omega, ?_⟩) (fun d2 => ?_))⟩
   · rw [hr.2 e] at d1; cases d1
   · rw [if_pos (hr.1 (by simpa using d1))] at hK
     rw [← List.map_append]
     exact branch_dec (fun d3 => hK.big (.refl _) rfl (by simp at d3 ⊢; omega)) (fun d3 sl h' hle hi => hK.ok hle rfl (by simp at d3 ⊢; omega) hi)
   · rw [c4] at d2; cases d2
 · rw [beq_eq_false_iff_ne] at c1 c2 c3
   have c4' := beq_eq_false_iff_ne.1 c4
   rw [beq_iff_eq] at c5
   rw [if_neg c1, if_neg c2, if_neg c3, if_neg c4', if_pos c5] at hK
   refine ⟨v.on, a, b, on, la, lb, rfl, x.on_, ha, hb, fun r hr => branch_intro (fun d1 => hK.err (.refl _) (if_neg fun e => ?_)) (fun d1 => branch_intro (fun d2 => ?_) (fun d2 => ?_))⟩
   · rw [hr.2 e] at d1; cases d1
   · rw [c4] at d2; cases d2
   · rw [if_pos (hr.1 (by simpa using d1))] at hK
     exact branch_dec (fun d3 => hK.big (.refl _) rfl (by simp at d3; omega)) (fun d3 sl h' hle hi => hK.ok hle rfl (by omega) hi)
 · rw [beq_eq_false_iff_ne] at c1 c2 c3 c4 c5
   rw [beq_iff_eq] at c6
   rw [if_neg c1, if_neg c2, if_neg c3, if_neg c4, if_neg c5, if_pos c6] at hK
   refine ⟨v, a, gr, od, la, rfl, x.group_, x.order_, ha, fun r hr => branch_intro (fun d1 => hK.err (.refl _) (if_neg fun e => ?_)) (fun d1 => ?_)⟩
   · rw [hr.2 e] at d1; cases d1
   rw [if_pos (hr.1 (by simpa using d1))] at hK
   exact branch_dec (fun d3 => hK.big (.refl _) rfl (by simp at d3; omega)) (fun d3 sl h' hle hi => hK.ok hle rfl (by omega) hi)
 · rw [beq_eq_false_iff_ne] at c1 c2 c3 c4 c5 c6
   rw [if_neg c1, if_neg c2, if_neg c3, if_neg c4, if_neg c5, if_neg c6] at hK
   refine ⟨a, b, la, lb, rfl, ha, hb, fun r hr => branch_intro (fun d1 => hK.err (.refl _) ?_) (fun d1 => branch_intro (fun d2 => ⟨v, a, gr, od, la, rfl, x.group_, x.order_, ha, fun r2 hr2 => branch_intro (fun d4 => hK.err (.refl _) ?_) (fun d4 => ?_)⟩) (fun d2 => ?_))⟩
   · have hne : ¬ la = lb := fun e => by rw [hr.2 e] at d1; cases d1
     by_cases h10 : v.op = 10
     · rw [if_pos h10, if_neg (fun e => hne e.1)]
     · rw [if_neg h10, if_neg hne]
   · rw [beq_iff_eq] at d2
     rw [if_pos d2, if_neg fun e => by rw [hr2.2 e.2] at d4; cases d4]
   · rw [beq_iff_eq] at d2
     rw [if_pos d2, if_pos ⟨hr.1 (by simpa using d1), hr2.1 (by simpa using d4)⟩] at hK
     exact branch_dec (fun d3 => hK.big (.refl _) rfl (by simp at d3; omega)) (fun d3 sl h' hle hi => hK.ok hle rfl (by omega) hi)
   · rw [beq_eq_false_iff_ne] at d2
     rw [if_neg d2, if_pos (hr.1 (by simpa using d1))] at hK
     exact branch_dec (fun d3 => hK.big (.refl _) rfl (by simp at d3; omega)) (fun d3 sl h' hle hi => hK.ok hle rfl (by omega) hi)
theorem f75_sound : Sound Tryz.prog 75 NodeS := by
 refine fn_sound (fn := Tryz.f75) (c := bodyOf Tryz.f75) Tryz.func75 rfl (by decide) ?_
 rintro cvs m h K ⟨sc, p, v, a, b, s, ps, q, la, lb, rfl, hs, h8, hp, hq, ha, hb, h1, h2, hK⟩
 refine ⟨f75_ctx m, rfl, specs_cons f48_sound (specs_cons f102_sound (specs_cons f52_sound (specs_cons f57_sound (specs_cons f103_sound (specs_cons f104_sound (specs_cons f105_sound (specs_cons f36_sound specs_nil))))))), ?_⟩
 rw [← f75_vc sc p v a b m h K]
 exact f75_ok hs h8 hp hq ha hb h1 h2 hK
mutual
def kindsQ (s : Sch) (ps : List Int) : Query → List Int × Int
 | .mk op ta w co on gr od li args =>
  match kindsQs s ps args with
  | (ks, e) => if e = 0 then (if (ks.length : Int) = arity op then nodeR s ps (.mk op ta w co on gr od li args) (ks.getD 0 []) (ks.getD 1 []) else errK 100) else errK e
def kindsQs (s : Sch) (ps : List Int) : List Query → List (List Int) × Int
 | [] => ([], 0)
 | q :: qs =>
  match kindsQ s ps q with
  | (k, e) => if e = 0 then (match kindsQs s ps qs with | (ks, e') => if e' = 0 then (k :: ks, 0) else ([], e')) else ([], e)
end
theorem kindsQs_ok {s : Sch} {ps : List Int} : ∀ {qs : List Query} {ks : List (List Int)}, qs.map (kindsQ s ps) = ks.map (fun k => (k, 0)) → kindsQs s ps qs = (ks, 0)
 | [], [], _ => by simp [kindsQs]
 | q :: qs, k :: ks, h => by
  simp only [List.map_cons, List.cons.injEq] at h
  simp only [kindsQs, h.1, kindsQs_ok h.2, if_true]
 | [], _ :: _, h => by simp at h
 | _ :: _, [], h => by simp at h
theorem kindsQs_err {s : Sch} {ps : List Int} {e : Int} (he : e ≠ 0) : ∀ {qs : List Query} {ks : List (List Int)} {i : Nat} {q : Query}, (qs.take i).map (kindsQ s ps) = ks.map (fun k => (k, 0)) → qs[i]? = some q → (kindsQ s ps q).2 = e → kindsQs s ps qs = ([], e)
 | [], _, _, _, _, h, _ => by simp at h
 | q :: qs, _, 0, q', _, h, h2 => by
  simp at h; subst h
  simp only [kindsQs, h2, if_neg he]
 | q :: qs, [], i + 1, _, h, _, _ => by simp at h
 | q :: qs, k :: ks, i + 1, q', h, hq, h2 => by
  simp only [List.take_succ_cons, List.map_cons, List.cons.injEq] at h
  have := kindsQs_err he h.2 (by simpa using hq) h2
  simp only [kindsQs, h.1, this, if_true, if_neg he]
theorem limK_len (l : List Int) : (limK l).1.length ≤ 12 := by unfold limK; split <;> simp_all
theorem nodeR_len (s : Sch) (ps : List Int) (q : Query) (a b : List Int) : (nodeR s ps q a b).1.length ≤ 12 := by
 obtain ⟨op, ta, w, co, on, gr, od, li, args⟩ := q
 unfold nodeR
 dsimp only
 repeat' split
 all_goals first | exact limK_len _ | (simp [errK]; done)
theorem kindsQ_len (s : Sch) (ps : List Int) (q : Query) : (kindsQ s ps q).1.length ≤ 12 := by
 obtain ⟨op, ta, w, co, on, gr, od, li, args⟩ := q
 simp only [kindsQ]
 repeat' split
 all_goals first | exact nodeR_len .. | simp [errK]
def queryR (s : Sch) (ps : List Int) (q : Query) : List Int × Int :=
 if schErr s = 0 then (if ps.all colKind = true then (if smallQ q = true then kindsQ s ps q else errK 2) else errK 1) else errK (schErr s)
def Slices (h : PH) (ss : List Sl) (ks : List (List Int)) : Prop := ss.length = ks.length ∧ ∀ (j : Nat) s k, ss[j]? = some s → ks[j]? = some k → Ints h s k
theorem Slices.mono {ss : List Sl} (x : Slices h ss ks) (le : PH.le h h') : Slices h' ss ks := ⟨x.1, fun j s k h1 h2 => (x.2 j s k h1 h2).mono le⟩
theorem Slices.snoc {ss : List Sl} {s : Sl} {k : List Int} (x : Slices h ss ks) (hi : Ints h s k) : Slices h (ss ++ [s]) (ks ++ [k]) := by
 refine ⟨by simp [x.1], fun j s' k' h1 h2 => ?_⟩
 by_cases hj : j < ss.length
 · rw [List.getElem?_append_left hj] at h1
   rw [List.getElem?_append_left (by rw [← x.1]; exact hj)] at h2
   exact x.2 j s' k' h1 h2
 · rw [List.getElem?_append_right (by omega)] at h1
   rw [List.getElem?_append_right (by have := x.1; omega), ← x.1] at h2
   cases e : j - ss.length with
   | zero => rw [e] at h1 h2; simp at h1 h2; subst h1 h2; exact hi
   | succ n => rw [e] at h1; simp at h1
def KindsQS (N : Nat) : Vc.Spec := fun cvs m h K => ∃ sc p v s ps q, cvs = [aS sc, cS p, aQ v] ∧ RepS h s sc ∧ small8 s ∧ Ints h p ps ∧ RepQ h q v ∧ SizeOf.sizeOf q < N ∧ KR K m h (kindsQ s ps q)
def QueryCheckS : Vc.Spec := fun cvs m h K => ∃ sc p v s ps q, cvs = [aS sc, cS p, aQ v] ∧ RepS h s sc ∧ Ints h p ps ∧ RepQ h q v ∧ KR K m h (queryR s ps q)
def f55_ctx (N : Nat) (sc : SchV) (p : Sl) (v : QV) (m : MH) : Ctx :=
 ctx2 [(55, KindsQS N), (48, ArityS), (75, NodeS)] [(3, { A := Nat × List Sl × PH, st := fun ⟨i, ss, h⟩ => mkSt 58 61 [(1, sv p), (3, .at (.ptr 3 0)), (5, .at (.ptr 5 0)), (8, .at (.lst 35)), (14, iv v.args.len), (15, iv i)] [(3, .cells 28 (sc.enc.map .val)), (5, .cells 43 (v.enc.map .val)), (35, .lst 39 1 (ss.map eS))] m h })] [] [] false
def f55_nice (N : Nat) (sc : SchV) (p : Sl) (v : QV) (m : MH) (h : PH) (K : CV → MH → PH → Prop) : Prop :=
 ∃ (I : Nat × List Sl × PH -> Prop) (mu : Nat × List Sl × PH -> Nat), (∃ (x : Nat × List Sl × PH), I x /\ eQ (sQs p) /\ eP 3 /\ eP 5 /\ eL 35 /\ eQ (sQi ↑v.args.len) /\ sQi 0 = sQi
 ↑x.1 /\ eQ (oQ 28 [aQi sc.version, aQs sc.tables]) /\ eQ (oQ 43 (List.map At.val (QV.enc v))) /\ some (Own.lst 39 1 []) = some (Own.lst 39 1 (List.map eS x.2.1)) /\ m = m /\ h =
 x.2.2 /\ True) /\ ∀ (x : Nat × List Sl × PH), I x -> branch (decide ((↑x.1 : Int) < ↑v.args.len)) (∃ (b off : Nat), v.args.a = some (Addr.mk b off none) /\ 0 <= (↑x.1 : Int) /\
 (↑x.1 : Int) < ↑v.args.len /\ ∃ (y : QV), RdAt m x.2.2 b (off + (↑x.1 : Int).toNat * 21) (QV.enc y) /\ ∃ (sc_1 : SchV) (p_1 : Sl), ∃ (v_1 : QV) (s : Sch), ∃ (ps : List Int) (q :
 Query), [cQa [vQi sc.version, vQs sc.tables], cQs p, cQa (QV.enc y)] = [cQa [vQi sc_1.version, vQs sc_1.tables], cQs p_1, cQa (QV.enc v_1)] /\ RepS x.2.2 s sc_1 /\ small8 s /\ Ints
 x.2.2 p_1 ps /\ RepQ x.2.2 q v_1 /\ SizeOf.sizeOf q < N /\ ∀ (sl : Sl) (h' : PH), x.2.2.le h' -> Ints h' sl (kindsQ s ps q).1 -> branch ((kindsQ s ps q).2 != 0) (K (CV.tup [cQn,
 CV.val (vQi (kindsQ s ps q).2)]) m h') (((List.map eS x.2.1).length + 1) * 24 <= 140737488355328 /\ (List.map eS x.2.1).length < 140737488355328 /\ ∃ (x_1 : Nat × List Sl × PH), I
 x_1 /\ mu x_1 < mu x /\ eQ (sQs p) /\ eP 3 /\ eP 5 /\ eL 35 /\ eQ (sQi ↑v.args.len) /\ sQi (IntKind.i64.wrap ((↑x.1 : Int) + 1)) = sQi ↑x_1.1 /\ eQ (oQ 28 [aQi sc.version, aQs
 sc.tables]) /\ eQ (oQ 43 (List.map At.val (QV.enc v))) /\ some (Own.lst 39 1 (List.map eS x.2.1 ++ [[vQs sl]])) = some (Own.lst 39 1 (List.map eS x_1.2.1)) /\ m = m /\ h' = x_1.2.2
 /\ True)) (∃ (op : Int), [cQi v.op] = [cQi op] /\ branch ((↑(List.map eS x.2.1).length : Int) != arity op) (K (CV.tup [cQn, cQi 100]) m x.2.2) (((List.map eS x.2.1).length + 2) *
 24 <= 140737488355328 /\ (List.map eS x.2.1).length + 2 <= 140737488355328 /\ (0 : Int) <= 0 /\ 0 < (↑(List.map eS x.2.1 ++ [[vQn], [vQn]]).length : Int) /\ ∃ (e : List Value),
 (List.map eS x.2.1 ++ [[vQn], [vQn]])[0]? = some e /\ ∃ (y : Sl), List.take 1 (List.drop 0 e) = [vQs y] /\ (0 : Int) <= 1 /\ 1 < (↑(List.map eS x.2.1 ++ [[vQn], [vQn]]).length :
 Int) /\ ∃ (e : List Value), (List.map eS x.2.1 ++ [[vQn], [vQn]])[1]? = some e /\ ∃ (y_1 : Sl), List.take 1 (List.drop 0 e) = [vQs y_1] /\ ∃ (sc_1 : SchV) (p_1 : Sl) (v_1 : QV), ∃
 (a b : Sl) (s : Sch), ∃ (ps : List Int) (q : Query), ∃ (la lb : List Int), [cQa [vQi sc.version, vQs sc.tables], cQs p, cQa (QV.enc v), cQs y, cQs y_1] = [cQa [vQi sc_1.version,
 vQs sc_1.tables], cQs p_1, cQa (QV.enc v_1), cQs a, cQs b] /\ RepS x.2.2 s sc_1 /\ small8 s /\ Ints x.2.2 p_1 ps /\ RepQ x.2.2 q v_1 /\ Ints x.2.2 a la /\ Ints x.2.2 b lb /\
 la.length <= 12 /\ lb.length <= 12 /\ ∀ (sl : Sl) (h' : PH), x.2.2.le h' -> Ints h' sl (nodeR s ps q la lb).1 -> K (CV.tup [cQs sl, CV.val (vQi (nodeR s ps q la lb).2)]) m h'))
theorem f55_vc (N : Nat) (sc : SchV) (p : Sl) (v : QV) (m : MH) (h : PH) (K : CV → MH → PH → Prop) : f55_nice N sc p v m h K = (fnVC (f55_ctx N sc p v m) Tryz.f55 (bodyOf Tryz.f55) (entry Tryz.f55.ntmps [aS sc, cS p, aQ v] m h) K) := by kernel_rfl
def f26_nice (N : Nat) (sc : SchV) (p : Sl) (v : QV) (m : MH) (h : PH) (K : CV → MH → PH → Prop) : Prop :=
 ∃ (v_1 : SchV) (s : Sch), [cQa [vQi sc.version, vQs sc.tables]] = [cQa [vQi v_1.version, vQs v_1.tables]] /\ RepS h s v_1 /\ branch (schErr s != 0) (K (CV.tup [cQn, cQi (schErr
 s)]) m h) (∃ (s : Sl) (l : List Int), [cQs p] = [cQs s] /\ Ints h s l /\ branch (!l.all colKind) (K (CV.tup [cQn, cQi 1]) m h) (∃ (v_2 : QV) (p_1 : Query), [cQa (QV.enc v)] = [cQa
 (QV.enc v_2)] /\ RepQ h p_1 v_2 /\ branch (!smallQ p_1) (K (CV.tup [cQn, cQi 2]) m h) (∃ (sc_1 : SchV) (p_2 : Sl), ∃ (v_3 : QV) (s : Sch), ∃ (ps : List Int) (q : Query), [cQa [vQi
 sc.version, vQs sc.tables], cQs p, cQa (QV.enc v)] = [cQa [vQi sc_1.version, vQs sc_1.tables], cQs p_2, cQa (QV.enc v_3)] /\ RepS h s sc_1 /\ small8 s /\ Ints h p_2 ps /\ RepQ h q
 v_3 /\ SizeOf.sizeOf q < N /\ ∀ (sl : Sl) (h' : PH), h.le h' -> Ints h' sl (kindsQ s ps q).1 -> K (CV.tup [cQs sl, CV.val (vQi (kindsQ s ps q).2)]) m h')))
theorem f26_vc (N : Nat) (sc : SchV) (p : Sl) (v : QV) (m : MH) (h : PH) (K : CV → MH → PH → Prop) : f26_nice N sc p v m h K = (fnVC (ctx2 [(53, SchCheckS), (54, KindsS), (19, SmallQS), (55, KindsQS N)] [] [] [] false) Tryz.f26 (bodyOf Tryz.f26) (entry Tryz.f26.ntmps [aS sc, cS p, aQ v] m h) K) := by kernel_rfl
theorem kinds_len {qs : List Query} (h : qs.map (kindsQ s ps) = ks.map (fun k => (k, 0))) (j : Nat) : (ks.getD j []).length ≤ 12 := by
 rw [List.getD_eq_getElem?_getD]
 cases e : ks[j]? with
 | none => simp
 | some k =>
  have h1 : (qs.map (kindsQ s ps))[j]? = some (k, 0) := by rw [h]; simp [e]
  rw [List.getElem?_map, Option.map_eq_some_iff] at h1
  obtain ⟨q, _, h2⟩ := h1
  have := kindsQ_len s ps q
  rw [h2] at this
  simpa using this
theorem Slices.pick {ss : List Sl} (x : Slices h ss ks) (j : Nat) (hj : j < ss.length + 2) : ∃ y : Sl, (ss.map eS ++ [[.slice none 0 0], [.slice none 0 0]])[j]? = some [.slice y.a y.len y.cap] ∧ Ints h y (ks.getD j []) := by
 by_cases h1 : j < ss.length
 · refine ⟨ss[j], ?_, ?_⟩
   · rw [List.getElem?_append_left (by simpa using h1)]; simp [h1, eS]
   · have h2 : j < ks.length := by rw [← x.1]; exact h1
     rw [List.getD_eq_getElem?_getD, List.getElem?_eq_getElem h2]
     exact x.2 j _ _ (List.getElem?_eq_getElem h1) (List.getElem?_eq_getElem h2)
 · refine ⟨⟨none, 0, 0⟩, ?_, ?_⟩
   · rw [List.getElem?_append_right (by simpa using h1)]
     simp only [List.length_map]
     have : j - ss.length = 0 ∨ j - ss.length = 1 := by omega
     rcases this with e | e <;> rw [e] <;> rfl
   · rw [List.getD_eq_getElem?_getD, List.getElem?_eq_none (by have := x.1; omega)]
     exact ⟨.nil _ _, by simp⟩
theorem f55_ok {p : Sl} (hs : RepS h s sc) (h8 : small8 s) (hp : Ints h p ps) (hq : RepQ h q v) (hN : SizeOf.sizeOf q < N + 1) (hK : KR K m h (kindsQ s ps q)) : f55_nice N sc p v m h K := by
 have hlt := @qargs_lt q
 have hqr := hq
 obtain ⟨op, ta, w, co, on, gr, od, li, args⟩ := q
 have x := hq.parts
 have e0 := x.op_
 have hl := x.args_.slen
 have hlen := x.args_.len
 simp only [Query.args] at hlt
 simp only [kindsQ] at hK
 refine ⟨fun ⟨i, ss, hx⟩ => i ≤ args.length ∧ PH.le h hx ∧ ∃ ks, Slices hx ss ks ∧ (args.take i).map (kindsQ s ps) = ks.map (fun k => (k, 0)), fun ⟨i, _, _⟩ => args.length - i, ⟨(0, [], h), ⟨by omega, .refl _, [], ⟨rfl, fun j s k h1 => by simp at h1⟩, by simp⟩, MT⟩, ?_⟩
 rintro ⟨i, ss, hx⟩ ⟨hi, hle, ks, hS, hks⟩
 have hkl : ks.length = i := by have := congrArg List.length hks; simp at this; omega
 have hsl : ss.length = i := by rw [hS.1, hkl]
 dsimp only
 refine branch_dec (fun hlt2 => ?_) (fun hge => ?_)
 · obtain ⟨q', hq'⟩ := getx hl hlt2
   obtain ⟨b1, o1, u, ea1, r1, hru⟩ := (x.args_.mono hle).at hq'
   refine ⟨b1, o1, ea1, by omega, hlt2, u, .imm r1, sc, p, u, s, ps, q', rfl, hs.mono hle, h8, hp.mono hle, hru, ?_, fun sl h' hle' hi' => branch_intro (fun h1 => ?_) (fun h1 => ?_)⟩
   · have := hlt (List.mem_of_getElem? hq'); omega
   · have he : (kindsQ s ps q').2 ≠ 0 := by simpa using h1
     rw [kindsQs_err he hks hq' rfl] at hK
     exact hK.err (hle.trans hle') (if_neg he)
   · have he : (kindsQ s ps q').2 = 0 := by simpa using h1
     refine ⟨by simp; omega, by simp; omega, (i + 1, ss ++ [sl], h'), ⟨by omega, hle.trans hle', ks ++ [(kindsQ s ps q').1], (hS.mono hle').snoc hi', ?_⟩, by show args.length - (i + 1) < args.length - i; omega, ?_⟩
     · rw [map_take_succ hq', hks, List.map_append]
       simp only [List.map_cons, List.map_nil]
       rw [← he]
     · rw [List.map_append]; exact MT
 · rw [List.take_of_length_le (by omega)] at hks
   rw [kindsQs_ok hks] at hK
   simp only [if_true] at hK
   refine ⟨v.op, rfl, branch_intro (fun h1 => hK.err hle (if_neg fun e => ?_)) (fun h1 => ?_)⟩
   · rw [e0] at h1; simp at h1; omega
   have h1 : (ss.length : Int) = arity op := by rw [e0] at h1; simpa using h1
   rw [if_pos (by omega)] at hK
   obtain ⟨y0, hy0, i0⟩ := hS.pick 0 (by omega)
   obtain ⟨y1, hy1, i1⟩ := hS.pick 1 (by omega)
   exact ⟨by simp; omega, by simp; omega, by omega, by simp; omega, _, hy0, y0, rfl, by omega, by simp; omega, _, hy1, y1, rfl, sc, p, v, y0, y1, s, ps, _, _, _, rfl, hs.mono hle, h8, hp.mono hle, hqr.mono hle, i0, i1, kinds_len hks 0, kinds_len hks 1, fun sl h' hle' hi => hK sl h' (hle.trans hle') hi⟩
theorem f55_all : ∀ N, Sound Tryz.prog 55 (KindsQS N)
 | 0 => by
  refine fn_sound (fn := Tryz.f55) (c := bodyOf Tryz.f55) Tryz.func55 rfl (by decide) ?_
  rintro cvs m h K ⟨sc, p, v, s, ps, q, rfl, _, _, _, _, hN, _⟩
  omega
 | N + 1 => by
  refine fn_sound (fn := Tryz.f55) (c := bodyOf Tryz.f55) Tryz.func55 rfl (by decide) ?_
  rintro cvs m h K ⟨sc, p, v, s, ps, q, rfl, hs, h8, hp, hq, hN, hK⟩
  refine ⟨f55_ctx N sc p v m, rfl, specs_cons (f55_all N) (specs_cons f48_sound (specs_cons f75_sound specs_nil)), ?_⟩
  rw [← f55_vc N sc p v m h K]
  exact f55_ok hs h8 hp hq hN hK
theorem small8_of (h : schErr s = 0) : small8 s := by
 have hl : SchLim s := Classical.byContradiction fun hn => by rw [schErr_lim hn] at h; cases h
 intro t ht
 obtain ⟨j, hj⟩ := List.mem_iff_getElem?.1 ht
 exact (hl.2 j t hj).1
theorem f26_ok {p : Sl} (hs : RepS h s sc) (hp : Ints h p ps) (hq : RepQ h q v) (hK : KR K m h (queryR s ps q)) : f26_nice (SizeOf.sizeOf q + 1) sc p v m h K := by
 unfold queryR at hK
 refine ⟨sc, s, rfl, hs, branch_intro (fun h1 => hK.err (.refl _) (if_neg (by simpa using h1))) (fun h1 => ?_)⟩
 have h1 : schErr s = 0 := by simpa using h1
 rw [if_pos h1] at hK
 refine ⟨p, ps, rfl, hp, branch_intro (fun h2 => hK.err (.refl _) (if_neg fun e => by rw [e] at h2; cases h2)) (fun h2 => ?_)⟩
 rw [if_pos (by rw [Bool.not_eq_false'] at h2; exact h2)] at hK
 refine ⟨v, q, rfl, hq, branch_intro (fun h3 => hK.err (.refl _) (if_neg fun e => by rw [e] at h3; cases h3)) (fun h3 => ?_)⟩
 rw [if_pos (by rw [Bool.not_eq_false'] at h3; exact h3)] at hK
 exact ⟨sc, p, v, s, ps, q, rfl, hs, small8_of h1, hp, hq, by omega, hK⟩
theorem f26_sound : Sound Tryz.prog 26 QueryCheckS := by
 refine fn_sound (fn := Tryz.f26) (c := bodyOf Tryz.f26) Tryz.func26 rfl (by decide) ?_
 rintro cvs m h K ⟨sc, p, v, s, ps, q, rfl, hs, hp, hq, hK⟩
 refine ⟨ctx2 [(53, SchCheckS), (54, KindsS), (19, SmallQS), (55, KindsQS (SizeOf.sizeOf q + 1))] [] [] [] false, rfl, specs_cons f53_sound (specs_cons f54_sound (specs_cons f19_sound (specs_cons (f55_all _) specs_nil))), ?_⟩
 rw [← f26_vc (SizeOf.sizeOf q + 1) sc p v m h K]
 exact f26_ok hs hp hq hK
def aN (n : NV) : CV := .val (.agg ⟨n.enc⟩)
structure RepN (h : PH) (s : Sch) (ps : List Int) (q : Query) (ks : List (List Int)) (n : NV) : Prop where
 s_ : RepS h s n.s
 ps_ : Ints h n.params ps
 q_ : RepQ h q n.q
 ks_ : RepL h 1 eS (fun k sl => Ints h sl k) n.args ks
 len : ∀ k ∈ ks, k.length ≤ 12
def Query.withOf (u q : Query) : Query := match u, q with | .mk _ ta w co on gr od li _, .mk op _ _ _ _ _ _ _ args => .mk op ta w co on gr od li args
def PlainNS : Vc.Spec := fun cvs m h K => ∃ n k u s ps q ks uq, cvs = [aN n, cI k, aQ u] ∧ RepN h s ps q ks n ∧ RepQ h uq u ∧ ∀ r : Bool, (r = true ↔ (ks.length : Int) = k ∧ q = uq.withOf q) → K (cB r) m h
def RankingS : Vc.Spec := fun cvs m h K => ∃ n s ps q ks, cvs = [aN n] ∧ RepN h s ps q ks n ∧ K (aQ ⟨0, 0, ⟨0, 0, zeroO, zeroO, ⟨none, 0, 0⟩⟩, ⟨none, 0, 0⟩, ⟨none, 0, 0⟩, n.q.group, n.q.order, n.q.limit, ⟨none, 0, 0⟩⟩) m h
def RankedNS : Vc.Spec := fun cvs m h K => ∃ n s ps q ks a, cvs = [aN n] ∧ RepN h s ps q ks n ∧ ks[0]? = some a ∧ ∀ r : Bool, (r = true ↔ ∃ op ta w co on gr od li args, q = .mk op ta w co on gr od li args ∧ RankOk a gr od li) → K (cB r) m h
def pairedQ (ks : List (List Int)) : Query → Prop
 | .mk op ta w co on gr od li _ => ks.length = 2 ∧ ta = 0 ∧ w = zeroP ∧ co = [] ∧ gr = [] ∧ od = [] ∧ li = 0 ∧ Good (PairT (ks.getD 0 []) (ks.getD 1 [])) on
def PairedNS : Vc.Spec := fun cvs m h K => ∃ n s ps q ks, cvs = [aN n] ∧ RepN h s ps q ks n ∧ ∀ r : Bool, (r = true ↔ pairedQ ks q) → K (cB r) m h
def f129_ctx (n : NV) (h : PH) : Ctx :=
 ctx4 [] [(4, { A := Nat × Nat × Nat × MH, st := fun ⟨i, wd, b, mx⟩ => mkSt 72 73 [(1, .at (.ptr 1 0)), (3, iv wd), (4, vv (.pointer (some ⟨b, 0, none⟩))), (16, sv n.q.group), (17, iv n.q.group.len), (18, iv i)] [(1, .cells 155 (n.enc.map .val))] mx h }),
  (11, { A := Nat × Nat × MH, st := fun ⟨i, wd, mx⟩ => mkSt 72 73 [(1, .at (.ptr 1 0)), (3, iv wd), (39, sv n.q.order), (40, iv n.q.order.len), (41, iv i)] [(1, .cells 155 (n.enc.map .val))] mx h })] [] [] [183] [] false
def f127_ctx (n : NV) (h : PH) : Ctx :=
 ctx4 [(126, PlainNS)] [(6, { A := Nat × Sl × Sl × Nat × Nat × MH, st := fun ⟨i, s, t, b, c, mx⟩ => mkSt 80 81 [(3, sv s), (4, sv t), (5, vv (.pointer (some ⟨b, 0, none⟩))), (6, vv (.pointer (some ⟨c, 0, none⟩))), (28, sv n.q.on), (29, iv n.q.on.len), (30, iv i)] [] mx h })] [] [] [183] [] false
def f126_nice (n : NV) (k : Int) (u : QV) (m : MH) (h : PH) (K : CV → MH → PH → Prop) : Prop :=
 branch ((↑n.args.len : Int) == k) (∃ (v w : QV), ∃ (p q : Query), [cQa (QV.enc n.q), cQa [vQi n.q.op, vQi u.table, vQi u.where_.op, vQi u.where_.cmp, vQi u.where_.left.kind, vQi
 u.where_.left.index, vQi u.where_.left.value.kind, vQi u.where_.left.value.int, Value.string u.where_.left.value.text, vQi u.where_.right.kind, vQi u.where_.right.index, vQi
 u.where_.right.value.kind, vQi u.where_.right.value.int, Value.string u.where_.right.value.text, vQs u.where_.args, vQs u.columns, vQs u.on, vQs u.group, vQs u.order, vQi u.limit,
 vQs n.q.args]] = [cQa (QV.enc v), cQa (QV.enc w)] /\ RepQ h p v /\ RepQ h q w /\ ∀ (r : Bool), (r = true ↔ p = q) -> K (cQb r) m h) (K (cQb false) m h)
theorem f126_vc (n : NV) (k : Int) (u : QV) (m : MH) (h : PH) (K : CV → MH → PH → Prop) : f126_nice n k u m h K = (fnVC (ctx2 [(134, EqQA)] [] [] [] false) Tryz.f126 (bodyOf Tryz.f126) (entry Tryz.f126.ntmps [aN n, cI k, aQ u] m h) K) := by kernel_rfl
def f128_nice (n : NV) (m : MH) (h : PH) (K : CV → MH → PH → Prop) : Prop :=
 K (cQa [vQi 0, vQi 0, vQi 0, vQi 0, vQi 0, vQi 0, vQi 0, vQi 0, vQz, vQi 0, vQi 0, vQi 0, vQi 0, vQz, vQn, vQn, vQn, vQs n.q.group, vQs n.q.order, vQi n.q.limit, vQn]) m h
theorem f128_vc (n : NV) (m : MH) (h : PH) (K : CV → MH → PH → Prop) : f128_nice n m h K = (fnVC (ctx2 [] [] [] [] false) Tryz.f128 (bodyOf Tryz.f128) (entry Tryz.f128.ntmps [aN n] m h) K) := by kernel_rfl
def f129_nice (n : NV) (m : MH) (h : PH) (K : CV → MH → PH → Prop) : Prop :=
 ∃ (b off : Nat), n.args.a = some (Addr.mk b off none) /\ (0 : Int) <= 0 /\ 0 < (↑n.args.len : Int) /\ ∃ (y : Sl), RdAt m h b (off + 0) [vQs y] /\ ∀ (b : Nat) (m' : MH), Unheld m h
 b -> MUpd m m' b (Obj.cells (Array.mk [Value.bool false, Value.bool false, Value.bool false, Value.bool false, Value.bool false, Value.bool false, Value.bool false, Value.bool
 false, Value.bool false, Value.bool false, Value.bool false, Value.bool false]) 183) -> ∃ (I : Nat × Nat × Nat × MH -> Prop) (mu : Nat × Nat × Nat × MH -> Nat), (∃ (x : Nat × Nat ×
 Nat × MH), I x /\ eP 1 /\ sQi ↑y.len = sQi ↑x.2.1 /\ sQo b 0 = sQo x.2.2.1 0 /\ eQ (sQs n.q.group) /\ eQ (sQi ↑n.q.group.len) /\ sQi 0 = sQi ↑x.1 /\ eQ (oQ 155 (aQi n.s.version ::
 aQs n.s.tables :: aQs n.params :: aQi n.q.op :: aQi n.q.table :: pQ n.q.where_ [aQs n.q.columns, aQs n.q.on, aQs n.q.group, aQs n.q.order, aQi n.q.limit, aQs n.q.args, aQs
 n.args])) /\ m' = x.2.2.2 /\ h = h /\ True) /\ ∀ (x : Nat × Nat × Nat × MH), I x -> branch (decide ((↑x.1 : Int) < ↑n.q.group.len)) (∃ (b off : Nat), n.q.group.a = some (Addr.mk b
 off none) /\ 0 <= (↑x.1 : Int) /\ (↑x.1 : Int) < ↑n.q.group.len /\ ∃ (y : Int), RdAt x.2.2.2 h b (off + (↑x.1 : Int).toNat * 1) [vQi y] /\ branch (decide (y < 0)) (K (cQb false)
 x.2.2.2 h) (branch (decide (y ≥ (↑x.2.1 : Int))) (K (cQb false) x.2.2.2 h) (0 <= y /\ y < 12 /\ ∃ (y_1 : Bool), RdAt x.2.2.2 h x.2.2.1 (0 + y.toNat * 1) [Value.bool y_1] /\ branch
 y_1 (K (cQb false) x.2.2.2 h) (0 <= y /\ y < 12 /\ ∃ (cs : Array Value) (E : TypeId), MAt x.2.2.2 x.2.2.1 (Obj.cells cs E) /\ 0 + y.toNat * 1 < cs.size /\ ∀ (m' : MH), MUpd x.2.2.2
 m' x.2.2.1 (Obj.cells (Array.mk (splice cs.toList (0 + y.toNat * 1) [Value.bool true])) E) -> ∃ (x_1 : Nat × Nat × Nat × MH), I x_1 /\ mu x_1 < mu x /\ eP 1 /\ sQi ↑x.2.1 = sQi
 ↑x_1.2.1 /\ sQo x.2.2.1 0 = sQo x_1.2.2.1 0 /\ eQ (sQs n.q.group) /\ eQ (sQi ↑n.q.group.len) /\ sQi (IntKind.i64.wrap ((↑x.1 : Int) + 1)) = sQi ↑x_1.1 /\ eQ (oQ 155 (aQi
 n.s.version :: aQs n.s.tables :: aQs n.params :: aQi n.q.op :: aQi n.q.table :: pQ n.q.where_ [aQs n.q.columns, aQs n.q.on, aQs n.q.group, aQs n.q.order, aQi n.q.limit, aQs
 n.q.args, aQs n.args])) /\ m' = x_1.2.2.2 /\ h = h /\ True)))) (∃ (I : Nat × Nat × MH -> Prop) (mu : Nat × Nat × MH -> Nat), (∃ (x_1 : Nat × Nat × MH), I x_1 /\ eP 1 /\ sQi ↑x.2.1
 = sQi ↑x_1.2.1 /\ eQ (sQs n.q.order) /\ eQ (sQi ↑n.q.order.len) /\ sQi 0 = sQi ↑x_1.1 /\ eQ (oQ 155 (aQi n.s.version :: aQs n.s.tables :: aQs n.params :: aQi n.q.op :: aQi
 n.q.table :: pQ n.q.where_ [aQs n.q.columns, aQs n.q.on, aQs n.q.group, aQs n.q.order, aQi n.q.limit, aQs n.q.args, aQs n.args])) /\ x.2.2.2 = x_1.2.2 /\ h = h /\ True) /\ ∀ (x :
 Nat × Nat × MH), I x -> branch (decide ((↑x.1 : Int) < ↑n.q.order.len)) (∃ (b off : Nat), n.q.order.a = some (Addr.mk b off none) /\ 0 <= (↑x.1 : Int) /\ (↑x.1 : Int) <
 ↑n.q.order.len /\ ∃ (y : Int × Bool), RdAt x.2.2 h b (off + (↑x.1 : Int).toNat * 2) [vQi y.1, Value.bool y.2] /\ branch (decide (y.1 < 0)) (K (cQb false) x.2.2 h) (branch (decide
 (y.1 ≥ (↑x.2.1 : Int))) (K (cQb false) x.2.2 h) (∃ (x_1 : Nat × Nat × MH), I x_1 /\ mu x_1 < mu x /\ eP 1 /\ sQi ↑x.2.1 = sQi ↑x_1.2.1 /\ eQ (sQs n.q.order) /\ eQ (sQi
 ↑n.q.order.len) /\ sQi (IntKind.i64.wrap ((↑x.1 : Int) + 1)) = sQi ↑x_1.1 /\ eQ (oQ 155 (aQi n.s.version :: aQs n.s.tables :: aQs n.params :: aQi n.q.op :: aQi n.q.table :: pQ
 n.q.where_ [aQs n.q.columns, aQs n.q.on, aQs n.q.group, aQs n.q.order, aQi n.q.limit, aQs n.q.args, aQs n.args])) /\ x.2.2 = x_1.2.2 /\ h = h /\ True))) (branch (decide
 ((↑n.q.order.len : Int) <= 12)) (branch (decide (n.q.limit ≥ 0)) (K (cQb (decide (n.q.limit <= 100))) x.2.2 h) (K (cQb false) x.2.2 h)) (K (cQb false) x.2.2 h)))
theorem f129_vc (n : NV) (m : MH) (h : PH) (K : CV → MH → PH → Prop) : f129_nice n m h K = (fnVC (f129_ctx n h) Tryz.f129 (bodyOf Tryz.f129) (entry Tryz.f129.ntmps [aN n] m h) K) := by kernel_rfl
def f127_nice (n : NV) (m : MH) (h : PH) (K : CV → MH → PH → Prop) : Prop :=
 ∃ (n_1 : NV) (k : Int), ∃ (u : QV) (s : Sch), ∃ (ps : List Int) (q : Query), ∃ (ks : List (List Int)) (uq : Query), [cQa [vQi n.s.version, vQs n.s.tables, vQs n.params, vQi n.q.op,
 vQi n.q.table, vQi n.q.where_.op, vQi n.q.where_.cmp, vQi n.q.where_.left.kind, vQi n.q.where_.left.index, vQi n.q.where_.left.value.kind, vQi n.q.where_.left.value.int,
 Value.string n.q.where_.left.value.text, vQi n.q.where_.right.kind, vQi n.q.where_.right.index, vQi n.q.where_.right.value.kind, vQi n.q.where_.right.value.int, Value.string
 n.q.where_.right.value.text, vQs n.q.where_.args, vQs n.q.columns, vQs n.q.on, vQs n.q.group, vQs n.q.order, vQi n.q.limit, vQs n.q.args, vQs n.args], cQi 2, cQa [vQi 0, vQi 0, vQi
 0, vQi 0, vQi 0, vQi 0, vQi 0, vQi 0, vQz, vQi 0, vQi 0, vQi 0, vQi 0, vQz, vQn, vQn, vQs n.q.on, vQn, vQn, vQi 0, vQn]] = [cQa [vQi n_1.s.version, vQs n_1.s.tables, vQs
 n_1.params, vQi n_1.q.op, vQi n_1.q.table, vQi n_1.q.where_.op, vQi n_1.q.where_.cmp, vQi n_1.q.where_.left.kind, vQi n_1.q.where_.left.index, vQi n_1.q.where_.left.value.kind, vQi
 n_1.q.where_.left.value.int, Value.string n_1.q.where_.left.value.text, vQi n_1.q.where_.right.kind, vQi n_1.q.where_.right.index, vQi n_1.q.where_.right.value.kind, vQi
 n_1.q.where_.right.value.int, Value.string n_1.q.where_.right.value.text, vQs n_1.q.where_.args, vQs n_1.q.columns, vQs n_1.q.on, vQs n_1.q.group, vQs n_1.q.order, vQi n_1.q.limit,
 vQs n_1.q.args, vQs n_1.args], cQi k, cQa (QV.enc u)] /\ RepN h s ps q ks n_1 /\ RepQ h uq u /\ ∀ (r : Bool), (r = true ↔ (↑ks.length : Int) = k /\ q = uq.withOf q) -> branch (!r)
 (K (cQb false) m h) (∃ (b off : Nat), n.args.a = some (Addr.mk b off none) /\ (0 : Int) <= 0 /\ 0 < (↑n.args.len : Int) /\ ∃ (y : Sl), RdAt m h b (off + 0) [vQs y] /\ ∃ (b off :
 Nat), n.args.a = some (Addr.mk b off none) /\ (0 : Int) <= 1 /\ 1 < (↑n.args.len : Int) /\ ∃ (y_1 : Sl), RdAt m h b (off + 1) [vQs y_1] /\ ∀ (b : Nat) (m' : MH), Unheld m h b ->
 MUpd m m' b (Obj.cells (Array.mk [Value.bool false, Value.bool false, Value.bool false, Value.bool false, Value.bool false, Value.bool false, Value.bool false, Value.bool false,
 Value.bool false, Value.bool false, Value.bool false, Value.bool false]) 183) -> ∀ (b_1 : Nat) (m'_1 : MH), Unheld m' h b_1 -> MUpd m' m'_1 b_1 (Obj.cells (Array.mk [Value.bool
 false, Value.bool false, Value.bool false, Value.bool false, Value.bool false, Value.bool false, Value.bool false, Value.bool false, Value.bool false, Value.bool false, Value.bool
 false, Value.bool false]) 183) -> ∃ (I : Nat × Sl × Sl × Nat × Nat × MH -> Prop) (mu : Nat × Sl × Sl × Nat × Nat × MH -> Nat), (∃ (x : Nat × Sl × Sl × Nat × Nat × MH), I x /\ sQs y
 = sQs x.2.1 /\ sQs y_1 = sQs x.2.2.1 /\ sQo b 0 = sQo x.2.2.2.1 0 /\ sQo b_1 0 = sQo x.2.2.2.2.1 0 /\ eQ (sQs n.q.on) /\ eQ (sQi ↑n.q.on.len) /\ sQi 0 = sQi ↑x.1 /\ m'_1 =
 x.2.2.2.2.2 /\ h = h /\ True) /\ ∀ (x : Nat × Sl × Sl × Nat × Nat × MH), I x -> branch (decide ((↑x.1 : Int) < ↑n.q.on.len)) (∃ (b off : Nat), n.q.on.a = some (Addr.mk b off none)
 /\ 0 <= (↑x.1 : Int) /\ (↑x.1 : Int) < ↑n.q.on.len /\ ∃ (y : Int × Int), RdAt x.2.2.2.2.2 h b (off + (↑x.1 : Int).toNat * 2) [vQi y.1, vQi y.2] /\ (0 : Int) <= 0 /\ (0 : Int) < 2
 /\ (0 : Int) <= 1 /\ (1 : Int) < 2 /\ branch (decide (y.1 < 0)) (K (cQb false) x.2.2.2.2.2 h) (branch (decide (y.1 ≥ (↑x.2.1.len : Int))) (K (cQb false) x.2.2.2.2.2 h) (branch
 (decide (y.2 < 0)) (K (cQb false) x.2.2.2.2.2 h) (branch (decide (y.2 ≥ (↑x.2.2.1.len : Int))) (K (cQb false) x.2.2.2.2.2 h) (∃ (b off : Nat), x.2.1.a = some (Addr.mk b off none)
 /\ 0 <= y.1 /\ y.1 < (↑x.2.1.len : Int) /\ ∃ (y_2 : Int), RdAt x.2.2.2.2.2 h b (off + y.1.toNat * 1) [vQi y_2] /\ ∃ (b off : Nat), x.2.2.1.a = some (Addr.mk b off none) /\ 0 <= y.2
 /\ y.2 < (↑x.2.2.1.len : Int) /\ ∃ (y_3 : Int), RdAt x.2.2.2.2.2 h b (off + y.2.toNat * 1) [vQi y_3] /\ branch (y_2 != y_3) (K (cQb false) x.2.2.2.2.2 h) (0 <= y.1 /\ y.1 < 12 /\ ∃
 (y_4 : Bool), RdAt x.2.2.2.2.2 h x.2.2.2.1 (0 + y.1.toNat * 1) [Value.bool y_4] /\ branch y_4 (K (cQb false) x.2.2.2.2.2 h) (0 <= y.2 /\ y.2 < 12 /\ ∃ (y_5 : Bool), RdAt
 x.2.2.2.2.2 h x.2.2.2.2.1 (0 + y.2.toNat * 1) [Value.bool y_5] /\ branch y_5 (K (cQb false) x.2.2.2.2.2 h) (0 <= y.1 /\ y.1 < 12 /\ ∃ (cs : Array Value) (E : TypeId), MAt
 x.2.2.2.2.2 x.2.2.2.1 (Obj.cells cs E) /\ 0 + y.1.toNat * 1 < cs.size /\ ∀ (m' : MH), MUpd x.2.2.2.2.2 m' x.2.2.2.1 (Obj.cells (Array.mk (splice cs.toList (0 + y.1.toNat * 1)
 [Value.bool true])) E) -> 0 <= y.2 /\ y.2 < 12 /\ ∃ (cs : Array Value) (E : TypeId), MAt m' x.2.2.2.2.1 (Obj.cells cs E) /\ 0 + y.2.toNat * 1 < cs.size /\ ∀ (m'_2 : MH), MUpd m'
 m'_2 x.2.2.2.2.1 (Obj.cells (Array.mk (splice cs.toList (0 + y.2.toNat * 1) [Value.bool true])) E) -> ∃ (x_1 : Nat × Sl × Sl × Nat × Nat × MH), I x_1 /\ mu x_1 < mu x /\ sQs x.2.1
 = sQs x_1.2.1 /\ sQs x.2.2.1 = sQs x_1.2.2.1 /\ sQo x.2.2.2.1 0 = sQo x_1.2.2.2.1 0 /\ sQo x.2.2.2.2.1 0 = sQo x_1.2.2.2.2.1 0 /\ eQ (sQs n.q.on) /\ eQ (sQi ↑n.q.on.len) /\ sQi
 (IntKind.i64.wrap ((↑x.1 : Int) + 1)) = sQi ↑x_1.1 /\ m'_2 = x_1.2.2.2.2.2 /\ h = h /\ True)))))))) (K (cQb true) x.2.2.2.2.2 h))
theorem f127_vc (n : NV) (m : MH) (h : PH) (K : CV → MH → PH → Prop) : f127_nice n m h K = (fnVC (f127_ctx n h) Tryz.f127 (bodyOf Tryz.f127) (entry Tryz.f127.ntmps [aN n] m h) K) := by kernel_rfl
structure Arr (m : MH) (b : Nat) (seen : List Int) : Prop where
 ex : ∃ bs : List Bool, m b = some (.cells ⟨bs.map Value.bool⟩ 183 (0, 0)) ∧ bs.length = 12 ∧ ∀ k : Nat, k < 12 → (bs[k]? = some true ↔ (k : Int) ∈ seen)
theorem Arr.zero (h : m b = some (.cells ⟨[.bool false, .bool false, .bool false, .bool false, .bool false, .bool false, .bool false, .bool false, .bool false, .bool false, .bool false, .bool false]⟩ 183 (0, 0))) : Arr m b [] :=
 ⟨⟨List.replicate 12 false, h, rfl, fun k hk => by rw [List.getElem?_replicate]; simp [hk]⟩⟩
theorem Arr.look {seen : List Int} (x : Arr m b seen) {n : Int} (h0 : 0 ≤ n) (h1 : n < 12) : ∃ y : Bool, RdAt m h b (0 + n.toNat * 1) [.bool y] ∧ (y = true ↔ n ∈ seen) := by
 obtain ⟨bs, e, hl, hs⟩ := x.ex
 have hk : n.toNat < bs.length := by omega
 refine ⟨bs[n.toNat], .lent _ _ _ e ?_, ?_⟩
 · simp only [Nat.zero_add, Nat.mul_one, List.length_cons, List.length_nil]
   rw [List.drop_eq_getElem_cons (by simpa using hk)]
   simp
 · have := hs n.toNat (by omega)
   rw [List.getElem?_eq_getElem hk] at this
   rw [show ((n.toNat : Nat) : Int) = n by omega] at this
   simpa using this
theorem Arr.store {seen : List Int} (x : Arr m b seen) {n : Int} (h0 : 0 ≤ n) (h1 : n < 12) : ∃ (cs : Array Value) (E : TypeId), MAt m b (.cells cs E (0, 0)) ∧ 0 + n.toNat * 1 < cs.size ∧ ∀ m', MUpd m m' b (.cells ⟨splice cs.toList (0 + n.toNat * 1) [.bool true]⟩ E (0, 0)) → Arr m' b (seen ++ [n]) := by
 obtain ⟨bs, e, hl, hs⟩ := x.ex
 have hk : n.toNat < bs.length := by omega
 refine ⟨_, _, ⟨e⟩, by simpa using hk, fun m' hu => ⟨bs.set n.toNat true, ?_, by simpa using hl, fun k hk' => ?_⟩⟩
 · rw [hu.at_]
   congr 3
   simp only [splice, Nat.zero_add, Nat.mul_one, List.length_cons, List.length_nil]
   rw [List.set_eq_take_append_cons_drop, if_pos hk]
   simp [List.map_take, List.map_drop]
 · rw [List.getElem?_set, List.mem_append, List.mem_singleton]
   by_cases e' : n.toNat = k
   · subst e'
     rw [if_pos rfl, if_pos hk]
     exact ⟨fun _ => .inr (by omega), fun _ => rfl⟩
   · rw [if_neg e', hs k hk']
     exact ⟨.inl, fun h => h.elim id fun e => by omega⟩
theorem Arr.other {b' : Nat} {seen : List Int} (x : Arr m b seen) (hne : b ≠ b') (ho : ∀ c, c ≠ b' → m' c = m c) : Arr m' b seen := by
 obtain ⟨bs, e, hl, hs⟩ := x.ex
 exact ⟨bs, by rw [ho b hne, e], hl, hs⟩
theorem RepN.arg {n : NV} (x : RepN h s ps q ks n) {j : Nat} {k : List Int} (hk : ks[j]? = some k) : ∃ b o sl, n.args.a = some ⟨b, o, none⟩ ∧ RdCells h b (o + j * 1) [.slice sl.a sl.len sl.cap] ∧ Ints h sl k ∧ k.length ≤ 12 ∧ j < n.args.len := by
 obtain ⟨b, o, sl, e, r, hi⟩ := x.ks_.at hk
 have := (List.getElem?_eq_some_iff.1 hk).1
 exact ⟨b, o, sl, e, r, hi, x.len k (List.mem_of_getElem? hk), by rw [x.ks_.slen]; exact this⟩
theorem f126_ok {n : NV} {k : Int} {u : QV} {uq : Query} (hn : RepN h s ps q ks n) (hu : RepQ h uq u) (hK : ∀ r : Bool, (r = true ↔ (ks.length : Int) = k ∧ q = uq.withOf q) → K (cB r) m h) : f126_nice n k u m h K := by
 have hl := hn.ks_.slen
 have hq := hn.q_
 have hq2 := hn.q_
 obtain ⟨op, ta, w, co, on, gr, od, li, args⟩ := q
 obtain ⟨op', ta', w', co', on', gr', od', li', args'⟩ := uq
 have x := hu.parts
 have y := hq.parts
 refine branch_intro (fun h1 => ⟨n.q, ⟨n.q.op, u.table, u.where_, u.columns, u.on, u.group, u.order, u.limit, n.q.args⟩, _, .mk op ta' w' co' on' gr' od' li' args, rfl, hq2, QParts.rep ⟨y.op_, x.table_, x.where_, x.columns_, x.on_, x.group_, x.order_, x.limit_, y.args_⟩, fun r hr => hK r (hr.trans ⟨fun e => ⟨?_, e⟩, fun e => e.2⟩)⟩) (fun h1 => hK false ⟨fun e => (by cases e), fun e => ?_⟩)
 · have : (n.args.len : Int) = k := by simpa using h1
   omega
 · have : (n.args.len : Int) ≠ k := by simpa using h1
   have := e.1
   omega
theorem f128_ok {n : NV} (hK : K (aQ ⟨0, 0, ⟨0, 0, zeroO, zeroO, ⟨none, 0, 0⟩⟩, ⟨none, 0, 0⟩, ⟨none, 0, 0⟩, n.q.group, n.q.order, n.q.limit, ⟨none, 0, 0⟩⟩) m h) : f128_nice n m h K := hK
theorem f126_sound : Sound Tryz.prog 126 PlainNS := by
 refine fn_sound (fn := Tryz.f126) (c := bodyOf Tryz.f126) Tryz.func126 rfl (by decide) ?_
 rintro cvs m h K ⟨n, k, u, s, ps, q, ks, uq, rfl, hn, hu, hK⟩
 refine ⟨ctx2 [(134, EqQA)] [] [] [] false, rfl, specs_cons f134_sound specs_nil, ?_⟩
 rw [← f126_vc n k u m h K]
 exact f126_ok hn hu hK
theorem f128_sound : Sound Tryz.prog 128 RankingS := by
 refine fn_sound (fn := Tryz.f128) (c := bodyOf Tryz.f128) Tryz.func128 rfl (by decide) ?_
 rintro cvs m h K ⟨n, s, ps, q, ks, rfl, hn, hK⟩
 refine ⟨ctx2 [] [] [] [] false, rfl, specs_nil, ?_⟩
 rw [← f128_vc n m h K]
 exact f128_ok hK
theorem f129_ok {n : NV} {op : Int} {on : List (Int × Int)} {args : List Query} (hn : RepN h s ps (.mk op ta w co on gr od li args) ks n) (ha : ks[0]? = some a) (hK : ∀ r : Bool, (r = true ↔ RankOk a gr od li) → K (cB r) m h) : f129_nice n m h (Weak h K) := by
 have x := hn.q_.parts
 have gl := x.group_.slen
 have glen := x.group_.len
 have ol := x.order_.slen
 have olen := x.order_.len
 have el := x.limit_
 obtain ⟨b0, o0, sl, e0, r0, hi0, hl12, hlen⟩ := hn.arg ha
 have sla := hi0.slen
 have bad : ∀ mx, Sub m mx → ¬ RankOk a gr od li → Weak h K (.val (.bool false)) mx h := fun mx hm hn => .sub hm (hK false ⟨fun e => (by cases e), fun e => (hn e).elim⟩)
 refine ⟨b0, o0, e0, by omega, by omega, sl, .imm (by simpa using r0), fun b m1 hb hm1 => ?_⟩
 refine ⟨fun ⟨i, wd, b', mx⟩ => wd = a.length ∧ b' = b ∧ i ≤ gr.length ∧ Sub m mx ∧ Arr mx b (gr.take i) ∧ GoodUpto (GroupT a) gr i, fun ⟨i, _, _, _⟩ => gr.length - i, ⟨(0, sl.len, b, m1), ⟨sla, rfl, by omega, (Sub.refl m).upd hb.m_ hm1.other, .zero hm1.at_, .zero⟩, MT⟩, ?_⟩
 rintro ⟨i, wd, b, mx⟩ ⟨rfl, rfl, hi, hsub, harr, hg⟩
 dsimp only
 refine branch_dec (fun hlt => ?_) (fun hge => ?_)
 · obtain ⟨c, hc⟩ := getx gl hlt
   obtain ⟨b1, o1, e1, r1⟩ := x.group_.at' hc
   have gbad : ¬ GroupT a (gr.take i) c → Weak h K (.val (.bool false)) mx h := fun hn => bad mx hsub fun hh => Good.not hc hn hh.group_
   refine ⟨b1, o1, e1, by omega, hlt, c, .imm r1, branch_dec (fun h1 => gbad fun hh => ?_) (fun h1 => branch_dec (fun h2 => gbad fun hh => ?_) (fun h2 => ?_))⟩
   · have := inL_iff.1 hh.1; omega
   · have := inL_iff.1 hh.1; omega
   obtain ⟨y, hy, hys⟩ := harr.look (h := h) (n := c) (by omega) (by omega)
   refine ⟨by omega, by omega, y, hy, branch_intro (fun h3 => gbad fun hh => hh.2 (hys.1 h3)) (fun h3 => ?_)⟩
   obtain ⟨cs, E, hat, hsz, hst⟩ := harr.store (n := c) (by omega) (by omega)
   refine ⟨by omega, by omega, cs, E, hat, hsz, fun m2 hm2 => ⟨(i + 1, a.length, b, m2), ⟨rfl, rfl, by omega, hsub.upd hb.m_ hm2.other, ?_, hg.succ hc ⟨inL_iff.2 ⟨by omega, by omega⟩, fun e => ?_⟩⟩, by show gr.length - (i + 1) < gr.length - i; omega, MT⟩⟩
   · have := hst m2 hm2
     rwa [List.take_add_one, hc]
   · rw [hys.2 e] at h3; cases h3
 have gg := hg.all (by omega)
 refine ⟨fun ⟨i, wd, mx⟩ => wd = a.length ∧ i ≤ od.length ∧ Sub m mx ∧ GoodUpto (OrderT a) od i, fun ⟨i, _, _⟩ => od.length - i, ⟨(0, a.length, mx), ⟨rfl, by omega, hsub, .zero⟩, MT⟩, ?_⟩
 clear hi hg hge hsub harr mx
 rintro ⟨i, wd, mx⟩ ⟨rfl, hi, hsub, hoi⟩
 dsimp only
 refine branch_dec (fun hlt => ?_) (fun hge => ?_)
 · obtain ⟨c, hc⟩ := getx ol hlt
   obtain ⟨b1, o1, e1, r1⟩ := x.order_.at hc
   have obad : ¬ OrderT a (od.take i) c → Weak h K (.val (.bool false)) mx h := fun hn => bad mx hsub fun hh => Good.not hc hn hh.order_
   refine ⟨b1, o1, e1, by omega, hlt, c, .imm r1, branch_dec (fun h1 => obad fun hh => ?_) (fun h1 => branch_dec (fun h2 => obad fun hh => ?_) (fun h2 => ⟨(i + 1, a.length, mx), ⟨rfl, by omega, hsub, hoi.succ hc (inL_iff.2 ⟨by omega, by omega⟩)⟩, by show od.length - (i + 1) < od.length - i; omega, MT⟩))⟩
   · have := inL_iff.1 (show inL a c.1 = true from hh); omega
   · have := inL_iff.1 (show inL a c.1 = true from hh); omega
 have oo := hoi.all (by omega)
 rw [el]
 refine branch_dec (fun h1 => branch_dec (fun h2 => ?_) (fun h2 => bad mx hsub fun hh => ?_)) (fun h1 => bad mx hsub fun hh => ?_)
 · exact .sub hsub (hK (decide (li ≤ 100)) ⟨fun e => ⟨gg, oo, by omega, h2, by simpa using e⟩, fun e => decide_eq_true e.high⟩)
 · have := hh.low; omega
 · have := hh.len_; omega
theorem f129_sound : Sound Tryz.prog 129 RankedNS := by
 refine fn_sound' (fn := Tryz.f129) (c := bodyOf Tryz.f129) Tryz.func129 rfl (by decide) ?_
 rintro cvs m h K ⟨n, s, ps, q, ks, a, rfl, hn, ha, hK⟩
 refine ⟨f129_ctx n h, rfl, specs_nil, ?_⟩
 rw [← f129_vc n m h _]
 obtain ⟨op, ta, w, co, on, gr, od, li, args⟩ := q
 refine f129_ok hn ha (fun r hr => hK r (hr.trans ⟨fun e => ⟨_, _, _, _, _, _, _, _, _, rfl, e⟩, ?_⟩))
 rintro ⟨_, _, _, _, _, _, _, _, _, e, hr⟩
 cases e
 exact hr
theorem zeroQV_rep {on : List (Int × Int)} {sl : Sl} (hon : Pairs h sl on) : RepQ h (.mk 0 0 zeroP [] on [] [] 0 []) ⟨0, 0, ⟨0, 0, zeroO, zeroO, ⟨none, 0, 0⟩⟩, ⟨none, 0, 0⟩, sl, ⟨none, 0, 0⟩, ⟨none, 0, 0⟩, 0, ⟨none, 0, 0⟩⟩ :=
 QParts.rep ⟨rfl, rfl, repZero h, ⟨.nil _ _, by simp⟩, hon, ⟨.nil _ _, by simp⟩, ⟨.nil _ _, by simp⟩, rfl, .nil _ _ _ _⟩
theorem f127_ok {n : NV} {op : Int} {on : List (Int × Int)} {args : List Query} (hn : RepN h s ps (.mk op ta w co on gr od li args) ks n) (hK : ∀ r : Bool, (r = true ↔ pairedQ ks (.mk op ta w co on gr od li args)) → K (cB r) m h) : f127_nice n m h (Weak h K) := by
 have x := hn.q_.parts
 have ol := x.on_.slen
 have olen := x.on_.len
 have bad : ∀ mx, Sub m mx → ¬ pairedQ ks (.mk op ta w co on gr od li args) → Weak h K (.val (.bool false)) mx h := fun mx hm hn => .sub hm (hK false ⟨fun e => (by cases e), fun e => (hn e).elim⟩)
 refine ⟨n, 2, ⟨0, 0, ⟨0, 0, zeroO, zeroO, ⟨none, 0, 0⟩⟩, ⟨none, 0, 0⟩, n.q.on, ⟨none, 0, 0⟩, ⟨none, 0, 0⟩, 0, ⟨none, 0, 0⟩⟩, s, ps, _, ks, .mk 0 0 zeroP [] on [] [] 0 [], rfl, hn, zeroQV_rep x.on_, fun r hr => branch_intro (fun h1 => bad m (Sub.refl m) fun hh => ?_) (fun h1 => ?_)⟩
 · have : r = true := hr.2 ⟨by have := hh.1; omega, by obtain ⟨_, rfl, rfl, rfl, rfl, rfl, rfl, _⟩ := hh; rfl⟩
   rw [this] at h1; cases h1
 obtain ⟨hk2, heq⟩ := hr.1 (by simpa using h1)
 simp only [Query.withOf, Query.mk.injEq] at heq
 obtain ⟨_, rfl, rfl, rfl, _, rfl, rfl, rfl, _⟩ := heq
 obtain ⟨a0, a1, rfl⟩ : ∃ a0 a1, ks = [a0, a1] := by
  match ks, hk2 with
  | [a0, a1], _ => exact ⟨a0, a1, rfl⟩
  | [], h => simp at h
  | [_], h => simp at h
  | _ :: _ :: _ :: _, h => simp at h; omega
 obtain ⟨b0, o0, s0, e0, r0, i0, l0, j0⟩ := hn.arg (j := 0) rfl
 obtain ⟨b1, o1, s1, e1, r1, i1, l1, j1⟩ := hn.arg (j := 1) rfl
 have sl0 := i0.slen
 have sl1 := i1.slen
 have bad : ∀ mx, Sub m mx → ¬ Good (PairT a0 a1) on → Weak h K (.val (.bool false)) mx h := fun mx hm hn => bad mx hm fun hh => hn hh.2.2.2.2.2.2.2
 refine ⟨b0, o0, e0, by omega, by omega, s0, .imm (by simpa using r0), b1, o1, e1, by omega, by omega, s1, .imm (by simpa using r1), fun b m1 hb hm1 c m2 hc hm2 => ?_⟩
 have hne : b ≠ c := fun e => by have := hc.m_; rw [← e, hm1.at_] at this; cases this
 have hs1 : Sub m m1 := (Sub.refl m).upd hb.m_ hm1.other
 have hcm : m c = none := hs1.free hc.m_
 refine ⟨fun ⟨i, s', t', b', c', mx⟩ => s' = s0 ∧ t' = s1 ∧ b' = b ∧ c' = c ∧ i ≤ on.length ∧ Sub m mx ∧ Arr mx b ((on.take i).map Prod.fst) ∧ Arr mx c ((on.take i).map Prod.snd) ∧ GoodUpto (PairT a0 a1) on i, fun ⟨i, _, _, _, _, _⟩ => on.length - i,
  ⟨(0, s0, s1, b, c, m2), ⟨rfl, rfl, rfl, rfl, by omega, hs1.upd hcm hm2.other, (Arr.zero hm1.at_).other hne hm2.other, .zero hm2.at_, .zero⟩, MT⟩, ?_⟩
 rintro ⟨i, s0, s1, b, c, mx⟩ ⟨rfl, rfl, rfl, rfl, hi, hsub, hA, hB, hg⟩
 dsimp only
 refine branch_dec (fun hlt => ?_) (fun hge => .sub hsub (hK true ⟨fun _ => ⟨rfl, rfl, rfl, rfl, rfl, rfl, rfl, hg.all (by omega)⟩, fun _ => rfl⟩))
 obtain ⟨p, hp⟩ := getx ol hlt
 obtain ⟨bp, op', ep, rp⟩ := x.on_.at hp
 have pbad : ¬ PairT a0 a1 (on.take i) p → Weak h K (.val (.bool false)) mx h := fun hn => bad mx hsub (Good.not hp hn)
 refine ⟨bp, op', ep, by omega, hlt, p, .imm rp, by omega, by omega, by omega, by omega, branch_dec (fun d1 => pbad fun hh => ?_) (fun d1 => branch_dec (fun d2 => pbad fun hh => ?_) (fun d2 => branch_dec (fun d3 => pbad fun hh => ?_) (fun d3 => branch_dec (fun d4 => pbad fun hh => ?_) (fun d4 => ?_))))⟩
 · have := inL_iff.1 hh.1; omega
 · have := inL_iff.1 hh.1; omega
 · have := inL_iff.1 hh.2.1; omega
 · have := inL_iff.1 hh.2.1; omega
 obtain ⟨b2, o2, e2, r2⟩ := i0.inb (n := p.1) (by omega) (by omega)
 obtain ⟨b3, o3, e3, r3⟩ := i1.inb (n := p.2) (by omega) (by omega)
 obtain ⟨y, hy, hys⟩ := hA.look (h := h) (n := p.1) (by omega) (by omega)
 obtain ⟨z, hz, hzs⟩ := hB.look (h := h) (n := p.2) (by omega) (by omega)
 obtain ⟨cs, E, hat, hsz, hst⟩ := hA.store (n := p.1) (by omega) (by omega)
 refine ⟨b2, o2, e2, by omega, by omega, _, .imm r2, b3, o3, e3, by omega, by omega, _, .imm r3, branch_intro (fun d5 => pbad fun hh => ?_) (fun d5 => ⟨by omega, by omega, y, hy, branch_intro (fun d6 => pbad fun hh => ?_) (fun d6 => ⟨by omega, by omega, z, hz, branch_intro (fun d7 => pbad fun hh => ?_) (fun d7 => ⟨by omega, by omega, cs, E, hat, hsz, fun m3 hm3 => ?_⟩)⟩)⟩)⟩
 · rw [hh.2.2.1] at d5; simp at d5
 · obtain ⟨q, hq, e⟩ := List.mem_map.1 (hys.1 d6)
   exact (hh.2.2.2 q hq).1 e
 · obtain ⟨q, hq, e⟩ := List.mem_map.1 (hzs.1 d7)
   exact (hh.2.2.2 q hq).2 e
 have hA3 := hst m3 hm3
 have hB3 := hB.other hne.symm hm3.other
 obtain ⟨cs2, E2, hat2, hsz2, hst2⟩ := hB3.store (n := p.2) (by omega) (by omega)
 refine ⟨by omega, by omega, cs2, E2, hat2, hsz2, fun m4 hm4 => ⟨(i + 1, s0, s1, b, c, m4), ⟨rfl, rfl, rfl, rfl, by omega, (hsub.upd hb.m_ hm3.other).upd hcm hm4.other, ?_, ?_, hg.succ hp ⟨inL_iff.2 ⟨by omega, by omega⟩, inL_iff.2 ⟨by omega, by omega⟩, by simpa using d5, fun q hq => ⟨fun e => ?_, fun e => ?_⟩⟩⟩, by show on.length - (i + 1) < on.length - i; omega, MT⟩⟩
 · rw [map_take_succ hp]; exact hA3.other hne hm4.other
 · rw [map_take_succ hp]; exact hst2 m4 hm4
 · rw [hys.2 (List.mem_map.2 ⟨q, hq, e⟩)] at d6; cases d6
 · rw [hzs.2 (List.mem_map.2 ⟨q, hq, e⟩)] at d7; cases d7
theorem f127_sound : Sound Tryz.prog 127 PairedNS := by
 refine fn_sound' (fn := Tryz.f127) (c := bodyOf Tryz.f127) Tryz.func127 rfl (by decide) ?_
 rintro cvs m h K ⟨n, s, ps, q, ks, rfl, hn, hK⟩
 refine ⟨f127_ctx n h, rfl, specs_cons f126_sound specs_nil, ?_⟩
 rw [← f127_vc n m h _]
 obtain ⟨op, ta, w, co, on, gr, od, li, args⟩ := q
 exact f127_ok hn hK
def fin (r : List Int × Int) : List Int × Int := if r.2 = 0 then limK r.1 else errK r.2
def Query.op : Query → Int
 | .mk op .. => op
def fullR (s : Sch) (ps : List Int) (q : Query) (ks : List (List Int)) : List Int × Int := if (ks.length : Int) = arity q.op then nodeR s ps q (ks.getD 0 []) (ks.getD 1 []) else errK 100
def TestS (P : Int → Prop) : Vc.Spec := fun cvs m h K => ∃ n s ps q ks, cvs = [aN n] ∧ RepN h s ps q ks n ∧ small8 s ∧ P q.op ∧ ∀ r, fin r = fullR s ps q ks → KR K m h r
def RepI (h : PH) (ss : Sl) (ks : List (List Int)) : Prop := RepL h 1 eS (fun k sl => Ints h sl k) ss ks
def ConcatS : Vc.Spec := fun cvs m h K => ∃ ss ks, cvs = [cS ss] ∧ RepI h ss ks ∧ ks.length ≤ 10 ∧ (∀ k ∈ ks, k.length ≤ 12) ∧ ∀ sl h', PH.le h h' → Ints h' sl ks.flatten → K (cS sl) m h'
def f114_ctx (n : NV) (m : MH) (h : PH) : Ctx :=
 ctx2 [(126, PlainNS)] [(5, { A := Nat × List Int, st := fun ⟨i, l⟩ => mkSt 57 58 [(1, .at (.ptr 1 0)), (4, .at (.lst 25)), (28, sv n.q.columns), (29, iv n.q.columns.len), (30, iv i)] [(1, .cells 155 (n.enc.map .val)), (25, .lst 3 1 (l.map eI))] m h })] [] [] false
def f112_nice (n : NV) (m : MH) (h : PH) (K : CV → MH → PH → Prop) : Prop :=
 ∃ (n_1 : NV) (k : Int), ∃ (u : QV) (s : Sch), ∃ (ps : List Int) (q : Query), ∃ (ks : List (List Int)) (uq : Query), [cQa [vQi n.s.version, vQs n.s.tables, vQs n.params, vQi n.q.op,
 vQi n.q.table, vQi n.q.where_.op, vQi n.q.where_.cmp, vQi n.q.where_.left.kind, vQi n.q.where_.left.index, vQi n.q.where_.left.value.kind, vQi n.q.where_.left.value.int,
 Value.string n.q.where_.left.value.text, vQi n.q.where_.right.kind, vQi n.q.where_.right.index, vQi n.q.where_.right.value.kind, vQi n.q.where_.right.value.int, Value.string
 n.q.where_.right.value.text, vQs n.q.where_.args, vQs n.q.columns, vQs n.q.on, vQs n.q.group, vQs n.q.order, vQi n.q.limit, vQs n.q.args, vQs n.args], cQi 0, cQa [vQi 0, vQi
 n.q.table, vQi 0, vQi 0, vQi 0, vQi 0, vQi 0, vQi 0, vQz, vQi 0, vQi 0, vQi 0, vQi 0, vQz, vQn, vQn, vQn, vQn, vQn, vQi 0, vQn]] = [cQa [vQi n_1.s.version, vQs n_1.s.tables, vQs
 n_1.params, vQi n_1.q.op, vQi n_1.q.table, vQi n_1.q.where_.op, vQi n_1.q.where_.cmp, vQi n_1.q.where_.left.kind, vQi n_1.q.where_.left.index, vQi n_1.q.where_.left.value.kind, vQi
 n_1.q.where_.left.value.int, Value.string n_1.q.where_.left.value.text, vQi n_1.q.where_.right.kind, vQi n_1.q.where_.right.index, vQi n_1.q.where_.right.value.kind, vQi
 n_1.q.where_.right.value.int, Value.string n_1.q.where_.right.value.text, vQs n_1.q.where_.args, vQs n_1.q.columns, vQs n_1.q.on, vQs n_1.q.group, vQs n_1.q.order, vQi n_1.q.limit,
 vQs n_1.q.args, vQs n_1.args], cQi k, cQa (QV.enc u)] /\ RepN h s ps q ks n_1 /\ RepQ h uq u /\ ∀ (r : Bool), (r = true ↔ (↑ks.length : Int) = k /\ q = uq.withOf q) -> branch (!r)
 (K (CV.tup [cQn, cQi 100]) m h) (branch (decide (n.q.table < 0)) (K (CV.tup [cQn, cQi 100]) m h) (branch (decide (n.q.table ≥ (↑n.s.tables.len : Int))) (K (CV.tup [cQn, cQi 100]) m
 h) (∃ (v : SchV) (s : Sch) (t : Int), [cQa [vQi n.s.version, vQs n.s.tables], cQi n.q.table] = [cQa [vQi v.version, vQs v.tables], cQi t] /\ RepS h s v /\ small8 s /\ ∀ (sl : Sl)
 (h' : PH), h.le h' -> Ints h' sl (kindsT s t) -> K (CV.tup [cQs sl, cQi 0]) m h')))
theorem f112_vc (n : NV) (m : MH) (h : PH) (K : CV → MH → PH → Prop) : f112_nice n m h K = (fnVC (ctx2 [(126, PlainNS), (62, KindsOfS)] [] [] [] false) Tryz.f112 (bodyOf Tryz.f112) (entry Tryz.f112.ntmps [aN n] m h) K) := by kernel_rfl
def f113_nice (n : NV) (m : MH) (h : PH) (K : CV → MH → PH → Prop) : Prop :=
 ∃ (n_1 : NV) (k : Int), ∃ (u : QV) (s : Sch), ∃ (ps : List Int) (q : Query), ∃ (ks : List (List Int)) (uq : Query), [cQa [vQi n.s.version, vQs n.s.tables, vQs n.params, vQi n.q.op,
 vQi n.q.table, vQi n.q.where_.op, vQi n.q.where_.cmp, vQi n.q.where_.left.kind, vQi n.q.where_.left.index, vQi n.q.where_.left.value.kind, vQi n.q.where_.left.value.int,
 Value.string n.q.where_.left.value.text, vQi n.q.where_.right.kind, vQi n.q.where_.right.index, vQi n.q.where_.right.value.kind, vQi n.q.where_.right.value.int, Value.string
 n.q.where_.right.value.text, vQs n.q.where_.args, vQs n.q.columns, vQs n.q.on, vQs n.q.group, vQs n.q.order, vQi n.q.limit, vQs n.q.args, vQs n.args], cQi 1, cQa [vQi 0, vQi 0, vQi
 n.q.where_.op, vQi n.q.where_.cmp, vQi n.q.where_.left.kind, vQi n.q.where_.left.index, vQi n.q.where_.left.value.kind, vQi n.q.where_.left.value.int, Value.string
 n.q.where_.left.value.text, vQi n.q.where_.right.kind, vQi n.q.where_.right.index, vQi n.q.where_.right.value.kind, vQi n.q.where_.right.value.int, Value.string
 n.q.where_.right.value.text, vQs n.q.where_.args, vQn, vQn, vQn, vQn, vQi 0, vQn]] = [cQa [vQi n_1.s.version, vQs n_1.s.tables, vQs n_1.params, vQi n_1.q.op, vQi n_1.q.table, vQi
 n_1.q.where_.op, vQi n_1.q.where_.cmp, vQi n_1.q.where_.left.kind, vQi n_1.q.where_.left.index, vQi n_1.q.where_.left.value.kind, vQi n_1.q.where_.left.value.int, Value.string
 n_1.q.where_.left.value.text, vQi n_1.q.where_.right.kind, vQi n_1.q.where_.right.index, vQi n_1.q.where_.right.value.kind, vQi n_1.q.where_.right.value.int, Value.string
 n_1.q.where_.right.value.text, vQs n_1.q.where_.args, vQs n_1.q.columns, vQs n_1.q.on, vQs n_1.q.group, vQs n_1.q.order, vQi n_1.q.limit, vQs n_1.q.args, vQs n_1.args], cQi k, cQa
 (QV.enc u)] /\ RepN h s ps q ks n_1 /\ RepQ h uq u /\ ∀ (r : Bool), (r = true ↔ (↑ks.length : Int) = k /\ q = uq.withOf q) -> branch (!r) (K (CV.tup [cQn, cQi 100]) m h) (∃ (b off
 : Nat), n.args.a = some (Addr.mk b off none) /\ (0 : Int) <= 0 /\ 0 < (↑n.args.len : Int) /\ ∃ (y : Sl), RdAt m h b (off + 0) [vQs y] /\ ∃ (s t : Sl) (v : PV), ∃ (cols params :
 List Int) (p : Pred), [cQs y, cQs n.params, cQa (PV.enc n.q.where_)] = [cQs s, cQs t, cQa (PV.enc v)] /\ Ints h s cols /\ Ints h t params /\ RepP h p v /\ branch (predErr cols
 params p != 0) (K (CV.tup [cQn, cQi (predErr cols params p)]) m h) (∃ (b off : Nat), n.args.a = some (Addr.mk b off none) /\ (0 : Int) <= 0 /\ 0 < (↑n.args.len : Int) /\ ∃ (y :
 Sl), RdAt m h b (off + 0) [vQs y] /\ K (CV.tup [cQs y, cQi 0]) m h))
theorem f113_vc (n : NV) (m : MH) (h : PH) (K : CV → MH → PH → Prop) : f113_nice n m h K = (fnVC (ctx2 [(126, PlainNS), (63, PredCheckS)] [] [] [] false) Tryz.f113 (bodyOf Tryz.f113) (entry Tryz.f113.ntmps [aN n] m h) K) := by kernel_rfl
def f114_nice (n : NV) (m : MH) (h : PH) (K : CV → MH → PH → Prop) : Prop :=
 ∃ (n_1 : NV) (k : Int), ∃ (u : QV) (s : Sch), ∃ (ps : List Int) (q : Query), ∃ (ks : List (List Int)) (uq : Query), [cQa [vQi n.s.version, vQs n.s.tables, vQs n.params, vQi n.q.op,
 vQi n.q.table, vQi n.q.where_.op, vQi n.q.where_.cmp, vQi n.q.where_.left.kind, vQi n.q.where_.left.index, vQi n.q.where_.left.value.kind, vQi n.q.where_.left.value.int,
 Value.string n.q.where_.left.value.text, vQi n.q.where_.right.kind, vQi n.q.where_.right.index, vQi n.q.where_.right.value.kind, vQi n.q.where_.right.value.int, Value.string
 n.q.where_.right.value.text, vQs n.q.where_.args, vQs n.q.columns, vQs n.q.on, vQs n.q.group, vQs n.q.order, vQi n.q.limit, vQs n.q.args, vQs n.args], cQi 1, cQa [vQi 0, vQi 0, vQi
 0, vQi 0, vQi 0, vQi 0, vQi 0, vQi 0, vQz, vQi 0, vQi 0, vQi 0, vQi 0, vQz, vQn, vQs n.q.columns, vQn, vQn, vQn, vQi 0, vQn]] = [cQa [vQi n_1.s.version, vQs n_1.s.tables, vQs
 n_1.params, vQi n_1.q.op, vQi n_1.q.table, vQi n_1.q.where_.op, vQi n_1.q.where_.cmp, vQi n_1.q.where_.left.kind, vQi n_1.q.where_.left.index, vQi n_1.q.where_.left.value.kind, vQi
 n_1.q.where_.left.value.int, Value.string n_1.q.where_.left.value.text, vQi n_1.q.where_.right.kind, vQi n_1.q.where_.right.index, vQi n_1.q.where_.right.value.kind, vQi
 n_1.q.where_.right.value.int, Value.string n_1.q.where_.right.value.text, vQs n_1.q.where_.args, vQs n_1.q.columns, vQs n_1.q.on, vQs n_1.q.group, vQs n_1.q.order, vQi n_1.q.limit,
 vQs n_1.q.args, vQs n_1.args], cQi k, cQa (QV.enc u)] /\ RepN h s ps q ks n_1 /\ RepQ h uq u /\ ∀ (r : Bool), (r = true ↔ (↑ks.length : Int) = k /\ q = uq.withOf q) -> branch (!r)
 (K (CV.tup [cQn, cQi 100]) m h) (branch ((↑n.q.columns.len : Int) == 0) (K (CV.tup [cQn, cQi 100]) m h) ((0 : Int) <= 0 /\ 0 <= (↑n.q.columns.len : Int) /\ (↑n.q.columns.len : Int)
 * 8 <= 281474976710656 /\ (↑n.q.columns.len : Int) <= 281474976710656 /\ ∃ (I : Nat × List Int -> Prop) (mu : Nat × List Int -> Nat), (∃ (x : Nat × List Int), I x /\ eP 1 /\ eL 25
 /\ eQ (sQs n.q.columns) /\ eQ (sQi ↑n.q.columns.len) /\ sQi 0 = sQi ↑x.1 /\ eQ (oQ 155 (aQi n.s.version :: aQs n.s.tables :: aQs n.params :: aQi n.q.op :: aQi n.q.table :: pQ
 n.q.where_ [aQs n.q.columns, aQs n.q.on, aQs n.q.group, aQs n.q.order, aQi n.q.limit, aQs n.q.args, aQs n.args])) /\ some (Own.lst 3 1 []) = some (Own.lst 3 1 (List.map eI x.2)) /\
 m = m /\ h = h /\ True) /\ ∀ (x : Nat × List Int), I x -> branch (decide ((↑x.1 : Int) < ↑n.q.columns.len)) (∃ (b off : Nat), n.q.columns.a = some (Addr.mk b off none) /\ 0 <=
 (↑x.1 : Int) /\ (↑x.1 : Int) < ↑n.q.columns.len /\ ∃ (y : Int), RdAt m h b (off + (↑x.1 : Int).toNat * 1) [vQi y] /\ branch (decide (y < 0)) (K (CV.tup [cQn, cQi 100]) m h) (∃ (b
 off : Nat), n.args.a = some (Addr.mk b off none) /\ (0 : Int) <= 0 /\ 0 < (↑n.args.len : Int) /\ ∃ (y_1 : Sl), RdAt m h b (off + 0) [vQs y_1] /\ branch (decide (y ≥ (↑y_1.len :
 Int))) (K (CV.tup [cQn, cQi 100]) m h) (∃ (b off : Nat), n.args.a = some (Addr.mk b off none) /\ (0 : Int) <= 0 /\ 0 < (↑n.args.len : Int) /\ ∃ (y_2 : Sl), RdAt m h b (off + 0)
 [vQs y_2] /\ ∃ (b off : Nat), y_2.a = some (Addr.mk b off none) /\ 0 <= y /\ y < (↑y_2.len : Int) /\ ∃ (y_3 : Int), RdAt m h b (off + y.toNat * 1) [vQi y_3] /\ ((List.map eI
 x.2).length + 1) * 8 <= 140737488355328 /\ (List.map eI x.2).length < 140737488355328 /\ ∃ (x_1 : Nat × List Int), I x_1 /\ mu x_1 < mu x /\ eP 1 /\ eL 25 /\ eQ (sQs n.q.columns)
 /\ eQ (sQi ↑n.q.columns.len) /\ sQi (IntKind.i64.wrap ((↑x.1 : Int) + 1)) = sQi ↑x_1.1 /\ eQ (oQ 155 (aQi n.s.version :: aQs n.s.tables :: aQs n.params :: aQi n.q.op :: aQi
 n.q.table :: pQ n.q.where_ [aQs n.q.columns, aQs n.q.on, aQs n.q.group, aQs n.q.order, aQi n.q.limit, aQs n.q.args, aQs n.args])) /\ some (Own.lst 3 1 (List.map eI x.2 ++ [[vQi
 y_3]])) = some (Own.lst 3 1 (List.map eI x_1.2)) /\ m = m /\ h = h /\ True))) (∀ (s : Sl) (h' : PH), h.le h' -> RowIn h' s 1 (List.map eI x.2) -> K (CV.tup [cQs s, cQi 0]) m h')))
theorem f114_vc (n : NV) (m : MH) (h : PH) (K : CV → MH → PH → Prop) : f114_nice n m h K = (fnVC (f114_ctx n m h) Tryz.f114 (bodyOf Tryz.f114) (entry Tryz.f114.ntmps [aN n] m h) K) := by kernel_rfl
def f115_nice (n : NV) (m : MH) (h : PH) (K : CV → MH → PH → Prop) : Prop :=
 ∃ (n_1 : NV) (s : Sch), ∃ (ps : List Int) (q : Query) (ks : List (List Int)), [cQa [vQi n.s.version, vQs n.s.tables, vQs n.params, vQi n.q.op, vQi n.q.table, vQi n.q.where_.op, vQi
 n.q.where_.cmp, vQi n.q.where_.left.kind, vQi n.q.where_.left.index, vQi n.q.where_.left.value.kind, vQi n.q.where_.left.value.int, Value.string n.q.where_.left.value.text, vQi
 n.q.where_.right.kind, vQi n.q.where_.right.index, vQi n.q.where_.right.value.kind, vQi n.q.where_.right.value.int, Value.string n.q.where_.right.value.text, vQs n.q.where_.args,
 vQs n.q.columns, vQs n.q.on, vQs n.q.group, vQs n.q.order, vQi n.q.limit, vQs n.q.args, vQs n.args]] = [cQa [vQi n_1.s.version, vQs n_1.s.tables, vQs n_1.params, vQi n_1.q.op, vQi
 n_1.q.table, vQi n_1.q.where_.op, vQi n_1.q.where_.cmp, vQi n_1.q.where_.left.kind, vQi n_1.q.where_.left.index, vQi n_1.q.where_.left.value.kind, vQi n_1.q.where_.left.value.int,
 Value.string n_1.q.where_.left.value.text, vQi n_1.q.where_.right.kind, vQi n_1.q.where_.right.index, vQi n_1.q.where_.right.value.kind, vQi n_1.q.where_.right.value.int,
 Value.string n_1.q.where_.right.value.text, vQs n_1.q.where_.args, vQs n_1.q.columns, vQs n_1.q.on, vQs n_1.q.group, vQs n_1.q.order, vQi n_1.q.limit, vQs n_1.q.args, vQs
 n_1.args]] /\ RepN h s ps q ks n_1 /\ ∀ (r : Bool), (r = true ↔ pairedQ ks q) -> branch (!r) (K (CV.tup [cQn, cQi 100]) m h) (∃ (b off : Nat), n.args.a = some (Addr.mk b off none)
 /\ (0 : Int) <= 0 /\ 0 < (↑n.args.len : Int) /\ ∃ (y : Sl), RdAt m h b (off + 0) [vQs y] /\ ∃ (b_1 off_1 : Nat), n.args.a = some (Addr.mk b_1 off_1 none) /\ (0 : Int) <= 1 /\ 1 <
 (↑n.args.len : Int) /\ ∃ (y_1 : Sl), RdAt m h b_1 (off_1 + 1) [vQs y_1] /\ RdCells h b (off + 0) [vQs y] /\ RdCells h b_1 (off_1 + 1) [vQs y_1] /\ ∀ (s : Sl) (h' : PH), h.le h' ->
 RowIn h' s 1 [[vQs y], [vQs y_1]] -> ∃ (ss : Sl) (ks : List (List Int)), [cQs s] = [cQs ss] /\ RepI h' ss ks /\ ks.length <= 10 /\ (∀ (k : List Int), List.Mem k ks -> k.length <=
 12) /\ ∀ (sl : Sl) (h'_1 : PH), h'.le h'_1 -> Ints h'_1 sl ks.flatten -> K (CV.tup [cQs sl, cQi 0]) m h'_1)
theorem f115_vc (n : NV) (m : MH) (h : PH) (K : CV → MH → PH → Prop) : f115_nice n m h K = (fnVC (ctx2 [(127, PairedNS), (101, ConcatS)] [] [] [] false) Tryz.f115 (bodyOf Tryz.f115) (entry Tryz.f115.ntmps [aN n] m h) K) := by kernel_rfl
def f116_nice (n : NV) (m : MH) (h : PH) (K : CV → MH → PH → Prop) : Prop :=
 ∃ (n_1 : NV) (s : Sch), ∃ (ps : List Int) (q : Query) (ks : List (List Int)), [cQa [vQi n.s.version, vQs n.s.tables, vQs n.params, vQi n.q.op, vQi n.q.table, vQi n.q.where_.op, vQi
 n.q.where_.cmp, vQi n.q.where_.left.kind, vQi n.q.where_.left.index, vQi n.q.where_.left.value.kind, vQi n.q.where_.left.value.int, Value.string n.q.where_.left.value.text, vQi
 n.q.where_.right.kind, vQi n.q.where_.right.index, vQi n.q.where_.right.value.kind, vQi n.q.where_.right.value.int, Value.string n.q.where_.right.value.text, vQs n.q.where_.args,
 vQs n.q.columns, vQs n.q.on, vQs n.q.group, vQs n.q.order, vQi n.q.limit, vQs n.q.args, vQs n.args]] = [cQa [vQi n_1.s.version, vQs n_1.s.tables, vQs n_1.params, vQi n_1.q.op, vQi
 n_1.q.table, vQi n_1.q.where_.op, vQi n_1.q.where_.cmp, vQi n_1.q.where_.left.kind, vQi n_1.q.where_.left.index, vQi n_1.q.where_.left.value.kind, vQi n_1.q.where_.left.value.int,
 Value.string n_1.q.where_.left.value.text, vQi n_1.q.where_.right.kind, vQi n_1.q.where_.right.index, vQi n_1.q.where_.right.value.kind, vQi n_1.q.where_.right.value.int,
 Value.string n_1.q.where_.right.value.text, vQs n_1.q.where_.args, vQs n_1.q.columns, vQs n_1.q.on, vQs n_1.q.group, vQs n_1.q.order, vQi n_1.q.limit, vQs n_1.q.args, vQs
 n_1.args]] /\ RepN h s ps q ks n_1 /\ ∀ (r : Bool), (r = true ↔ pairedQ ks q) -> branch (!r) (K (CV.tup [cQn, cQi 100]) m h) (∃ (b off : Nat), n.args.a = some (Addr.mk b off none)
 /\ (0 : Int) <= 0 /\ 0 < (↑n.args.len : Int) /\ ∃ (y : Sl), RdAt m h b (off + 0) [vQs y] /\ K (CV.tup [cQs y, cQi 0]) m h)
theorem f116_vc (n : NV) (m : MH) (h : PH) (K : CV → MH → PH → Prop) : f116_nice n m h K = (fnVC (ctx2 [(127, PairedNS)] [] [] [] false) Tryz.f116 (bodyOf Tryz.f116) (entry Tryz.f116.ntmps [aN n] m h) K) := by kernel_rfl
def f117_nice (n : NV) (m : MH) (h : PH) (K : CV → MH → PH → Prop) : Prop :=
 ∃ (n_1 : NV) (k : Int), ∃ (u : QV) (s : Sch), ∃ (ps : List Int) (q : Query), ∃ (ks : List (List Int)) (uq : Query), [cQa [vQi n.s.version, vQs n.s.tables, vQs n.params, vQi n.q.op,
 vQi n.q.table, vQi n.q.where_.op, vQi n.q.where_.cmp, vQi n.q.where_.left.kind, vQi n.q.where_.left.index, vQi n.q.where_.left.value.kind, vQi n.q.where_.left.value.int,
 Value.string n.q.where_.left.value.text, vQi n.q.where_.right.kind, vQi n.q.where_.right.index, vQi n.q.where_.right.value.kind, vQi n.q.where_.right.value.int, Value.string
 n.q.where_.right.value.text, vQs n.q.where_.args, vQs n.q.columns, vQs n.q.on, vQs n.q.group, vQs n.q.order, vQi n.q.limit, vQs n.q.args, vQs n.args], cQi 2, cQa zV] = [cQa [vQi
 n_1.s.version, vQs n_1.s.tables, vQs n_1.params, vQi n_1.q.op, vQi n_1.q.table, vQi n_1.q.where_.op, vQi n_1.q.where_.cmp, vQi n_1.q.where_.left.kind, vQi n_1.q.where_.left.index,
 vQi n_1.q.where_.left.value.kind, vQi n_1.q.where_.left.value.int, Value.string n_1.q.where_.left.value.text, vQi n_1.q.where_.right.kind, vQi n_1.q.where_.right.index, vQi
 n_1.q.where_.right.value.kind, vQi n_1.q.where_.right.value.int, Value.string n_1.q.where_.right.value.text, vQs n_1.q.where_.args, vQs n_1.q.columns, vQs n_1.q.on, vQs
 n_1.q.group, vQs n_1.q.order, vQi n_1.q.limit, vQs n_1.q.args, vQs n_1.args], cQi k, cQa (QV.enc u)] /\ RepN h s ps q ks n_1 /\ RepQ h uq u /\ ∀ (r : Bool), (r = true ↔ (↑ks.length
 : Int) = k /\ q = uq.withOf q) -> branch (!r) (K (CV.tup [cQn, cQi 100]) m h) (∃ (b off : Nat), n.args.a = some (Addr.mk b off none) /\ (0 : Int) <= 0 /\ 0 < (↑n.args.len : Int) /\
 ∃ (y : Sl), RdAt m h b (off + 0) [vQs y] /\ ∃ (b off : Nat), n.args.a = some (Addr.mk b off none) /\ (0 : Int) <= 1 /\ 1 < (↑n.args.len : Int) /\ ∃ (y_1 : Sl), RdAt m h b (off + 1)
 [vQs y_1] /\ ∃ (s t : Sl), ∃ (a b : List Int), [cQs y, cQs y_1] = [cQs s, cQs t] /\ Ints h s a /\ Ints h t b /\ ∀ (r : Bool), (r = true ↔ a = b) -> branch (!r) (K (CV.tup [cQn, cQi
 100]) m h) (∃ (b off : Nat), n.args.a = some (Addr.mk b off none) /\ (0 : Int) <= 0 /\ 0 < (↑n.args.len : Int) /\ ∃ (y : Sl), RdAt m h b (off + 0) [vQs y] /\ K (CV.tup [cQs y, cQi
 0]) m h))
theorem f117_vc (n : NV) (m : MH) (h : PH) (K : CV → MH → PH → Prop) : f117_nice n m h K = (fnVC (ctx2 [(126, PlainNS), (99, SameInts)] [] [] [] false) Tryz.f117 (bodyOf Tryz.f117) (entry Tryz.f117.ntmps [aN n] m h) K) := by kernel_rfl
def f118_nice (n : NV) (m : MH) (h : PH) (K : CV → MH → PH → Prop) : Prop :=
 ∃ (n_1 : NV) (s : Sch), ∃ (ps : List Int) (q : Query) (ks : List (List Int)), [cQa [vQi n.s.version, vQs n.s.tables, vQs n.params, vQi n.q.op, vQi n.q.table, vQi n.q.where_.op, vQi
 n.q.where_.cmp, vQi n.q.where_.left.kind, vQi n.q.where_.left.index, vQi n.q.where_.left.value.kind, vQi n.q.where_.left.value.int, Value.string n.q.where_.left.value.text, vQi
 n.q.where_.right.kind, vQi n.q.where_.right.index, vQi n.q.where_.right.value.kind, vQi n.q.where_.right.value.int, Value.string n.q.where_.right.value.text, vQs n.q.where_.args,
 vQs n.q.columns, vQs n.q.on, vQs n.q.group, vQs n.q.order, vQi n.q.limit, vQs n.q.args, vQs n.args]] = [cQa [vQi n_1.s.version, vQs n_1.s.tables, vQs n_1.params, vQi n_1.q.op, vQi
 n_1.q.table, vQi n_1.q.where_.op, vQi n_1.q.where_.cmp, vQi n_1.q.where_.left.kind, vQi n_1.q.where_.left.index, vQi n_1.q.where_.left.value.kind, vQi n_1.q.where_.left.value.int,
 Value.string n_1.q.where_.left.value.text, vQi n_1.q.where_.right.kind, vQi n_1.q.where_.right.index, vQi n_1.q.where_.right.value.kind, vQi n_1.q.where_.right.value.int,
 Value.string n_1.q.where_.right.value.text, vQs n_1.q.where_.args, vQs n_1.q.columns, vQs n_1.q.on, vQs n_1.q.group, vQs n_1.q.order, vQi n_1.q.limit, vQs n_1.q.args, vQs
 n_1.args]] /\ RepN h s ps q ks n_1 /\ ∃ (n_2 : NV) (k : Int), ∃ (u : QV) (s : Sch), ∃ (ps : List Int) (q : Query), ∃ (ks : List (List Int)) (uq : Query), [cQa [vQi n.s.version, vQs
 n.s.tables, vQs n.params, vQi n.q.op, vQi n.q.table, vQi n.q.where_.op, vQi n.q.where_.cmp, vQi n.q.where_.left.kind, vQi n.q.where_.left.index, vQi n.q.where_.left.value.kind, vQi
 n.q.where_.left.value.int, Value.string n.q.where_.left.value.text, vQi n.q.where_.right.kind, vQi n.q.where_.right.index, vQi n.q.where_.right.value.kind, vQi
 n.q.where_.right.value.int, Value.string n.q.where_.right.value.text, vQs n.q.where_.args, vQs n.q.columns, vQs n.q.on, vQs n.q.group, vQs n.q.order, vQi n.q.limit, vQs n.q.args,
 vQs n.args], cQi 1, cQa [vQi 0, vQi 0, vQi 0, vQi 0, vQi 0, vQi 0, vQi 0, vQi 0, vQz, vQi 0, vQi 0, vQi 0, vQi 0, vQz, vQn, vQn, vQn, vQs n_1.q.group, vQs n_1.q.order, vQi
 n_1.q.limit, vQn]] = [cQa [vQi n_2.s.version, vQs n_2.s.tables, vQs n_2.params, vQi n_2.q.op, vQi n_2.q.table, vQi n_2.q.where_.op, vQi n_2.q.where_.cmp, vQi
 n_2.q.where_.left.kind, vQi n_2.q.where_.left.index, vQi n_2.q.where_.left.value.kind, vQi n_2.q.where_.left.value.int, Value.string n_2.q.where_.left.value.text, vQi
 n_2.q.where_.right.kind, vQi n_2.q.where_.right.index, vQi n_2.q.where_.right.value.kind, vQi n_2.q.where_.right.value.int, Value.string n_2.q.where_.right.value.text, vQs
 n_2.q.where_.args, vQs n_2.q.columns, vQs n_2.q.on, vQs n_2.q.group, vQs n_2.q.order, vQi n_2.q.limit, vQs n_2.q.args, vQs n_2.args], cQi k, cQa (QV.enc u)] /\ RepN h s ps q ks n_2
 /\ RepQ h uq u /\ ∀ (r : Bool), (r = true ↔ (↑ks.length : Int) = k /\ q = uq.withOf q) -> branch (!r) (K (CV.tup [cQn, cQi 100]) m h) (∃ (n_3 : NV) (s : Sch), ∃ (ps : List Int) (q
 : Query), ∃ (ks : List (List Int)) (a : List Int), [cQa [vQi n.s.version, vQs n.s.tables, vQs n.params, vQi n.q.op, vQi n.q.table, vQi n.q.where_.op, vQi n.q.where_.cmp, vQi
 n.q.where_.left.kind, vQi n.q.where_.left.index, vQi n.q.where_.left.value.kind, vQi n.q.where_.left.value.int, Value.string n.q.where_.left.value.text, vQi n.q.where_.right.kind,
 vQi n.q.where_.right.index, vQi n.q.where_.right.value.kind, vQi n.q.where_.right.value.int, Value.string n.q.where_.right.value.text, vQs n.q.where_.args, vQs n.q.columns, vQs
 n.q.on, vQs n.q.group, vQs n.q.order, vQi n.q.limit, vQs n.q.args, vQs n.args]] = [cQa [vQi n_3.s.version, vQs n_3.s.tables, vQs n_3.params, vQi n_3.q.op, vQi n_3.q.table, vQi
 n_3.q.where_.op, vQi n_3.q.where_.cmp, vQi n_3.q.where_.left.kind, vQi n_3.q.where_.left.index, vQi n_3.q.where_.left.value.kind, vQi n_3.q.where_.left.value.int, Value.string
 n_3.q.where_.left.value.text, vQi n_3.q.where_.right.kind, vQi n_3.q.where_.right.index, vQi n_3.q.where_.right.value.kind, vQi n_3.q.where_.right.value.int, Value.string
 n_3.q.where_.right.value.text, vQs n_3.q.where_.args, vQs n_3.q.columns, vQs n_3.q.on, vQs n_3.q.group, vQs n_3.q.order, vQi n_3.q.limit, vQs n_3.q.args, vQs n_3.args]] /\ RepN h s
 ps q ks n_3 /\ ks[0]? = some a /\ ∀ (r : Bool), (r = true ↔ ∃ (op ta : Int) (w : Pred), ∃ (co : List Int) (on : List (Int × Int)), ∃ (gr : List Int) (od : List (Int × Bool)), ∃ (li
 : Int) (args : List Query), q = Query.mk op ta w co on gr od li args /\ RankOk a gr od li) -> branch (!r) (K (CV.tup [cQn, cQi 100]) m h) (∃ (b off : Nat), n.args.a = some (Addr.mk
 b off none) /\ (0 : Int) <= 0 /\ 0 < (↑n.args.len : Int) /\ ∃ (y : Sl), RdAt m h b (off + 0) [vQs y] /\ K (CV.tup [cQs y, cQi 0]) m h))
theorem f118_vc (n : NV) (m : MH) (h : PH) (K : CV → MH → PH → Prop) : f118_nice n m h K = (fnVC (ctx2 [(126, PlainNS), (128, RankingS), (129, RankedNS)] [] [] [] false) Tryz.f118 (bodyOf Tryz.f118) (entry Tryz.f118.ntmps [aN n] m h) K) := by kernel_rfl
def f119_nice (n : NV) (m : MH) (h : PH) (K : CV → MH → PH → Prop) : Prop :=
 ∃ (n_1 : NV) (s : Sch), ∃ (ps : List Int) (q : Query) (ks : List (List Int)), [cQa [vQi n.s.version, vQs n.s.tables, vQs n.params, vQi n.q.op, vQi n.q.table, vQi n.q.where_.op, vQi
 n.q.where_.cmp, vQi n.q.where_.left.kind, vQi n.q.where_.left.index, vQi n.q.where_.left.value.kind, vQi n.q.where_.left.value.int, Value.string n.q.where_.left.value.text, vQi
 n.q.where_.right.kind, vQi n.q.where_.right.index, vQi n.q.where_.right.value.kind, vQi n.q.where_.right.value.int, Value.string n.q.where_.right.value.text, vQs n.q.where_.args,
 vQs n.q.columns, vQs n.q.on, vQs n.q.group, vQs n.q.order, vQi n.q.limit, vQs n.q.args, vQs n.args]] = [cQa [vQi n_1.s.version, vQs n_1.s.tables, vQs n_1.params, vQi n_1.q.op, vQi
 n_1.q.table, vQi n_1.q.where_.op, vQi n_1.q.where_.cmp, vQi n_1.q.where_.left.kind, vQi n_1.q.where_.left.index, vQi n_1.q.where_.left.value.kind, vQi n_1.q.where_.left.value.int,
 Value.string n_1.q.where_.left.value.text, vQi n_1.q.where_.right.kind, vQi n_1.q.where_.right.index, vQi n_1.q.where_.right.value.kind, vQi n_1.q.where_.right.value.int,
 Value.string n_1.q.where_.right.value.text, vQs n_1.q.where_.args, vQs n_1.q.columns, vQs n_1.q.on, vQs n_1.q.group, vQs n_1.q.order, vQi n_1.q.limit, vQs n_1.q.args, vQs
 n_1.args]] /\ RepN h s ps q ks n_1 /\ ∃ (n_2 : NV) (k : Int), ∃ (u : QV) (s : Sch), ∃ (ps : List Int) (q : Query), ∃ (ks : List (List Int)) (uq : Query), [cQa [vQi n.s.version, vQs
 n.s.tables, vQs n.params, vQi n.q.op, vQi n.q.table, vQi n.q.where_.op, vQi n.q.where_.cmp, vQi n.q.where_.left.kind, vQi n.q.where_.left.index, vQi n.q.where_.left.value.kind, vQi
 n.q.where_.left.value.int, Value.string n.q.where_.left.value.text, vQi n.q.where_.right.kind, vQi n.q.where_.right.index, vQi n.q.where_.right.value.kind, vQi
 n.q.where_.right.value.int, Value.string n.q.where_.right.value.text, vQs n.q.where_.args, vQs n.q.columns, vQs n.q.on, vQs n.q.group, vQs n.q.order, vQi n.q.limit, vQs n.q.args,
 vQs n.args], cQi 2, cQa [vQi 0, vQi 0, vQi 0, vQi 0, vQi 0, vQi 0, vQi 0, vQi 0, vQz, vQi 0, vQi 0, vQi 0, vQi 0, vQz, vQn, vQn, vQn, vQs n_1.q.group, vQs n_1.q.order, vQi
 n_1.q.limit, vQn]] = [cQa [vQi n_2.s.version, vQs n_2.s.tables, vQs n_2.params, vQi n_2.q.op, vQi n_2.q.table, vQi n_2.q.where_.op, vQi n_2.q.where_.cmp, vQi
 n_2.q.where_.left.kind, vQi n_2.q.where_.left.index, vQi n_2.q.where_.left.value.kind, vQi n_2.q.where_.left.value.int, Value.string n_2.q.where_.left.value.text, vQi
 n_2.q.where_.right.kind, vQi n_2.q.where_.right.index, vQi n_2.q.where_.right.value.kind, vQi n_2.q.where_.right.value.int, Value.string n_2.q.where_.right.value.text, vQs
 n_2.q.where_.args, vQs n_2.q.columns, vQs n_2.q.on, vQs n_2.q.group, vQs n_2.q.order, vQi n_2.q.limit, vQs n_2.q.args, vQs n_2.args], cQi k, cQa (QV.enc u)] /\ RepN h s ps q ks n_2
 /\ RepQ h uq u /\ ∀ (r : Bool), (r = true ↔ (↑ks.length : Int) = k /\ q = uq.withOf q) -> branch (!r) (K (CV.tup [cQn, cQi 100]) m h) (∃ (b off : Nat), n.args.a = some (Addr.mk b
 off none) /\ (0 : Int) <= 0 /\ 0 < (↑n.args.len : Int) /\ ∃ (y : Sl), RdAt m h b (off + 0) [vQs y] /\ ∃ (b_1 off_1 : Nat), n.args.a = some (Addr.mk b_1 off_1 none) /\ (0 : Int) <=
 1 /\ 1 < (↑n.args.len : Int) /\ ∃ (y_1 : Sl), RdAt m h b_1 (off_1 + 1) [vQs y_1] /\ ∃ (s t : Sl), ∃ (a b_2 : List Int), [cQs y, cQs y_1] = [cQs s, cQs t] /\ Ints h s a /\ Ints h t
 b_2 /\ ∀ (r : Bool), (r = true ↔ a = b_2) -> branch (!r) (RdCells h b (off + 0) [vQs y] /\ RdCells h b_1 (off_1 + 1) [vQs y_1] /\ K (CV.tup [cQn, cQi 100]) m h) (RdCells h b (off +
 0) [vQs y] /\ RdCells h b_1 (off_1 + 1) [vQs y_1] /\ ∃ (n_3 : NV) (s : Sch), ∃ (ps : List Int) (q : Query), ∃ (ks : List (List Int)) (a : List Int), [cQa [vQi n.s.version, vQs
 n.s.tables, vQs n.params, vQi n.q.op, vQi n.q.table, vQi n.q.where_.op, vQi n.q.where_.cmp, vQi n.q.where_.left.kind, vQi n.q.where_.left.index, vQi n.q.where_.left.value.kind, vQi
 n.q.where_.left.value.int, Value.string n.q.where_.left.value.text, vQi n.q.where_.right.kind, vQi n.q.where_.right.index, vQi n.q.where_.right.value.kind, vQi
 n.q.where_.right.value.int, Value.string n.q.where_.right.value.text, vQs n.q.where_.args, vQs n.q.columns, vQs n.q.on, vQs n.q.group, vQs n.q.order, vQi n.q.limit, vQs n.q.args,
 vQs n.args]] = [cQa [vQi n_3.s.version, vQs n_3.s.tables, vQs n_3.params, vQi n_3.q.op, vQi n_3.q.table, vQi n_3.q.where_.op, vQi n_3.q.where_.cmp, vQi n_3.q.where_.left.kind, vQi
 n_3.q.where_.left.index, vQi n_3.q.where_.left.value.kind, vQi n_3.q.where_.left.value.int, Value.string n_3.q.where_.left.value.text, vQi n_3.q.where_.right.kind, vQi
 n_3.q.where_.right.index, vQi n_3.q.where_.right.value.kind, vQi n_3.q.where_.right.value.int, Value.string n_3.q.where_.right.value.text, vQs n_3.q.where_.args, vQs n_3.q.columns,
 vQs n_3.q.on, vQs n_3.q.group, vQs n_3.q.order, vQi n_3.q.limit, vQs n_3.q.args, vQs n_3.args]] /\ RepN h s ps q ks n_3 /\ ks[0]? = some a /\ ∀ (r : Bool), (r = true ↔ ∃ (op ta :
 Int) (w : Pred), ∃ (co : List Int) (on : List (Int × Int)), ∃ (gr : List Int) (od : List (Int × Bool)), ∃ (li : Int) (args : List Query), q = Query.mk op ta w co on gr od li args
 /\ RankOk a gr od li) -> branch (!r) (K (CV.tup [cQn, cQi 100]) m h) (∃ (b off : Nat), n.args.a = some (Addr.mk b off none) /\ (0 : Int) <= 0 /\ 0 < (↑n.args.len : Int) /\ ∃ (y :
 Sl), RdAt m h b (off + 0) [vQs y] /\ K (CV.tup [cQs y, cQi 0]) m h)))
theorem f119_vc (n : NV) (m : MH) (h : PH) (K : CV → MH → PH → Prop) : f119_nice n m h K = (fnVC (ctx2 [(126, PlainNS), (99, SameInts), (128, RankingS), (129, RankedNS)] [] [] [] false) Tryz.f119 (bodyOf Tryz.f119) (entry Tryz.f119.ntmps [aN n] m h) K) := by kernel_rfl
theorem fin_err {e : Int} (h : e ≠ 0) : fin (errK e) = errK e := by unfold fin; rw [if_neg (by simpa [errK] using h)]; rfl
theorem fin_lim (l : List Int) : fin (l, 0) = limK l := by unfold fin; rw [if_pos rfl]
structure Tst (K : CV → MH → PH → Prop) (m : MH) (h : PH) (full : List Int × Int) : Prop where
 all : ∀ r, fin r = full → KR K m h r
theorem Tst.err {f : List Int × Int} {e : Int} (x : Tst K m h f) (he : f = errK e) (h0 : e ≠ 0) (hle : PH.le h h') : K (.tup [.val (.slice none 0 0), .val (.int .i64 e)]) m h' :=
 (x.all (errK e) (by rw [he, fin_err h0])).err hle rfl
theorem Tst.ok {f : List Int × Int} {sl : Sl} (x : Tst K m h f) (he : f = limK l) (hle : PH.le h h') (hi : Ints h' sl l) : K (.tup [.val (.slice sl.a sl.len sl.cap), .val (.int .i64 0)]) m h' :=
 x.all (l, 0) (by rw [he, fin_lim]) sl h' hle hi
theorem full_bad (h : ¬ ((ks.length : Int) = arity q.op ∧ UnusedOk q)) : fullR s ps q ks = errK 100 := by
 unfold fullR
 by_cases h1 : (ks.length : Int) = arity q.op
 · rw [if_pos h1]
   unfold nodeR
   rw [if_pos (.inr fun e => h ⟨h1, e⟩)]
 · rw [if_neg h1]
theorem full_good {s : Sch} {ps : List Int} {op ta : Int} {w : Pred} {co : List Int} {on : List (Int × Int)} {gr : List Int} {od : List (Int × Bool)} {li : Int} {args : List Query} {ks : List (List Int)} (h1 : (ks.length : Int) = arity op) (h2 : UnusedOk (.mk op ta w co on gr od li args)) (h0 : 0 ≤ arity op) :
 fullR s ps (.mk op ta w co on gr od li args) ks = nodeR s ps (.mk op ta w co on gr od li args) (ks.getD 0 []) (ks.getD 1 []) ∧ ¬ (arity op < 0 ∨ ¬ UnusedOk (.mk op ta w co on gr od li args)) := by
 unfold fullR
 rw [if_pos (show (ks.length : Int) = arity (Query.op (.mk op ta w co on gr od li args)) from h1)]
 exact ⟨rfl, fun e => e.elim (fun e => by omega) fun e => e h2⟩
section
variable {n : NV} {s : Sch} {ps : List Int} {ta : Int} {w : Pred} {co : List Int} {on : List (Int × Int)} {gr : List Int} {od : List (Int × Bool)} {li : Int} {args : List Query} {ks : List (List Int)} {m : MH} {h : PH} {K : CV → MH → PH → Prop}
theorem one_of (hk : (ks.length : Int) = 1) : ∃ a, ks = [a] := by
 match ks, hk with
 | [a], _ => exact ⟨a, rfl⟩
 | [], h => simp at h
 | _ :: _ :: _, h => simp at h; omega
theorem two_of (hk : (ks.length : Int) = 2) : ∃ a b, ks = [a, b] := by
 match ks, hk with
 | [a, b], _ => exact ⟨a, b, rfl⟩
 | [], h => simp at h
 | [_], h => simp at h
 | _ :: _ :: _ :: _, h => simp at h; omega
theorem f112_ok (hn : RepN h s ps (.mk 1 ta w co on gr od li args) ks n) (h8 : small8 s) (hT : Tst K m h (fullR s ps (.mk 1 ta w co on gr od li args) ks)) : f112_nice n m h K := by
 have x := hn.q_.parts
 have et := x.table_
 have sl := hn.s_.tables.slen
 refine ⟨n, 0, ⟨0, n.q.table, ⟨0, 0, zeroO, zeroO, ⟨none, 0, 0⟩⟩, ⟨none, 0, 0⟩, ⟨none, 0, 0⟩, ⟨none, 0, 0⟩, ⟨none, 0, 0⟩, 0, ⟨none, 0, 0⟩⟩, s, ps, _, ks, .mk 0 ta zeroP [] [] [] [] 0 [], rfl, hn, QParts.rep ⟨rfl, et, repZero h, ⟨.nil _ _, by simp⟩, ⟨.nil _ _, by simp⟩, ⟨.nil _ _, by simp⟩, ⟨.nil _ _, by simp⟩, rfl, .nil _ _ _ _⟩, fun r hr => branch_intro (fun h1 => hT.err (full_bad fun e => ?_) (by omega) (.refl _)) (fun h1 => ?_)⟩
 · have : r = true := hr.2 ⟨e.1, by have := e.2; simp [UnusedOk] at this; obtain ⟨rfl, rfl, rfl, rfl, rfl, rfl⟩ := this; rfl⟩
   rw [this] at h1; cases h1
 obtain ⟨hk, heq⟩ := hr.1 (by simpa using h1)
 simp only [Query.withOf, Query.mk.injEq] at heq
 obtain ⟨_, _, rfl, rfl, rfl, rfl, rfl, rfl, _⟩ := heq
 obtain ⟨hf, hg⟩ := full_good (s := s) (ps := ps) (op := 1) (ta := ta) (w := zeroP) (co := []) (on := []) (gr := []) (od := []) (li := 0) (args := args) (ks := ks) hk (by simp [UnusedOk]) (by decide)
 rw [hf] at hT
 unfold nodeR at hT
 rw [if_neg hg] at hT
 dsimp only at hT
 rw [if_pos rfl] at hT
 refine branch_dec (fun d1 => hT.err (if_neg (by omega)) (by omega) (.refl _)) (fun d1 => branch_dec (fun d2 => hT.err (if_neg (by omega)) (by omega) (.refl _)) (fun d2 => ⟨n.s, s, n.q.table, rfl, hn.s_, h8, fun sl h' hle hi => ?_⟩))
 rw [et] at hi
 exact hT.ok (if_pos (by omega)) hle hi
theorem f113_ok (hn : RepN h s ps (.mk 2 ta w co on gr od li args) ks n) (hT : Tst K m h (fullR s ps (.mk 2 ta w co on gr od li args) ks)) : f113_nice n m h K := by
 have x := hn.q_.parts
 refine ⟨n, 1, ⟨0, 0, n.q.where_, ⟨none, 0, 0⟩, ⟨none, 0, 0⟩, ⟨none, 0, 0⟩, ⟨none, 0, 0⟩, 0, ⟨none, 0, 0⟩⟩, s, ps, _, ks, .mk 0 0 w [] [] [] [] 0 [], rfl, hn, QParts.rep ⟨rfl, rfl, x.where_, ⟨.nil _ _, by simp⟩, ⟨.nil _ _, by simp⟩, ⟨.nil _ _, by simp⟩, ⟨.nil _ _, by simp⟩, rfl, .nil _ _ _ _⟩, fun r hr => branch_intro (fun h1 => hT.err (full_bad fun e => ?_) (by omega) (.refl _)) (fun h1 => ?_)⟩
 · have : r = true := hr.2 ⟨e.1, by have := e.2; simp [UnusedOk] at this; obtain ⟨rfl, rfl, rfl, rfl, rfl, rfl⟩ := this; rfl⟩
   rw [this] at h1; cases h1
 obtain ⟨hk, heq⟩ := hr.1 (by simpa using h1)
 simp only [Query.withOf, Query.mk.injEq] at heq
 obtain ⟨_, rfl, _, rfl, rfl, rfl, rfl, rfl, _⟩ := heq
 obtain ⟨hf, hg⟩ := full_good (s := s) (ps := ps) (op := 2) (ta := 0) (w := w) (co := []) (on := []) (gr := []) (od := []) (li := 0) (args := args) (ks := ks) hk (by simp [UnusedOk]) (by decide)
 rw [hf] at hT
 unfold nodeR at hT
 rw [if_neg hg] at hT
 dsimp only at hT
 rw [if_neg (by decide), if_pos rfl] at hT
 obtain ⟨a, rfl⟩ := one_of hk
 obtain ⟨b0, o0, s0, e0, r0, i0, l0, j0⟩ := hn.arg (j := 0) rfl
 simp only [List.getD_cons_zero] at hT
 refine ⟨b0, o0, e0, by omega, by omega, s0, .imm (by simpa using r0), s0, n.params, n.q.where_, a, ps, w, rfl, i0, hn.ps_, x.where_, branch_intro (fun d1 => hT.err (if_neg (by simpa using d1)) (by simpa using d1) (.refl _)) (fun d1 => ⟨b0, o0, e0, by omega, by omega, s0, .imm (by simpa using r0), hT.ok (if_pos (by simpa using d1)) (.refl _) i0⟩)⟩
theorem f116_ok (hn : RepN h s ps (.mk 5 ta w co on gr od li args) ks n) (hT : Tst K m h (fullR s ps (.mk 5 ta w co on gr od li args) ks)) : f116_nice n m h K := by
 refine ⟨n, s, ps, _, ks, rfl, hn, fun r hr => branch_intro (fun h1 => hT.err ?_ (by omega) (.refl _)) (fun h1 => ?_)⟩
 · by_cases hb : ((ks.length : Int) = arity 5 ∧ UnusedOk (.mk 5 ta w co on gr od li args))
   · obtain ⟨hf, hg⟩ := full_good (s := s) (ps := ps) hb.1 hb.2 (by decide)
     rw [hf]
     unfold nodeR
     rw [if_neg hg]
     dsimp only
     rw [if_neg (by decide), if_neg (by decide), if_neg (by decide), if_neg (by decide), if_pos rfl, if_neg]
     intro hgood
     have h2 := hb.2
     simp [UnusedOk] at h2
     have : r = true := hr.2 ⟨by have := hb.1; simp [arity] at this; omega, h2.1, h2.2.1, h2.2.2.1, h2.2.2.2.1, h2.2.2.2.2.1, h2.2.2.2.2.2, hgood⟩
     rw [this] at h1; cases h1
   · exact full_bad hb
 obtain ⟨hk, rfl, rfl, rfl, rfl, rfl, rfl, hgood⟩ := hr.1 (by simpa using h1)
 obtain ⟨hf, hg⟩ := full_good (s := s) (ps := ps) (op := 5) (ta := 0) (w := zeroP) (co := []) (on := on) (gr := []) (od := []) (li := 0) (args := args) (ks := ks) (by rw [hk]; rfl) (by simp [UnusedOk]) (by decide)
 rw [hf] at hT
 unfold nodeR at hT
 rw [if_neg hg] at hT
 dsimp only at hT
 rw [if_neg (by decide), if_neg (by decide), if_neg (by decide), if_neg (by decide), if_pos rfl, if_pos hgood] at hT
 obtain ⟨a, b, rfl⟩ := two_of (ks := ks) (by omega)
 obtain ⟨b0, o0, s0, e0, r0, i0, l0, j0⟩ := hn.arg (j := 0) rfl
 exact ⟨b0, o0, e0, by omega, by omega, s0, .imm (by simpa using r0), hT.ok rfl (.refl _) i0⟩
theorem f115_ok (hn : RepN h s ps (.mk 4 ta w co on gr od li args) ks n) (hT : Tst K m h (fullR s ps (.mk 4 ta w co on gr od li args) ks)) : f115_nice n m h K := by
 refine ⟨n, s, ps, _, ks, rfl, hn, fun r hr => branch_intro (fun h1 => hT.err ?_ (by omega) (.refl _)) (fun h1 => ?_)⟩
 · by_cases hb : ((ks.length : Int) = arity 4 ∧ UnusedOk (.mk 4 ta w co on gr od li args))
   · obtain ⟨hf, hg⟩ := full_good (s := s) (ps := ps) hb.1 hb.2 (by decide)
     rw [hf]
     unfold nodeR
     rw [if_neg hg]
     dsimp only
     rw [if_neg (by decide), if_neg (by decide), if_neg (by decide), if_pos rfl, if_neg]
     intro hgood
     have h2 := hb.2
     simp [UnusedOk] at h2
     have : r = true := hr.2 ⟨by have := hb.1; simp [arity] at this; omega, h2.1, h2.2.1, h2.2.2.1, h2.2.2.2.1, h2.2.2.2.2.1, h2.2.2.2.2.2, hgood⟩
     rw [this] at h1; cases h1
   · exact full_bad hb
 obtain ⟨hk, rfl, rfl, rfl, rfl, rfl, rfl, hgood⟩ := hr.1 (by simpa using h1)
 obtain ⟨hf, hg⟩ := full_good (s := s) (ps := ps) (op := 4) (ta := 0) (w := zeroP) (co := []) (on := on) (gr := []) (od := []) (li := 0) (args := args) (ks := ks) (by rw [hk]; rfl) (by simp [UnusedOk]) (by decide)
 rw [hf] at hT
 unfold nodeR at hT
 rw [if_neg hg] at hT
 dsimp only at hT
 rw [if_neg (by decide), if_neg (by decide), if_neg (by decide), if_pos rfl, if_pos hgood] at hT
 obtain ⟨a, b, rfl⟩ := two_of (ks := ks) (by omega)
 obtain ⟨b0, o0, s0, e0, r0, i0, l0, j0⟩ := hn.arg (j := 0) rfl
 obtain ⟨b1, o1, s1, e1, r1, i1, l1, j1⟩ := hn.arg (j := 1) rfl
 refine ⟨b0, o0, e0, by omega, by omega, s0, .imm (by simpa using r0), b1, o1, e1, by omega, by omega, s1, .imm (by simpa using r1), by simpa using r0, by simpa using r1, fun sl h' hle hrow => ⟨sl, [a, b], rfl, ⟨⟨[s0, s1], hrow, rfl, fun j k hk => ?_⟩, by simp⟩, by simp, fun k hk => hn.len k hk, fun sl2 h2 hle2 hi2 => hT.ok (l := a ++ b) (by simp) (hle.trans hle2) (by simpa using hi2)⟩⟩
 match j, hk with
 | 0, hk => simp at hk; subst hk; exact ⟨s0, rfl, i0.mono hle⟩
 | 1, hk => simp at hk; subst hk; exact ⟨s1, rfl, i1.mono hle⟩
 | _ + 2, hk => simp at hk
theorem f117_ok {op : Int} (hop : op = 6 ∨ op = 7 ∨ op = 8) (hn : RepN h s ps (.mk op ta w co on gr od li args) ks n) (hT : Tst K m h (fullR s ps (.mk op ta w co on gr od li args) ks)) : f117_nice n m h K := by
 have x := hn.q_.parts
 have ha : arity op = 2 := by rcases hop with rfl | rfl | rfl <;> rfl
 have hne : op ≠ 1 ∧ op ≠ 2 ∧ op ≠ 3 ∧ op ≠ 4 ∧ op ≠ 5 ∧ op ≠ 9 ∧ op ≠ 10 := by omega
 refine ⟨n, 2, ⟨0, 0, ⟨0, 0, zeroO, zeroO, ⟨none, 0, 0⟩⟩, ⟨none, 0, 0⟩, ⟨none, 0, 0⟩, ⟨none, 0, 0⟩, ⟨none, 0, 0⟩, 0, ⟨none, 0, 0⟩⟩, s, ps, _, ks, .mk 0 0 zeroP [] [] [] [] 0 [], rfl, hn, QParts.rep ⟨rfl, rfl, repZero h, ⟨.nil _ _, by simp⟩, ⟨.nil _ _, by simp⟩, ⟨.nil _ _, by simp⟩, ⟨.nil _ _, by simp⟩, rfl, .nil _ _ _ _⟩, fun r hr => branch_intro (fun h1 => hT.err (full_bad fun e => ?_) (by omega) (.refl _)) (fun h1 => ?_)⟩
 · have e1 : (ks.length : Int) = arity op := e.1
   have : r = true := hr.2 ⟨by omega, by have := e.2; simp [UnusedOk, hne] at this; obtain ⟨rfl, rfl, rfl, rfl, rfl, rfl, rfl⟩ := this; rfl⟩
   rw [this] at h1; cases h1
 obtain ⟨hk, heq⟩ := hr.1 (by simpa using h1)
 simp only [Query.withOf, Query.mk.injEq] at heq
 obtain ⟨_, rfl, rfl, rfl, rfl, rfl, rfl, rfl, _⟩ := heq
 obtain ⟨hf, hg⟩ := full_good (s := s) (ps := ps) (op := op) (ta := 0) (w := zeroP) (co := []) (on := []) (gr := []) (od := []) (li := 0) (args := args) (ks := ks) (by omega) (by simp [UnusedOk]) (by omega)
 rw [hf] at hT
 unfold nodeR at hT
 rw [if_neg hg] at hT
 dsimp only at hT
 rw [if_neg hne.1, if_neg hne.2.1, if_neg hne.2.2.1, if_neg hne.2.2.2.1, if_neg hne.2.2.2.2.1, if_neg hne.2.2.2.2.2.1, if_neg hne.2.2.2.2.2.2] at hT
 obtain ⟨a, b, rfl⟩ := two_of hk
 obtain ⟨b0, o0, s0, e0, r0, i0, l0, j0⟩ := hn.arg (j := 0) rfl
 obtain ⟨b1, o1, s1, e1, r1, i1, l1, j1⟩ := hn.arg (j := 1) rfl
 refine ⟨b0, o0, e0, by omega, by omega, s0, .imm (by simpa using r0), b1, o1, e1, by omega, by omega, s1, .imm (by simpa using r1), s0, s1, a, b, rfl, i0, i1, fun r2 hr2 => branch_intro (fun d1 => hT.err (if_neg fun e => ?_) (by omega) (.refl _)) (fun d1 => ⟨b0, o0, e0, by omega, by omega, s0, .imm (by simpa using r0), hT.ok (if_pos (hr2.1 (by simpa using d1))) (.refl _) i0⟩)⟩
 have e : a = b := e
 rw [hr2.2 e] at d1; cases d1
theorem f114_ok (hn : RepN h s ps (.mk 3 ta w co on gr od li args) ks n) (hT : Tst K m h (fullR s ps (.mk 3 ta w co on gr od li args) ks)) : f114_nice n m h K := by
 have x := hn.q_.parts
 have cl := x.columns_.slen
 have clen := x.columns_.len
 refine ⟨n, 1, ⟨0, 0, ⟨0, 0, zeroO, zeroO, ⟨none, 0, 0⟩⟩, n.q.columns, ⟨none, 0, 0⟩, ⟨none, 0, 0⟩, ⟨none, 0, 0⟩, 0, ⟨none, 0, 0⟩⟩, s, ps, _, ks, .mk 0 0 zeroP co [] [] [] 0 [], rfl, hn, QParts.rep ⟨rfl, rfl, repZero h, x.columns_, ⟨.nil _ _, by simp⟩, ⟨.nil _ _, by simp⟩, ⟨.nil _ _, by simp⟩, rfl, .nil _ _ _ _⟩, fun r hr => branch_intro (fun h1 => hT.err (full_bad fun e => ?_) (by omega) (.refl _)) (fun h1 => ?_)⟩
 · have : r = true := hr.2 ⟨e.1, by have := e.2; simp [UnusedOk] at this; obtain ⟨rfl, rfl, rfl, rfl, rfl, rfl⟩ := this; rfl⟩
   rw [this] at h1; cases h1
 obtain ⟨hk, heq⟩ := hr.1 (by simpa using h1)
 simp only [Query.withOf, Query.mk.injEq] at heq
 obtain ⟨_, rfl, rfl, _, rfl, rfl, rfl, rfl, _⟩ := heq
 obtain ⟨hf, hg⟩ := full_good (s := s) (ps := ps) (op := 3) (ta := 0) (w := zeroP) (co := co) (on := []) (gr := []) (od := []) (li := 0) (args := args) (ks := ks) hk (by simp [UnusedOk]) (by decide)
 rw [hf] at hT
 unfold nodeR at hT
 rw [if_neg hg] at hT
 dsimp only at hT
 rw [if_neg (by decide), if_neg (by decide), if_pos rfl] at hT
 obtain ⟨a, rfl⟩ := one_of hk
 obtain ⟨b0, o0, s0, e0, r0, i0, l0, j0⟩ := hn.arg (j := 0) rfl
 have sl0 := i0.slen
 simp only [List.getD_cons_zero] at hT
 refine branch_intro (fun d1 => hT.err (if_neg fun e => e.1 ((len0 cl).1 d1)) (by omega) (.refl _)) (fun d1 => ?_)
 have hne : co ≠ [] := fun e => by rw [(len0 cl).2 e] at d1; cases d1
 refine ⟨by omega, by omega, by omega, by omega, fun ⟨i, l⟩ => i ≤ co.length ∧ l = (co.take i).map (fun c => a.getD c.toNat 0) ∧ GoodUpto (fun _ c => inL a c = true) co i, fun ⟨i, _⟩ => co.length - i, ⟨(0, []), ⟨by omega, by simp, .zero⟩, MT⟩, ?_⟩
 rintro ⟨i, _⟩ ⟨hi, rfl, hgo⟩
 dsimp only
 refine branch_dec (fun hlt => ?_) (fun hge sl h' hle hrow => ?_)
 · obtain ⟨c, hc⟩ := getx cl hlt
   obtain ⟨b1, o1, ea1, r1⟩ := x.columns_.at' hc
   have cbad : ¬ inL a c = true → K (.tup [.val (.slice none 0 0), .val (.int .i64 100)]) m h := fun hx => hT.err (if_neg fun e => hx (e.2 i c hc)) (by omega) (.refl _)
   refine ⟨b1, o1, ea1, by omega, hlt, c, .imm r1, branch_dec (fun d2 => cbad fun e => ?_) (fun d2 => ⟨b0, o0, e0, by omega, by omega, s0, .imm (by simpa using r0), branch_dec (fun d3 => cbad fun e => ?_) (fun d3 => ?_)⟩)⟩
   · have := inL_iff.1 e; omega
   · have := inL_iff.1 e; omega
   obtain ⟨b2, o2, ea2, r2⟩ := i0.inb (n := c) (by omega) (by omega)
   refine ⟨b0, o0, e0, by omega, by omega, s0, .imm (by simpa using r0), b2, o2, ea2, by omega, by omega, _, .imm r2, ?_, ?_, (i + 1, (co.take (i + 1)).map (fun c => a.getD c.toNat 0)), ⟨by omega, rfl, hgo.succ hc (inL_iff.2 ⟨by omega, by omega⟩)⟩, by show co.length - (i + 1) < co.length - i; omega, ?_⟩
   · simp; omega
   · simp; omega
   · rw [map_take_succ hc, List.map_append]
     exact MT
 · rw [List.take_of_length_le (by omega)] at hrow
   exact hT.ok (if_pos ⟨hne, hgo.all (by omega)⟩) hle ⟨hrow, by simp; omega⟩
theorem f118_ok (hn : RepN h s ps (.mk 9 ta w co on gr od li args) ks n) (hT : Tst K m h (fullR s ps (.mk 9 ta w co on gr od li args) ks)) : f118_nice n m h K := by
 have x := hn.q_.parts
 refine ⟨n, s, ps, _, ks, rfl, hn, n, 1, ⟨0, 0, ⟨0, 0, zeroO, zeroO, ⟨none, 0, 0⟩⟩, ⟨none, 0, 0⟩, ⟨none, 0, 0⟩, n.q.group, n.q.order, n.q.limit, ⟨none, 0, 0⟩⟩, s, ps, _, ks, .mk 0 0 zeroP [] [] gr od li [], rfl, hn, QParts.rep ⟨rfl, rfl, repZero h, ⟨.nil _ _, by simp⟩, ⟨.nil _ _, by simp⟩, x.group_, x.order_, x.limit_, .nil _ _ _ _⟩, fun r hr => branch_intro (fun h1 => hT.err (full_bad fun e => ?_) (by omega) (.refl _)) (fun h1 => ?_)⟩
 · have : r = true := hr.2 ⟨e.1, by have := e.2; simp [UnusedOk] at this; obtain ⟨rfl, rfl, rfl, rfl⟩ := this; rfl⟩
   rw [this] at h1; cases h1
 obtain ⟨hk, heq⟩ := hr.1 (by simpa using h1)
 simp only [Query.withOf, Query.mk.injEq] at heq
 obtain ⟨_, rfl, rfl, rfl, rfl, _, _, _, _⟩ := heq
 obtain ⟨hf, hg⟩ := full_good (s := s) (ps := ps) (op := 9) (ta := 0) (w := zeroP) (co := []) (on := []) (gr := gr) (od := od) (li := li) (args := args) (ks := ks) hk (by simp [UnusedOk]) (by decide)
 rw [hf] at hT
 unfold nodeR at hT
 rw [if_neg hg] at hT
 dsimp only at hT
 rw [if_neg (by decide), if_neg (by decide), if_neg (by decide), if_neg (by decide), if_neg (by decide), if_pos rfl] at hT
 obtain ⟨a, rfl⟩ := one_of hk
 obtain ⟨b0, o0, s0, e0, r0, i0, l0, j0⟩ := hn.arg (j := 0) rfl
 refine ⟨n, s, ps, _, [a], a, rfl, hn, rfl, fun r2 hr2 => branch_intro (fun d1 => hT.err (if_neg fun e => ?_) (by omega) (.refl _)) (fun d1 => ⟨b0, o0, e0, by omega, by omega, s0, .imm (by simpa using r0), hT.ok (if_pos ?_) (.refl _) i0⟩)⟩
 · rw [hr2.2 ⟨_, _, _, _, _, _, _, _, _, rfl, e⟩] at d1; cases d1
 · obtain ⟨_, _, _, _, _, _, _, _, _, e, hh⟩ := hr2.1 (by simpa using d1)
   cases e; exact hh
theorem f119_ok (hn : RepN h s ps (.mk 10 ta w co on gr od li args) ks n) (hT : Tst K m h (fullR s ps (.mk 10 ta w co on gr od li args) ks)) : f119_nice n m h K := by
 have x := hn.q_.parts
 refine ⟨n, s, ps, _, ks, rfl, hn, n, 2, ⟨0, 0, ⟨0, 0, zeroO, zeroO, ⟨none, 0, 0⟩⟩, ⟨none, 0, 0⟩, ⟨none, 0, 0⟩, n.q.group, n.q.order, n.q.limit, ⟨none, 0, 0⟩⟩, s, ps, _, ks, .mk 0 0 zeroP [] [] gr od li [], rfl, hn, QParts.rep ⟨rfl, rfl, repZero h, ⟨.nil _ _, by simp⟩, ⟨.nil _ _, by simp⟩, x.group_, x.order_, x.limit_, .nil _ _ _ _⟩, fun r hr => branch_intro (fun h1 => hT.err (full_bad fun e => ?_) (by omega) (.refl _)) (fun h1 => ?_)⟩
 · have : r = true := hr.2 ⟨e.1, by have := e.2; simp [UnusedOk] at this; obtain ⟨rfl, rfl, rfl, rfl⟩ := this; rfl⟩
   rw [this] at h1; cases h1
 obtain ⟨hk, heq⟩ := hr.1 (by simpa using h1)
 simp only [Query.withOf, Query.mk.injEq] at heq
 obtain ⟨_, rfl, rfl, rfl, rfl, _, _, _, _⟩ := heq
 obtain ⟨hf, hg⟩ := full_good (s := s) (ps := ps) (op := 10) (ta := 0) (w := zeroP) (co := []) (on := []) (gr := gr) (od := od) (li := li) (args := args) (ks := ks) hk (by simp [UnusedOk]) (by decide)
 rw [hf] at hT
 unfold nodeR at hT
 rw [if_neg hg] at hT
 dsimp only at hT
 rw [if_neg (by decide), if_neg (by decide), if_neg (by decide), if_neg (by decide), if_neg (by decide), if_neg (by decide), if_pos rfl] at hT
 obtain ⟨a, b, rfl⟩ := two_of hk
 obtain ⟨b0, o0, s0, e0, r0, i0, l0, j0⟩ := hn.arg (j := 0) rfl
 obtain ⟨b1, o1, s1, e1, r1, i1, l1, j1⟩ := hn.arg (j := 1) rfl
 refine ⟨b0, o0, e0, by omega, by omega, s0, .imm (by simpa using r0), b1, o1, e1, by omega, by omega, s1, .imm (by simpa using r1), s0, s1, a, b, rfl, i0, i1, fun r3 hr3 => branch_intro (fun d2 => ⟨by simpa using r0, by simpa using r1, hT.err (if_neg fun e => ?_) (by omega) (.refl _)⟩) (fun d2 => ⟨by simpa using r0, by simpa using r1, n, s, ps, _, [a, b], a, rfl, hn, rfl, fun r2 hr2 => branch_intro (fun d1 => hT.err (if_neg fun e => ?_) (by omega) (.refl _)) (fun d1 => ⟨b0, o0, e0, by omega, by omega, s0, .imm (by simpa using r0), hT.ok (if_pos ⟨hr3.1 (by simpa using d2), ?_⟩) (.refl _) i0⟩)⟩)⟩
 · have e : a = b := e.1
   rw [hr3.2 e] at d2; cases d2
 · rw [hr2.2 ⟨_, _, _, _, _, _, _, _, _, rfl, e.2⟩] at d1; cases d1
 · obtain ⟨_, _, _, _, _, _, _, _, _, e, hh⟩ := hr2.1 (by simpa using d1)
   cases e; exact hh
end
def fv (f : Nat) : CV := .val (.func (.func f) #[] #[])
def OperatorS : Vc.Spec := fun cvs m h K => ∃ op, cvs = [cI op] ∧
 branch (op == 1) (K (fv 112) m h) (branch (op == 2) (K (fv 113) m h) (branch (op == 3) (K (fv 114) m h) (branch (op == 4) (K (fv 115) m h) (branch (op == 5) (K (fv 116) m h) (branch (op == 6) (K (fv 117) m h) (branch (op == 7) (K (fv 117) m h) (branch (op == 8) (K (fv 117) m h) (branch (op == 9) (K (fv 118) m h) (branch (op == 10) (K (fv 119) m h) (K (.val .nilFunc) m h))))))))))
def f65_ctx (N : Nat) (sc : SchV) (p : Sl) (v : QV) (m : MH) : Ctx :=
 ctx2 [(65, KindsQS N), (92, OperatorS), (112, TestS (· = 1)), (113, TestS (· = 2)), (114, TestS (· = 3)), (115, TestS (· = 4)), (116, TestS (· = 5)), (117, TestS (fun op => op = 6 ∨ op = 7 ∨ op = 8)), (118, TestS (· = 9)), (119, TestS (· = 10))]
  [(3, { A := Nat × List Sl × PH, st := fun ⟨i, ss, h⟩ => mkSt 62 65 [(1, sv p), (3, .at (.ptr 3 0)), (5, .at (.ptr 5 0)), (8, .at (.ptr 8 0)), (21, sv v.args), (22, iv v.args.len), (23, iv i)] [(3, .cells 28 (sc.enc.map .val)), (5, .cells 43 (v.enc.map .val)), (8, .cells 155 ((sc.enc ++ eS p ++ v.enc).map .val ++ [.lst 41])), (41, .lst 39 1 (ss.map eS))] m h })] [] [] false
def f92_nice (op : Int) (m : MH) (h : PH) (K : CV → MH → PH → Prop) : Prop :=
 ∀ (b : Nat) (m' : MH), Unheld m h b -> MUpd m m' b (Obj.cells (Array.mk [Value.nilFunc, Value.nilFunc, Value.nilFunc, Value.nilFunc, Value.nilFunc, Value.nilFunc, Value.nilFunc,
 Value.nilFunc, Value.nilFunc, Value.nilFunc, Value.nilFunc]) 175) -> ∃ (cs : Array Value) (E : TypeId), MAt m' b (Obj.cells cs E) /\ 11 <= cs.size /\ ∀ (m'_1 : MH), MUpd m' m'_1 b
 (Obj.cells (Array.mk (Value.nilFunc :: Value.func (Fn.func 112) (Array.mk []) (Array.mk []) :: Value.func (Fn.func 113) (Array.mk []) (Array.mk []) :: Value.func (Fn.func 114)
 (Array.mk []) (Array.mk []) :: Value.func (Fn.func 115) (Array.mk []) (Array.mk []) :: Value.func (Fn.func 116) (Array.mk []) (Array.mk []) :: Value.func (Fn.func 117) (Array.mk
 []) (Array.mk []) :: Value.func (Fn.func 117) (Array.mk []) (Array.mk []) :: Value.func (Fn.func 117) (Array.mk []) (Array.mk []) :: Value.func (Fn.func 118) (Array.mk [])
 (Array.mk []) :: Value.func (Fn.func 119) (Array.mk []) (Array.mk []) :: (List.drop 11 cs.toList))) E) -> branch (decide (op < 0)) (K (CV.val Value.nilFunc) m'_1 h) (branch (decide
 (op ≥ 11)) (K (CV.val Value.nilFunc) m'_1 h) (0 <= op /\ op < 11 /\ ∃ (y : Option Nat), RdAt m'_1 h b (0 + op.toNat * 1) [encF y] /\ K (CV.val (encF y)) m'_1 h))
theorem f92_vc (op : Int) (m : MH) (h : PH) (K : CV → MH → PH → Prop) : f92_nice op m h K = (fnVC (ctx4 [] [] [] [] [175] [] false) Tryz.f92 (bodyOf Tryz.f92) (entry Tryz.f92.ntmps [cI op] m h) K) := by kernel_rfl
def f65_nice (N : Nat) (sc : SchV) (p : Sl) (v : QV) (m : MH) (h : PH) (K : CV → MH → PH → Prop) : Prop :=
 ∃ (I : Nat × List Sl × PH -> Prop) (mu : Nat × List Sl × PH -> Nat), (∃ (x : Nat × List Sl × PH), I x /\ eQ (sQs p) /\ eP 3 /\ eP 5 /\ eP 8 /\ eQ (sQs v.args) /\ eQ (sQi
 ↑v.args.len) /\ sQi 0 = sQi ↑x.1 /\ eQ (oQ 28 [aQi sc.version, aQs sc.tables]) /\ eQ (oQ 43 (List.map At.val (QV.enc v))) /\ eQ (oQ 155 (aQi sc.version :: aQs sc.tables :: aQs p ::
 aQi v.op :: aQi v.table :: pQ v.where_ [aQs v.columns, aQs v.on, aQs v.group, aQs v.order, aQi v.limit, aQs v.args, At.lst 41])) /\ some (Own.lst 39 1 []) = some (Own.lst 39 1
 (List.map eS x.2.1)) /\ m = m /\ h = x.2.2 /\ True) /\ ∀ (x : Nat × List Sl × PH), I x -> branch (decide ((↑x.1 : Int) < ↑v.args.len)) (∃ (b off : Nat), v.args.a = some (Addr.mk b
 off none) /\ 0 <= (↑x.1 : Int) /\ (↑x.1 : Int) < ↑v.args.len /\ ∃ (y : QV), RdAt m x.2.2 b (off + (↑x.1 : Int).toNat * 21) (QV.enc y) /\ ∃ (sc_1 : SchV) (p_1 : Sl), ∃ (v_1 : QV) (s
 : Sch), ∃ (ps : List Int) (q : Query), [cQa [vQi sc.version, vQs sc.tables], cQs p, cQa (QV.enc y)] = [cQa [vQi sc_1.version, vQs sc_1.tables], cQs p_1, cQa (QV.enc v_1)] /\ RepS
 x.2.2 s sc_1 /\ small8 s /\ Ints x.2.2 p_1 ps /\ RepQ x.2.2 q v_1 /\ SizeOf.sizeOf q < N /\ ∀ (sl : Sl) (h' : PH), x.2.2.le h' -> Ints h' sl (kindsQ s ps q).1 -> branch ((kindsQ s
 ps q).2 != 0) (K (CV.tup [cQn, CV.val (vQi (kindsQ s ps q).2)]) m h') (((List.map eS x.2.1).length + 1) * 24 <= 140737488355328 /\ (List.map eS x.2.1).length < 140737488355328 /\ ∃
 (x_1 : Nat × List Sl × PH), I x_1 /\ mu x_1 < mu x /\ eQ (sQs p) /\ eP 3 /\ eP 5 /\ eP 8 /\ eQ (sQs v.args) /\ eQ (sQi ↑v.args.len) /\ sQi (IntKind.i64.wrap ((↑x.1 : Int) + 1)) =
 sQi ↑x_1.1 /\ eQ (oQ 28 [aQi sc.version, aQs sc.tables]) /\ eQ (oQ 43 (List.map At.val (QV.enc v))) /\ eQ (oQ 155 (aQi sc.version :: aQs sc.tables :: aQs p :: aQi v.op :: aQi
 v.table :: pQ v.where_ [aQs v.columns, aQs v.on, aQs v.group, aQs v.order, aQi v.limit, aQs v.args, At.lst 41])) /\ some (Own.lst 39 1 (List.map eS x.2.1 ++ [[vQs sl]])) = some
 (Own.lst 39 1 (List.map eS x_1.2.1)) /\ m = m /\ h' = x_1.2.2 /\ True)) (∃ (op : Int), [cQi v.op] = [cQi op] /\ branch (op == 1) (∀ (s : Sl) (h' : PH), x.2.2.le h' -> RowIn h' s 1
 (List.map eS x.2.1) -> ∃ (n : NV) (s_1 : Sch), ∃ (ps : List Int) (q : Query) (ks : List (List Int)), [cQa [vQi sc.version, vQs sc.tables, vQs p, vQi v.op, vQi v.table, vQi
 v.where_.op, vQi v.where_.cmp, vQi v.where_.left.kind, vQi v.where_.left.index, vQi v.where_.left.value.kind, vQi v.where_.left.value.int, Value.string v.where_.left.value.text,
 vQi v.where_.right.kind, vQi v.where_.right.index, vQi v.where_.right.value.kind, vQi v.where_.right.value.int, Value.string v.where_.right.value.text, vQs v.where_.args, vQs
 v.columns, vQs v.on, vQs v.group, vQs v.order, vQi v.limit, vQs v.args, vQs s]] = [cQa [vQi n.s.version, vQs n.s.tables, vQs n.params, vQi n.q.op, vQi n.q.table, vQi n.q.where_.op,
 vQi n.q.where_.cmp, vQi n.q.where_.left.kind, vQi n.q.where_.left.index, vQi n.q.where_.left.value.kind, vQi n.q.where_.left.value.int, Value.string n.q.where_.left.value.text, vQi
 n.q.where_.right.kind, vQi n.q.where_.right.index, vQi n.q.where_.right.value.kind, vQi n.q.where_.right.value.int, Value.string n.q.where_.right.value.text, vQs n.q.where_.args,
 vQs n.q.columns, vQs n.q.on, vQs n.q.group, vQs n.q.order, vQi n.q.limit, vQs n.q.args, vQs n.args]] /\ RepN h' s_1 ps q ks n /\ small8 s_1 /\ q.op = 1 /\ ∀ (r : List Int × Int),
 fin r = fullR s_1 ps q ks -> ∀ (sl : Sl) (h'_1 : PH), h'.le h'_1 -> Ints h'_1 sl r.1 -> branch (r.2 != 0) (K (CV.tup [cQn, cQi r.2]) m h'_1) (branch (decide ((↑sl.len : Int) > 12))
 (K (CV.tup [cQn, cQi 2]) m h'_1) (K (CV.tup [cQs sl, cQi 0]) m h'_1))) (branch (op == 2) (∀ (s : Sl) (h' : PH), x.2.2.le h' -> RowIn h' s 1 (List.map eS x.2.1) -> ∃ (n : NV) (s_1 :
 Sch), ∃ (ps : List Int) (q : Query) (ks : List (List Int)), [cQa [vQi sc.version, vQs sc.tables, vQs p, vQi v.op, vQi v.table, vQi v.where_.op, vQi v.where_.cmp, vQi
 v.where_.left.kind, vQi v.where_.left.index, vQi v.where_.left.value.kind, vQi v.where_.left.value.int, Value.string v.where_.left.value.text, vQi v.where_.right.kind, vQi
 v.where_.right.index, vQi v.where_.right.value.kind, vQi v.where_.right.value.int, Value.string v.where_.right.value.text, vQs v.where_.args, vQs v.columns, vQs v.on, vQs v.group,
 vQs v.order, vQi v.limit, vQs v.args, vQs s]] = [cQa [vQi n.s.version, vQs n.s.tables, vQs n.params, vQi n.q.op, vQi n.q.table, vQi n.q.where_.op, vQi n.q.where_.cmp, vQi
 n.q.where_.left.kind, vQi n.q.where_.left.index, vQi n.q.where_.left.value.kind, vQi n.q.where_.left.value.int, Value.string n.q.where_.left.value.text, vQi n.q.where_.right.kind,
 vQi n.q.where_.right.index, vQi n.q.where_.right.value.kind, vQi n.q.where_.right.value.int, Value.string n.q.where_.right.value.text, vQs n.q.where_.args, vQs n.q.columns, vQs
 n.q.on, vQs n.q.group, vQs n.q.order, vQi n.q.limit, vQs n.q.args, vQs n.args]] /\ RepN h' s_1 ps q ks n /\ small8 s_1 /\ q.op = 2 /\ ∀ (r : List Int × Int), fin r = fullR s_1 ps q
 ks -> ∀ (sl : Sl) (h'_1 : PH), h'.le h'_1 -> Ints h'_1 sl r.1 -> branch (r.2 != 0) (K (CV.tup [cQn, cQi r.2]) m h'_1) (branch (decide ((↑sl.len : Int) > 12)) (K (CV.tup [cQn, cQi
 2]) m h'_1) (K (CV.tup [cQs sl, cQi 0]) m h'_1))) (branch (op == 3) (∀ (s : Sl) (h' : PH), x.2.2.le h' -> RowIn h' s 1 (List.map eS x.2.1) -> ∃ (n : NV) (s_1 : Sch), ∃ (ps : List
 Int) (q : Query) (ks : List (List Int)), [cQa [vQi sc.version, vQs sc.tables, vQs p, vQi v.op, vQi v.table, vQi v.where_.op, vQi v.where_.cmp, vQi v.where_.left.kind, vQi
 v.where_.left.index, vQi v.where_.left.value.kind, vQi v.where_.left.value.int, Value.string v.where_.left.value.text, vQi v.where_.right.kind, vQi v.where_.right.index, vQi
 v.where_.right.value.kind, vQi v.where_.right.value.int, Value.string v.where_.right.value.text, vQs v.where_.args, vQs v.columns, vQs v.on, vQs v.group, vQs v.order, vQi v.limit,
 vQs v.args, vQs s]] = [cQa [vQi n.s.version, vQs n.s.tables, vQs n.params, vQi n.q.op, vQi n.q.table, vQi n.q.where_.op, vQi n.q.where_.cmp, vQi n.q.where_.left.kind, vQi
 n.q.where_.left.index, vQi n.q.where_.left.value.kind, vQi n.q.where_.left.value.int, Value.string n.q.where_.left.value.text, vQi n.q.where_.right.kind, vQi
 n.q.where_.right.index, vQi n.q.where_.right.value.kind, vQi n.q.where_.right.value.int, Value.string n.q.where_.right.value.text, vQs n.q.where_.args, vQs n.q.columns, vQs n.q.on,
 vQs n.q.group, vQs n.q.order, vQi n.q.limit, vQs n.q.args, vQs n.args]] /\ RepN h' s_1 ps q ks n /\ small8 s_1 /\ q.op = 3 /\ ∀ (r : List Int × Int), fin r = fullR s_1 ps q ks -> ∀
 (sl : Sl) (h'_1 : PH), h'.le h'_1 -> Ints h'_1 sl r.1 -> branch (r.2 != 0) (K (CV.tup [cQn, cQi r.2]) m h'_1) (branch (decide ((↑sl.len : Int) > 12)) (K (CV.tup [cQn, cQi 2]) m
 h'_1) (K (CV.tup [cQs sl, cQi 0]) m h'_1))) (branch (op == 4) (∀ (s : Sl) (h' : PH), x.2.2.le h' -> RowIn h' s 1 (List.map eS x.2.1) -> ∃ (n : NV) (s_1 : Sch), ∃ (ps : List Int) (q
 : Query) (ks : List (List Int)), [cQa [vQi sc.version, vQs sc.tables, vQs p, vQi v.op, vQi v.table, vQi v.where_.op, vQi v.where_.cmp, vQi v.where_.left.kind, vQi
 v.where_.left.index, vQi v.where_.left.value.kind, vQi v.where_.left.value.int, Value.string v.where_.left.value.text, vQi v.where_.right.kind, vQi v.where_.right.index, vQi
 v.where_.right.value.kind, vQi v.where_.right.value.int, Value.string v.where_.right.value.text, vQs v.where_.args, vQs v.columns, vQs v.on, vQs v.group, vQs v.order, vQi v.limit,
 vQs v.args, vQs s]] = [cQa [vQi n.s.version, vQs n.s.tables, vQs n.params, vQi n.q.op, vQi n.q.table, vQi n.q.where_.op, vQi n.q.where_.cmp, vQi n.q.where_.left.kind, vQi
 n.q.where_.left.index, vQi n.q.where_.left.value.kind, vQi n.q.where_.left.value.int, Value.string n.q.where_.left.value.text, vQi n.q.where_.right.kind, vQi
 n.q.where_.right.index, vQi n.q.where_.right.value.kind, vQi n.q.where_.right.value.int, Value.string n.q.where_.right.value.text, vQs n.q.where_.args, vQs n.q.columns, vQs n.q.on,
 vQs n.q.group, vQs n.q.order, vQi n.q.limit, vQs n.q.args, vQs n.args]] /\ RepN h' s_1 ps q ks n /\ small8 s_1 /\ q.op = 4 /\ ∀ (r : List Int × Int), fin r = fullR s_1 ps q ks -> ∀
 (sl : Sl) (h'_1 : PH), h'.le h'_1 -> Ints h'_1 sl r.1 -> branch (r.2 != 0) (K (CV.tup [cQn, cQi r.2]) m h'_1) (branch (decide ((↑sl.len : Int) > 12)) (K (CV.tup [cQn, cQi 2]) m
 h'_1) (K (CV.tup [cQs sl, cQi 0]) m h'_1))) (branch (op == 5) (∀ (s : Sl) (h' : PH), x.2.2.le h' -> RowIn h' s 1 (List.map eS x.2.1) -> ∃ (n : NV) (s_1 : Sch), ∃ (ps : List Int) (q
 : Query) (ks : List (List Int)), [cQa [vQi sc.version, vQs sc.tables, vQs p, vQi v.op, vQi v.table, vQi v.where_.op, vQi v.where_.cmp, vQi v.where_.left.kind, vQi
 v.where_.left.index, vQi v.where_.left.value.kind, vQi v.where_.left.value.int, Value.string v.where_.left.value.text, vQi v.where_.right.kind, vQi v.where_.right.index, vQi
 v.where_.right.value.kind, vQi v.where_.right.value.int, Value.string v.where_.right.value.text, vQs v.where_.args, vQs v.columns, vQs v.on, vQs v.group, vQs v.order, vQi v.limit,
 vQs v.args, vQs s]] = [cQa [vQi n.s.version, vQs n.s.tables, vQs n.params, vQi n.q.op, vQi n.q.table, vQi n.q.where_.op, vQi n.q.where_.cmp, vQi n.q.where_.left.kind, vQi
 n.q.where_.left.index, vQi n.q.where_.left.value.kind, vQi n.q.where_.left.value.int, Value.string n.q.where_.left.value.text, vQi n.q.where_.right.kind, vQi
 n.q.where_.right.index, vQi n.q.where_.right.value.kind, vQi n.q.where_.right.value.int, Value.string n.q.where_.right.value.text, vQs n.q.where_.args, vQs n.q.columns, vQs n.q.on,
 vQs n.q.group, vQs n.q.order, vQi n.q.limit, vQs n.q.args, vQs n.args]] /\ RepN h' s_1 ps q ks n /\ small8 s_1 /\ q.op = 5 /\ ∀ (r : List Int × Int), fin r = fullR s_1 ps q ks -> ∀
 (sl : Sl) (h'_1 : PH), h'.le h'_1 -> Ints h'_1 sl r.1 -> branch (r.2 != 0) (K (CV.tup [cQn, cQi r.2]) m h'_1) (branch (decide ((↑sl.len : Int) > 12)) (K (CV.tup [cQn, cQi 2]) m
 h'_1) (K (CV.tup [cQs sl, cQi 0]) m h'_1))) (branch (op == 6) (∀ (s : Sl) (h' : PH), x.2.2.le h' -> RowIn h' s 1 (List.map eS x.2.1) -> ∃ (n : NV) (s_1 : Sch), ∃ (ps : List Int) (q
 : Query) (ks : List (List Int)), [cQa [vQi sc.version, vQs sc.tables, vQs p, vQi v.op, vQi v.table, vQi v.where_.op, vQi v.where_.cmp, vQi v.where_.left.kind, vQi
 v.where_.left.index, vQi v.where_.left.value.kind, vQi v.where_.left.value.int, Value.string v.where_.left.value.text, vQi v.where_.right.kind, vQi v.where_.right.index, vQi
 v.where_.right.value.kind, vQi v.where_.right.value.int, Value.string v.where_.right.value.text, vQs v.where_.args, vQs v.columns, vQs v.on, vQs v.group, vQs v.order, vQi v.limit,
 vQs v.args, vQs s]] = [cQa [vQi n.s.version, vQs n.s.tables, vQs n.params, vQi n.q.op, vQi n.q.table, vQi n.q.where_.op, vQi n.q.where_.cmp, vQi n.q.where_.left.kind, vQi
 n.q.where_.left.index, vQi n.q.where_.left.value.kind, vQi n.q.where_.left.value.int, Value.string n.q.where_.left.value.text, vQi n.q.where_.right.kind, vQi
 n.q.where_.right.index, vQi n.q.where_.right.value.kind, vQi n.q.where_.right.value.int, Value.string n.q.where_.right.value.text, vQs n.q.where_.args, vQs n.q.columns, vQs n.q.on,
 vQs n.q.group, vQs n.q.order, vQi n.q.limit, vQs n.q.args, vQs n.args]] /\ RepN h' s_1 ps q ks n /\ small8 s_1 /\ (q.op = 6 ∨ q.op = 7 ∨ q.op = 8) /\ ∀ (r : List Int × Int), fin r
 = fullR s_1 ps q ks -> ∀ (sl : Sl) (h'_1 : PH), h'.le h'_1 -> Ints h'_1 sl r.1 -> branch (r.2 != 0) (K (CV.tup [cQn, cQi r.2]) m h'_1) (branch (decide ((↑sl.len : Int) > 12)) (K
 (CV.tup [cQn, cQi 2]) m h'_1) (K (CV.tup [cQs sl, cQi 0]) m h'_1))) (branch (op == 7) (∀ (s : Sl) (h' : PH), x.2.2.le h' -> RowIn h' s 1 (List.map eS x.2.1) -> ∃ (n : NV) (s_1 :
 Sch), ∃ (ps : List Int) (q : Query) (ks : List (List Int)), [cQa [vQi sc.version, vQs sc.tables, vQs p, vQi v.op, vQi v.table, vQi v.where_.op, vQi v.where_.cmp, vQi
 v.where_.left.kind, vQi v.where_.left.index, vQi v.where_.left.value.kind, vQi v.where_.left.value.int, Value.string v.where_.left.value.text, vQi v.where_.right.kind, vQi
 v.where_.right.index, vQi v.where_.right.value.kind, vQi v.where_.right.value.int, Value.string v.where_.right.value.text, vQs v.where_.args, vQs v.columns, vQs v.on, vQs v.group,
 vQs v.order, vQi v.limit, vQs v.args, vQs s]] = [cQa [vQi n.s.version, vQs n.s.tables, vQs n.params, vQi n.q.op, vQi n.q.table, vQi n.q.where_.op, vQi n.q.where_.cmp, vQi
 n.q.where_.left.kind, vQi n.q.where_.left.index, vQi n.q.where_.left.value.kind, vQi n.q.where_.left.value.int, Value.string n.q.where_.left.value.text, vQi n.q.where_.right.kind,
 vQi n.q.where_.right.index, vQi n.q.where_.right.value.kind, vQi n.q.where_.right.value.int, Value.string n.q.where_.right.value.text, vQs n.q.where_.args, vQs n.q.columns, vQs
 n.q.on, vQs n.q.group, vQs n.q.order, vQi n.q.limit, vQs n.q.args, vQs n.args]] /\ RepN h' s_1 ps q ks n /\ small8 s_1 /\ (q.op = 6 ∨ q.op = 7 ∨ q.op = 8) /\ ∀ (r : List Int ×
 Int), fin r = fullR s_1 ps q ks -> ∀ (sl : Sl) (h'_1 : PH), h'.le h'_1 -> Ints h'_1 sl r.1 -> branch (r.2 != 0) (K (CV.tup [cQn, cQi r.2]) m h'_1) (branch (decide ((↑sl.len : Int)
 > 12)) (K (CV.tup [cQn, cQi 2]) m h'_1) (K (CV.tup [cQs sl, cQi 0]) m h'_1))) (branch (op == 8) (∀ (s : Sl) (h' : PH), x.2.2.le h' -> RowIn h' s 1 (List.map eS x.2.1) -> ∃ (n : NV)
 (s_1 : Sch), ∃ (ps : List Int) (q : Query) (ks : List (List Int)), [cQa [vQi sc.version, vQs sc.tables, vQs p, vQi v.op, vQi v.table, vQi v.where_.op, vQi v.where_.cmp, vQi
 v.where_.left.kind, vQi v.where_.left.index, vQi v.where_.left.value.kind, vQi v.where_.left.value.int, Value.string v.where_.left.value.text, vQi v.where_.right.kind, vQi
 v.where_.right.index, vQi v.where_.right.value.kind, vQi v.where_.right.value.int, Value.string v.where_.right.value.text, vQs v.where_.args, vQs v.columns, vQs v.on, vQs v.group,
 vQs v.order, vQi v.limit, vQs v.args, vQs s]] = [cQa [vQi n.s.version, vQs n.s.tables, vQs n.params, vQi n.q.op, vQi n.q.table, vQi n.q.where_.op, vQi n.q.where_.cmp, vQi
 n.q.where_.left.kind, vQi n.q.where_.left.index, vQi n.q.where_.left.value.kind, vQi n.q.where_.left.value.int, Value.string n.q.where_.left.value.text, vQi n.q.where_.right.kind,
 vQi n.q.where_.right.index, vQi n.q.where_.right.value.kind, vQi n.q.where_.right.value.int, Value.string n.q.where_.right.value.text, vQs n.q.where_.args, vQs n.q.columns, vQs
 n.q.on, vQs n.q.group, vQs n.q.order, vQi n.q.limit, vQs n.q.args, vQs n.args]] /\ RepN h' s_1 ps q ks n /\ small8 s_1 /\ (q.op = 6 ∨ q.op = 7 ∨ q.op = 8) /\ ∀ (r : List Int ×
 Int), fin r = fullR s_1 ps q ks -> ∀ (sl : Sl) (h'_1 : PH), h'.le h'_1 -> Ints h'_1 sl r.1 -> branch (r.2 != 0) (K (CV.tup [cQn, cQi r.2]) m h'_1) (branch (decide ((↑sl.len : Int)
 > 12)) (K (CV.tup [cQn, cQi 2]) m h'_1) (K (CV.tup [cQs sl, cQi 0]) m h'_1))) (branch (op == 9) (∀ (s : Sl) (h' : PH), x.2.2.le h' -> RowIn h' s 1 (List.map eS x.2.1) -> ∃ (n : NV)
 (s_1 : Sch), ∃ (ps : List Int) (q : Query) (ks : List (List Int)), [cQa [vQi sc.version, vQs sc.tables, vQs p, vQi v.op, vQi v.table, vQi v.where_.op, vQi v.where_.cmp, vQi
 v.where_.left.kind, vQi v.where_.left.index, vQi v.where_.left.value.kind, vQi v.where_.left.value.int, Value.string v.where_.left.value.text, vQi v.where_.right.kind, vQi
 v.where_.right.index, vQi v.where_.right.value.kind, vQi v.where_.right.value.int, Value.string v.where_.right.value.text, vQs v.where_.args, vQs v.columns, vQs v.on, vQs v.group,
 vQs v.order, vQi v.limit, vQs v.args, vQs s]] = [cQa [vQi n.s.version, vQs n.s.tables, vQs n.params, vQi n.q.op, vQi n.q.table, vQi n.q.where_.op, vQi n.q.where_.cmp, vQi
 n.q.where_.left.kind, vQi n.q.where_.left.index, vQi n.q.where_.left.value.kind, vQi n.q.where_.left.value.int, Value.string n.q.where_.left.value.text, vQi n.q.where_.right.kind,
 vQi n.q.where_.right.index, vQi n.q.where_.right.value.kind, vQi n.q.where_.right.value.int, Value.string n.q.where_.right.value.text, vQs n.q.where_.args, vQs n.q.columns, vQs
 n.q.on, vQs n.q.group, vQs n.q.order, vQi n.q.limit, vQs n.q.args, vQs n.args]] /\ RepN h' s_1 ps q ks n /\ small8 s_1 /\ q.op = 9 /\ ∀ (r : List Int × Int), fin r = fullR s_1 ps q
 ks -> ∀ (sl : Sl) (h'_1 : PH), h'.le h'_1 -> Ints h'_1 sl r.1 -> branch (r.2 != 0) (K (CV.tup [cQn, cQi r.2]) m h'_1) (branch (decide ((↑sl.len : Int) > 12)) (K (CV.tup [cQn, cQi
 2]) m h'_1) (K (CV.tup [cQs sl, cQi 0]) m h'_1))) (branch (op == 10) (∀ (s : Sl) (h' : PH), x.2.2.le h' -> RowIn h' s 1 (List.map eS x.2.1) -> ∃ (n : NV) (s_1 : Sch), ∃ (ps : List
 Int) (q : Query) (ks : List (List Int)), [cQa [vQi sc.version, vQs sc.tables, vQs p, vQi v.op, vQi v.table, vQi v.where_.op, vQi v.where_.cmp, vQi v.where_.left.kind, vQi
 v.where_.left.index, vQi v.where_.left.value.kind, vQi v.where_.left.value.int, Value.string v.where_.left.value.text, vQi v.where_.right.kind, vQi v.where_.right.index, vQi
 v.where_.right.value.kind, vQi v.where_.right.value.int, Value.string v.where_.right.value.text, vQs v.where_.args, vQs v.columns, vQs v.on, vQs v.group, vQs v.order, vQi v.limit,
 vQs v.args, vQs s]] = [cQa [vQi n.s.version, vQs n.s.tables, vQs n.params, vQi n.q.op, vQi n.q.table, vQi n.q.where_.op, vQi n.q.where_.cmp, vQi n.q.where_.left.kind, vQi
 n.q.where_.left.index, vQi n.q.where_.left.value.kind, vQi n.q.where_.left.value.int, Value.string n.q.where_.left.value.text, vQi n.q.where_.right.kind, vQi
 n.q.where_.right.index, vQi n.q.where_.right.value.kind, vQi n.q.where_.right.value.int, Value.string n.q.where_.right.value.text, vQs n.q.where_.args, vQs n.q.columns, vQs n.q.on,
 vQs n.q.group, vQs n.q.order, vQi n.q.limit, vQs n.q.args, vQs n.args]] /\ RepN h' s_1 ps q ks n /\ small8 s_1 /\ q.op = 10 /\ ∀ (r : List Int × Int), fin r = fullR s_1 ps q ks ->
 ∀ (sl : Sl) (h'_1 : PH), h'.le h'_1 -> Ints h'_1 sl r.1 -> branch (r.2 != 0) (K (CV.tup [cQn, cQi r.2]) m h'_1) (branch (decide ((↑sl.len : Int) > 12)) (K (CV.tup [cQn, cQi 2]) m
 h'_1) (K (CV.tup [cQs sl, cQi 0]) m h'_1))) (K (CV.tup [cQn, cQi 100]) m x.2.2)))))))))))
theorem f65_vc (N : Nat) (sc : SchV) (p : Sl) (v : QV) (m : MH) (h : PH) (K : CV → MH → PH → Prop) : f65_nice N sc p v m h K = (fnVC (f65_ctx N sc p v m) Tryz.f65 (bodyOf Tryz.f65) (entry Tryz.f65.ntmps [aS sc, cS p, aQ v] m h) K) := by kernel_rfl
theorem f92_ok {op : Int} (hK : branch (op == 1) (K (fv 112) m h) (branch (op == 2) (K (fv 113) m h) (branch (op == 3) (K (fv 114) m h) (branch (op == 4) (K (fv 115) m h) (branch (op == 5) (K (fv 116) m h) (branch (op == 6) (K (fv 117) m h) (branch (op == 7) (K (fv 117) m h) (branch (op == 8) (K (fv 117) m h) (branch (op == 9) (K (fv 118) m h) (branch (op == 10) (K (fv 119) m h) (K (.val .nilFunc) m h))))))))))) : f92_nice op m h (Weak h K) := by
 intro b m1 hb hm1
 refine ⟨_, _, ⟨hm1.at_⟩, by decide, fun m2 hm2 => ?_⟩
 have hsub : Sub m m2 := ((Sub.refl m).upd hb.m_ hm1.other).upd hb.m_ hm2.other
 have e := hm2.at_
 have none_ : ∀ k, ¬ (1 ≤ op ∧ op ≤ 10) → op = k → K (.val .nilFunc) m h := fun k hn _ => by
  have : (op == 1) = false ∧ (op == 2) = false ∧ (op == 3) = false ∧ (op == 4) = false ∧ (op == 5) = false ∧ (op == 6) = false ∧ (op == 7) = false ∧ (op == 8) = false ∧ (op == 9) = false ∧ (op == 10) = false := by
   simp only [beq_eq_false_iff_ne]; omega
  obtain ⟨e1, e2, e3, e4, e5, e6, e7, e8, e9, e10⟩ := this
  rw [e1, e2, e3, e4, e5, e6, e7, e8, e9, e10] at hK
  exact hK
 refine branch_dec (fun h1 => .sub hsub (none_ _ (by omega) rfl)) (fun h1 => branch_dec (fun h2 => .sub hsub (none_ _ (by omega) rfl)) (fun h2 => ⟨by omega, by omega, ?_⟩))
 have : op = 0 ∨ op = 1 ∨ op = 2 ∨ op = 3 ∨ op = 4 ∨ op = 5 ∨ op = 6 ∨ op = 7 ∨ op = 8 ∨ op = 9 ∨ op = 10 := by omega
 rcases this with rfl | rfl | rfl | rfl | rfl | rfl | rfl | rfl | rfl | rfl | rfl
 · exact ⟨none, .lent _ _ _ e rfl, .sub hsub (none_ 0 (by omega) rfl)⟩
 · exact ⟨some 112, .lent _ _ _ e rfl, .sub hsub hK⟩
 · exact ⟨some 113, .lent _ _ _ e rfl, .sub hsub hK⟩
 · exact ⟨some 114, .lent _ _ _ e rfl, .sub hsub hK⟩
 · exact ⟨some 115, .lent _ _ _ e rfl, .sub hsub hK⟩
 · exact ⟨some 116, .lent _ _ _ e rfl, .sub hsub hK⟩
 · exact ⟨some 117, .lent _ _ _ e rfl, .sub hsub hK⟩
 · exact ⟨some 117, .lent _ _ _ e rfl, .sub hsub hK⟩
 · exact ⟨some 117, .lent _ _ _ e rfl, .sub hsub hK⟩
 · exact ⟨some 118, .lent _ _ _ e rfl, .sub hsub hK⟩
 · exact ⟨some 119, .lent _ _ _ e rfl, .sub hsub hK⟩
theorem f92_sound : Sound Tryz.prog 92 OperatorS := by
 refine fn_sound' (fn := Tryz.f92) (c := bodyOf Tryz.f92) Tryz.func92 rfl (by decide) ?_
 rintro cvs m h K ⟨op, rfl, hK⟩
 refine ⟨ctx4 [] [] [] [] [175] [] false, rfl, specs_nil, ?_⟩
 rw [← f92_vc op m h _]
 exact f92_ok hK
theorem f65_ok {p : Sl} (hs : RepS h s sc) (h8 : small8 s) (hp : Ints h p ps) (hq : RepQ h q v) (hN : SizeOf.sizeOf q < N + 1) (hK : KR K m h (kindsQ s ps q)) : f65_nice N sc p v m h K := by
 have hlt := @qargs_lt q
 have hqr := hq
 obtain ⟨op, ta, w, co, on, gr, od, li, args⟩ := q
 have x := hq.parts
 have e0 := x.op_
 have hl := x.args_.slen
 have hlen := x.args_.len
 simp only [Query.args] at hlt
 simp only [kindsQ] at hK
 refine ⟨fun ⟨i, ss, hx⟩ => i ≤ args.length ∧ PH.le h hx ∧ ∃ ks, Slices hx ss ks ∧ (args.take i).map (kindsQ s ps) = ks.map (fun k => (k, 0)), fun ⟨i, _, _⟩ => args.length - i, ⟨(0, [], h), ⟨by omega, .refl _, [], ⟨rfl, fun j s k h1 => by simp at h1⟩, by simp⟩, MT⟩, ?_⟩
 rintro ⟨i, ss, hx⟩ ⟨hi, hle, ks, hS, hks⟩
 have hkl : ks.length = i := by have := congrArg List.length hks; simp at this; omega
 have hsl : ss.length = i := by rw [hS.1, hkl]
 dsimp only
 refine branch_dec (fun hlt2 => ?_) (fun hge => ?_)
 · obtain ⟨q', hq'⟩ := getx hl hlt2
   obtain ⟨b1, o1, u, ea1, r1, hru⟩ := (x.args_.mono hle).at hq'
   refine ⟨b1, o1, ea1, by omega, hlt2, u, .imm r1, sc, p, u, s, ps, q', rfl, hs.mono hle, h8, hp.mono hle, hru, ?_, fun sl h' hle' hi' => branch_intro (fun h1 => ?_) (fun h1 => ?_)⟩
   · have := hlt (List.mem_of_getElem? hq'); omega
   · have he : (kindsQ s ps q').2 ≠ 0 := by simpa using h1
     rw [kindsQs_err he hks hq' rfl] at hK
     exact hK.err (hle.trans hle') (if_neg he)
   · have he : (kindsQ s ps q').2 = 0 := by simpa using h1
     refine ⟨by simp; omega, by simp; omega, (i + 1, ss ++ [sl], h'), ⟨by omega, hle.trans hle', ks ++ [(kindsQ s ps q').1], (hS.mono hle').snoc hi', ?_⟩, by show args.length - (i + 1) < args.length - i; omega, ?_⟩
     · rw [map_take_succ hq', hks, List.map_append]
       simp only [List.map_cons, List.map_nil]
       rw [← he]
     · rw [List.map_append]; exact MT
 · rw [List.take_of_length_le (by omega)] at hks
   rw [kindsQs_ok hks] at hK
   simp only [if_true] at hK
   have hK : KR K m h (fullR s ps (.mk op ta w co on gr od li args) ks) := hK
   have hrep : ∀ (sl : Sl) (h' : PH), PH.le hx h' → RowIn h' sl 1 (ss.map eS) → RepN h' s ps (.mk op ta w co on gr od li args) ks ⟨sc, p, v, sl⟩ := fun sl h' hle' hrow => by
    refine ⟨(hs.mono hle).mono hle', (hp.mono hle).mono hle', (hqr.mono hle).mono hle', ⟨⟨ss, hrow, hS.1.symm, fun j k hk => ?_⟩, by omega⟩, fun k hk => ?_⟩
    · have hj : j < ss.length := by rw [hS.1]; exact (List.getElem?_eq_some_iff.1 hk).1
      exact ⟨ss[j], List.getElem?_eq_getElem hj, (hS.2 j _ _ (List.getElem?_eq_getElem hj) hk).mono hle'⟩
    · obtain ⟨j, hj⟩ := List.mem_iff_getElem?.1 hk
      have := kinds_len hks j
      rwa [List.getD_eq_getElem?_getD, hj] at this
   have tail : ∀ (h' : PH), PH.le hx h' → ∀ r, fin r = fullR s ps (.mk op ta w co on gr od li args) ks → ∀ (sl : Sl) (h'' : PH), PH.le h' h'' → Ints h'' sl r.1 →
    branch (r.2 != 0) (K (.tup [.val (.slice none 0 0), .val (.int .i64 r.2)]) m h'') (branch (decide ((sl.len : Int) > 12)) (K (.tup [.val (.slice none 0 0), .val (.int .i64 2)]) m h'') (K (.tup [.val (.slice sl.a sl.len sl.cap), .val (.int .i64 0)]) m h'')) := by
    intro h' hle' r hr sl h'' hle2 hi'
    have hl3 : PH.le h h'' := (hle.trans hle').trans hle2
    rw [← hr] at hK
    have hsl := hi'.slen
    refine branch_intro (fun d1 => ?_) (fun d1 => branch_dec (fun d2 => ?_) (fun d2 => ?_))
    · have d1 : r.2 ≠ 0 := by simpa using d1
      exact hK.err hl3 (by unfold fin; rw [if_neg d1])
    · have d1 : r.2 = 0 := by simpa using d1
      exact hK.big (l := r.1) hl3 (by unfold fin; rw [if_pos d1]) (by omega)
    · have d1 : r.2 = 0 := by simpa using d1
      exact hK.ok (l := r.1) hl3 (by unfold fin; rw [if_pos d1]) (by omega) hi'.row
   refine ⟨v.op, rfl, ?_⟩
   rw [e0]
   refine branch_intro (fun c1 sl h' hle' hrow => ⟨⟨sc, p, v, sl⟩, s, ps, _, ks, by rw [← e0], hrep sl h' hle' hrow, h8, beq_iff_eq.1 c1, tail h' hle'⟩) (fun c1 => ?_)
   refine branch_intro (fun c2 sl h' hle' hrow => ⟨⟨sc, p, v, sl⟩, s, ps, _, ks, by rw [← e0], hrep sl h' hle' hrow, h8, beq_iff_eq.1 c2, tail h' hle'⟩) (fun c2 => ?_)
   refine branch_intro (fun c3 sl h' hle' hrow => ⟨⟨sc, p, v, sl⟩, s, ps, _, ks, by rw [← e0], hrep sl h' hle' hrow, h8, beq_iff_eq.1 c3, tail h' hle'⟩) (fun c3 => ?_)
   refine branch_intro (fun c4 sl h' hle' hrow => ⟨⟨sc, p, v, sl⟩, s, ps, _, ks, by rw [← e0], hrep sl h' hle' hrow, h8, beq_iff_eq.1 c4, tail h' hle'⟩) (fun c4 => ?_)
   refine branch_intro (fun c5 sl h' hle' hrow => ⟨⟨sc, p, v, sl⟩, s, ps, _, ks, by rw [← e0], hrep sl h' hle' hrow, h8, beq_iff_eq.1 c5, tail h' hle'⟩) (fun c5 => ?_)
   refine branch_intro (fun c6 sl h' hle' hrow => ⟨⟨sc, p, v, sl⟩, s, ps, _, ks, by rw [← e0], hrep sl h' hle' hrow, h8, .inl (beq_iff_eq.1 c6), tail h' hle'⟩) (fun c6 => ?_)
   refine branch_intro (fun c7 sl h' hle' hrow => ⟨⟨sc, p, v, sl⟩, s, ps, _, ks, by rw [← e0], hrep sl h' hle' hrow, h8, .inr (.inl (beq_iff_eq.1 c7)), tail h' hle'⟩) (fun c7 => ?_)
   refine branch_intro (fun c8 sl h' hle' hrow => ⟨⟨sc, p, v, sl⟩, s, ps, _, ks, by rw [← e0], hrep sl h' hle' hrow, h8, .inr (.inr (beq_iff_eq.1 c8)), tail h' hle'⟩) (fun c8 => ?_)
   refine branch_intro (fun c9 sl h' hle' hrow => ⟨⟨sc, p, v, sl⟩, s, ps, _, ks, by rw [← e0], hrep sl h' hle' hrow, h8, beq_iff_eq.1 c9, tail h' hle'⟩) (fun c9 => ?_)
   refine branch_intro (fun c10 sl h' hle' hrow => ⟨⟨sc, p, v, sl⟩, s, ps, _, ks, by rw [← e0], hrep sl h' hle' hrow, h8, beq_iff_eq.1 c10, tail h' hle'⟩) (fun c10 => hK.err hle ?_)
   refine full_bad fun e => ?_
   have : arity op = -1 := by simp only [arity]; simp only [*, Bool.or_false, Bool.false_or, Bool.or_true, Bool.true_or, Bool.and_true, Bool.true_and, Bool.and_false, Bool.false_and, Bool.not_true, Bool.not_false, Bool.false_eq_true, if_true, if_false, ↓reduceIte]
   have := e.1
   simp only [Query.op] at this
   omega
theorem f112_sound : Sound Tryz.prog 112 (TestS (· = 1)) := by
 refine fn_sound (fn := Tryz.f112) (c := bodyOf Tryz.f112) Tryz.func112 rfl (by decide) ?_
 rintro cvs m h K ⟨n, s, ps, q, ks, rfl, hn, h8, hop, hT⟩
 obtain ⟨op, ta, w, co, on, gr, od, li, args⟩ := q
 refine ⟨ctx2 [(126, PlainNS), (62, KindsOfS)] [] [] [] false, rfl, (specs_cons f126_sound (specs_cons f62_sound specs_nil)), ?_⟩
 rw [← f112_vc n m h K]
 cases (show op = 1 from hop)
 exact f112_ok hn h8 ⟨hT⟩
theorem f113_sound : Sound Tryz.prog 113 (TestS (· = 2)) := by
 refine fn_sound (fn := Tryz.f113) (c := bodyOf Tryz.f113) Tryz.func113 rfl (by decide) ?_
 rintro cvs m h K ⟨n, s, ps, q, ks, rfl, hn, h8, hop, hT⟩
 obtain ⟨op, ta, w, co, on, gr, od, li, args⟩ := q
 refine ⟨ctx2 [(126, PlainNS), (63, PredCheckS)] [] [] [] false, rfl, (specs_cons f126_sound (specs_cons f63_sound specs_nil)), ?_⟩
 rw [← f113_vc n m h K]
 cases (show op = 2 from hop)
 exact f113_ok hn ⟨hT⟩
theorem f114_sound : Sound Tryz.prog 114 (TestS (· = 3)) := by
 refine fn_sound (fn := Tryz.f114) (c := bodyOf Tryz.f114) Tryz.func114 rfl (by decide) ?_
 rintro cvs m h K ⟨n, s, ps, q, ks, rfl, hn, h8, hop, hT⟩
 obtain ⟨op, ta, w, co, on, gr, od, li, args⟩ := q
 refine ⟨f114_ctx n m h, rfl, (specs_cons f126_sound specs_nil), ?_⟩
 rw [← f114_vc n m h K]
 cases (show op = 3 from hop)
 exact f114_ok hn ⟨hT⟩
theorem f115_sound (h101 : Sound Tryz.prog 101 ConcatS) : Sound Tryz.prog 115 (TestS (· = 4)) := by
 refine fn_sound (fn := Tryz.f115) (c := bodyOf Tryz.f115) Tryz.func115 rfl (by decide) ?_
 rintro cvs m h K ⟨n, s, ps, q, ks, rfl, hn, h8, hop, hT⟩
 obtain ⟨op, ta, w, co, on, gr, od, li, args⟩ := q
 refine ⟨ctx2 [(127, PairedNS), (101, ConcatS)] [] [] [] false, rfl, (specs_cons f127_sound (specs_cons h101 specs_nil)), ?_⟩
 rw [← f115_vc n m h K]
 cases (show op = 4 from hop)
 exact f115_ok hn ⟨hT⟩
theorem f116_sound : Sound Tryz.prog 116 (TestS (· = 5)) := by
 refine fn_sound (fn := Tryz.f116) (c := bodyOf Tryz.f116) Tryz.func116 rfl (by decide) ?_
 rintro cvs m h K ⟨n, s, ps, q, ks, rfl, hn, h8, hop, hT⟩
 obtain ⟨op, ta, w, co, on, gr, od, li, args⟩ := q
 refine ⟨ctx2 [(127, PairedNS)] [] [] [] false, rfl, (specs_cons f127_sound specs_nil), ?_⟩
 rw [← f116_vc n m h K]
 cases (show op = 5 from hop)
 exact f116_ok hn ⟨hT⟩
theorem f117_sound : Sound Tryz.prog 117 (TestS (fun op => op = 6 ∨ op = 7 ∨ op = 8)) := by
 refine fn_sound (fn := Tryz.f117) (c := bodyOf Tryz.f117) Tryz.func117 rfl (by decide) ?_
 rintro cvs m h K ⟨n, s, ps, q, ks, rfl, hn, h8, hop, hT⟩
 obtain ⟨op, ta, w, co, on, gr, od, li, args⟩ := q
 refine ⟨ctx2 [(126, PlainNS), (99, SameInts)] [] [] [] false, rfl, (specs_cons f126_sound (specs_cons f99_sound specs_nil)), ?_⟩
 rw [← f117_vc n m h K]
 exact f117_ok hop hn ⟨hT⟩
theorem f118_sound : Sound Tryz.prog 118 (TestS (· = 9)) := by
 refine fn_sound (fn := Tryz.f118) (c := bodyOf Tryz.f118) Tryz.func118 rfl (by decide) ?_
 rintro cvs m h K ⟨n, s, ps, q, ks, rfl, hn, h8, hop, hT⟩
 obtain ⟨op, ta, w, co, on, gr, od, li, args⟩ := q
 refine ⟨ctx2 [(126, PlainNS), (128, RankingS), (129, RankedNS)] [] [] [] false, rfl, (specs_cons f126_sound (specs_cons f128_sound (specs_cons f129_sound specs_nil))), ?_⟩
 rw [← f118_vc n m h K]
 cases (show op = 9 from hop)
 exact f118_ok hn ⟨hT⟩
theorem f119_sound : Sound Tryz.prog 119 (TestS (· = 10)) := by
 refine fn_sound (fn := Tryz.f119) (c := bodyOf Tryz.f119) Tryz.func119 rfl (by decide) ?_
 rintro cvs m h K ⟨n, s, ps, q, ks, rfl, hn, h8, hop, hT⟩
 obtain ⟨op, ta, w, co, on, gr, od, li, args⟩ := q
 refine ⟨ctx2 [(126, PlainNS), (99, SameInts), (128, RankingS), (129, RankedNS)] [] [] [] false, rfl, (specs_cons f126_sound (specs_cons f99_sound (specs_cons f128_sound (specs_cons f129_sound specs_nil)))), ?_⟩
 rw [← f119_vc n m h K]
 cases (show op = 10 from hop)
 exact f119_ok hn ⟨hT⟩
theorem f65_all (h101 : Sound Tryz.prog 101 ConcatS) : ∀ N, Sound Tryz.prog 65 (KindsQS N)
 | 0 => by
  refine fn_sound (fn := Tryz.f65) (c := bodyOf Tryz.f65) Tryz.func65 rfl (by decide) ?_
  rintro cvs m h K ⟨sc, p, v, s, ps, q, rfl, _, _, _, _, hN, _⟩
  omega
 | N + 1 => by
  refine fn_sound (fn := Tryz.f65) (c := bodyOf Tryz.f65) Tryz.func65 rfl (by decide) ?_
  rintro cvs m h K ⟨sc, p, v, s, ps, q, rfl, hs, h8, hp, hq, hN, hK⟩
  refine ⟨f65_ctx N sc p v m, rfl, (specs_cons (f65_all h101 N) (specs_cons f92_sound (specs_cons f112_sound (specs_cons f113_sound (specs_cons f114_sound (specs_cons (f115_sound h101) (specs_cons f116_sound (specs_cons f117_sound (specs_cons f118_sound (specs_cons f119_sound specs_nil)))))))))), ?_⟩
  rw [← f65_vc N sc p v m h K]
  exact f65_ok hs h8 hp hq hN hK
end
end Go.Ps
