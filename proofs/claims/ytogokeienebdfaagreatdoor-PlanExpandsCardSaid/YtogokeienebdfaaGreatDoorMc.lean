/-
  Part 3 of a proof that a law of the given program returns true: a condition generator that is proved sound, and contracts of functions. No condition of its own. Own work, joined by a program (pack2.py).
-/
import Derived.Test.YtogokeienebdfaaGreatDoorMb
namespace Go.Ps
open Go Go.Vc Go.Proofs
variable {K : CV -> MH -> PH -> Prop} {m : MH} {h : PH} {s : oC} {ps : List Int} {cb : Nat} {sc : bH} {v : QV} {q : Query} {p : Pred} {l : List Int} {i : Nat} {N : Nat} {m' : MH} {h' : PH} {co : List Int} {gr : List Int} {od : List (Int × Bool)} {w : Pred} {ta : Int} {li : Int} {xs : List (List Value)} {sz : Nat} {k : Nat} {ks : List (List Int)} {rs : List Int} {r : Sl} {a : List Int} {b : Nat}
def Sub (m m' : MH) : Prop := ∀ b o, m b = some o -> m' b = some o
theorem Sub.refl (m : MH) : Sub m m := λ _ _ e => e
theorem Sub.free (h : Sub m m') (hb : m' b = none) : m b = none := by
 cases e : m b with
 | none => rfl
 | some o => rw [h b o e] at hb; cases hb
theorem Sub.upd {mx : MH} (h : Sub m mx) (hb : m b = none) (ho : ∀ b', b' ≠ b -> m' b' = mx b') : Sub m m' := λ b' o e => by
 have hne : b' ≠ b := λ e' => by rw [e', hb] at e; cases e
 rw [ho b' hne, h b' o e]
def Ft (m : MH) (b : Nat) (ns : List ByteArray) : Prop := lX m b (ns.map λ n => (.string n, .bool true))
theorem Ft.other {b' : Nat} {ns : List ByteArray} (h : Ft m b ns) (hne : b ≠ b') (ho : ∀ c, c ≠ b' -> m' c = m c) : Ft m' b ns := by
 obtain ⟨es, cl, h1, h2⟩ := h.ex
 exact ⟨es, cl, by rw [ho b hne, h1], h2⟩
def SM : Vc.Spec := λ cvs m h K => ∃ v s, cvs = [aS v] /\ eW h s v /\ ∀ r : Bool, (r = true ↔ Good AZ s.tables) -> K (cB r) m h
def Sz : Vc.Spec := λ cvs m h K => ∃ v s t, ∃ i : Nat, cvs = [aS v, cI i] /\ eW h s v /\ s.tables[i]? = some t /\ ∀ r : Bool, (r = true ↔ AZ (s.tables.take i) t) -> K (cB r) m h
noncomputable def oA (v : bH) (h : PH) : Ctx :=
 cO [(85, Qd)] [(3, { A := Nat × Nat × MH, st := λ ⟨i, b1, mx⟩ => cD 79 80 [(3, vv (.map (some b1))), (11, sv v.tables), (12, iv v.tables.len), (13, iv i)] [] mx h }),
  (10, { A := Nat × Nat × Nat × Nat × Sl × MH, st := λ ⟨i, k, b1, b2, sl, mx⟩ => cD 79 80 [(3, vv (.map (some b1))), (6, vv (.map (some b2))), (11, sv v.tables), (12, iv v.tables.len), (13, iv i), (45, sv sl), (46, iv sl.len), (47, iv k)] [] mx h })] [] [] false
noncomputable def O1 (v : bH) (i : Nat) (m : MH) (h : PH) : Ctx :=
 cO [(106, Qd), (78, SO)] [(5, { A := Nat × dJ, st := λ ⟨k, w⟩ => cD 94 96 [(1, iv i), (2, .at (.ptr 2 0)), (5, .at (.ptr 5 0)), (6, iv k)] [(2, .cells 28 (v.enc.map .val)), (5, .cells 72 (w.enc.map .val))] m h }),
  (10, { A := Nat × dJ, st := λ ⟨k, w⟩ => cD 94 96 [(5, .at (.ptr 5 0)), (53, iv w.columns.len), (54, iv k)] [(5, .cells 72 (w.enc.map .val))] m h }),
  (15, { A := Nat × Nat × dJ, st := λ ⟨k, j, w⟩ => cD 94 96 [(5, .at (.ptr 5 0)), (7, iv k), (8, iv j), (53, iv w.columns.len), (54, iv k)] [(5, .cells 72 (w.enc.map .val))] m h })] [] [] false
def Ht (v : bH) (m : MH) (h : PH) (K : CV -> MH -> PH -> Prop) : Prop :=
 ∀ (b : Nat) (m' : MH), gX m h b -> gS m m' b (Obj.map (Array.mk []) 0) -> ∃ (I : Nat × Nat × MH -> Prop) (mu : Nat × Nat × MH -> Nat), (∃ (x : Nat × Nat × MH), I x /\ SV.at
 (At.val (Value.map (some b))) = SV.at (At.val (Value.map (some x.2.1))) /\ eQ (wO v.tables) /\ eQ (jD ↑v.tables.len) /\ jD 0 = jD ↑x.1 /\ m' = x.2.2 /\ h = h /\ True) /\ ∀ (x :
 Nat × Nat × MH), I x -> branch (decide ((↑x.1 : Int) < ↑v.tables.len)) (∃ (b off : Nat), v.tables.a = some (Addr.mk b off none) /\ 0 <= (↑x.1 : Int) /\ (↑x.1 : Int) < ↑v.tables.len
 /\ ∃ (y : dJ), bI x.2.2 h b (off + (↑x.1 : Int).toNat * 5) [Value.string y.name, nG y.columns, cZ y.key, nG y.references, nG y.checks] /\ ∃ (s : ByteArray), [CV.val
 (Value.string y.name)] = [CV.val (Value.string s)] /\ branch (!lL s) (K (uS false) x.2.2 h) (∃ (kvs : List (Value × ((oA v h).dec 4).X)), ∃ (Ok : Value -> Prop), lX
 x.2.2 x.2.1 (List.map (fun (p : Value × ((oA v h).dec 4).X) => (p.1, Value.bool p.2)) kvs) /\ KeyLaw Tryz.prog 9 Ok /\ Ok (Value.string y.name) /\ (∀ (e : Value × ((oA v
 h).dec 4).X), List.Mem e kvs -> Ok e.1) /\ ((∀ (e : Value × ((oA v h).dec 4).X), List.Mem e kvs -> e.1 = Value.string y.name -> False) -> branch (decide (y.key < 1)) (K (uS
 false) x.2.2 h) (branch (decide (y.key > (↑y.columns.len : Int))) (K (uS false) x.2.2 h) (∃ (kvs : List (Value × Value)) (Ok : Value -> Prop), lX x.2.2 x.2.1 kvs /\ KeyLaw
 Tryz.prog 9 Ok /\ Ok (Value.string y.name) /\ (∀ (e : Value × Value), List.Mem e kvs -> Ok e.1) /\ (∀ (e : Value × Value), List.Mem e kvs -> e.1 = Value.string y.name -> False) /\
 ∀ (m' : MH), Ew x.2.2 m' x.2.1 -> lX m' x.2.1 (kvs ++ [(Value.string y.name, Value.bool true)]) -> ∀ (b : Nat) (m'_1 : MH), gX m' h b -> gS m' m'_1 b (Obj.map (Array.mk
 []) 0) -> ∃ (I_1 : Nat × Nat × Nat × Nat × Sl × MH -> Prop) (mu_1 : Nat × Nat × Nat × Nat × Sl × MH -> Nat), (∃ (x_1 : Nat × Nat × Nat × Nat × Sl × MH), I_1 x_1 /\ SV.at (At.val
 (Value.map (some x.2.1))) = SV.at (At.val (Value.map (some x_1.2.2.1))) /\ SV.at (At.val (Value.map (some b))) = SV.at (At.val (Value.map (some x_1.2.2.2.1))) /\ eQ (wO v.tables)
 /\ eQ (jD ↑v.tables.len) /\ jD ↑x.1 = jD ↑x_1.1 /\ wO y.columns = wO x_1.2.2.2.2.1 /\ jD ↑y.columns.len = jD ↑x_1.2.2.2.2.1.len /\ jD 0 = jD ↑x_1.2.1 /\ m'_1 =
 x_1.2.2.2.2.2 /\ h = h /\ True) /\ ∀ (x_1 : Nat × Nat × Nat × Nat × Sl × MH), I_1 x_1 -> branch (decide ((↑x_1.2.1 : Int) < ↑x_1.2.2.2.2.1.len)) (∃ (b off : Nat), x_1.2.2.2.2.1.a =
 some (Addr.mk b off none) /\ 0 <= (↑x_1.2.1 : Int) /\ (↑x_1.2.1 : Int) < ↑x_1.2.2.2.2.1.len /\ ∃ (y : oG), bI x_1.2.2.2.2.2 h b (off + (↑x_1.2.1 : Int).toNat * 2) [Value.string
 y.name, cZ y.kind] /\ ∃ (s : ByteArray), [CV.val (Value.string y.name)] = [CV.val (Value.string s)] /\ branch (!lL s) (K (uS false) x_1.2.2.2.2.2 h) (∃ (kvs : List (Value ×
 ((oA v h).dec 4).X)), ∃ (Ok : Value -> Prop), lX x_1.2.2.2.2.2 x_1.2.2.2.1 (List.map (fun (p : Value × ((oA v h).dec 4).X) => (p.1, Value.bool p.2)) kvs) /\ KeyLaw
 Tryz.prog 9 Ok /\ Ok (Value.string y.name) /\ (∀ (e : Value × ((oA v h).dec 4).X), List.Mem e kvs -> Ok e.1) /\ ((∀ (e : Value × ((oA v h).dec 4).X), List.Mem e kvs ->
 e.1 = Value.string y.name -> False) -> ∃ (kvs : List (Value × Value)) (Ok : Value -> Prop), lX x_1.2.2.2.2.2 x_1.2.2.2.1 kvs /\ KeyLaw Tryz.prog 9 Ok /\ Ok (Value.string y.name)
 /\ (∀ (e : Value × Value), List.Mem e kvs -> Ok e.1) /\ (∀ (e : Value × Value), List.Mem e kvs -> e.1 = Value.string y.name -> False) /\ ∀ (m' : MH), Ew x_1.2.2.2.2.2 m'
 x_1.2.2.2.1 -> lX m' x_1.2.2.2.1 (kvs ++ [(Value.string y.name, Value.bool true)]) -> branch (y.kind != 3) (branch (y.kind != 4) (branch (y.kind != 5) (K (uS false) m' h) (∃ (x
 : Nat × Nat × Nat × Nat × Sl × MH), I_1 x /\ mu_1 x < mu_1 x_1 /\ SV.at (At.val (Value.map (some x_1.2.2.1))) = SV.at (At.val (Value.map (some x.2.2.1))) /\ SV.at (At.val
 (Value.map (some x_1.2.2.2.1))) = SV.at (At.val (Value.map (some x.2.2.2.1))) /\ eQ (wO v.tables) /\ eQ (jD ↑v.tables.len) /\ jD ↑x_1.1 = jD ↑x.1 /\ wO x_1.2.2.2.2.1 = wO
 x.2.2.2.2.1 /\ jD ↑x_1.2.2.2.2.1.len = jD ↑x.2.2.2.2.1.len /\ jD (IntKind.i64.wrap ((↑x_1.2.1 : Int) + 1)) = jD ↑x.2.1 /\ m' = x.2.2.2.2.2 /\ h = h /\ True)) (∃ (x : Nat × Nat
 × Nat × Nat × Sl × MH), I_1 x /\ mu_1 x < mu_1 x_1 /\ SV.at (At.val (Value.map (some x_1.2.2.1))) = SV.at (At.val (Value.map (some x.2.2.1))) /\ SV.at (At.val (Value.map (some
 x_1.2.2.2.1))) = SV.at (At.val (Value.map (some x.2.2.2.1))) /\ eQ (wO v.tables) /\ eQ (jD ↑v.tables.len) /\ jD ↑x_1.1 = jD ↑x.1 /\ wO x_1.2.2.2.2.1 = wO x.2.2.2.2.1 /\ jD
 ↑x_1.2.2.2.2.1.len = jD ↑x.2.2.2.2.1.len /\ jD (IntKind.i64.wrap ((↑x_1.2.1 : Int) + 1)) = jD ↑x.2.1 /\ m' = x.2.2.2.2.2 /\ h = h /\ True)) (∃ (x : Nat × Nat × Nat × Nat × Sl ×
 MH), I_1 x /\ mu_1 x < mu_1 x_1 /\ SV.at (At.val (Value.map (some x_1.2.2.1))) = SV.at (At.val (Value.map (some x.2.2.1))) /\ SV.at (At.val (Value.map (some x_1.2.2.2.1))) = SV.at
 (At.val (Value.map (some x.2.2.2.1))) /\ eQ (wO v.tables) /\ eQ (jD ↑v.tables.len) /\ jD ↑x_1.1 = jD ↑x.1 /\ wO x_1.2.2.2.2.1 = wO x.2.2.2.2.1 /\ jD ↑x_1.2.2.2.2.1.len = jD
 ↑x.2.2.2.2.1.len /\ jD (IntKind.i64.wrap ((↑x_1.2.1 : Int) + 1)) = jD ↑x.2.1 /\ m' = x.2.2.2.2.2 /\ h = h /\ True)) /\ ∀ (y_1 : Bool), List.Mem (Value.string y.name, y_1) kvs ->
 branch y_1 (K (uS false) x_1.2.2.2.2.2 h) (∃ (kvs : List (Value × Value)) (Ok : Value -> Prop), lX x_1.2.2.2.2.2 x_1.2.2.2.1 kvs /\ KeyLaw Tryz.prog 9 Ok /\ Ok (Value.string
 y.name) /\ (∀ (e : Value × Value), List.Mem e kvs -> Ok e.1) /\ (∀ (e : Value × Value), List.Mem e kvs -> e.1 = Value.string y.name -> False) /\ ∀ (m' : MH), Ew x_1.2.2.2.2.2 m'
 x_1.2.2.2.1 -> lX m' x_1.2.2.2.1 (kvs ++ [(Value.string y.name, Value.bool true)]) -> branch (y.kind != 3) (branch (y.kind != 4) (branch (y.kind != 5) (K (uS false) m' h) (∃ (x
 : Nat × Nat × Nat × Nat × Sl × MH), I_1 x /\ mu_1 x < mu_1 x_1 /\ SV.at (At.val (Value.map (some x_1.2.2.1))) = SV.at (At.val (Value.map (some x.2.2.1))) /\ SV.at (At.val
 (Value.map (some x_1.2.2.2.1))) = SV.at (At.val (Value.map (some x.2.2.2.1))) /\ eQ (wO v.tables) /\ eQ (jD ↑v.tables.len) /\ jD ↑x_1.1 = jD ↑x.1 /\ wO x_1.2.2.2.2.1 = wO
 x.2.2.2.2.1 /\ jD ↑x_1.2.2.2.2.1.len = jD ↑x.2.2.2.2.1.len /\ jD (IntKind.i64.wrap ((↑x_1.2.1 : Int) + 1)) = jD ↑x.2.1 /\ m' = x.2.2.2.2.2 /\ h = h /\ True)) (∃ (x : Nat × Nat
 × Nat × Nat × Sl × MH), I_1 x /\ mu_1 x < mu_1 x_1 /\ SV.at (At.val (Value.map (some x_1.2.2.1))) = SV.at (At.val (Value.map (some x.2.2.1))) /\ SV.at (At.val (Value.map (some
 x_1.2.2.2.1))) = SV.at (At.val (Value.map (some x.2.2.2.1))) /\ eQ (wO v.tables) /\ eQ (jD ↑v.tables.len) /\ jD ↑x_1.1 = jD ↑x.1 /\ wO x_1.2.2.2.2.1 = wO x.2.2.2.2.1 /\ jD
 ↑x_1.2.2.2.2.1.len = jD ↑x.2.2.2.2.1.len /\ jD (IntKind.i64.wrap ((↑x_1.2.1 : Int) + 1)) = jD ↑x.2.1 /\ m' = x.2.2.2.2.2 /\ h = h /\ True)) (∃ (x : Nat × Nat × Nat × Nat × Sl ×
 MH), I_1 x /\ mu_1 x < mu_1 x_1 /\ SV.at (At.val (Value.map (some x_1.2.2.1))) = SV.at (At.val (Value.map (some x.2.2.1))) /\ SV.at (At.val (Value.map (some x_1.2.2.2.1))) = SV.at
 (At.val (Value.map (some x.2.2.2.1))) /\ eQ (wO v.tables) /\ eQ (jD ↑v.tables.len) /\ jD ↑x_1.1 = jD ↑x.1 /\ wO x_1.2.2.2.2.1 = wO x.2.2.2.2.1 /\ jD ↑x_1.2.2.2.2.1.len = jD
 ↑x.2.2.2.2.1.len /\ jD (IntKind.i64.wrap ((↑x_1.2.1 : Int) + 1)) = jD ↑x.2.1 /\ m' = x.2.2.2.2.2 /\ h = h /\ True)))) (∃ (x_2 : Nat × Nat × MH), I x_2 /\ mu x_2 < mu x /\ SV.at
 (At.val (Value.map (some x_1.2.2.1))) = SV.at (At.val (Value.map (some x_2.2.1))) /\ eQ (wO v.tables) /\ eQ (jD ↑v.tables.len) /\ jD (IntKind.i64.wrap ((↑x_1.1 : Int) + 1)) =
 jD ↑x_2.1 /\ x_1.2.2.2.2.2 = x_2.2.2 /\ h = h /\ True)))) /\ ∀ (y_1 : Bool), List.Mem (Value.string y.name, y_1) kvs -> branch y_1 (K (uS false) x.2.2 h) (branch (decide (y.key <
 1)) (K (uS false) x.2.2 h) (branch (decide (y.key > (↑y.columns.len : Int))) (K (uS false) x.2.2 h) (∃ (kvs : List (Value × Value)) (Ok : Value -> Prop), lX x.2.2 x.2.1 kvs /\
 KeyLaw Tryz.prog 9 Ok /\ Ok (Value.string y.name) /\ (∀ (e : Value × Value), List.Mem e kvs -> Ok e.1) /\ (∀ (e : Value × Value), List.Mem e kvs -> e.1 = Value.string y.name ->
 False) /\ ∀ (m' : MH), Ew x.2.2 m' x.2.1 -> lX m' x.2.1 (kvs ++ [(Value.string y.name, Value.bool true)]) -> ∀ (b : Nat) (m'_1 : MH), gX m' h b -> gS m' m'_1 b (Obj.map
 (Array.mk []) 0) -> ∃ (I_1 : Nat × Nat × Nat × Nat × Sl × MH -> Prop) (mu_1 : Nat × Nat × Nat × Nat × Sl × MH -> Nat), (∃ (x_1 : Nat × Nat × Nat × Nat × Sl × MH), I_1 x_1 /\ SV.at
 (At.val (Value.map (some x.2.1))) = SV.at (At.val (Value.map (some x_1.2.2.1))) /\ SV.at (At.val (Value.map (some b))) = SV.at (At.val (Value.map (some x_1.2.2.2.1))) /\ eQ (wO
 v.tables) /\ eQ (jD ↑v.tables.len) /\ jD ↑x.1 = jD ↑x_1.1 /\ wO y.columns = wO x_1.2.2.2.2.1 /\ jD ↑y.columns.len = jD ↑x_1.2.2.2.2.1.len /\ jD 0 = jD ↑x_1.2.1 /\ m'_1 =
 x_1.2.2.2.2.2 /\ h = h /\ True) /\ ∀ (x_1 : Nat × Nat × Nat × Nat × Sl × MH), I_1 x_1 -> branch (decide ((↑x_1.2.1 : Int) < ↑x_1.2.2.2.2.1.len)) (∃ (b off : Nat), x_1.2.2.2.2.1.a =
 some (Addr.mk b off none) /\ 0 <= (↑x_1.2.1 : Int) /\ (↑x_1.2.1 : Int) < ↑x_1.2.2.2.2.1.len /\ ∃ (y : oG), bI x_1.2.2.2.2.2 h b (off + (↑x_1.2.1 : Int).toNat * 2) [Value.string
 y.name, cZ y.kind] /\ ∃ (s : ByteArray), [CV.val (Value.string y.name)] = [CV.val (Value.string s)] /\ branch (!lL s) (K (uS false) x_1.2.2.2.2.2 h) (∃ (kvs : List (Value ×
 ((oA v h).dec 4).X)), ∃ (Ok : Value -> Prop), lX x_1.2.2.2.2.2 x_1.2.2.2.1 (List.map (fun (p : Value × ((oA v h).dec 4).X) => (p.1, Value.bool p.2)) kvs) /\ KeyLaw
 Tryz.prog 9 Ok /\ Ok (Value.string y.name) /\ (∀ (e : Value × ((oA v h).dec 4).X), List.Mem e kvs -> Ok e.1) /\ ((∀ (e : Value × ((oA v h).dec 4).X), List.Mem e kvs ->
 e.1 = Value.string y.name -> False) -> ∃ (kvs : List (Value × Value)) (Ok : Value -> Prop), lX x_1.2.2.2.2.2 x_1.2.2.2.1 kvs /\ KeyLaw Tryz.prog 9 Ok /\ Ok (Value.string y.name)
 /\ (∀ (e : Value × Value), List.Mem e kvs -> Ok e.1) /\ (∀ (e : Value × Value), List.Mem e kvs -> e.1 = Value.string y.name -> False) /\ ∀ (m' : MH), Ew x_1.2.2.2.2.2 m'
 x_1.2.2.2.1 -> lX m' x_1.2.2.2.1 (kvs ++ [(Value.string y.name, Value.bool true)]) -> branch (y.kind != 3) (branch (y.kind != 4) (branch (y.kind != 5) (K (uS false) m' h) (∃ (x
 : Nat × Nat × Nat × Nat × Sl × MH), I_1 x /\ mu_1 x < mu_1 x_1 /\ SV.at (At.val (Value.map (some x_1.2.2.1))) = SV.at (At.val (Value.map (some x.2.2.1))) /\ SV.at (At.val
 (Value.map (some x_1.2.2.2.1))) = SV.at (At.val (Value.map (some x.2.2.2.1))) /\ eQ (wO v.tables) /\ eQ (jD ↑v.tables.len) /\ jD ↑x_1.1 = jD ↑x.1 /\ wO x_1.2.2.2.2.1 = wO
 x.2.2.2.2.1 /\ jD ↑x_1.2.2.2.2.1.len = jD ↑x.2.2.2.2.1.len /\ jD (IntKind.i64.wrap ((↑x_1.2.1 : Int) + 1)) = jD ↑x.2.1 /\ m' = x.2.2.2.2.2 /\ h = h /\ True)) (∃ (x : Nat × Nat
 × Nat × Nat × Sl × MH), I_1 x /\ mu_1 x < mu_1 x_1 /\ SV.at (At.val (Value.map (some x_1.2.2.1))) = SV.at (At.val (Value.map (some x.2.2.1))) /\ SV.at (At.val (Value.map (some
 x_1.2.2.2.1))) = SV.at (At.val (Value.map (some x.2.2.2.1))) /\ eQ (wO v.tables) /\ eQ (jD ↑v.tables.len) /\ jD ↑x_1.1 = jD ↑x.1 /\ wO x_1.2.2.2.2.1 = wO x.2.2.2.2.1 /\ jD
 ↑x_1.2.2.2.2.1.len = jD ↑x.2.2.2.2.1.len /\ jD (IntKind.i64.wrap ((↑x_1.2.1 : Int) + 1)) = jD ↑x.2.1 /\ m' = x.2.2.2.2.2 /\ h = h /\ True)) (∃ (x : Nat × Nat × Nat × Nat × Sl ×
 MH), I_1 x /\ mu_1 x < mu_1 x_1 /\ SV.at (At.val (Value.map (some x_1.2.2.1))) = SV.at (At.val (Value.map (some x.2.2.1))) /\ SV.at (At.val (Value.map (some x_1.2.2.2.1))) = SV.at
 (At.val (Value.map (some x.2.2.2.1))) /\ eQ (wO v.tables) /\ eQ (jD ↑v.tables.len) /\ jD ↑x_1.1 = jD ↑x.1 /\ wO x_1.2.2.2.2.1 = wO x.2.2.2.2.1 /\ jD ↑x_1.2.2.2.2.1.len = jD
 ↑x.2.2.2.2.1.len /\ jD (IntKind.i64.wrap ((↑x_1.2.1 : Int) + 1)) = jD ↑x.2.1 /\ m' = x.2.2.2.2.2 /\ h = h /\ True)) /\ ∀ (y_2 : Bool), List.Mem (Value.string y.name, y_2) kvs ->
 branch y_2 (K (uS false) x_1.2.2.2.2.2 h) (∃ (kvs : List (Value × Value)) (Ok : Value -> Prop), lX x_1.2.2.2.2.2 x_1.2.2.2.1 kvs /\ KeyLaw Tryz.prog 9 Ok /\ Ok (Value.string
 y.name) /\ (∀ (e : Value × Value), List.Mem e kvs -> Ok e.1) /\ (∀ (e : Value × Value), List.Mem e kvs -> e.1 = Value.string y.name -> False) /\ ∀ (m' : MH), Ew x_1.2.2.2.2.2 m'
 x_1.2.2.2.1 -> lX m' x_1.2.2.2.1 (kvs ++ [(Value.string y.name, Value.bool true)]) -> branch (y.kind != 3) (branch (y.kind != 4) (branch (y.kind != 5) (K (uS false) m' h) (∃ (x
 : Nat × Nat × Nat × Nat × Sl × MH), I_1 x /\ mu_1 x < mu_1 x_1 /\ SV.at (At.val (Value.map (some x_1.2.2.1))) = SV.at (At.val (Value.map (some x.2.2.1))) /\ SV.at (At.val
 (Value.map (some x_1.2.2.2.1))) = SV.at (At.val (Value.map (some x.2.2.2.1))) /\ eQ (wO v.tables) /\ eQ (jD ↑v.tables.len) /\ jD ↑x_1.1 = jD ↑x.1 /\ wO x_1.2.2.2.2.1 = wO
 x.2.2.2.2.1 /\ jD ↑x_1.2.2.2.2.1.len = jD ↑x.2.2.2.2.1.len /\ jD (IntKind.i64.wrap ((↑x_1.2.1 : Int) + 1)) = jD ↑x.2.1 /\ m' = x.2.2.2.2.2 /\ h = h /\ True)) (∃ (x : Nat × Nat
 × Nat × Nat × Sl × MH), I_1 x /\ mu_1 x < mu_1 x_1 /\ SV.at (At.val (Value.map (some x_1.2.2.1))) = SV.at (At.val (Value.map (some x.2.2.1))) /\ SV.at (At.val (Value.map (some
 x_1.2.2.2.1))) = SV.at (At.val (Value.map (some x.2.2.2.1))) /\ eQ (wO v.tables) /\ eQ (jD ↑v.tables.len) /\ jD ↑x_1.1 = jD ↑x.1 /\ wO x_1.2.2.2.2.1 = wO x.2.2.2.2.1 /\ jD
 ↑x_1.2.2.2.2.1.len = jD ↑x.2.2.2.2.1.len /\ jD (IntKind.i64.wrap ((↑x_1.2.1 : Int) + 1)) = jD ↑x.2.1 /\ m' = x.2.2.2.2.2 /\ h = h /\ True)) (∃ (x : Nat × Nat × Nat × Nat × Sl ×
 MH), I_1 x /\ mu_1 x < mu_1 x_1 /\ SV.at (At.val (Value.map (some x_1.2.2.1))) = SV.at (At.val (Value.map (some x.2.2.1))) /\ SV.at (At.val (Value.map (some x_1.2.2.2.1))) = SV.at
 (At.val (Value.map (some x.2.2.2.1))) /\ eQ (wO v.tables) /\ eQ (jD ↑v.tables.len) /\ jD ↑x_1.1 = jD ↑x.1 /\ wO x_1.2.2.2.2.1 = wO x.2.2.2.2.1 /\ jD ↑x_1.2.2.2.2.1.len = jD
 ↑x.2.2.2.2.1.len /\ jD (IntKind.i64.wrap ((↑x_1.2.1 : Int) + 1)) = jD ↑x.2.1 /\ m' = x.2.2.2.2.2 /\ h = h /\ True)))) (∃ (x_2 : Nat × Nat × MH), I x_2 /\ mu x_2 < mu x /\ SV.at
 (At.val (Value.map (some x_1.2.2.1))) = SV.at (At.val (Value.map (some x_2.2.1))) /\ eQ (wO v.tables) /\ eQ (jD ↑v.tables.len) /\ jD (IntKind.i64.wrap ((↑x_1.1 : Int) + 1)) =
 jD ↑x_2.1 /\ x_1.2.2.2.2.2 = x_2.2.2 /\ h = h /\ True)))))) (K (uS true) x.2.2 h)
theorem VF (v : bH) (m : MH) (h : PH) (K : CV -> MH -> PH -> Prop) : Ht v m h K = (cG (oA v h) Tryz.f60 (aE Tryz.f60) (entry Tryz.f60.ntmps [aS v] m h) K) := by kernel_rfl
noncomputable abbrev Aa (a : dJ) : List Value := aL (Value.string a.name) (nG a.columns) (aL (cZ a.key) (nG a.references) (cT a.checks))
noncomputable abbrev nX (a : ByteArray) : CV := CV.val (Value.string a)
abbrev J1 (a : (Nat × dJ -> Prop) -> (Nat × dJ -> Nat) -> Prop) : Prop := ∃ (x : Nat × dJ -> Prop) (x1 : Nat × dJ -> Nat), a x x1
abbrev bR (a : bH) : Prop := eQ (oQ 28 (kJ (bL a.version) (gI a.tables)))
noncomputable abbrev iQ (a : At) : List At := [a]
noncomputable abbrev gT (a : dJ) : List At := bB (Jv a.name) (gI a.columns) (bB (bL a.key) (gI a.references) (iQ (gI a.checks)))
abbrev JX (a : Option Addr) (b : Int) (c : Nat) (d : Sl) (e : Nat -> Nat -> ByteArray -> Prop) : Prop := aY (λ x x1 => aG (bC a x x1) (b <= (↑c : Int)) ((↑c : Int) < aF d) (∃ (x2 : ByteArray), e x x1 x2))
abbrev dG (a b : Nat) : Prop := wR a = wR b
noncomputable abbrev tB (a : Nat × Nat × dJ) : Nat := a.2.1
noncomputable abbrev j4 (a : Nat × Nat × dJ) : dJ := a.2.2
attribute [push_cast] Aa nX J1 bR iQ gT JX dG tB j4
def LQ (v : bH) (i : Nat) (m : MH) (h : PH) (K : CV -> MH -> PH -> Prop) : Prop :=
  aY (λ b o => aG (bC (lR v) b o) (0 <= (↑i : Int)) ((↑i : Int) < aF v.tables) (∃ (y : dJ), bI m h b (bZ o i 5) (Aa y) /\ ∃ (s : ByteArray), cK (nX y.name) (nX s) /\ dT (!(lL s)) (K aR m h) (aF y.columns == 0) (K aR m h) (bE y.key 1 (K aR m h) (fB y.key (aF y.columns) (K aR m h) (J1 (λ I m1 => (∃ (x : Nat × dJ), aA (I x) (eQ (wR i)) (aA (eP 2) (eP 5) (aA (bO x.1) (bR v) (aA (oQ 72 (gT y) = oQ 72 (gT x.2)) (m = m) (bG h h))))) /\ ∀ (x : Nat × dJ), I x -> bE (↑x.1 : Int) (↑i : Int) (JX (lR v) 0 x.1 v.tables (λ b1 o1 y1 => bI m h b1 (bZ o1 x.1 5 + 0) (oB (Value.string y1)) /\ branch (y1.toList == x.2.name.toList) (K aR m h) (∃ (x1 : Nat × dJ), aA (I x1) (m1 x1 < m1 x) (aA (eQ (wR i)) fL (aA eT (aZ x.1 1 x1.1) (aA (bR v) (oQ 72
 (gT x.2) = oQ 72 (gT x1.2)) (cQ (m = m) h h))))))) (J1 (λ I1 m2 => (∃ (x1 : Nat × dJ), aA (I1 x1) eT (aA (fN x.2.columns x1.2.columns) (bO x1.1) (aG (oQ 72 (gT x.2) = oQ 72 (gT x1.2)) (m = m) (h = h) True))) /\ ∀ (x1 : Nat × dJ), I1 x1 -> bE (↑x1.1 : Int) (aF x1.2.columns) (aY (λ b1 o1 => aG (bC x1.2.columns.a b1 o1) (0 <= (↑x1.1 : Int)) ((↑x1.1 : Int) < aF x1.2.columns) (∃ (y1 : ByteArray), bI m h b1 (bZ o1 x1.1 2 + 0) (oB (Value.string y1)) /\ ∃ (s1 : ByteArray), gH (cK (nX y1) (nX s1)) (!(lL s1)) (K aR m h) (aY (λ b2 o2 => aG (bC x1.2.columns.a b2 o2) (0 <= (↑x1.1 : Int)) ((↑x1.1 : Int) < aF x1.2.columns) (∃ (y2 : Int), bI m h b2 (bZ o2 x1.1 2 + 1) (bT y2) /\ ∃ (k : Int), gH (cK (fS y2) (fS k)) (!(dR k)) (K aR m h) (∃ (I2 : Nat × Nat × dJ -> Prop)
 (m3 : Nat × Nat × dJ -> Nat), (∃ (x2 : Nat × Nat × dJ), aA (I2 x2) eT (aA (dG x1.1 x2.1) (bO (tB x2)) (aA (fN x1.2.columns (j4 x2).columns) (dG x1.1 x2.1) (aA (oQ 72 (gT x1.2) = oQ 72 (gT (j4 x2))) (m = m) (bG h h))))) /\ ∀ (x2 : Nat × Nat × dJ), I2 x2 -> bE (↑(tB x2) : Int) (↑x2.1 : Int) (JX (j4 x2).columns.a 0 (tB x2) (j4 x2).columns (λ b3 o3 y3 => bI m h b3 (bZ o3 (tB x2) 2 + 0) (oB (Value.string y3)) /\ JX (j4 x2).columns.a 0 x2.1 (j4 x2).columns (λ b4 o4 y4 => bI m h b4 (bZ o4 x2.1 2 + 0) (oB (Value.string y4)) /\ branch (y3.toList == y4.toList) (K aR m h) (∃ (x3 : Nat × Nat × dJ), aA (I2 x3) (m3 x3 < m3 x2) (aA (eP 5) (dG x2.1 x3.1) (aA (aZ (tB x2) 1 (tB x3)) (fN (j4 x2).columns (j4 x3).columns) (aA (dG x2.1 x3.1) (oQ 72
 (gT (j4 x2)) = oQ 72 (gT (j4 x3))) (cQ (m = m) h h)))))))) (∃ (x3 : Nat × dJ), aA (I1 x3) (m2 x3 < m2 x1) (aA (eP 5) (fN (j4 x2).columns x3.2.columns) (aA (aZ x2.1 1 x3.1) (oQ 72 (gT (j4 x2)) = oQ 72 (gT x3.2)) (aA (m = m) (h = h) True))))))))))) (K gV m h)))))))))
theorem Vo (v : bH) (i : Nat) (m : MH) (h : PH) (K : CV -> MH -> PH -> Prop) : LQ v i m h K = (cG (O1 v i m h) Tryz.f76 (aE Tryz.f76) (entry Tryz.f76.ntmps [aS v, cI i] m h) K) := by kernel_rfl
theorem Ft.snoc {ns : List ByteArray} {n : ByteArray} (h : lX m b ((ns.map λ n => (Value.string n, Value.bool true)) ++ [(.string n, .bool true)])) : Ft m b (ns ++ [n]) := by
 unfold Ft; rw [List.map_append]; exact h
theorem Ft.look {ns : List ByteArray} (h : Ft m b ns) : lX m b (List.map (λ p : Value × Bool => (p.fst, Value.bool p.snd)) (ns.map λ n => (Value.string n, true))) := by
 rw [List.map_map]; exact h
theorem D1 {β : Type} {ns : List ByteArray} {x : β} : ∀ e : Value × β, e ∈ (ns.map λ n => (Value.string n, x)) -> ∃ s, e.fst = .string s := λ e he => by
 obtain ⟨n, _, rfl⟩ := List.mem_map.1 he
 exact ⟨n, rfl⟩
theorem Ll {β : Type} {ns : List ByteArray} {x : β} {n : ByteArray} (h : n ∉ ns) : ∀ e : Value × β, e ∈ (ns.map λ n => (Value.string n, x)) -> e.fst = .string n -> False := λ e he h' => by
 obtain ⟨n', hn, rfl⟩ := List.mem_map.1 he
 exact h (by have : n' = n := (by injection h'); rwa [<- this])
theorem CA {β : Type} {ns : List ByteArray} {x : β} {n : ByteArray} (h : ∀ e : Value × β, e ∈ (ns.map λ n => (Value.string n, x)) -> e.fst = .string n -> False) : n ∉ ns := λ hn => h (.string n, x) (List.mem_map.2 ⟨n, hn, rfl⟩) rfl
theorem Lm {β : Type} {ns : List ByteArray} {x y : β} {n : ByteArray} (h : (Value.string n, y) ∈ (ns.map λ n => (Value.string n, x))) : n ∈ ns /\ y = x := by
 obtain ⟨n', hn, e⟩ := List.mem_map.1 h
 injection e with e1 e2
 injection e1 with e1
 exact ⟨by rwa [<- e1], e2.symm⟩
theorem Re : Sound Tryz.prog 60 SM := by
 refine gC (fn := Tryz.f60) (c := aE Tryz.f60) Tryz.func60 rfl (by decide) ?_
 rintro cvs m h K ⟨v, s, rfl, hs, hK⟩
 refine ⟨oA v h, rfl, aD QT aH, ?_⟩
 rw [<- VF v m h _]
 show Ht v m h (lZ h K)
 dsimp only [Ht, push_cast]
 have hl := hs.tables.slen
 have hlen := hs.tables.len
 have hf : ¬ Good AZ s.tables -> K (cB false) m h := λ h => hK false ⟨λ e => (by cases e), λ e => (h e).elim⟩
 intro b m1 hb hm1
 refine ⟨λ ⟨i, b1, mx⟩ => i <= s.tables.length /\ Sub m mx /\ m b1 = none /\ Ft mx b1 ((s.tables.take i).map Et.name) /\ eG AZ s.tables i, λ ⟨i, _, _⟩ => s.tables.length - i, ⟨(0, b, m1), ⟨by omega, (Sub.refl m).upd hb.m_ hm1.other, hb.m_, ⟨_, _, hm1.at_, rfl⟩, .zero⟩, MT⟩, ?_⟩
 rintro ⟨i, b1, mx⟩ ⟨hi, hsub, hb1, hmap, hgood⟩
 dsimp only
 refine aC (λ hlt => ?_) (λ hge => .sub hsub (hK true ⟨λ _ => hgood.all (by omega), λ _ => rfl⟩))
 obtain ⟨t, hx⟩ := fP hl hlt
 obtain ⟨bb, o, w, ea, hr, hrep⟩ := hs.tables.at hx
 have hcl := iT.slen hrep.columns
 have hcb := iT.len hrep.columns
 have hnm := hrep.name
 have hky := hrep.key
 have bad : ¬ AZ (s.tables.take i) t -> lZ h K (.val (.bool false)) mx h := λ hn => .sub hsub (hf (Good.not hx hn))
 have rest : t.name ∉ (s.tables.take i).map Et.name -> lL w.name = true -> 1 <= w.key -> w.key <= w.columns.len -> Good M1 t.columns -> AZ (s.tables.take i) t := λ h1 h2 h3 h4 h5 => ⟨by rw [<- hnm]; exact h2, by rw [<- hky]; exact h3, by rw [<- hky]; omega, h1, h5⟩
 refine ⟨bb, o, ea, by omega, hlt, w, .imm hr, w.name, rfl, aB (λ h1 => bad λ ht => ?_) (λ h1 => ⟨_, _, hmap.look, JM, ⟨_, rfl⟩, D1, λ hno => aC (λ h2 => bad λ ht => ?_) (λ h2 => aC (λ h3 => bad λ ht => ?_) (λ h3 => ⟨_, _, hmap, JM, ⟨_, rfl⟩, D1, Ll (CA hno), λ m2 hs2 hm2 b2 m3 hb2 hm3 => ?_⟩)), λ y hy => ?_⟩)⟩
 . have := ht.1; rw [<- hnm] at this; rw [this] at h1; cases h1
 . have := ht.2.1; omega
 . have := ht.2.2.1; omega
 . have hm2 := Ft.snoc hm2
   have hsub2 : Sub m m2 := hsub.upd hb1 hs2.other
   have hsub3 : Sub m m3 := hsub2.upd (hsub2.free hb2.m_) hm3.other
   have hne : b1 ≠ b2 := λ e => by
    obtain ⟨es, cl, e1, _⟩ := hm2.ex
    rw [e, hb2.m_] at e1; cases e1
   have hno' : t.name ∉ (s.tables.take i).map Et.name := by rw [<- hnm]; exact CA hno
   rw [hnm, <- gJ hx] at hm2
   refine ⟨λ ⟨i', k, b1', b2', sl, my⟩ => i' = i /\ b1' = b1 /\ b2' = b2 /\ sl = w.columns /\ k <= t.columns.length /\ Sub m my /\ Ft my b1 ((s.tables.take (i + 1)).map Et.name) /\ Ft my b2 ((t.columns.take k).map oG.name) /\ eG M1 t.columns k, λ ⟨_, k, _, _, _, _⟩ => t.columns.length - k,
    ⟨(i, 0, b1, b2, w.columns, m3), ⟨rfl, rfl, rfl, rfl, by omega, hsub3, hm2.other hne hm3.other, ⟨_, _, hm3.at_, rfl⟩, .zero⟩, MT⟩, ?_⟩
   rintro ⟨i, k, b1, b2, _, my⟩ ⟨rfl, rfl, rfl, rfl, hk, hsuby, hmy1, hmy2, hg2⟩
   dsimp only
   refine aC (λ hlt2 => ?_) (λ hge2 => ?_)
   . obtain ⟨c, hc⟩ := fP hcl hlt2
     obtain ⟨bc, oc, ec, rc⟩ := BP.at hrep.columns hc
     have cbad : ∀ mz, Sub m mz -> ¬ M1 (t.columns.take k) c -> lZ h K (.val (.bool false)) mz h := λ mz hz hn => .sub hz (hf (Good.not hx (λ ht => Good.not hc hn ht.2.2.2.2)))
     refine ⟨bc, oc, ec, by omega, hlt2, c, .imm rc, c.name, rfl, aB (λ h4 => cbad my hsuby λ ht => ?_) (λ h4 => ⟨_, _, hmy2.look, JM, ⟨_, rfl⟩, D1, λ hno2 => ⟨_, _, hmy2, JM, ⟨_, rfl⟩, D1, Ll (CA hno2), λ m4 hs4 hm4 => ?_⟩, λ y hy => ?_⟩)⟩
     . rw [ht.1] at h4; cases h4
     . have hm4 := Ft.snoc hm4
       rw [<- gJ hc] at hm4
       have hsub4 : Sub m m4 := hsuby.upd (hsub2.free hb2.m_) hs4.other
       have cgood : dR c.kind = true -> M1 (t.columns.take k) c := λ e => ⟨by simpa using h4, e, CA hno2⟩
       have ckind : dR c.kind = false -> ¬ M1 (t.columns.take k) c := λ e ht => by rw [ht.2.1] at e; cases e
       have m1' := hmy1.other hne hs4.other
       repeat' (first | (refine aB (λ _ => ?_) (λ _ => ?_)) | (refine cbad m4 hsub4 (ckind ?_); simp_all [dR]; done) | exact ⟨(i, k + 1, b1, b2, w.columns, m4), ⟨rfl, rfl, rfl, rfl, by show k + 1 <= t.columns.length; omega, hsub4, m1', hm4, hg2.succ hc (cgood (by simp_all [dR]))⟩, by show t.columns.length - (k + 1) < t.columns.length - k; omega, MT⟩)
     . obtain ⟨hin, rfl⟩ := Lm hy
       exact aB (λ _ => cbad my hsuby λ ht => ht.2.2 hin) (λ e => by cases e)
   . refine ⟨(i + 1, b1, my), ⟨by omega, hsuby, hb1, hmy1, hgood.succ hx (rest hno' (by simpa using h1) (by omega) (by omega) (hg2.all (by omega)))⟩, ?_, MT⟩
     show s.tables.length - (i + 1) < s.tables.length - i
     omega
 . obtain ⟨hin, rfl⟩ := Lm hy
   exact aB (λ _ => bad λ ht => ht.2.2.2.1 (by rw [<- hnm]; exact hin)) (λ e => by cases e)
theorem G0 {α : Type} {f : α -> ByteArray} {l : List α} {x : α} {n : ByteArray} (hx : l[i]? = some x) (h : n ∉ (l.take i).map f) (hn : f x ≠ n) : n ∉ (l.take (i + 1)).map f := by
 rw [gJ hx, List.mem_append]
 rintro (e | e)
 . exact h e
 . simp at e; exact hn e.symm
theorem Uy {α : Type} {f : α -> ByteArray} {l : List α} {x : α} {n : ByteArray} (hx : l[i]? = some x) (hi : i < k) (hn : f x = n) : n ∈ (l.take k).map f :=
 List.mem_map.2 ⟨x, List.mem_of_getElem? (i := i) (by rw [List.getElem?_take, if_pos hi, hx]), hn⟩
theorem QZ : Sound Tryz.prog 76 Sz := by
 refine aI (fn := Tryz.f76) (c := aE Tryz.f76) Tryz.func76 rfl (by decide) ?_
 rintro cvs m h K ⟨v, s, t, i, rfl, hs, hx, hK⟩
 refine ⟨O1 v i m h, rfl, aD NX (aD IJ aH), ?_⟩
 rw [<- Vo v i m h K]
 dsimp only [LQ, push_cast]
 have hl := hs.tables.slen
 have hlen := hs.tables.len
 have hil : i < s.tables.length := (List.getElem?_eq_some_iff.1 hx).1
 have bad : ¬ AZ (s.tables.take i) t -> K (.val (.bool false)) m h := λ h => hK false ⟨λ e => (by cases e), λ e => (h e).elim⟩
 obtain ⟨bb, o, w, ea, hr, hrep⟩ := hs.tables.at hx
 have hcl := iT.slen hrep.columns
 have hcb := iT.len hrep.columns
 have hnm := hrep.name
 have hky := hrep.key
 refine ⟨bb, o, ea, by omega, by omega, w, .imm hr, w.name, rfl, aB (λ h1 => bad λ ht => ?_) (λ h1 => aB (λ h2 => bad λ ht => ?_) (λ h2 => aC (λ h3 => bad λ ht => ?_) (λ h3 => aC (λ h4 => bad λ ht => ?_) (λ h4 => ?_))))⟩
 . have := ht.1; rw [<- hnm] at this; rw [this] at h1; cases h1
 . have := ht.2.1; have := ht.2.2.1; have : (w.columns.len : Int) = 0 := (by simpa using h2); omega
 . have := ht.2.1; omega
 . have := ht.2.2.1; omega
 refine ⟨λ ⟨k, w'⟩ => w' = w /\ k <= i /\ t.name ∉ (s.tables.take k).map Et.name, λ ⟨k, _⟩ => i - k, ⟨(0, w), ⟨rfl, by omega, by simp⟩, MT⟩, ?_⟩
 rintro ⟨k, w⟩ ⟨rfl, hk, hno⟩
 dsimp only
 refine aC (λ hlt => ?_) (λ hge => ?_)
 . obtain ⟨t', hx'⟩ : ∃ t', s.tables[k]? = some t' := ⟨s.tables[k]'(by omega), List.getElem?_eq_getElem _⟩
   obtain ⟨b', o', w', ea', hr', hrep'⟩ := hs.tables.at hx'
   refine ⟨b', o', ea', by omega, by omega, w'.name, .imm (cL.part hr' 0 1), aB (λ e => bad λ ht => ?_) (λ e => ?_)⟩
   . refine ht.2.2.2.1 (Uy hx' (by omega) ?_)
     rw [<- hrep'.name, <- hnm]; exact mN (by simpa using e)
   . refine ⟨(k + 1, w), ⟨rfl, by omega, G0 hx' hno λ e' => ?_⟩, by show i - (k + 1) < i - k; omega, MT⟩
     rw [<- hrep'.name, <- hnm] at e'
     rw [e'] at e; simp at e
 . have hki : k = i := by omega
   subst hki
   refine ⟨λ ⟨k, w'⟩ => w' = w /\ k <= t.columns.length /\ eG M1 t.columns k, λ ⟨k, _⟩ => t.columns.length - k, ⟨(0, w), ⟨rfl, by omega, .zero⟩, MT⟩, ?_⟩
   rintro ⟨c, w⟩ ⟨rfl, hc, hg⟩
   dsimp only
   refine aC (λ hlt => ?_) (λ hge2 => hK true ⟨λ _ => ⟨by rw [<- hnm]; simpa using h1, by omega, by omega, hno, hg.all (by omega)⟩, λ _ => rfl⟩)
   obtain ⟨x, hxc⟩ := fP hcl hlt
   obtain ⟨bc, oc, ec, rc⟩ := BP.at hrep.columns hxc
   have cbad : ¬ M1 (t.columns.take c) x -> K (.val (.bool false)) m h := λ hn => bad λ ht => Good.not hxc hn ht.2.2.2.2
   refine ⟨bc, oc, ec, by omega, hlt, x.name, .imm (cL.part rc 0 1), x.name, rfl, aB (λ e1 => cbad λ ht => ?_) (λ e1 => ⟨bc, oc, ec, by omega, hlt, x.kind, .imm (cL.part rc 1 1), x.kind, rfl, aB (λ e2 => cbad λ ht => ?_) (λ e2 => ?_)⟩)⟩
   . rw [ht.1] at e1; cases e1
   . rw [ht.2.1] at e2; cases e2
   refine ⟨λ ⟨c', j, w'⟩ => w' = w /\ c' = c /\ j <= c /\ x.name ∉ (t.columns.take j).map oG.name, λ ⟨_, j, _⟩ => c - j, ⟨(c, 0, w), ⟨rfl, rfl, by omega, by simp⟩, MT⟩, ?_⟩
   rintro ⟨c, j, w⟩ ⟨rfl, rfl, hj, hnoj⟩
   dsimp only
   refine aC (λ hlt3 => ?_) (λ hge3 => ?_)
   . obtain ⟨y, hy⟩ : ∃ y, t.columns[j]? = some y := ⟨t.columns[j]'(by omega), List.getElem?_eq_getElem _⟩
     obtain ⟨by', oy, ey, ry⟩ := BP.at hrep.columns hy
     refine ⟨by', oy, ey, by omega, by omega, y.name, .imm (cL.part ry 0 1), bc, oc, ec, by omega, hlt, x.name, .imm (cL.part rc 0 1), aB (λ e => cbad λ ht => ?_) (λ e => ?_)⟩
     . exact ht.2.2 (Uy hy (by omega) (mN (by simpa using e)))
     . refine ⟨(c, j + 1, w), ⟨rfl, rfl, by show j + 1 <= c; omega, G0 hy hnoj λ e' => ?_⟩, by show c - (j + 1) < c - j; omega, MT⟩
       rw [e'] at e; simp at e
   . have : j = c := by omega
     subst this
     exact ⟨(j + 1, w), ⟨rfl, by omega, hg.succ hxc ⟨by simpa using e1, by simpa using e2, hnoj⟩⟩, by show t.columns.length - (j + 1) < t.columns.length - j; omega, MT⟩
def DH (t g : Et) (k : Nat) (c : Int) : Prop := 0 <= c /\ c < t.columns.length /\ ∃ x y, t.columns[c.toNat]? = some x /\ g.columns[k]? = some y /\ x.kind = y.kind
def SF (tabs : List Et) (t : Et) (_ : List Ref) (r : Ref) : Prop := 0 <= r.table /\ r.table < tabs.length /\ ∃ g, tabs[r.table.toNat]? = some g /\ (r.columns.length : Int) = g.key /\ Good (λ pre c => DH t g pre.length c) r.columns
def BO (tabs : List Et) (_ : List Et) (t : Et) : Prop := Good (SF tabs t) t.refs
def SE : Vc.Spec := λ cvs m h K => ∃ v s, cvs = [aS v] /\ eW h s v /\ Good AZ s.tables /\ ∀ r : Bool, (r = true ↔ Good (BO s.tables) s.tables) -> K (cB r) m h
def P7 : Vc.Spec := λ cvs m h K => ∃ v s t, ∃ i : Nat, cvs = [aS v, cI i] /\ eW h s v /\ Good AZ s.tables /\ s.tables[i]? = some t /\ ∀ r : Bool, (r = true ↔ BO s.tables [] t) -> K (cB r) m h
noncomputable def Pb (v : bH) (m : MH) (h : PH) : Ctx :=
 cO [] [(2, { A := Nat, st := λ i => cD 82 83 [(1, .at (.ptr 1 0)), (11, sv v.tables), (12, iv v.tables.len), (13, iv i)] [(1, .cells 28 (v.enc.map .val))] m h }),
  (5, { A := Nat × Nat × dJ, st := λ ⟨i, k, w⟩ => cD 82 83 [(1, .at (.ptr 1 0)), (4, .at (.ptr 4 0)), (11, sv v.tables), (12, iv v.tables.len), (13, iv i), (18, sv w.references), (19, iv w.references.len), (20, iv k)] [(1, .cells 28 (v.enc.map .val)), (4, .cells 72 (w.enc.map .val))] m h }),
  (13, { A := Nat × Nat × Nat × dJ × dJ × Sl, st := λ ⟨i, k, j, w, g, sl⟩ => cD 82 83 [(1, .at (.ptr 1 0)), (4, .at (.ptr 4 0)), (7, .at (.ptr 7 0)), (11, sv v.tables), (12, iv v.tables.len), (13, iv i), (18, sv w.references), (19, iv w.references.len), (20, iv k), (48, sv sl), (49, iv sl.len), (50, iv j)] [(1, .cells 28 (v.enc.map .val)), (4, .cells 72 (w.enc.map .val)), (7, .cells 72 (g.enc.map .val))] m h })] [] [] false
noncomputable def O0 (v : bH) (m : MH) (h : PH) : Ctx :=
 cO [] [(3, { A := Nat × dJ, st := λ ⟨k, w⟩ => cD 85 87 [(2, .at (.ptr 2 0)), (5, .at (.ptr 5 0)), (16, sv w.references), (17, iv w.references.len), (18, iv k)] [(2, .cells 28 (v.enc.map .val)), (5, .cells 72 (w.enc.map .val))] m h }),
  (8, { A := Nat × Nat × dJ × BE, st := λ ⟨k, j, w, r⟩ => cD 85 87 [(2, .at (.ptr 2 0)), (5, .at (.ptr 5 0)), (7, .at (.ptr 7 0)), (16, sv w.references), (17, iv w.references.len), (18, iv k), (47, sv r.columns), (48, iv r.columns.len), (49, iv j)] [(2, .cells 28 (v.enc.map .val)), (5, .cells 72 (w.enc.map .val)), (7, .cells 86 (r.enc.map .val))] m h })] [] [] false
abbrev pY (a : (Nat -> Prop) -> Nat -> Prop) (b : (Nat -> Prop) -> (Nat -> Nat) -> Nat -> Prop) : Prop := ∃ (x : Nat -> Prop) (x1 : Nat -> Nat), gR (∃ (x2 : Nat), a x x2) (λ x2 => b x x1 x2)
abbrev gF  : Prop := eP 1
abbrev kQ (a : bH) : Prop := cF a.tables
abbrev yT (a : bH) : Prop := aK a.tables
abbrev Be (a b : dJ) : Prop := bW a.references b.references
abbrev Bf (a b : dJ) : Prop := fN a.references b.references
noncomputable abbrev qN (a : Nat × Nat × Nat × dJ × dJ × Sl) : dJ := a.2.2.2.1
noncomputable abbrev vT (a : Nat × Nat × Nat × dJ × dJ × Sl) : Sl := a.2.2.2.2.2
noncomputable abbrev tT (a : Nat × Nat × Nat × dJ × dJ × Sl) : Nat := a.2.2.1
noncomputable abbrev EO (a : Nat × Nat × Nat × dJ × dJ × Sl) : dJ := a.2.2.2.2.1
attribute [push_cast] pY gF kQ yT Be Bf qN vT tT EO
def Hs (v : bH) (m : MH) (h : PH) (K : CV -> MH -> PH -> Prop) : Prop :=
  pY (λ I x => aA (I x) gF (aA (aK v.tables) (kQ v) (aA (bO x) (bR v) (aA (m = m) (h = h) True)))) (λ I m1 x => I x -> bE (↑x : Int) (aF v.tables) (aY (λ b o => aG (bC (lR v) b o) (0 <= (↑x : Int)) ((↑x : Int) < aF v.tables) (∃ (y : dJ), bI m h b (bZ o x 5) (Aa y) /\ ∃ (I1 : Nat × Nat × dJ -> Prop) (m2 : Nat × Nat × dJ -> Nat), (∃ (x1 : Nat × Nat × dJ), aA (I1 x1) gF (aA (eP 4) (yT v) (aA (kQ v) (dG x x1.1) (aA (Be y (j4 x1)) (Bf y (j4 x1)) (aA (bO (tB x1)) (bR v) (aA (oQ 72 (gT y) = oQ 72 (gT (j4 x1))) (m = m) (bG h h))))))) /\ ∀ (x1 : Nat × Nat × dJ), I1 x1 -> bE (↑(tB x1) : Int) (aF (j4 x1).references) (aY (λ b1 o1 => aG (bC (j4 x1).references.a b1 o1) (0 <= (↑(tB x1) : Int)) ((↑(tB x1) : Int) < aF
 (j4 x1).references) (∃ (y1 : BE), bI m h b1 (bZ o1 (tB x1) 2) (kY (nG y1.columns) (cZ y1.table)) /\ bE y1.table 0 (K aR m h) (fI y1.table (iR v) (K aR m h) (aY (λ b2 o2 => aG (bC (lR v) b2 o2) (0 <= y1.table) (y1.table < aF v.tables) (∃ (y2 : dJ), bI m h b2 (iW o2 y1.table 5) (Aa y2) /\ dE (aF y1.columns) y2.key (K aR m h) (∃ (I2 : Nat × Nat × Nat × dJ × dJ × Sl -> Prop) (m3 : Nat × Nat × Nat × dJ × dJ × Sl -> Nat), (∃ (x2 : Nat × Nat × Nat × dJ × dJ × Sl), aA (I2 x2) gF (aA (eP 4) (eP 7) (aA (yT v) (kQ v) (aA (dG x1.1 x2.1) (Be (j4 x1) (qN x2)) (aA (Bf (j4 x1) (qN x2)) (dG (tB x1) x2.2.1) (aA (bW y1.columns (vT x2)) (fN y1.columns (vT x2)) (aA (bO (tT x2)) (bR v) (aA (oQ 72 (gT (j4 x1)) = oQ 72
 (gT (qN x2))) (oQ 72 (gT y2) = oQ 72 (gT (EO x2))) (cQ (m = m) h h))))))))) /\ ∀ (x2 : Nat × Nat × Nat × dJ × dJ × Sl), I2 x2 -> bE (↑(tT x2) : Int) (aF (vT x2)) (aY (λ b3 o3 => aG (bC (vT x2).a b3 o3) (0 <= (↑(tT x2) : Int)) ((↑(tT x2) : Int) < aF (vT x2)) (∃ (y3 : Int), bI m h b3 (bZ o3 (tT x2) 1) (bT y3) /\ bE y3 0 (K aR m h) (fI y3 (aF (qN x2).columns) (K aR m h) (aY (λ b4 o4 => aG (bC (qN x2).columns.a b4 o4) (0 <= y3) (y3 < aF (qN x2).columns) (∃ (y4 : Int), bI m h b4 (iW o4 y3 2 + 1) (bT y4) /\ aY (λ b5 o5 => aG (bC (EO x2).columns.a b5 o5) (0 <= (↑(tT x2) : Int)) ((↑(tT x2) : Int) < aF (EO x2).columns) (∃ (y5 : Int), bI m h b5 (bZ o5 (tT x2) 2 + 1) (bT y5) /\ dE y4 y5 (K aR m h) (∃ (x3 :
 Nat × Nat × Nat × dJ × dJ × Sl), aA (I2 x3) (m3 x3 < m3 x2) (aA (eP 1) (eP 4) (aA (eP 7) (yT v) (aA (kQ v) (dG x2.1 x3.1) (aA (Be (qN x2) (qN x3)) (Bf (qN x2) (qN x3)) (aA (dG x2.2.1 x3.2.1) (bW (vT x2) (vT x3)) (aA (fN (vT x2) (vT x3)) (aZ (tT x2) 1 (tT x3)) (aA (bR v) (oQ 72 (gT (qN x2)) = oQ 72 (gT (qN x3))) (aG (oQ 72 (gT (EO x2)) = oQ 72 (gT (EO x3))) (m = m) (h = h) True)))))))))))))))))) (∃ (x3 : Nat × Nat × dJ), aA (I1 x3) (m2 x3 < m2 x1) (aA (eP 1) (eP 4) (aA (yT v) (kQ v) (aA (dG x2.1 x3.1) (Be (qN x2) (j4 x3)) (aA (Bf (qN x2) (j4 x3)) (aZ x2.2.1 1 (tB x3)) (aA (bR v) (oQ 72 (gT (qN x2)) = oQ 72 (gT (j4 x3))) (cQ (m = m) h h))))))))))))))) (∃ (x2 : Nat), aA
 (I x2) (m1 x2 < m1 x) (aA (eP 1) (yT v) (aA (kQ v) (aZ x1.1 1 x2) (aA (bR v) (m = m) (bG h h)))))))) (K gV m h))
theorem VD (v : bH) (m : MH) (h : PH) (K : CV -> MH -> PH -> Prop) : Hs v m h K = (cG (Pb v m h) Tryz.f61 (aE Tryz.f61) (entry Tryz.f61.ntmps [aS v] m h) K) := by kernel_rfl
noncomputable abbrev qO (a : Nat × Nat × dJ × BE) : dJ := a.2.2.1
noncomputable abbrev B1 (a : Nat × Nat × dJ × BE) : BE := a.2.2.2
noncomputable abbrev pT (a : Nat × Nat × dJ × BE) : Sl := (B1 a).columns
attribute [push_cast] qO B1 pT
def Ho (v : bH) (i : Nat) (m : MH) (h : PH) (K : CV -> MH -> PH -> Prop) : Prop :=
  aY (λ b o => aG (bC (lR v) b o) (0 <= (↑i : Int)) ((↑i : Int) < aF v.tables) (∃ (y : dJ), bI m h b (bZ o i 5) (Aa y) /\ J1 (λ I m1 => (∃ (x : Nat × dJ), aA (I x) fL (aA (eP 5) (Be y x.2) (aA (Bf y x.2) (bO x.1) (aA (bR v) (oQ 72 (gT y) = oQ 72 (gT x.2)) (cQ (m = m) h h))))) /\ ∀ (x : Nat × dJ), I x -> bE (↑x.1 : Int) (aF x.2.references) (aY (λ b1 o1 => aG (bC x.2.references.a b1 o1) (0 <= (↑x.1 : Int)) ((↑x.1 : Int) < aF x.2.references) (∃ (y1 : BE), bI m h b1 (bZ o1 x.1 2) (kY (nG y1.columns) (cZ y1.table)) /\ bE y1.table 0 (K aR m h) (fI y1.table (iR v) (K aR m h) (aY (λ b2 o2 => aG (bC (lR v) b2 o2) (0 <= y1.table) (y1.table < aF v.tables) (∃ (y2 : Int), bI m h b2 (iW o2 y1.table 5 + 2) (bT y2) /\ dE (aF y1.columns) y2 (K
 aR m h) (∃ (I1 : Nat × Nat × dJ × BE -> Prop) (m2 : Nat × Nat × dJ × BE -> Nat), (∃ (x1 : Nat × Nat × dJ × BE), aA (I1 x1) fL (aA (eP 5) (eP 7) (aA (Be x.2 (qO x1)) (Bf x.2 (qO x1)) (aA (dG x.1 x1.1) (bW y1.columns (pT x1)) (aA (fN y1.columns (pT x1)) (bO x1.2.1) (aA (bR v) (oQ 72 (gT x.2) = oQ 72 (gT (qO x1))) (aG (oQ 86 (kJ (gI y1.columns) (bL y1.table)) = oQ 86 (kJ (gI (pT x1)) (bL (B1 x1).table))) (m = m) (h = h) True))))))) /\ ∀ (x1 : Nat × Nat × dJ × BE), I1 x1 -> bE (↑x1.2.1 : Int) (aF (pT x1)) (aY (λ b3 o3 => aG (bC (pT x1).a b3 o3) (0 <= (↑x1.2.1 : Int)) ((↑x1.2.1 : Int) < aF (pT x1)) (∃ (y3 : Int), bI m h b3 (bZ o3 x1.2.1 1) (bT y3) /\ bE y3 0 (K aR m h) (fI y3 (aF (qO x1).columns) (K aR m h) (aY (λ b4
 o4 => aG (bC (qO x1).columns.a b4 o4) (0 <= y3) (y3 < aF (qO x1).columns) (∃ (y4 : Int), bI m h b4 (iW o4 y3 2 + 1) (bT y4) /\ aY (λ b5 o5 => aG (bC (lR v) b5 o5) (0 <= (B1 x1).table) ((B1 x1).table < aF v.tables) (∃ (y5 : Sl), bI m h b5 (iW o5 (B1 x1).table 5 + 1) (cT y5) /\ aY (λ b6 o6 => aG (bC y5.a b6 o6) (0 <= (↑x1.2.1 : Int)) ((↑x1.2.1 : Int) < aF y5) (∃ (y6 : Int), bI m h b6 (bZ o6 x1.2.1 2 + 1) (bT y6) /\ dE y4 y6 (K aR m h) (∃ (x2 : Nat × Nat × dJ × BE), aA (I1 x2) (m2 x2 < m2 x1) (aA (eP 2) (eP 5) (aA (eP 7) (Be (qO x1) (qO x2)) (aA (Bf (qO x1) (qO x2)) (dG x1.1 x2.1) (aA (bW (pT x1) (pT x2)) (fN (pT x1) (pT x2)) (aA (aZ x1.2.1 1 x2.2.1) (bR v) (aA (oQ 72 (gT (qO x1)) = oQ 72 (gT (qO x2)))
 (oQ 86 (kJ (gI (pT x1)) (bL (B1 x1).table)) = oQ 86 (kJ (gI (pT x2)) (bL (B1 x2).table))) (aA (m = m) (h = h) True))))))))))))))))))) (∃ (x2 : Nat × dJ), aA (I x2) (m1 x2 < m1 x) (aA (eP 2) (eP 5) (aA (Be (qO x1) x2.2) (Bf (qO x1) x2.2) (aA (aZ x1.1 1 x2.1) (bR v) (aG (oQ 72 (gT (qO x1)) = oQ 72 (gT x2.2)) (m = m) (h = h) True))))))))))))) (K gV m h))))
theorem Vm (v : bH) (i : Nat) (m : MH) (h : PH) (K : CV -> MH -> PH -> Prop) : Ho v i m h K = (cG (O0 v m h) Tryz.f77 (aE Tryz.f77) (entry Tryz.f77.ntmps [aS v, cI i] m h) K) := by kernel_rfl
theorem aU.at' {s : Sl} (r : aU h s l) {x : Int} (hi : l[i]? = some x) : ∃ b o, s.a = some ⟨b, o, none⟩ /\ cL h b (o + i * 1) [.int .i64 x] := by
 obtain ⟨b, o, e, k⟩ := r.at hi
 exact ⟨b, o, e, by rwa [Nat.mul_one]⟩
theorem KW {α : Type} {l : List α} {x : α} (h : l[i]? = some x) : (l.take i).length = i := by
 have := (List.getElem?_eq_some_iff.1 h).1
 rw [List.length_take]; omega
theorem Good.key_le {tabs : List Et} (h : Good AZ tabs) {g : Et} (hg : tabs[i]? = some g) : g.key <= g.columns.length := (h i g hg).2.2.1
theorem VE {v : bH} (hs : eW h s v) (hgood : Good AZ s.tables) (hK : ∀ r : Bool, (r = true ↔ Good (BO s.tables) s.tables) -> K (cB r) m h) : Hs v m h K := by
 dsimp only [Hs, push_cast]
 have hl := hs.tables.slen
 have hlen := hs.tables.len
 have hf : ¬ Good (BO s.tables) s.tables -> K (.val (.bool false)) m h := λ h => hK false ⟨λ e => (by cases e), λ e => (h e).elim⟩
 refine ⟨λ i => i <= s.tables.length /\ eG (BO s.tables) s.tables i, λ i => s.tables.length - i, ⟨0, ⟨by omega, .zero⟩, MT⟩, λ i ⟨hi, hg⟩ => aC (λ hlt => ?_) (λ hge => hK true ⟨λ _ => hg.all (by omega), λ _ => rfl⟩)⟩
 obtain ⟨t, hx⟩ := fP hl hlt
 obtain ⟨b, o, w, ea, hr, hrep⟩ := hs.tables.at hx
 have hcl := iT.slen hrep.columns
 have hrl := iT.slen hrep.refs
 have hrb := iT.len hrep.refs
 refine ⟨b, o, ea, by omega, hlt, w, .imm hr, λ ⟨i', k, w'⟩ => i' = i /\ w' = w /\ k <= t.refs.length /\ eG (SF s.tables t) t.refs k, λ ⟨_, k, _⟩ => t.refs.length - k, ⟨(i, 0, w), ⟨rfl, rfl, by omega, .zero⟩, MT⟩, ?_⟩
 rintro ⟨i, k, w⟩ ⟨rfl, rfl, hk, hg2⟩
 dsimp only
 refine aC (λ hlt2 => ?_) (λ hge2 => ⟨i + 1, ⟨by omega, hg.succ hx (hg2.all (by omega))⟩, by show s.tables.length - (i + 1) < s.tables.length - i; omega, MT⟩)
 obtain ⟨r, hrx⟩ := fP hrl hlt2
 obtain ⟨b2, o2, rv, ea2, hr2, hrep2⟩ := hrep.refs.at hrx
 have rcl := hrep2.columns.slen
 have rcb := hrep2.columns.len
 have rt := hrep2.table
 have bad : ¬ SF s.tables t (t.refs.take k) r -> K (.val (.bool false)) m h := λ hn => hf (Good.not hx (Good.not hrx hn))
 refine ⟨b2, o2, ea2, by omega, hlt2, rv, .imm hr2, aC (λ h1 => bad λ ht => ?_) (λ h1 => aC (λ h2 => bad λ ht => ?_) (λ h2 => ?_))⟩
 . have := ht.1; omega
 . have := ht.2.1; omega
 obtain ⟨g, b3, o3, gv, hgx, ea3, hr3, hrep3⟩ := hs.table (t := rv.table) (by omega) (by omega)
 have gcl := iT.slen hrep3.columns
 have hkey := hgood.key_le hgx
 have gk := hrep3.key
 refine ⟨b3, o3, ea3, by omega, by omega, gv, .imm hr3, aB (λ h3 => bad λ ht => ?_) (λ h3 => ?_)⟩
 . obtain ⟨_, _, g', hg', hk', _⟩ := ht
   rw [<- rt, hgx] at hg'
   cases hg'
   have : (rv.columns.len : Int) ≠ gv.key := by simpa using h3
   omega
 have h3 : (rv.columns.len : Int) = gv.key := by simpa using h3
 refine ⟨λ ⟨i', k', j, w', g', sl⟩ => i' = i /\ k' = k /\ w' = w /\ g' = gv /\ sl = rv.columns /\ j <= r.columns.length /\ eG (λ pre c => DH t g pre.length c) r.columns j, λ ⟨_, _, j, _, _, _⟩ => r.columns.length - j, ⟨(i, k, 0, w, gv, rv.columns), ⟨rfl, rfl, rfl, rfl, rfl, by omega, .zero⟩, MT⟩, ?_⟩
 rintro ⟨i, k, j, w, gv, _⟩ ⟨rfl, rfl, rfl, rfl, rfl, hj, hg3⟩
 dsimp only
 refine aC (λ hlt3 => ?_) (λ hge3 => ⟨(i, k + 1, w), ⟨rfl, rfl, by show k + 1 <= t.refs.length; omega, hg2.succ hrx ⟨by omega, by omega, g, by rw [<- rt]; exact hgx, by omega, hg3.all (by omega)⟩⟩, by show t.refs.length - (k + 1) < t.refs.length - k; omega, MT⟩)
 obtain ⟨c, hc⟩ := fP rcl hlt3
 obtain ⟨b4, o4, ea4, hr4⟩ := hrep2.columns.at' hc
 have htl := KW hc
 have cbad : ¬ DH t g j c -> K (.val (.bool false)) m h := λ hn => bad λ ht => by
  obtain ⟨_, _, g', hg', _, hgo⟩ := ht
  rw [<- rt, hgx] at hg'
  cases hg'
  have := hgo j c hc
  dsimp only at this
  rw [htl] at this
  exact hn this
 refine ⟨b4, o4, ea4, by omega, hlt3, c, .imm hr4, aC (λ h5 => cbad λ ht => ?_) (λ h5 => aC (λ h6 => cbad λ ht => ?_) (λ h6 => ?_))⟩
 . have := ht.1; omega
 . have := ht.2.1; omega
 obtain ⟨x, hxx⟩ : ∃ x, t.columns[c.toNat]? = some x := ⟨t.columns[c.toNat]'(by omega), List.getElem?_eq_getElem _⟩
 obtain ⟨y, hyy⟩ : ∃ y, g.columns[j]? = some y := ⟨g.columns[j]'(by omega), List.getElem?_eq_getElem _⟩
 obtain ⟨b5, o5, ea5, hr5⟩ := BP.at hrep.columns hxx
 obtain ⟨b6, o6, ea6, hr6⟩ := BP.at hrep3.columns hyy
 refine ⟨b5, o5, ea5, by omega, by omega, x.kind, .imm (cL.part hr5 1 1), b6, o6, ea6, by omega, by omega, y.kind, .imm (cL.part hr6 1 1), aB (λ h7 => cbad λ ht => ?_) (λ h7 => ?_)⟩
 . obtain ⟨_, _, x', y', e1, e2, e3⟩ := ht
   rw [hxx] at e1; rw [hyy] at e2
   cases e1; cases e2
   rw [e3] at h7; simp at h7
 . exact ⟨(i, k, j + 1, w, gv, rv.columns), ⟨rfl, rfl, rfl, rfl, rfl, by show j + 1 <= r.columns.length; omega, hg3.succ hc (by show DH t g (List.take j r.columns).length c; rw [htl]; exact ⟨by omega, by omega, x, y, hxx, hyy, by simpa using h7⟩)⟩, by show r.columns.length - (j + 1) < r.columns.length - j; omega, MT⟩
theorem Rd : Sound Tryz.prog 61 SE := by
 refine aI (fn := Tryz.f61) (c := aE Tryz.f61) Tryz.func61 rfl (by decide) ?_
 rintro cvs m h K ⟨v, s, rfl, hs, hg, hK⟩
 refine ⟨Pb v m h, rfl, aH, ?_⟩
 rw [<- VD v m h K]
 exact VE hs hg hK
theorem Vn {v : bH} {t : Et} (hs : eW h s v) (hgood : Good AZ s.tables) (hx : s.tables[i]? = some t) (hK : ∀ r : Bool, (r = true ↔ BO s.tables [] t) -> K (cB r) m h) : Ho v i m h K := by
 dsimp only [Ho, push_cast]
 have hl := hs.tables.slen
 have hlen := hs.tables.len
 have hil : i < s.tables.length := (List.getElem?_eq_some_iff.1 hx).1
 have hf : ¬ BO s.tables [] t -> K (.val (.bool false)) m h := λ h => hK false ⟨λ e => (by cases e), λ e => (h e).elim⟩
 obtain ⟨b, o, w, ea, hr, hrep⟩ := hs.tables.at hx
 have hcl := iT.slen hrep.columns
 have hrl := iT.slen hrep.refs
 have hrb := iT.len hrep.refs
 refine ⟨b, o, ea, by omega, by omega, w, .imm hr, λ ⟨k, w'⟩ => w' = w /\ k <= t.refs.length /\ eG (SF s.tables t) t.refs k, λ ⟨k, _⟩ => t.refs.length - k, ⟨(0, w), ⟨rfl, by omega, .zero⟩, MT⟩, ?_⟩
 rintro ⟨k, w⟩ ⟨rfl, hk, hg2⟩
 dsimp only
 refine aC (λ hlt2 => ?_) (λ hge2 => hK true ⟨λ _ => hg2.all (by omega), λ _ => rfl⟩)
 obtain ⟨r, hrx⟩ := fP hrl hlt2
 obtain ⟨b2, o2, rv, ea2, hr2, hrep2⟩ := hrep.refs.at hrx
 have rcl := hrep2.columns.slen
 have rcb := hrep2.columns.len
 have rt := hrep2.table
 have bad : ¬ SF s.tables t (t.refs.take k) r -> K (.val (.bool false)) m h := λ hn => hf (Good.not hrx hn)
 refine ⟨b2, o2, ea2, by omega, hlt2, rv, .imm hr2, aC (λ h1 => bad λ ht => ?_) (λ h1 => aC (λ h2 => bad λ ht => ?_) (λ h2 => ?_))⟩
 . have := ht.1; omega
 . have := ht.2.1; omega
 obtain ⟨g, b3, o3, gv, hgx, ea3, hr3, hrep3⟩ := hs.table (t := rv.table) (by omega) (by omega)
 have gcl := iT.slen hrep3.columns
 have hkey := hgood.key_le hgx
 have gk := hrep3.key
 refine ⟨b3, o3, ea3, by omega, by omega, gv.key, .imm (cL.part hr3 2 1), aB (λ h3 => bad λ ht => ?_) (λ h3 => ?_)⟩
 . obtain ⟨_, _, g', hg', hk', _⟩ := ht
   rw [<- rt, hgx] at hg'
   cases hg'
   have : (rv.columns.len : Int) ≠ gv.key := by simpa using h3
   omega
 have h3 : (rv.columns.len : Int) = gv.key := by simpa using h3
 refine ⟨λ ⟨k', j, w', r'⟩ => k' = k /\ w' = w /\ r' = rv /\ j <= r.columns.length /\ eG (λ pre c => DH t g pre.length c) r.columns j, λ ⟨_, j, _, _⟩ => r.columns.length - j, ⟨(k, 0, w, rv), ⟨rfl, rfl, rfl, by omega, .zero⟩, MT⟩, ?_⟩
 rintro ⟨k, j, w, rv⟩ ⟨rfl, rfl, rfl, hj, hg3⟩
 dsimp only
 refine aC (λ hlt3 => ?_) (λ hge3 => ⟨(k + 1, w), ⟨rfl, by show k + 1 <= t.refs.length; omega, hg2.succ hrx ⟨by omega, by omega, g, by rw [<- rt]; exact hgx, by omega, hg3.all (by omega)⟩⟩, by show t.refs.length - (k + 1) < t.refs.length - k; omega, MT⟩)
 obtain ⟨c, hc⟩ := fP rcl hlt3
 obtain ⟨b4, o4, ea4, hr4⟩ := hrep2.columns.at' hc
 have htl := KW hc
 have cbad : ¬ DH t g j c -> K (.val (.bool false)) m h := λ hn => bad λ ht => by
  obtain ⟨_, _, g', hg', _, hgo⟩ := ht
  rw [<- rt, hgx] at hg'
  cases hg'
  have := hgo j c hc
  dsimp only at this
  rw [htl] at this
  exact hn this
 refine ⟨b4, o4, ea4, by omega, hlt3, c, .imm hr4, aC (λ h5 => cbad λ ht => ?_) (λ h5 => aC (λ h6 => cbad λ ht => ?_) (λ h6 => ?_))⟩
 . have := ht.1; omega
 . have := ht.2.1; omega
 obtain ⟨x, hxx⟩ : ∃ x, t.columns[c.toNat]? = some x := ⟨t.columns[c.toNat]'(by omega), List.getElem?_eq_getElem _⟩
 obtain ⟨y, hyy⟩ : ∃ y, g.columns[j]? = some y := ⟨g.columns[j]'(by omega), List.getElem?_eq_getElem _⟩
 obtain ⟨b5, o5, ea5, hr5⟩ := BP.at hrep.columns hxx
 obtain ⟨b6, o6, ea6, hr6⟩ := BP.at hrep3.columns hyy
 refine ⟨b5, o5, ea5, by omega, by omega, x.kind, .imm (cL.part hr5 1 1), b3, o3, ea3, by omega, by omega, gv.columns, .imm (cL.part hr3 1 1), b6, o6, ea6, by omega, by omega, y.kind, .imm (cL.part hr6 1 1), aB (λ h7 => cbad λ ht => ?_) (λ h7 => ?_)⟩
 . obtain ⟨_, _, x', y', e1, e2, e3⟩ := ht
   rw [hxx] at e1; rw [hyy] at e2
   cases e1; cases e2
   rw [e3] at h7; simp at h7
 . exact ⟨(k, j + 1, w, rv), ⟨rfl, rfl, rfl, by show j + 1 <= r.columns.length; omega, hg3.succ hc (by show DH t g (List.take j r.columns).length c; rw [htl]; exact ⟨by omega, by omega, x, y, hxx, hyy, by simpa using h7⟩)⟩, by show r.columns.length - (j + 1) < r.columns.length - j; omega, MT⟩
theorem QY : Sound Tryz.prog 77 P7 := by
 refine aI (fn := Tryz.f77) (c := aE Tryz.f77) Tryz.func77 rfl (by decide) ?_
 rintro cvs m h K ⟨v, s, t, i, rfl, hs, hg, hx, hK⟩
 refine ⟨O0 v m h, rfl, aH, ?_⟩
 rw [<- Vm v i m h K]
 exact Vn hs hg hx hK
def HT (t : Et) : Prop := t.columns.length <= 8 /\ t.refs.length <= 4 /\ t.checks.length <= 4
def zI (s : oC) : Prop := s.tables.length <= 8 /\ Good (λ _ t => HT t) s.tables
def F5 (s : oC) : Prop := 0 <= s.version /\ s.version <= 1000 /\ Good AZ s.tables /\ Good (BO s.tables) s.tables
def iS : List Int -> Int
 | [] => 0
 | e :: r => if e = 0 then iS r else e
def sR (s : oC) (i : Nat) : List Int := match s.tables[i]? with | some t => t.checks.map (fE (j5 s i) []) | none => []
theorem xE (a b : List Int) (h : ∀ e ∈ a, e = 0) : iS (a ++ b) = iS b := by
 induction a with
 | nil => rfl
 | cons x a ih =>
  simp only [List.cons_append, iS]
  rw [if_pos (h x (by simp)), ih λ e he => h e (by simp [he])]
theorem qX (a : List Int) (h : ∀ e ∈ a, e = 0) : iS a = 0 := by
 have := xE a [] h
 simpa [iS] using this
theorem FZ {n : Nat} {f : Nat -> List Int} {e : Int} (hi : i < n) (h1 : ∀ j < i, ∀ x ∈ f j, x = 0) (h2 : ∀ x ∈ (f i).take k, x = 0) (h3 : (f i)[k]? = some e) (he : e ≠ 0) : iS ((List.range n).flatMap f) = e := by
 obtain ⟨r, rfl⟩ : ∃ r, n = i + (1 + r) := ⟨n - i - 1, by omega⟩
 rw [List.range_add, List.flatMap_append, xE]
 . rw [show (List.range (1 + r)).map (i + ·) = i :: (List.range' (i + 1) r) from ?_, List.flatMap_cons, <- List.take_append_drop k (f i), List.append_assoc, xE _ _ h2, drop_cons h3]
   . simp [iS, he]
   . rw [Nat.add_comm 1 r, List.range_succ_eq_map]
     simp [List.range'_eq_map_range, Nat.add_assoc, Nat.add_comm 1]
 . intro x hx
   obtain ⟨j, hj, hx⟩ := List.mem_flatMap.1 hx
   exact h1 j (List.mem_range.1 hj) x hx
open Classical in
noncomputable def cN (s : oC) : Int := if zI s then (if F5 s then iS ((List.range s.tables.length).flatMap (sR s)) else 70) else 2
def qA : Vc.Spec := λ cvs m h K => ∃ v s, cvs = [aS v] /\ eW h s v /\ K (cI (cN s)) m h
noncomputable def Pv (v : bH) (m : MH) (h : PH) : Ctx :=
 cO [(60, SM), (61, SE), (62, uO), (63, lW)]
  [(4, { A := Nat, st := λ i => cD 83 84 [(1, .at (.ptr 1 0)), (16, sv v.tables), (17, iv v.tables.len), (18, iv i)] [(1, .cells 28 (v.enc.map .val))] m h }),
   (12, { A := Nat × PH, st := λ ⟨i, hx⟩ => cD 83 84 [(1, .at (.ptr 1 0)), (58, sv v.tables), (59, iv v.tables.len), (60, iv i)] [(1, .cells 28 (v.enc.map .val))] m hx }),
   (16, { A := Nat × Nat × Sl × Sl × PH, st := λ ⟨i, k, ks, cs, hx⟩ => cD 83 84 [(1, .at (.ptr 1 0)), (7, sv ks), (58, sv v.tables), (59, iv v.tables.len), (60, iv i), (69, sv cs), (70, iv cs.len), (71, iv k)] [(1, .cells 28 (v.enc.map .val))] m hx })] [] [] false
noncomputable def f53_ctx (v : bH) (m : MH) (h : PH) : Ctx :=
 cO [(76, Sz), (77, P7), (52, uO), (57, lW)]
  [(4, { A := Nat, st := λ i => cD 96 97 [(1, .at (.ptr 1 0)), (16, sv v.tables), (17, iv v.tables.len), (18, iv i)] [(1, .cells 28 (v.enc.map .val))] m h }),
   (12, { A := Nat, st := λ i => cD 96 97 [(1, .at (.ptr 1 0)), (49, iv v.tables.len), (50, iv i)] [(1, .cells 28 (v.enc.map .val))] m h }),
   (18, { A := Nat, st := λ i => cD 96 97 [(1, .at (.ptr 1 0)), (60, iv v.tables.len), (61, iv i)] [(1, .cells 28 (v.enc.map .val))] m h }),
   (24, { A := Nat × PH, st := λ ⟨i, hx⟩ => cD 96 97 [(1, .at (.ptr 1 0)), (71, iv v.tables.len), (72, iv i)] [(1, .cells 28 (v.enc.map .val))] m hx }),
   (27, { A := Nat × Nat × Sl × PH, st := λ ⟨i, k, cs, hx⟩ => cD 96 97 [(1, .at (.ptr 1 0)), (7, iv i), (71, iv v.tables.len), (72, iv i), (80, sv cs), (81, iv cs.len), (82, iv k)] [(1, .cells 28 (v.enc.map .val))] m hx })] [] [] false
abbrev G9 (a : (Nat × PH -> Prop) -> (Nat × PH -> Nat) -> Prop) : Prop := ∃ (x : Nat × PH -> Prop) (x1 : Nat × PH -> Nat), a x x1
abbrev G5 (a b : (Nat × PH) -> Prop) : Prop := (∃ (x : Nat × PH), a x) /\ ∀ (x : Nat × PH), b x
abbrev fM (a : PH) (b : List Int) (c : Sl -> PH -> Prop) : Prop := AN (λ x x1 => eU a x1 (aU x1 x b) (c x x1))
noncomputable abbrev vU (a : Nat × Nat × Sl × Sl × PH) : Sl := a.2.2.2.1
noncomputable abbrev vV (a : Nat × Nat × Sl × Sl × PH) : Nat -> Nat -> Option Value := a.2.2.2.2
abbrev vE (a : (List Int) -> (List Int) -> Prop) : Prop := ∃ (x x1 : List Int), a x x1
attribute [push_cast] G9 G5 fM vU vV vE
def Hx (v : bH) (m : MH) (h : PH) (K : CV -> MH -> PH -> Prop) : Prop :=
  fB (iR v) 8 (K (fS 2) m h) (pY (λ I x => aA (I x) gF (aA (aK v.tables) (kQ v) (aA (bO x) (bR v) (aA (m = m) (h = h) True)))) (λ I m1 x => I x -> bE (↑x : Int) (aF v.tables) (aY (λ b o => aG (bC (lR v) b o) (0 <= (↑x : Int)) ((↑x : Int) < aF v.tables) (∃ (y : dJ), bI m h b (bZ o x 5) (Aa y) /\ lT (decide (aF y.columns > 8)) (K (fS 2) m h) (aF y.references) 4 (K (fS 2) m h) (fB (aF y.checks) 4 (K (fS 2) m h) (∃ (x1 : Nat), aA (I x1) (m1 x1 < m1 x) (aA (eP 1) (yT v) (aA (kQ v) (aZ x 1 x1) (aA (bR v) (m = m) (bG h h))))))))) (bE v.version 0 (K (fS 70) m h) (fB v.version 1000 (K (fS 70) m h) (mX (λ v1 s => aA (cK (bK v) (bK v1)) (eW h s v1) (∀ (r : Bool), eJ (dQ r (Good AZ s.tables)) (!r) (K (fS 70) m h) (mX (λ v2 s1 =>
 aG (cK (bK v) (bK v2)) (eW h s1 v2) (Good AZ s1.tables) (∀ (r1 : Bool), eJ (dQ r1 (Good (BO s1.tables) s1.tables)) (!r1) (K (fS 70) m h) (G9 (λ I1 m2 => G5 (λ x1 => aA (I1 x1) gF (aA (aK v.tables) (kQ v) (aA (bO x1.1) (bR v) (aA (m = m) (h = x1.2) True)))) (λ x1 => I1 x1 -> bE (↑x1.1 : Int) (aF v.tables) (aY (λ b o => aG (bC (lR v) b o) (0 <= (↑x1.1 : Int)) ((↑x1.1 : Int) < aF v.tables) (∃ (y : dJ), bI m x1.2 b (bZ o x1.1 5) (Aa y) /\ mX (λ v3 s2 => ∃ (t : Int), aG (mW (bK v) x1.1 = cV (bK v3) t) (eW x1.2 s2 v3) (iH s2) (fM x1.2 (j5 s2 t) (λ s3 h1 => ∃ (I2 : Nat × Nat × Sl × Sl × PH -> Prop) (m3 : Nat × Nat × Sl × Sl × PH -> Nat), (∃ (x2 : Nat × Nat × Sl × Sl × PH), aA (I2 x2) gF (aA (bW s3 x2.2.2.1) (yT v) (aA (kQ v)
 (dG x1.1 x2.1) (aA (bW y.checks (vU x2)) (fN y.checks (vU x2)) (kN (bO x2.2.1) (bR v) (m = m) h1 (vV x2)))))) /\ ∀ (x2 : Nat × Nat × Sl × Sl × PH), I2 x2 -> bE (↑x2.2.1 : Int) (aF (vU x2)) (aY (λ b1 o1 => aG (bC (vU x2).a b1 o1) (0 <= (↑x2.2.1 : Int)) ((↑x2.2.1 : Int) < aF (vU x2)) (∃ (y1 : PV), bI m (vV x2) b1 (bZ o1 x2.2.1 13) y1.enc /\ gW (λ s4 t1 => ∃ (v4 : PV), vE (λ c p => ∃ (p1 : Pred), aA (dO x2.2.2.1 :: bX Fj y1.enc = dO s4 :: bX (dO t1) v4.enc) (aU (vV x2) s4 c) (aA (aU (vV x2) t1 p) (cX (vV x2) p1 v4) (dE (fE c p p1) 0 (K (fS (fE c p p1)) m (vV x2)) (∃ (x3 : Nat × Nat × Sl × Sl × PH), aA (I2 x3) (m3 x3 < m3 x2) (aA (eP 1) (bW x2.2.2.1 x3.2.2.1) (aA (yT v) (kQ v) (aA (dG x2.1 x3.1) (bW (vU x2)
 (vU x3)) (aA (fN (vU x2) (vU x3)) (aZ x2.2.1 1 x3.2.1) (aA (bR v) (m = m) (bG (vV x2) (vV x3))))))))))))))) (∃ (x3 : Nat × PH), aA (I1 x3) (m2 x3 < m2 x1) (aA (eP 1) (yT v) (aA (kQ v) (aZ x2.1 1 x3.1) (aA (bR v) (m = m) (bG (vV x2) x3.2))))))))))) (K (fS 0) m x1.2))))))))))))))
theorem VZ (v : bH) (m : MH) (h : PH) (K : CV -> MH -> PH -> Prop) : Hx v m h K = (cG (Pv v m h) Tryz.f31 (aE Tryz.f31) (entry Tryz.f31.ntmps [aS v] m h) K) := by kernel_rfl
noncomputable abbrev vW (a : Nat × Nat × Sl × PH) : Sl := a.2.2.1
attribute [push_cast] vW
def f53_nice (v : bH) (m : MH) (h : PH) (K : CV -> MH -> PH -> Prop) : Prop :=
  fB (iR v) 8 (K (fS 2) m h) (pY (λ I x => aA (I x) gF (aA (aK v.tables) (kQ v) (aA (bO x) (bR v) (aA (m = m) (h = h) True)))) (λ I m1 x => I x -> bE (↑x : Int) (aF v.tables) (aY (λ b o => aG (bC (lR v) b o) (0 <= (↑x : Int)) ((↑x : Int) < aF v.tables) (∃ (y : dJ), bI m h b (bZ o x 5) (Aa y) /\ lT (decide (aF y.columns > 8)) (K (fS 2) m h) (aF y.references) 4 (K (fS 2) m h) (fB (aF y.checks) 4 (K (fS 2) m h) (∃ (x1 : Nat), aA (I x1) (m1 x1 < m1 x) (aA (eP 1) (yT v) (aA (kQ v) (aZ x 1 x1) (aA (bR v) (m = m) (bG h h))))))))) (bE v.version 0 (K (fS 70) m h) (fB v.version 1000 (K (fS 70) m h) (pY (λ I1 x1 => aA (I1 x1) gF (aA (kQ v) (bO x1) (aG (bR v) (m = m) (h = h) True))) (λ I1 m2 x1 => I1 x1 -> bE (↑x1 : Int) (aF
 v.tables) (mX (λ v1 s => ∃ (t : Et) (i : Nat), aG (mW (bK v) x1 = mW (bK v1) i) (eW h s v1) (s.tables[i]? = Option.some t) (∀ (r : Bool), eJ (dQ r (AZ (List.take i s.tables) t)) (!r) (K (fS 70) m h) (∃ (x2 : Nat), aA (I1 x2) (m2 x2 < m2 x1) (aA (eP 1) (kQ v) (aA (aZ x1 1 x2) (bR v) (aA (m = m) (h = h) True))))))) (pY (λ I2 x2 => aA (I2 x2) gF (aA (kQ v) (bO x2) (aG (bR v) (m = m) (h = h) True))) (λ I2 m3 x2 => I2 x2 -> bE (↑x2 : Int) (aF v.tables) (mX (λ v1 s => ∃ (t : Et) (i : Nat), aA (mW (bK v) x2 = mW (bK v1) i) (eW h s v1) (aA (Good AZ s.tables) (s.tables[i]? = Option.some t) (∀ (r : Bool), eJ (dQ r (BO s.tables [] t)) (!r) (K (fS 70) m h) (∃ (x3 : Nat), aA (I2 x3) (m3 x3 < m3 x2) (aA (eP 1) (kQ v) (aA (aZ x2 1 x3) (bR v) (aA
 (m = m) (h = h) True)))))))) (G9 (λ I3 m4 => G5 (λ x3 => aA (I3 x3) gF (aA (kQ v) (bO x3.1) (aG (bR v) (m = m) (h = x3.2) True))) (λ x3 => I3 x3 -> bE (↑x3.1 : Int) (aF v.tables) (aY (λ b o => aG (bC (lR v) b o) (0 <= (↑x3.1 : Int)) ((↑x3.1 : Int) < aF v.tables) (∃ (y : Sl), bI m x3.2 b (bZ o x3.1 5 + 4) (cT y) /\ ∃ (I4 : Nat × Nat × Sl × PH -> Prop) (m5 : Nat × Nat × Sl × PH -> Nat), (∃ (x4 : Nat × Nat × Sl × PH), aA (I4 x4) gF (aA (dG x3.1 x4.1) (kQ v) (aA (dG x3.1 x4.1) (bW y (vW x4)) (aA (fN y (vW x4)) (bO x4.2.1) (aG (bR v) (m = m) (x3.2 = x4.2.2.2) True))))) /\ ∀ (x4 : Nat × Nat × Sl × PH), I4 x4 -> bE (↑x4.2.1 : Int) (aF (vW x4)) (aY (λ b1 o1 => aG (bC (vW x4).a b1 o1) (0 <= (↑x4.2.1 : Int)) ((↑x4.2.1 : Int) < aF (vW x4)) (∃ (y1
 : PV), bI m x4.2.2.2 b1 (bZ o1 x4.2.1 13) y1.enc /\ mX (λ v1 s => ∃ (t : Int), aG (mW (bK v) x4.1 = cV (bK v1) t) (eW x4.2.2.2 s v1) (iH s) (fM x4.2.2.2 (j5 s t) (λ s1 h1 => gW (λ s2 t1 => ∃ (v2 : PV), vE (λ c p => ∃ (p1 : Pred), aA (dO s1 :: bX Fj y1.enc = dO s2 :: bX (dO t1) v2.enc) (aU h1 s2 c) (aA (aU h1 t1 p) (cX h1 p1 v2) (dE (fE c p p1) 0 (K (fS (fE c p p1)) m h1) (∃ (x5 : Nat × Nat × Sl × PH), aA (I4 x5) (m5 x5 < m5 x4) (aA (eP 1) (dG x4.1 x5.1) (aA (kQ v) (dG x4.1 x5.1) (aA (bW (vW x4) (vW x5)) (fN (vW x4) (vW x5)) (kN (aZ x4.2.1 1 x5.2.1) (bR v) (m = m) h1 x5.2.2.2))))))))))))))) (∃ (x5 : Nat × PH), aA (I3 x5) (m4 x5 < m4 x3) (aA (eP 1) (kQ v) (aA (aZ x4.1 1 x5.1) (bR v) (aA (m = m) (x4.2.2.2 = x5.2)
 True))))))) (K (fS 0) m x3.2))))))))))))
theorem f53_vc (v : bH) (m : MH) (h : PH) (K : CV -> MH -> PH -> Prop) : f53_nice v m h K = (cG (f53_ctx v m h) Tryz.f53 (aE Tryz.f53) (entry Tryz.f53.ntmps [aS v] m h) K) := by kernel_rfl
theorem lZ.out {hx : PH} {r : CV} (hm : Sub m m') (hle : PH.le h hx) (hK : K r m h) : lZ h K r m' hx := ⟨m, h, hm, .refl _, hle, hK⟩
theorem oH (h : ¬ zI s) : cN s = 2 := by unfold cN; rw [if_neg h]
theorem GN (h : zI s) (h' : ¬ F5 s) : cN s = 70 := by unfold cN; rw [if_pos h, if_neg h']
theorem EE (h : zI s) (h' : F5 s) : cN s = iS ((List.range s.tables.length).flatMap (sR s)) := by unfold cN; rw [if_pos h, if_pos h']
theorem A4 {t : Et} (hx : s.tables[i]? = some t) (hp : t.checks[k]? = some p) : (sR s i)[k]? = some (fE (j5 s i) [] p) := by
 unfold sR; rw [hx]; simp [hp]
theorem FC {t : Et} (hx : s.tables[i]? = some t) : (sR s i).length = t.checks.length := by
 unfold sR; rw [hx]; simp
theorem Ih {e : Int} (hk : l[k]? = some e) (h : ∀ x ∈ l.take k, x = 0) (he : e = 0) : ∀ x ∈ l.take (k + 1), x = 0 := by
 intro x hx
 rw [List.take_add_one, hk, List.mem_append] at hx
 rcases hx with hx | hx
 . exact h x hx
 . simp at hx; rw [hx, he]
theorem KG {f : Nat -> List Int} (h : ∀ j < i, ∀ x ∈ f j, x = 0) (hl : (f i).length <= k) (h2 : ∀ x ∈ (f i).take k, x = 0) : ∀ j < i + 1, ∀ x ∈ f j, x = 0 := by
 intro j hj x hx
 by_cases e : j = i
 . subst e; rw [List.take_of_length_le hl] at h2; exact h2 x hx
 . exact h j (by omega) x hx
theorem E3 : Sound Tryz.prog 31 qA := by
 refine gC (fn := Tryz.f31) (c := aE Tryz.f31) Tryz.func31 rfl (by decide) ?_
 rintro cvs m h K ⟨v, s, rfl, hs, hK⟩
 refine ⟨Pv v m h, rfl, aD Re (aD Rd (aD EZ (aD EY aH))), ?_⟩
 rw [<- VZ v m h _]
 show Hx v m h (lZ h K)
 dsimp only [Hx, push_cast]
 have hl := hs.tables.slen
 have hlen := hs.tables.len
 have hver := hs.version
 have out : ∀ (hx : PH) (x : Int), PH.le h hx -> cN s = x -> lZ h K (.val (.int .i64 x)) m hx := λ hx x hle e => .out (Sub.refl m) hle (by rw [<- e]; exact hK)
 refine aC (λ h1 => out h _ (.refl _) (oH λ e => by have := e.1; omega)) (λ h1 => ?_)
 refine ⟨λ i => i <= s.tables.length /\ eG (λ _ t => HT t) s.tables i, λ i => s.tables.length - i, ⟨0, ⟨by omega, .zero⟩, MT⟩, λ i ⟨hi, hg⟩ => aC (λ hlt => ?_) (λ hge => ?_)⟩
 . obtain ⟨t, hx⟩ := fP hl hlt
   obtain ⟨b, o, w, ea, hr, hrep⟩ := hs.tables.at hx
   have e1 := iT.slen hrep.columns
   have e2 := iT.slen hrep.refs
   have e3 := iT.slen hrep.checks
   have bad : ¬ HT t -> lZ h K (.val (.int .i64 2)) m h := λ hn => out h _ (.refl _) (oH λ e => Good.not hx hn e.2)
   refine ⟨b, o, ea, by omega, hlt, w, .imm hr, aC (λ h2 => bad λ e => ?_) (λ h2 => aC (λ h3 => bad λ e => ?_) (λ h3 => aC (λ h4 => bad λ e => ?_) (λ h4 => ⟨i + 1, ⟨by omega, hg.succ hx ⟨by omega, by omega, by omega⟩⟩, by show s.tables.length - (i + 1) < s.tables.length - i; omega, MT⟩)))⟩
   . have := e.1; omega
   . have := e.2.1; omega
   . have := e.2.2; omega
 have lim : zI s := ⟨by omega, hg.all (by omega)⟩
 have h8 : iH s := λ t ht => by
  obtain ⟨j, hj⟩ := List.mem_iff_getElem?.1 ht
  exact (lim.2 j t hj).1
 have bad : ¬ F5 s -> lZ h K (.val (.int .i64 70)) m h := λ hn => out h _ (.refl _) (GN lim hn)
 refine aC (λ h2 => bad λ e => ?_) (λ h2 => aC (λ h3 => bad λ e => ?_) (λ h3 => ⟨v, s, rfl, hs, λ r hr => aB (λ h4 => bad λ e => ?_) (λ h4 => ⟨v, s, rfl, hs, hr.1 (by simpa using h4), λ r2 hr2 => aB (λ h5 => bad λ e => ?_) (λ h5 => ?_)⟩)⟩))
 . have := e.1; omega
 . have := e.2.1; omega
 . rw [hr.2 e.2.2.1] at h4; cases h4
 . rw [hr2.2 e.2.2.2] at h5; cases h5
 have ok : F5 s := ⟨by omega, by omega, hr.1 (by simpa using h4), hr2.1 (by simpa using h5)⟩
 rw [EE lim ok] at out
 refine ⟨λ ⟨i, hx⟩ => i <= s.tables.length /\ PH.le h hx /\ ∀ j < i, ∀ x ∈ sR s j, x = 0, λ ⟨i, _⟩ => s.tables.length - i, ⟨(0, h), ⟨by omega, .refl _, λ j hj => by omega⟩, MT⟩, ?_⟩
 rintro ⟨i, hx⟩ ⟨hi, hle, hz⟩
 dsimp only
 refine aC (λ hlt => ?_) (λ hge => out hx _ hle (qX _ λ e he => ?_))
 . obtain ⟨t, ht⟩ := fP hl hlt
   obtain ⟨b, o, w, ea, hr, hrep⟩ := (hs.mono hle).tables.at ht
   have cl := iT.slen hrep.checks
   have cb := iT.len hrep.checks
   refine ⟨b, o, ea, by omega, hlt, w, .imm hr, v, s, i, rfl, hs.mono hle, h8, λ sl h' hle' hints => ?_⟩
   refine ⟨λ ⟨i', k, ks, cs, hy⟩ => i' = i /\ cs = w.checks /\ k <= t.checks.length /\ PH.le h' hy /\ aU hy ks (j5 s i) /\ ∀ x ∈ (sR s i).take k, x = 0, λ ⟨_, k, _, _, _⟩ => t.checks.length - k, ⟨(i, 0, sl, w.checks, h'), ⟨rfl, rfl, by omega, .refl _, hints, λ x hx => by simp at hx⟩, MT⟩, ?_⟩
   rintro ⟨i, k, ks, _, hy⟩ ⟨rfl, rfl, hk, hle2, hints2, hz2⟩
   dsimp only
   have hlh : PH.le h hy := (hle.trans hle').trans hle2
   refine aC (λ hlt2 => ?_) (λ hge2 => ⟨(i + 1, hy), ⟨by omega, hlh, KG hz (k := k) (by rw [FC ht]; omega) hz2⟩, by show s.tables.length - (i + 1) < s.tables.length - i; omega, MT⟩)
   obtain ⟨p, hp⟩ := fP cl hlt2
   obtain ⟨b2, o2, pv, ea2, hr2', hrep2⟩ := ((hrep.checks.mono hle').mono hle2).at hp
   refine ⟨b2, o2, ea2, by omega, hlt2, pv, .imm hr2', ks, ⟨none, 0, 0⟩, pv, j5 s i, [], p, rfl, hints2, ⟨.nil _ _, by simp⟩, hrep2, aB (λ h6 => ?_) (λ h6 => ?_)⟩
   . exact out hy _ hlh (FZ (by omega) hz hz2 (A4 ht hp) (by simpa using h6))
   . exact ⟨(i, k + 1, ks, w.checks, hy), ⟨rfl, rfl, by show k + 1 <= t.checks.length; omega, hle2, hints2, Ih (A4 ht hp) hz2 (by simpa using h6)⟩, by show t.checks.length - (k + 1) < t.checks.length - k; omega, MT⟩
 . obtain ⟨j, hj, hx⟩ := List.mem_flatMap.1 he
   exact hz j (by have := List.mem_range.1 hj; omega) e hx
theorem f53_sound : Sound Tryz.prog 53 qA := by
 refine gC (fn := Tryz.f53) (c := aE Tryz.f53) Tryz.func53 rfl (by decide) ?_
 rintro cvs m h K ⟨v, s, rfl, hs, hK⟩
 refine ⟨f53_ctx v m h, rfl, aD QZ (aD QY (aD f52_sound (aD f57_sound aH))), ?_⟩
 rw [<- f53_vc v m h _]
 show f53_nice v m h (lZ h K)
 dsimp only [f53_nice, push_cast]
 have hl := hs.tables.slen
 have hlen := hs.tables.len
 have hver := hs.version
 have out : ∀ (hx : PH) (x : Int), PH.le h hx -> cN s = x -> lZ h K (.val (.int .i64 x)) m hx := λ hx x hle e => .out (Sub.refl m) hle (by rw [<- e]; exact hK)
 refine aC (λ h1 => out h _ (.refl _) (oH λ e => by have := e.1; omega)) (λ h1 => ?_)
 refine ⟨λ i => i <= s.tables.length /\ eG (λ _ t => HT t) s.tables i, λ i => s.tables.length - i, ⟨0, ⟨by omega, .zero⟩, MT⟩, λ i ⟨hi, hg⟩ => aC (λ hlt => ?_) (λ hge => ?_)⟩
 . obtain ⟨t, hx⟩ := fP hl hlt
   obtain ⟨b, o, w, ea, hr, hrep⟩ := hs.tables.at hx
   have e1 := iT.slen hrep.columns
   have e2 := iT.slen hrep.refs
   have e3 := iT.slen hrep.checks
   have bad : ¬ HT t -> lZ h K (.val (.int .i64 2)) m h := λ hn => out h _ (.refl _) (oH λ e => Good.not hx hn e.2)
   refine ⟨b, o, ea, by omega, hlt, w, .imm hr, aC (λ h2 => bad λ e => ?_) (λ h2 => aC (λ h3 => bad λ e => ?_) (λ h3 => aC (λ h4 => bad λ e => ?_) (λ h4 => ⟨i + 1, ⟨by omega, hg.succ hx ⟨by omega, by omega, by omega⟩⟩, by show s.tables.length - (i + 1) < s.tables.length - i; omega, MT⟩)))⟩
   . have := e.1; omega
   . have := e.2.1; omega
   . have := e.2.2; omega
 have lim : zI s := ⟨by omega, hg.all (by omega)⟩
 have h8 : iH s := λ t ht => by
  obtain ⟨j, hj⟩ := List.mem_iff_getElem?.1 ht
  exact (lim.2 j t hj).1
 have bad : ¬ F5 s -> lZ h K (.val (.int .i64 70)) m h := λ hn => out h _ (.refl _) (GN lim hn)
 refine aC (λ h2 => bad λ e => ?_) (λ h2 => aC (λ h3 => bad λ e => ?_) (λ h3 => ?_))
 . have := e.1; omega
 . have := e.2.1; omega
 clear hi hg hge
 refine ⟨λ i => i <= s.tables.length /\ eG AZ s.tables i, λ i => s.tables.length - i, ⟨0, ⟨by omega, .zero⟩, MT⟩, λ i ⟨hi, hg⟩ => aC (λ hlt => ?_) (λ hge => ?_)⟩
 . obtain ⟨t, hx⟩ := fP hl hlt
   refine ⟨v, s, t, i, rfl, hs, hx, λ r hr => aB (λ h4 => bad λ e => ?_) (λ h4 => ⟨i + 1, ⟨by omega, hg.succ hx (hr.1 (by simpa using h4))⟩, by show s.tables.length - (i + 1) < s.tables.length - i; omega, MT⟩)⟩
   rw [hr.2 (e.2.2.1 i t hx)] at h4; cases h4
 have good := hg.all (by omega)
 clear hi hg hge
 refine ⟨λ i => i <= s.tables.length /\ eG (BO s.tables) s.tables i, λ i => s.tables.length - i, ⟨0, ⟨by omega, .zero⟩, MT⟩, λ i ⟨hi, hg⟩ => aC (λ hlt => ?_) (λ hge => ?_)⟩
 . obtain ⟨t, hx⟩ := fP hl hlt
   refine ⟨v, s, t, i, rfl, hs, good, hx, λ r hr => aB (λ h4 => bad λ e => ?_) (λ h4 => ⟨i + 1, ⟨by omega, hg.succ hx (hr.1 (by simpa using h4))⟩, by show s.tables.length - (i + 1) < s.tables.length - i; omega, MT⟩)⟩
   rw [hr.2 (e.2.2.2 i t hx)] at h4; cases h4
 have good2 := hg.all (by omega)
 clear hi hg hge
 have ok : F5 s := ⟨by omega, by omega, good, good2⟩
 rw [EE lim ok] at out
 refine ⟨λ ⟨i, hx⟩ => i <= s.tables.length /\ PH.le h hx /\ ∀ j < i, ∀ x ∈ sR s j, x = 0, λ ⟨i, _⟩ => s.tables.length - i, ⟨(0, h), ⟨by omega, .refl _, λ j hj => by omega⟩, MT⟩, ?_⟩
 rintro ⟨i, hx⟩ ⟨hi, hle, hz⟩
 dsimp only
 refine aC (λ hlt => ?_) (λ hge => out hx _ hle (qX _ λ e he => ?_))
 . obtain ⟨t, ht⟩ := fP hl hlt
   obtain ⟨b, o, w, ea, hr, hrep⟩ := (hs.mono hle).tables.at ht
   have cl := iT.slen hrep.checks
   have cb := iT.len hrep.checks
   refine ⟨b, o, ea, by omega, hlt, w.checks, .imm (cL.part hr 4 1), ?_⟩
   refine ⟨λ ⟨i', k, cs, hy⟩ => i' = i /\ cs = w.checks /\ k <= t.checks.length /\ PH.le hx hy /\ ∀ x ∈ (sR s i).take k, x = 0, λ ⟨_, k, _, _⟩ => t.checks.length - k, ⟨(i, 0, w.checks, hx), ⟨rfl, rfl, by omega, .refl _, λ x hx => by simp at hx⟩, MT⟩, ?_⟩
   rintro ⟨i, k, _, hy⟩ ⟨rfl, rfl, hk, hle2, hz2⟩
   dsimp only
   have hlh : PH.le h hy := hle.trans hle2
   refine aC (λ hlt2 => ?_) (λ hge2 => ⟨(i + 1, hy), ⟨by omega, hlh, KG hz (k := k) (by rw [FC ht]; omega) hz2⟩, by show s.tables.length - (i + 1) < s.tables.length - i; omega, MT⟩)
   obtain ⟨p, hp⟩ := fP cl hlt2
   obtain ⟨b2, o2, pv, ea2, hr2', hrep2⟩ := (hrep.checks.mono hle2).at hp
   refine ⟨b2, o2, ea2, by omega, hlt2, pv, .imm hr2', v, s, i, rfl, hs.mono hlh, h8, λ sl h' hle' hints => ⟨sl, ⟨none, 0, 0⟩, pv, j5 s i, [], p, rfl, hints, ⟨.nil _ _, by simp⟩, hrep2.mono hle', aB (λ h6 => ?_) (λ h6 => ?_)⟩⟩
   . exact out h' _ (hlh.trans hle') (FZ (by omega) hz hz2 (A4 ht hp) (by simpa using h6))
   . exact ⟨(i, k + 1, w.checks, h'), ⟨rfl, rfl, by show k + 1 <= t.checks.length; omega, hle2.trans hle', Ih (A4 ht hp) hz2 (by simpa using h6)⟩, by show t.checks.length - (k + 1) < t.checks.length - k; omega, MT⟩
 . obtain ⟨j, hj, hx⟩ := List.mem_flatMap.1 he
   exact hz j (by have := List.mem_range.1 hj; omega) e hx
mutual
def rI : Query -> Int -> Int
 | .mk _ _ _ _ _ _ _ _ args, n => l8 args (n + 1)
def l8 : List Query -> Int -> Int
 | [], n => n
 | p :: ps, n => if n <= 24 then l8 ps (rI p n) else n
end
mutual
def kV : Query -> Nat -> Bool
 | .mk _ _ _ _ _ _ _ _ _, 0 => true
 | .mk _ _ _ _ _ _ _ _ args, n + 1 => pC args n
def pC : List Query -> Nat -> Bool
 | [], _ => false
 | p :: ps, n => kV p n || pC ps n
end
mutual
theorem Bc : ∀ (p : Query) (n : Int), n <= 24 -> n < rI p n /\ rI p n <= 25
 | .mk _ _ _ _ _ _ _ _ args, n, h => by
  have := C8 args (n + 1) (by omega)
  simp only [rI]; omega
theorem C8 : ∀ (ps : List Query) (n : Int), n <= 25 -> n <= l8 ps n /\ l8 ps n <= 25
 | [], n, h => by simp only [l8]; omega
 | p :: ps, n, h => by
  simp only [l8]
  split
  . rename_i h1
    have h2 := Bc p n h1
    have h3 := C8 ps (rI p n) h2.2
    omega
  . omega
end
theorem JV (ps : List Query) {n : Int} (h : ¬ n <= 24) : l8 ps n = n := by
 cases ps
 . simp [l8]
 . simp only [l8, if_neg h]
theorem Em (n : Nat) : ∀ ps : List Query, pC ps n = ps.any (kV · n)
 | [] => by simp [pC]
 | p :: ps => by simp [pC, Em n ps]
theorem cC.args {p : Query} (r : cC h p v) : sM h v.args p.args := by
 cases p
 exact r.parts.args_
def lK (q : Query) : Bool := decide (rI q 0 <= 24) && !kV q 8
def arity (op : Int) : Int :=
 if op == 1 then 0 else if op == 2 || op == 3 || op == 9 then 1 else if op == 4 || op == 5 || op == 6 || op == 7 || op == 8 || op == 10 then 2 else -1
def Gv (N : Nat) : Vc.Spec := λ cvs m h K => ∃ v p k, cvs = [aQ v, cI k, cI 24] /\ cC h p v /\ SizeOf.sizeOf p < N /\ 0 <= k /\ k <= 24 /\ K (cI (rI p k)) m h
def Ey (N : Nat) : Vc.Spec := λ cvs m h K => ∃ v p, ∃ k : Nat, cvs = [aQ v, cI k] /\ cC h p v /\ SizeOf.sizeOf p < N /\ k <= 100 /\ K (cB (kV p k)) m h
def Kw : Vc.Spec := λ cvs m h K => ∃ v p, cvs = [aQ v] /\ cC h p v /\ K (cB (lK p)) m h
def AK : Vc.Spec := λ cvs m h K => ∃ op, cvs = [cI op] /\ K (cI (arity op)) m h
def Df (l : List Int) (n : Int) : Bool := decide (0 <= n) && decide (n < l.length)
def WS : Vc.Spec := λ cvs m h K => ∃ s l n, cvs = [cS s, cI n] /\ aU h s l /\ K (cB (Df l n)) m h
noncomputable def Pl (N : Nat) (v : QV) (m : MH) (h : PH) : Ctx :=
 cO [(41, Gv N)] [(3, { A := Nat × Int, st := λ x => cD 31 34 [(1, iv x.2), (2, iv 24), (3, .at (.ptr 3 0)), (7, iv x.1)] [(3, .cells 43 (v.enc.map .val))] m h })] [] [] false
noncomputable def Pj (N : Nat) (v : QV) (k : Nat) (m : MH) (h : PH) : Ctx :=
 cO [(42, Ey N)] [(4, { A := Nat, st := λ i => cD 23 25 [(1, iv k), (2, .at (.ptr 2 0)), (10, iv v.args.len), (11, iv i)] [(2, .cells 43 (v.enc.map .val))] m h })] [] [] false
def L6 (N : Nat) (v : QV) (k : Int) (m : MH) (h : PH) (K : CV -> MH -> PH -> Prop) : Prop :=
  ∃ (I : Nat × Int -> Prop) (m1 : Nat × Int -> Nat), (∃ (x : Nat × Int), aA (I x) (bJ (eR k 1) x.2) (aA (eA 24) hJ (aA (bO x.1) (dD v) (aA (m = m) (h = h) True)))) /\ ∀ (x : Nat × Int), I x -> bE (↑x.1 : Int) (aF v.args) (branch (decide (x.2 <= 24)) (aY (λ b o => aG (bC v.args.a b o) (0 <= (↑x.1 : Int)) ((↑x.1 : Int) < aF v.args) (∃ (y : QV), bI m h b (bZ o x.1 21) y.enc /\ kS (λ v1 p => ∃ (k1 : Int), aA (eN y :: cV (fS x.2) 24 = eN v1 :: cV (fS k1) 24) (cC h p v1) (aA (qM p N) (aW k1) (k1 <= 24 /\ ∃ (x1 : Nat × Int), aA (I x1) (m1 x1 < m1 x) (aA (bJ (rI p k1) x1.2) (eA 24) (aA hJ (aZ x.1 1 x1.1) (aA (dD v) (m = m) (bG h h)))))))))) (K (fS x.2) m h)) (K (fS x.2) m h)
theorem VP (N : Nat) (v : QV) (k : Int) (m : MH) (h : PH) (K : CV -> MH -> PH -> Prop) : L6 N v k m h K = (cG (Pl N v m h) Tryz.f41 (aE Tryz.f41) (entry Tryz.f41.ntmps [aQ v, cI k, cI 24] m h) K) := by kernel_rfl
def L5 (N : Nat) (v : QV) (k : Nat) (m : MH) (h : PH) (K : CV -> MH -> PH -> Prop) : Prop :=
  dW (↑k : Int) 0 (K gV m h) (pY (λ I x => aA (I x) (eQ (wR k)) (aA (eP 2) (oU v) (aA (bO x) (dD v) (aA (m = m) (h = h) True)))) (λ I m1 x => I x -> bE (↑x : Int) (aF v.args) (aY (λ b o => aG (bC v.args.a b o) (0 <= (↑x : Int)) ((↑x : Int) < aF v.args) (∃ (y : QV), bI m h b (bZ o x 21) y.enc /\ kS (λ v1 p => ∃ (k1 : Nat), aA (cV (eN y) (jY (↑k : Int)) = mW (eN v1) k1) (cC h p v1) (aA (qM p N) (k1 <= 100) (branch (kV p k1) (K gV m h) (∃ (x1 : Nat), aA (I x1) (m1 x1 < m1 x) (aA (eQ (wR k)) fL (aA (oU v) (aZ x 1 x1) (aA (dD v) (m = m) (bG h h))))))))))) (K aR m h)))
theorem VO (N : Nat) (v : QV) (k : Nat) (m : MH) (h : PH) (K : CV -> MH -> PH -> Prop) : L5 N v k m h K = (cG (Pj N v k m h) Tryz.f42 (aE Tryz.f42) (entry Tryz.f42.ntmps [aQ v, cI k] m h) K) := by kernel_rfl
def Ml (N : Nat) (v : QV) (m : MH) (h : PH) (K : CV -> MH -> PH -> Prop) : Prop :=
  kS (λ v1 p => ∃ (k : Int), aA (eN v :: cV (fS 0) 24 = eN v1 :: cV (fS k) 24) (cC h p v1) (aA (qM p N) (aW k) (gH (k <= 24) (decide (rI p k <= 24)) (kS (λ v2 p1 => ∃ (k1 : Nat), aA (cV (eN v) 8 = mW (eN v2) k1) (cC h p1 v2) (aA (qM p1 N) (k1 <= 100) (K (CV.val (Value.bool (!(kV p1 k1)))) m h)))) (K aR m h))))
theorem Wd (N : Nat) (v : QV) (m : MH) (h : PH) (K : CV -> MH -> PH -> Prop) : Ml N v m h K = (cG (cO [(41, Gv N), (42, Ey N)] [] [] [] false) Tryz.f19 (aE Tryz.f19) (entry Tryz.f19.ntmps [aQ v] m h) K) := by kernel_rfl
def L1 (op : Int) (m : MH) (h : PH) (K : CV -> MH -> PH -> Prop) : Prop :=
  dT (op == 1) (K (fS 0) m h) (op == 2) (K (fS 1) m h) (dT (op == 3) (K (fS 1) m h) (op == 9) (K (fS 1) m h) (dT (op == 4) (K (fS 2) m h) (op == 5) (K (fS 2) m h) (dT (op == 6) (K (fS 2) m h) (op == 7) (K (fS 2) m h) (dT (op == 8) (K (fS 2) m h) (op == 10) (K (fS 2) m h) (K (fS (Int.negSucc 0)) m h)))))
theorem VH (op : Int) (m : MH) (h : PH) (K : CV -> MH -> PH -> Prop) : L1 op m h K = (cG (cO [] [] [] [] false) Tryz.f48 (aE Tryz.f48) (entry Tryz.f48.ntmps [cI op] m h) K) := by kernel_rfl
def Jn (s : Sl) (n : Int) (m : MH) (h : PH) (K : CV -> MH -> PH -> Prop) : Prop :=
  fI n 0 (K (uS (decide (n < aF s))) m h) (K aR m h)
theorem Uk (s : Sl) (n : Int) (m : MH) (h : PH) (K : CV -> MH -> PH -> Prop) : Jn s n m h K = (cG (cO [] [] [] [] false) Tryz.f103 (aE Tryz.f103) (entry Tryz.f103.ntmps [cS s, cI n] m h) K) := by kernel_rfl
theorem Pm : ∀ N, Sound Tryz.prog 41 (Gv N)
 | 0 => by
  refine aI (fn := Tryz.f41) (c := aE Tryz.f41) Tryz.func41 rfl (by decide) ?_
  rintro cvs m h K ⟨v, p, k, rfl, hr, hN, _⟩
  omega
 | N + 1 => by
  refine aI (fn := Tryz.f41) (c := aE Tryz.f41) Tryz.func41 rfl (by decide) ?_
  rintro cvs m h K ⟨v, p, k, rfl, hr, hN, h0, h1, hK⟩
  refine ⟨Pl N v m h, rfl, aD (Pm N) aH, ?_⟩
  rw [<- VP N v k m h K]
  dsimp only [L6, push_cast]
  have hargs := hr.args
  have hlen := hargs.slen
  have hl := hargs.len
  refine ⟨λ x => x.1 <= p.args.length /\ 0 <= x.2 /\ x.2 <= 25 /\ l8 (p.args.drop x.1) x.2 = rI p k, λ x => p.args.length - x.1, ⟨(0, k + 1), ⟨by simp, by simp; omega, by simp; omega, ?_⟩, ?_⟩, ?_⟩
  . cases p; simp [rI, Query.args]
  . rw [dP (by omega) (by omega)]; exact MT
  rintro ⟨i, n⟩ ⟨hi, hn0, hn1, he⟩
  dsimp only at hi hn0 hn1 he ⊢
  refine aC (λ hlt => aC (λ hn => ?_) (λ hn => wP hK ?_)) (λ hge => wP hK ?_)
  . obtain ⟨q, hq⟩ := fP hlen hlt
    obtain ⟨b, o, u, ea, hrd, hru⟩ := hargs.at hq
    have hb := Bc q n hn
    rw [drop_cons hq, l8, if_pos hn] at he
    refine ⟨b, o, ea, by omega, hlt, u, .imm hrd, u, q, n, rfl, hru, ?_, hn0, hn, (i + 1, rI q n), ⟨by dsimp only; omega, by dsimp only; omega, by dsimp only; omega, he⟩, by dsimp only; omega, MT⟩
    have := qS (List.mem_of_getElem? hq); omega
  . rw [<- he, JV _ hn]
  . rw [<- he, List.drop_of_length_le (by omega)]; simp [l8]
theorem Pk : ∀ N, Sound Tryz.prog 42 (Ey N)
 | 0 => by
  refine aI (fn := Tryz.f42) (c := aE Tryz.f42) Tryz.func42 rfl (by decide) ?_
  rintro cvs m h K ⟨v, p, k, rfl, hr, hN, _⟩
  omega
 | N + 1 => by
  refine aI (fn := Tryz.f42) (c := aE Tryz.f42) Tryz.func42 rfl (by decide) ?_
  rintro cvs m h K ⟨v, p, k, rfl, hr, hN, h1, hK⟩
  refine ⟨Pj N v k m h, rfl, aD (Pk N) aH, ?_⟩
  rw [<- VO N v k m h K]
  dsimp only [L5, push_cast]
  have hargs := hr.args
  have hlen := hargs.slen
  have hl := hargs.len
  refine aB (λ hk => gY hK ?_) (λ hk => ?_)
  . have : k = 0 := by have : (k : Int) = 0 := (by simpa using hk); omega
    subst this; cases p; simp [kV]
  . have hk : k ≠ 0 := by intro e; subst e; simp at hk
    have hdk : kV p k = p.args.any (kV · (k - 1)) := by
     obtain ⟨k', rfl⟩ : ∃ k', k = k' + 1 := ⟨k - 1, by omega⟩
     cases p; simp [kV, Em, Query.args]
    rw [hdk] at hK
    refine ⟨λ i => i <= p.args.length /\ (p.args.take i).any (kV · (k - 1)) = false, λ i => p.args.length - i, ⟨0, ⟨by omega, by simp⟩, MT⟩, λ i hi => aC (λ hlt => ?_) (λ hge => gY hK ?_)⟩
    . obtain ⟨q, hq⟩ := fP hlen hlt
      obtain ⟨b, o, u, ea, hrd, hru⟩ := hargs.at hq
      refine ⟨b, o, ea, by omega, hlt, u, .imm hrd, u, q, k - 1, ?_, hru, ?_, by omega, aB (λ hd => gY hK ?_) (λ hd => ?_)⟩
      . rw [dP (by omega) (by omega), show ((k - 1 : Nat) : Int) = (k : Int) - 1 by omega]
      . have := qS (List.mem_of_getElem? hq); omega
      . rw [List.any_eq_true]; exact ⟨q, List.mem_of_getElem? hq, hd⟩
      . refine ⟨i + 1, ⟨by omega, ?_⟩, by show p.args.length - (i + 1) < p.args.length - i; omega, MT⟩
        rw [List.take_add_one, List.any_append, hi.2, hq]; simpa using hd
    . have := hi.2
      rwa [List.take_of_length_le (by omega)] at this
theorem Rw : Sound Tryz.prog 19 Kw := by
 refine aI (fn := Tryz.f19) (c := aE Tryz.f19) Tryz.func19 rfl (by decide) ?_
 rintro cvs m h K ⟨v, p, rfl, hr, hK⟩
 refine ⟨cO [(41, Gv (SizeOf.sizeOf p + 1)), (42, Ey (SizeOf.sizeOf p + 1))] [] [] [] false, rfl, aD (Pm _) (aD (Pk _) aH), ?_⟩
 rw [<- Wd (SizeOf.sizeOf p + 1) v m h K]
 dsimp only [Ml, push_cast]
 refine ⟨v, p, 0, rfl, hr, by omega, by omega, by omega, aB (λ h1 => ⟨v, p, 8, rfl, hr, by omega, by omega, gY hK ?_⟩) (λ h1 => gY hK ?_)⟩
 . simp only [lK, h1, Bool.true_and]
 . simp only [lK, h1, Bool.false_and]
theorem AU : Sound Tryz.prog 48 AK := by
 refine aI (fn := Tryz.f48) (c := aE Tryz.f48) Tryz.func48 rfl (by decide) ?_
 rintro cvs m h K ⟨op, rfl, hK⟩
 refine ⟨cO [] [] [] [] false, rfl, aH, ?_⟩
 rw [<- VH op m h K]
 dsimp only [L1, push_cast]
 repeat' (first | (refine aB (λ _ => ?_) (λ _ => ?_)) | (refine wP hK ?_; simp only [arity]; simp only [*, Bool.or_false, Bool.false_or, Bool.or_true, Bool.true_or, Bool.and_true, Bool.true_and, Bool.and_false, Bool.false_and, Bool.not_true, Bool.not_false, Bool.false_eq_true, if_true, if_false, ↓reduceIte]; done) | (refine wP hK ?_; simp only [arity]; simp only [*, Bool.or_false, Bool.false_or, Bool.or_true, Bool.true_or, Bool.and_true, Bool.true_and, Bool.and_false, Bool.false_and, Bool.not_true, Bool.not_false, Bool.false_eq_true, if_true, if_false, ↓reduceIte]; rfl))
theorem DB : Sound Tryz.prog 103 WS := by
 refine aI (fn := Tryz.f103) (c := aE Tryz.f103) Tryz.func103 rfl (by decide) ?_
 rintro cvs m h K ⟨s, l, n, rfl, hs, hK⟩
 refine ⟨cO [] [] [] [] false, rfl, aH, ?_⟩
 rw [<- Uk s n m h K]
 dsimp only [Jn, push_cast]
 have hl := hs.slen
 refine aC (λ h1 => gY hK ?_) (λ h1 => gY hK ?_)
 . have h1 : 0 <= n := h1
   simp only [Df, hl, decide_eq_true h1, Bool.true_and]
 . have h1 : ¬ 0 <= n := by omega
   simp only [Df, decide_eq_false h1, Bool.false_and]
def sO (a b : List Int) (pre : List (Int × Int)) (p : Int × Int) : Prop := Df a p.1 = true /\ Df b p.2 = true /\ a.getD p.1.toNat 0 = b.getD p.2.toNat 0 /\ ∀ q ∈ pre, q.1 ≠ p.1 /\ q.2 ≠ p.2
def Fv (a : List Int) (pre : List Int) (c : Int) : Prop := Df a c = true /\ c ∉ pre
def DG (a : List Int) (_ : List (Int × Bool)) (o : Int × Bool) : Prop := Df a o.1 = true
structure nF (a : List Int) (group : List Int) (order : List (Int × Bool)) (limit : Int) : Prop where
 group_ : Good (Fv a) group
 order_ : Good (DG a) order
 len_ : order.length <= 12
 low : 0 <= limit
 high : limit <= 100
def Qc : Vc.Spec := λ cvs m h K => ∃ s t u on a b, cvs = [cS s, cS t, cS u] /\ gM h s on /\ aU h t a /\ aU h u b /\ ∀ r : Bool, (r = true ↔ Good (sO a b) on) -> K (cB r) m h
def Qa : Vc.Spec := λ cvs m h K => ∃ v t g o a, cvs = [aQ v, cS t] /\ aU h v.group g /\ fU h v.order o /\ aU h t a /\ ∀ r : Bool, (r = true ↔ nF a g o v.limit) -> K (cB r) m h
noncomputable def MC (s t u : Sl) (m : MH) (h : PH) : Ctx :=
 cO [(103, WS)] [(2, { A := Nat, st := λ i => cD 66 69 [(0, sv s), (1, sv t), (2, sv u), (10, sv s), (11, iv s.len), (12, iv i)] [] m h }),
  (7, { A := Nat × Nat × (Int × Int), st := λ ⟨i, k, p⟩ => cD 66 69 [(0, sv s), (1, sv t), (2, sv u), (7, iv i), (8, .at (.ptr 8 0)), (9, iv k), (10, sv s), (11, iv s.len), (12, iv i)] [(8, .cells 78 [.val (.int .i64 p.1), .val (.int .i64 p.2)])] m h })] [] [] false
noncomputable def MB (v : QV) (t : Sl) (m : MH) (h : PH) : Ctx :=
 cO [(103, WS)] [(2, { A := Nat, st := λ i => cD 62 64 [(1, sv t), (2, .at (.ptr 2 0)), (11, sv v.group), (12, iv v.group.len), (13, iv i)] [(2, .cells 43 (v.enc.map .val))] m h }),
  (7, { A := Nat × Nat × Int, st := λ ⟨i, k, c⟩ => cD 62 64 [(1, sv t), (2, .at (.ptr 2 0)), (5, iv i), (6, iv c), (7, iv k), (11, sv v.group), (12, iv v.group.len), (13, iv i)] [(2, .cells 43 (v.enc.map .val))] m h }),
  (13, { A := Nat, st := λ i => cD 62 64 [(1, sv t), (2, .at (.ptr 2 0)), (36, sv v.order), (37, iv v.order.len), (38, iv i)] [(2, .cells 43 (v.enc.map .val))] m h })] [] [] false
noncomputable abbrev gG (a : Sl) (b : Int) : List CV := cV (dO a) b
noncomputable abbrev rE (a : Int × Int) : List At := kJ (bL a.1) (bL a.2)
abbrev pB (a : Prop) (b : Int -> Prop) : Prop := a /\ ∃ (x : Int), b x
attribute [push_cast] gG rE pB
def Jm (s t u : Sl) (m : MH) (h : PH) (K : CV -> MH -> PH -> Prop) : Prop :=
  pY (λ I x => aA (I x) (aK s) (aA (aK t) (aK u) (aA (aK s) (cF s) (aA (bO x) (m = m) (bG h h))))) (λ I m1 x => I x -> bE (↑x : Int) (aF s) (aY (λ b o => aG (bC s.a b o) (0 <= (↑x : Int)) ((↑x : Int) < aF s) (∃ (y : Int × Int), aG (bI m h b (bZ o x 2) (rK y)) ((0 : Int) <= 0) ((0 : Int) < 2) (yY (λ s1 l => ∃ (n : Int), aA (gG t y.1 = gG s1 n) (aU h s1 l) (rL (Df l n) (K aR m h) (aA (aW 1) ((1 : Int) < 2) (yY (λ s2 l1 => ∃ (n1 : Int), aA (gG u y.2 = gG s2 n1) (aU h s2 l1) (rL (Df l1 n1) (K aR m h) (aA (aW 0) ((0 : Int) < 2) (aY (λ b1 o1 => aG (bC t.a b1 o1) (0 <= y.1) (y.1 < aF t) (∃ (y1 : Int), aG (bI m h b1 (iW o1 y.1 1) (bT y1)) ((0 : Int) <= 1) ((1 : Int) < 2) (aY (λ b2 o2 => aG (bC u.a b2 o2) (0 <= y.2) (y.2 < aF
 u) (∃ (y2 : Int), bI m h b2 (iW o2 y.2 1) (bT y2) /\ dE y1 y2 (K aR m h) (∃ (I1 : Nat × Nat × Int × Int -> Prop) (m2 : Nat × Nat × Int × Int -> Nat), (∃ (x1 : Nat × Nat × Int × Int), aA (I1 x1) (aK s) (aA (aK t) (aK u) (aA (dG x x1.1) (eP 8) (aA (bO x1.2.1) (aK s) (aA (cF s) (dG x x1.1) (aA (oQ 78 (rE y) = oQ 78 (rE x1.2.2)) (m = m) (bG h h))))))) /\ ∀ (x1 : Nat × Nat × Int × Int), I1 x1 -> bE (↑x1.2.1 : Int) (↑x1.1 : Int) (aY (λ b3 o3 => aA (bC s.a b3 o3) (aW (↑x1.2.1 : Int)) (aA ((↑x1.2.1 : Int) < aF s) (aW 0) (pB ((0 : Int) < 2) (λ y3 => aG (bI m h b3 (bZ o3 x1.2.1 2 + 0) (bT y3)) ((0 : Int) <= 0) ((0 : Int) < 2) (dW y3 x1.2.2.1 (K aR m h) (aY (λ b4 o4 => aA (bC s.a b4 o4) (aW (↑x1.2.1 : Int)) (aA ((↑x1.2.1 : Int) < aF s) (aW 1) (pB ((1 : Int)
 < 2) (λ y4 => aG (bI m h b4 (bZ o4 x1.2.1 2 + 1) (bT y4)) ((0 : Int) <= 1) ((1 : Int) < 2) (dW y4 x1.2.2.2 (K aR m h) (∃ (x2 : Nat × Nat × Int × Int), aA (I1 x2) (m2 x2 < m2 x1) (aA (aK s) (aK t) (aA (aK u) (dG x1.1 x2.1) (aA (eP 8) (aZ x1.2.1 1 x2.2.1) (aA (aK s) (cF s) (aA (dG x1.1 x2.1) (oQ 78 (rE x1.2.2) = oQ 78 (rE x2.2.2)) (cQ (m = m) h h))))))))))))))))))) (∃ (x2 : Nat), aA (I x2) (m1 x2 < m1 x) (aA (aK s) (aK t) (aA (aK u) (aK s) (aA (cF s) (aZ x1.1 1 x2) (cQ (m = m) h h))))))))))))))))))))))) (K gV m h))
theorem Uj (s t u : Sl) (m : MH) (h : PH) (K : CV -> MH -> PH -> Prop) : Jm s t u m h K = (cG (MC s t u m h) Tryz.f104 (aE Tryz.f104) (entry Tryz.f104.ntmps [cS s, cS t, cS u] m h) K) := by kernel_rfl
def Jl (v : QV) (t : Sl) (m : MH) (h : PH) (K : CV -> MH -> PH -> Prop) : Prop :=
  pY (λ I x => aA (I x) (aK t) (aA (eP 2) (aK v.group) (aA (cF v.group) (bO x) (aA (dD v) (m = m) (bG h h))))) (λ I m1 x => I x -> bE (↑x : Int) (aF v.group) (aY (λ b o => aG (bC v.group.a b o) (0 <= (↑x : Int)) ((↑x : Int) < aF v.group) (∃ (y : Int), bI m h b (bZ o x 1) (bT y) /\ yY (λ s l => ∃ (n : Int), aA (gG t y = gG s n) (aU h s l) (rL (Df l n) (K aR m h) (∃ (I1 : Nat × Nat × Int -> Prop) (m2 : Nat × Nat × Int -> Nat), (∃ (x1 : Nat × Nat × Int), aA (I1 x1) (aK t) (aA (eP 2) (dG x x1.1) (aA (bJ y x1.2.2) (bO x1.2.1) (aA (aK v.group) (cF v.group) (kN (dG x x1.1) (dD v) (m = m) h h))))) /\ ∀ (x1 : Nat × Nat × Int), I1 x1 -> bE (↑x1.2.1 : Int) (↑x1.1 : Int) (aY (λ b1 o1 => aG (bC v.group.a b1 o1) (0 <= (↑x1.2.1 : Int)) ((↑x1.2.1 : Int) < aF
 v.group) (∃ (y1 : Int), bI m h b1 (bZ o1 x1.2.1 1) (bT y1) /\ dW y1 x1.2.2 (K aR m h) (∃ (x2 : Nat × Nat × Int), aA (I1 x2) (m2 x2 < m2 x1) (aA (aK t) fL (aA (dG x1.1 x2.1) (bJ x1.2.2 x2.2.2) (aA (aZ x1.2.1 1 x2.2.1) (aK v.group) (aA (cF v.group) (dG x1.1 x2.1) (aA (dD v) (m = m) (bG h h)))))))))) (∃ (x2 : Nat), aA (I x2) (m1 x2 < m1 x) (aA (aK t) fL (aA (aK v.group) (cF v.group) (aA (aZ x1.1 1 x2) (dD v) (cQ (m = m) h h))))))))))) (pY (λ I1 x1 => aA (I1 x1) (aK t) (aA (eP 2) (aK v.order) (aA (cF v.order) (bO x1) (aA (dD v) (m = m) (bG h h))))) (λ I1 m2 x1 => I1 x1 -> bE (↑x1 : Int) (aF v.order) (aY (λ b o => aG (bC v.order.a b o) (0 <= (↑x1 : Int)) ((↑x1 : Int) < aF v.order) (∃ (y : Int × Bool), bI m h b (bZ o x1 2) (pX y)
 /\ yY (λ s l => ∃ (n : Int), aA (gG t y.1 = gG s n) (aU h s l) (rL (Df l n) (K aR m h) (∃ (x2 : Nat), aA (I1 x2) (m2 x2 < m2 x1) (aA (aK t) fL (aA (aK v.order) (cF v.order) (aA (aZ x1 1 x2) (dD v) (cQ (m = m) h h)))))))))) (branch (decide (aF v.order <= 12)) (fI v.limit 0 (K (uS (decide (v.limit <= 100))) m h) (K aR m h)) (K aR m h)))))
theorem Ui (v : QV) (t : Sl) (m : MH) (h : PH) (K : CV -> MH -> PH -> Prop) : Jl v t m h K = (cG (MB v t m h) Tryz.f105 (aE Tryz.f105) (entry Tryz.f105.ntmps [aQ v, cS t] m h) K) := by kernel_rfl
theorem Hf {α : Type} {l : List α} {x : α} (hx : l[i]? = some x) (hi : i < k) : x ∈ l.take k := List.mem_of_getElem? (i := i) (by rw [List.getElem?_take, if_pos hi, hx])
theorem KU {α : Type} {l : List α} {x y : α} (hx : l[i]? = some x) (hy : y ∈ l.take (i + 1)) : y ∈ l.take i \/ y = x := by
 rw [List.take_add_one, hx, List.mem_append] at hy
 rcases hy with h | h
 . exact .inl h
 . simp at h; exact .inr h
theorem eE {n : Int} : Df l n = true ↔ 0 <= n /\ n < l.length := by simp [Df]
theorem NZ : Sound Tryz.prog 104 Qc := by
 refine aI (fn := Tryz.f104) (c := aE Tryz.f104) Tryz.func104 rfl (by decide) ?_
 rintro cvs m h K ⟨s, t, u, on, a, b, rfl, hs, ht, hu, hK⟩
 refine ⟨MC s t u m h, rfl, aD DB aH, ?_⟩
 rw [<- Uj s t u m h K]
 dsimp only [Jm, push_cast]
 have hl := hs.slen
 have hlen := hs.len
 have ta := ht.slen
 have ub := hu.slen
 refine ⟨λ i => i <= on.length /\ eG (sO a b) on i, λ i => on.length - i, ⟨0, ⟨by omega, .zero⟩, MT⟩, λ i ⟨hi, hg⟩ => aC (λ hlt => ?_) (λ hge => hK true ⟨λ _ => hg.all (by omega), λ _ => rfl⟩)⟩
 obtain ⟨p, hp⟩ := fP hl hlt
 obtain ⟨b1, o1, e1, r1⟩ := hs.at hp
 have bad : ¬ sO a b (on.take i) p -> K (.val (.bool false)) m h := λ hn => hK false ⟨λ e => (by cases e), λ e => (Good.not hp hn e).elim⟩
 refine ⟨b1, o1, e1, by omega, hlt, p, .imm r1, by omega, by omega, t, a, p.1, rfl, ht, aB (λ h1 => bad λ hh => ?_) (λ h1 => ⟨by omega, by omega, u, b, p.2, rfl, hu, aB (λ h2 => bad λ hh => ?_) (λ h2 => ?_)⟩)⟩
 . rw [hh.1] at h1; cases h1
 . rw [hh.2.1] at h2; cases h2
 have i1 : Df a p.1 = true := by simpa using h1
 have i2 : Df b p.2 = true := by simpa using h2
 have i1' := eE.1 i1
 have i2' := eE.1 i2
 obtain ⟨b2, o2, e2, r2⟩ := ht.inb i1'.1 i1'.2
 obtain ⟨b3, o3, e3, r3⟩ := hu.inb i2'.1 i2'.2
 refine ⟨by omega, by omega, b2, o2, e2, by omega, by omega, _, .imm r2, by omega, by omega, b3, o3, e3, by omega, by omega, _, .imm r3, aB (λ h3 => bad λ hh => ?_) (λ h3 => ?_)⟩
 . rw [hh.2.2.1] at h3; simp at h3
 refine ⟨λ ⟨i', k, p'⟩ => i' = i /\ p' = p /\ k <= i /\ ∀ q ∈ on.take k, q.1 ≠ p.1 /\ q.2 ≠ p.2, λ ⟨_, k, _⟩ => i - k, ⟨(i, 0, p), ⟨rfl, rfl, by omega, λ q hq => by simp at hq⟩, MT⟩, ?_⟩
 rintro ⟨i, k, p⟩ ⟨rfl, rfl, hk, hno⟩
 dsimp only
 refine aC (λ hlt2 => ?_) (λ hge2 => ?_)
 . obtain ⟨q, hq⟩ : ∃ q, on[k]? = some q := ⟨on[k]'(by omega), List.getElem?_eq_getElem _⟩
   obtain ⟨b4, o4, e4, r4⟩ := hs.at hq
   refine ⟨b4, o4, e4, by omega, by omega, by omega, by omega, q.1, .imm (cL.part r4 0 1), by omega, by omega, aB (λ h4 => bad λ hh => ?_) (λ h4 => ⟨b4, o4, e4, by omega, by omega, by omega, by omega, q.2, .imm (cL.part r4 1 1), by omega, by omega, aB (λ h5 => bad λ hh => ?_) (λ h5 => ?_)⟩)⟩
   . exact (hh.2.2.2 q (Hf hq (by omega))).1 (by simpa using h4)
   . exact (hh.2.2.2 q (Hf hq (by omega))).2 (by simpa using h5)
   . refine ⟨(i, k + 1, p), ⟨rfl, rfl, by show k + 1 <= i; omega, λ q' hq' => ?_⟩, by show i - (k + 1) < i - k; omega, MT⟩
     rcases KU hq hq' with e | rfl
     . exact hno q' e
     . exact ⟨by simpa using h4, by simpa using h5⟩
 . have : k = i := by omega
   subst this
   exact ⟨k + 1, ⟨by omega, hg.succ hp ⟨i1, i2, by simpa using h3, hno⟩⟩, by show on.length - (k + 1) < on.length - k; omega, MT⟩
theorem NY : Sound Tryz.prog 105 Qa := by
 refine aI (fn := Tryz.f105) (c := aE Tryz.f105) Tryz.func105 rfl (by decide) ?_
 rintro cvs m h K ⟨v, t, g, o, a, rfl, hg, ho, ht, hK⟩
 refine ⟨MB v t m h, rfl, aD DB aH, ?_⟩
 rw [<- Ui v t m h K]
 dsimp only [Jl, push_cast]
 have gl := hg.slen
 have glen := hg.len
 have ol := ho.slen
 have olen := ho.len
 have bad : ¬ nF a g o v.limit -> K (.val (.bool false)) m h := λ hn => hK false ⟨λ e => (by cases e), λ e => (hn e).elim⟩
 refine ⟨λ i => i <= g.length /\ eG (Fv a) g i, λ i => g.length - i, ⟨0, ⟨by omega, .zero⟩, MT⟩, λ i ⟨hi, hgi⟩ => aC (λ hlt => ?_) (λ hge => ?_)⟩
 . obtain ⟨c, hc⟩ := fP gl hlt
   obtain ⟨b1, o1, e1, r1⟩ := hg.at' hc
   refine ⟨b1, o1, e1, by omega, hlt, c, .imm r1, t, a, c, rfl, ht, aB (λ h1 => bad λ hh => Good.not hc (λ hx => ?_) hh.group_) (λ h1 => ?_)⟩
   . rw [hx.1] at h1; cases h1
   refine ⟨λ ⟨i', k, c'⟩ => i' = i /\ c' = c /\ k <= i /\ c ∉ g.take k, λ ⟨_, k, _⟩ => i - k, ⟨(i, 0, c), ⟨rfl, rfl, by omega, by simp⟩, MT⟩, ?_⟩
   rintro ⟨i, k, c⟩ ⟨rfl, rfl, hk, hno⟩
   dsimp only
   refine aC (λ hlt2 => ?_) (λ hge2 => ?_)
   . obtain ⟨q, hq⟩ : ∃ q, g[k]? = some q := ⟨g[k]'(by omega), List.getElem?_eq_getElem _⟩
     obtain ⟨b4, o4, e4, r4⟩ := hg.at' hq
     refine ⟨b4, o4, e4, by omega, by omega, q, .imm r4, aB (λ h4 => bad λ hh => Good.not hc (λ hx => ?_) hh.group_) (λ h4 => ?_)⟩
     . refine hx.2 ?_
       have : q = c := by simpa using h4
       rw [<- this]; exact Hf hq (by omega)
     . refine ⟨(i, k + 1, c), ⟨rfl, rfl, by show k + 1 <= i; omega, λ hq' => ?_⟩, by show i - (k + 1) < i - k; omega, MT⟩
       rcases KU hq hq' with e | rfl
       . exact hno e
       . simp at h4
   . have : k = i := by omega
     subst this
     exact ⟨k + 1, ⟨by omega, hgi.succ hc ⟨by simpa using h1, hno⟩⟩, by show g.length - (k + 1) < g.length - k; omega, MT⟩
 have gg := hgi.all (by omega)
 clear hi hgi hge
 refine ⟨λ i => i <= o.length /\ eG (DG a) o i, λ i => o.length - i, ⟨0, ⟨by omega, .zero⟩, MT⟩, λ i ⟨hi, hoi⟩ => aC (λ hlt => ?_) (λ hge => ?_)⟩
 . obtain ⟨c, hc⟩ := fP ol hlt
   obtain ⟨b1, o1, e1, r1⟩ := ho.at hc
   refine ⟨b1, o1, e1, by omega, hlt, c, .imm r1, t, a, c.1, rfl, ht, aB (λ h1 => bad λ hh => Good.not hc (λ hx => ?_) hh.order_) (λ h1 => ⟨i + 1, ⟨by omega, hoi.succ hc (by simpa [DG] using h1)⟩, by show o.length - (i + 1) < o.length - i; omega, MT⟩)⟩
   rw [show Df a c.1 = true from hx] at h1; cases h1
 have oo := hoi.all (by omega)
 refine aC (λ h1 => aC (λ h2 => ?_) (λ h2 => bad λ hh => ?_)) (λ h1 => bad λ hh => ?_)
 . refine hK (decide (v.limit <= 100)) ⟨λ e => ⟨gg, oo, by omega, h2, by simpa using e⟩, λ e => decide_eq_true e.high⟩
 . have := hh.low; omega
 . have := hh.len_; omega
def gD : Pred := .mk 0 0 cR cR []
def dM : Query -> Prop
 | .mk op ta w co on gr od li _ => (op = 1 \/ ta = 0) /\ (op = 2 \/ w = gD) /\ (op = 3 \/ co = []) /\ (op = 4 \/ op = 5 \/ on = []) /\ (op = 9 \/ op = 10 \/ (gr = [] /\ od = [] /\ li = 0))
def lH (l : List Int) : List Int × Int := if l.length <= 12 then (l, 0) else ([], 2)
def eX (e : Int) : List Int × Int := ([], e)
open Classical in
noncomputable def fF (s : oC) (ps : List Int) (q : Query) (a b : List Int) : List Int × Int :=
 if arity (match q with | .mk op .. => op) < 0 \/ ¬ dM q then eX 100 else
 match q with
 | .mk op ta w co on gr od li _ =>
  if op = 1 then (if 0 <= ta /\ ta < s.tables.length then lH (j5 s ta) else eX 100)
  else if op = 2 then (if fE a ps w = 0 then lH a else eX (fE a ps w))
  else if op = 3 then (if co ≠ [] /\ Good (λ _ c => Df a c = true) co then lH (co.map λ c => a.getD c.toNat 0) else eX 100)
  else if op = 4 then (if Good (sO a b) on then lH (a ++ b) else eX 100)
  else if op = 5 then (if Good (sO a b) on then lH a else eX 100)
  else if op = 9 then (if nF a gr od li then lH a else eX 100)
  else if op = 10 then (if a = b /\ nF a gr od li then lH a else eX 100)
  else (if a = b then lH a else eX 100)
def PY : Vc.Spec := λ cvs m h K => ∃ v q, cvs = [aQ v] /\ cC h q v /\ ∀ r : Bool, (r = true ↔ dM q) -> K (cB r) m h
def KR (K : CV -> MH -> PH -> Prop) (m : MH) (h : PH) (r : List Int × Int) : Prop := ∀ sl h', PH.le h h' -> aU h' sl r.1 -> K (.tup [cS sl, cI r.2]) m h'
def SK : Vc.Spec := λ cvs m h K => ∃ sc p v a b s ps q la lb, cvs = [aS sc, cS p, aQ v, cS a, cS b] /\ eW h s sc /\ iH s /\ aU h p ps /\ cC h q v /\ aU h a la /\ aU h b lb /\ la.length <= 12 /\ lb.length <= 12 /\ KR K m h (fF s ps q la lb)
noncomputable def O2 (m : MH) : Ctx :=
 cO [(48, AK), (102, PY), (52, uO), (57, lW), (103, WS), (104, Qc), (105, Qa), (36, rB)]
  [(20, { A := Nat × Sl × Sl × List Int × PH, st := λ ⟨i, a, co, l, h⟩ => cD 121 126 [(3, sv a), (12, .at (.lst 94)), (78, sv co), (79, iv co.len), (80, iv i)] [(94, .lst 3 1 (l.map eI))] m h })] [] [] false
noncomputable def MD (v : QV) (m : MH) (h : PH) : Ctx :=
 WV [(50, SR)] [] [(2, { A := Bool, st := λ r => cD 78 79 [(1, .at (.ptr 1 0)), (3, bv r)] [(1, .cells 43 (v.enc.map .val))] m h })]
  [(2, [(9, { A := Bool × Bool, st := λ x => cD 78 79 [(1, .at (.ptr 1 0)), (3, bv x.1), (20, bv x.2)] [(1, .cells 43 (v.enc.map .val))] m h }),
   (11, { A := Bool × Bool, st := λ x => cD 78 79 [(1, .at (.ptr 1 0)), (3, bv x.1), (31, bv x.2)] [(1, .cells 43 (v.enc.map .val))] m h }),
   (11, { A := Bool × Bool, st := λ x => cD 78 79 [(1, .at (.ptr 1 0)), (3, bv x.1), (42, bv x.2)] [(1, .cells 43 (v.enc.map .val))] m h }),
   (16, { A := Bool × Bool, st := λ x => cD 78 79 [(1, .at (.ptr 1 0)), (3, bv x.1), (58, bv x.2)] [(1, .cells 43 (v.enc.map .val))] m h })])] [] false
abbrev gQ (a b : Bool) : Prop := W2 a = W2 b
abbrev vD (a : Bool) : Prop := gQ true a
abbrev Hc (a : Prop) (b : (Bool × Bool -> Prop) -> Prop) : Prop := a -> ∃ (x : Bool × Bool -> Prop), b x
noncomputable abbrev tN (a b c d e g i j : Value) (k : List Value) : List Value := aL a aX (aL aX aX (aL aX b (aL c d (aL e g (aL i j k)))))
noncomputable abbrev eZ  : List Value := oB j7
abbrev Bg (a : Bool) : Prop := gQ false a
attribute [push_cast] gQ vD Hc tN eZ Bg
def Jo (v : QV) (m : MH) (h : PH) (K : CV -> MH -> PH -> Prop) : Prop :=
  ∃ (I : Bool -> Prop), dW v.op 9 (∃ (x : Bool), aA (I x) gF (aA (vD x) (dD v) (cQ (m = m) h h))) (∃ (x : Bool), aA (I x) gF (aA (gQ (v.op == 10) x) (dD v) (cQ (m = m) h h))) /\ ∀ (x : Bool), Hc (I x) (λ I1 => dW v.op 1 (∃ (x1 : Bool × Bool), aA (I1 x1) gF (aA (gQ x x1.1) (vD x1.2) (aG (dD v) (m = m) (h = h) True))) (∃ (x1 : Bool × Bool), aA (I1 x1) gF (aA (gQ x x1.1) (gQ (v.table == 0) x1.2) (aG (dD v) (m = m) (h = h) True))) /\ ∀ (x1 : Bool × Bool), Hc (I1 x1) (λ I2 => branch x1.2 (dW v.op 2 (∃ (x2 : Bool × Bool), aA (I2 x2) gF (aA (gQ x1.1 x2.1) (vD x2.2) (aG (dD v) (m = m) (h = h) True))) (∃ (v1 : PV), kC (λ w p => ∃ (q : Pred), aG (bX (eF v.where_) (tN aX aX DL aX aX aX aX DL eZ) = bX (eF v1) w.enc)
 (cX h p v1) (cX h q w) (∀ (r : Bool), dQ r (p = q) -> ∃ (x2 : Bool × Bool), aA (I2 x2) gF (aA (gQ x1.1 x2.1) (gQ r x2.2) (aG (dD v) (m = m) (h = h) True)))))) (∃ (x2 : Bool × Bool), aA (I2 x2) gF (aA (gQ x1.1 x2.1) (Bg x2.2) (aG (dD v) (m = m) (h = h) True))) /\ ∀ (x2 : Bool × Bool), Hc (I2 x2) (λ I3 => branch x2.2 (dW v.op 3 (∃ (x3 : Bool × Bool), aA (I3 x3) gF (aA (gQ x2.1 x3.1) (vD x3.2) (aG (dD v) (m = m) (h = h) True))) (∃ (x3 : Bool × Bool), aA (I3 x3) gF (aA (gQ x2.1 x3.1) (gQ (aF v.columns == 0) x3.2) (aG (dD v) (m = m) (h = h) True)))) (∃ (x3 : Bool × Bool), aA (I3 x3) gF (aA (gQ x2.1 x3.1) (Bg x3.2) (aG (dD v) (m = m) (h = h) True))) /\ ∀ (x3 : Bool × Bool), Hc (I3 x3) (λ I4 => branch x3.2 (dT (v.op == 4) (∃ (x4 : Bool × Bool), aA
 (I4 x4) gF (aA (gQ x3.1 x4.1) (vD x4.2) (aG (dD v) (m = m) (h = h) True))) (v.op == 5) (∃ (x4 : Bool × Bool), aA (I4 x4) gF (aA (gQ x3.1 x4.1) (vD x4.2) (aG (dD v) (m = m) (h = h) True))) (∃ (x4 : Bool × Bool), aA (I4 x4) gF (aA (gQ x3.1 x4.1) (gQ (aF v.on == 0) x4.2) (aG (dD v) (m = m) (h = h) True)))) (∃ (x4 : Bool × Bool), aA (I4 x4) gF (aA (gQ x3.1 x4.1) (Bg x4.2) (aG (dD v) (m = m) (h = h) True))) /\ ∀ (x4 : Bool × Bool), eJ (I4 x4) x4.2 (dT x4.1 (K gV m h) (aF v.group == 0) (dW (aF v.order) 0 (K (uS (v.limit == 0)) m h) (K aR m h)) (K aR m h)) (K aR m h)))))
theorem Ul (v : QV) (m : MH) (h : PH) (K : CV -> MH -> PH -> Prop) : Jo v m h K = (cG (MD v m h) Tryz.f102 (aE Tryz.f102) (entry Tryz.f102.ntmps [aQ v] m h) K) := by kernel_rfl
abbrev rD (a : Int) (b : Int -> Prop) : Prop := ∃ (x : Int), cK (fS a) (fS x) /\ b x
abbrev bM (a : CV -> MH -> PH -> Prop) (b : Int) (c : Nat -> Option Obj) (d : Nat -> Nat -> Option Value) : Prop := a (CV.tup (cV Fj b)) c d
noncomputable abbrev fK (a : Sl) : Sl := Sl.mk a.a a.len a.cap
abbrev tK (a : List (List Value)) (b : Nat) : Prop := fR (a.length * b)
abbrev tL (a : List (List Value)) : Prop := fR a.length
abbrev gE (a : CV -> MH -> PH -> Prop) (b : Sl) (c : Nat -> Option Obj) (d : Nat -> Nat -> Option Value) : Prop := a (CV.tup (cV (dO b) 0)) c d
noncomputable abbrev kE (a : List (List Value)) : Int := (↑a.length : Int)
noncomputable abbrev vX (a : Nat × Sl × Sl × List Int × PH) : Sl := a.2.2.1
noncomputable abbrev Ab (a : Nat × Sl × Sl × List Int × PH) : List Int := a.2.2.2.1
noncomputable abbrev vY (a : Nat × Sl × Sl × List Int × PH) : Nat -> Nat -> Option Value := a.2.2.2.2
abbrev Dy (a : Sl -> (List (Int × Int)) -> Prop) : Prop := ∃ (x : Sl) (x1 : List (Int × Int)), a x x1
abbrev vC (a b : List (List Value)) (c : Nat) : Prop := fR (iV a b.length * c)
abbrev pW (a b : List (List Value)) : Prop := fR (iV a b.length)
attribute [push_cast] rD bM fK tK tL gE kE vX Ab vY Dy vC pW
def Hp (sc : bH) (p : Sl) (v : QV) (a b : Sl) (m : MH) (h : PH) (K : CV -> MH -> PH -> Prop) : Prop :=
  rD v.op (λ o => bE (arity o) 0 (bM K 100 m h) (kS (λ v1 q => aA (cK (eN v) (eN v1)) (cC h q v1) (∀ (r : Bool), eJ (dQ r (dM q)) (!r) (bM K 100 m h) (∃ (y : List (List Value)), aA (dK 1 y) (cW h (fK a) 1 y) (aA (tK y 8) (tL y) (dT (v.op == 1) (bE v.table 0 (bM K 100 m h) (fI v.table (iR sc) (bM K 100 m h) (mX (λ v2 s => ∃ (t : Int), aG (cV (bK sc) v.table = cV (bK v2) t) (eW h s v2) (iH s) (fM h (j5 s t) (λ s1 h1 => fB (aF s1) 12 (bM K 2 m h1) (gE K s1 m h1))))))) (v.op == 2) (gW (λ s t => ∃ (v2 : PV), vE (λ c p1 => ∃ (p2 : Pred), aA (dO a :: bX (dO p) v.where_.enc = dO s :: bX (dO t) v2.enc) (aU h s c) (aA (aU h t p1) (cX h p2 v2) (lT (fE c p1 p2 != 0) (bM K (fE c p1 p2) m h) (kE y)
 12 (bM K 2 m h) (bQ h 1 y (λ s1 h1 => gE K s1 m h1))))))) (dT (v.op == 3) (dW (aF v.columns) 0 (bM K 100 m h) (∃ (I : Nat × Sl × Sl × List Int × PH -> Prop) (m1 : Nat × Sl × Sl × List Int × PH -> Nat), (∃ (x : Nat × Sl × Sl × List Int × PH), aA (I x) (bW a x.2.1) (aA (eL 94) (bW v.columns (vX x)) (aA (fN v.columns (vX x)) (bO x.1) (aA (yW 3 1 (Ab x)) (m = m) (bG h (vY x)))))) /\ ∀ (x : Nat × Sl × Sl × List Int × PH), I x -> bE (↑x.1 : Int) (aF (vX x)) (aY (λ b1 o1 => aG (bC (vX x).a b1 o1) (0 <= (↑x.1 : Int)) ((↑x.1 : Int) < aF (vX x)) (∃ (y1 : Int), bI m (vY x) b1 (bZ o1 x.1 1) (bT y1) /\ yY (λ s l => ∃ (n : Int), aA (gG x.2.1 y1 = gG s n) (aU (vY x) s l) (rL (Df l n) (bM K 100 m (vY x)) (aY (λ b2 o2 => aG (bC
 x.2.1.a b2 o2) (0 <= y1) (y1 < aF x.2.1) (∃ (y2 : Int), aG (bI m (vY x) b2 (iW o2 y1 1) (bT y2)) (fR (iV (bY (Ab x)) 1 * 8)) (kR (bY (Ab x))) (∃ (x1 : Nat × Sl × Sl × List Int × PH), aA (I x1) (m1 x1 < m1 x) (aA (bW x.2.1 x1.2.1) (eL 94) (aA (bW (vX x) (vX x1)) (fN (vX x) (vX x1)) (aA (aZ x.1 1 x1.1) (uB (Ab x) y2 (Ab x1)) (cQ (m = m) (vY x) (vY x1)))))))))))))) (fB (kE (bY (Ab x))) 12 (bM K 2 m (vY x)) (bQ (vY x) 1 (bY (Ab x)) (λ s h1 => gE K s m h1))))) (v.op == 4) (gW (λ s t => Dy (λ u o1 => vE (λ a1 b1 => aA (dO v.on :: dL (dO a) b = dO s :: dL (dO t) u) (gM h s o1) (aA (aU h t a1) (aU h u b1) (∀ (r1 : Bool), dQ r1 (Good (sO a1 b1) o1) -> dT (!r1) (bM K 100 m h)
 (v.op == 4) (∃ (y1 : List (List Value)), aA (dK 1 y1) (cW h (fK b) 1 y1) (aA (vC y y1 8) (pW y y1) (fB (kE (y ++ y1)) 12 (bM K 2 m h) (bQ h 1 (y ++ y1) (λ s1 h1 => gE K s1 m h1))))) (fB (kE y) 12 (bM K 2 m h) (bQ h 1 y (λ s1 h1 => gE K s1 m h1))))))))) (dT (v.op == 5) (gW (λ s t => Dy (λ u o1 => vE (λ a1 b1 => aA (dO v.on :: dL (dO a) b = dO s :: dL (dO t) u) (gM h s o1) (aA (aU h t a1) (aU h u b1) (∀ (r1 : Bool), dQ r1 (Good (sO a1 b1) o1) -> dT (!r1) (bM K 100 m h) (v.op == 4) (∃ (y1 : List (List Value)), aA (dK 1 y1) (cW h (fK b) 1 y1) (aA (vC y y1 8) (pW y y1) (fB (kE (y ++ y1)) 12 (bM K 2 m h) (bQ h 1 (y ++ y1) (λ s1 h1 => gE K s1 m h1))))) (fB (kE y) 12 (bM K 2 m h) (bQ h 1 y (λ s1 h1 => gE K s1
 m h1))))))))) (v.op == 9) (∃ (v2 : QV), yY (λ t g => ∃ (o1 : List (Int × Bool)) (a1 : List Int), aA (dL (eN v) a = dL (eN v2) t) (aU h v2.group g) (aA (fU h v2.order o1) (aU h t a1) (∀ (r1 : Bool), dQ r1 (nF a1 g o1 v2.limit) -> lT (!r1) (bM K 100 m h) (kE y) 12 (bM K 2 m h) (bQ h 1 y (λ s h1 => gE K s m h1)))))) (rC a b h (λ a1 b1 r1 => dQ r1 (a1 = b1) -> dT (!r1) (bM K 100 m h) (v.op == 10) (∃ (v2 : QV), yY (λ t g => ∃ (o1 : List (Int × Bool)) (a2 : List Int), aA (dL (eN v) a = dL (eN v2) t) (aU h v2.group g) (aA (fU h v2.order o1) (aU h t a2) (∀ (r2 : Bool), dQ r2 (nF a2 g o1 v2.limit) -> lT (!r2) (bM K 100 m h) (kE y) 12 (bM K 2 m h) (bQ h 1 y (λ s h1 => gE K s m h1)))))) (fB (kE y) 12 (bM K 2 m h) (bQ h 1 y (λ s h1 =>
 gE K s m h1))))))))))))))
theorem Vp (sc : bH) (p : Sl) (v : QV) (a b : Sl) (m : MH) (h : PH) (K : CV -> MH -> PH -> Prop) : Hp sc p v a b m h K = (cG (O2 m) Tryz.f75 (aE Tryz.f75) (entry Tryz.f75.ntmps [aS sc, cS p, aQ v, cS a, cS b] m h) K) := by kernel_rfl
theorem zA {α : Type} {n : Nat} {l : List α} (h : n = l.length) : ((n : Int) == 0) = true ↔ l = [] := by
 rw [beq_iff_eq, h, <- List.length_eq_zero_iff]; omega
theorem A8 (h : PH) : cX h gD ⟨0, 0, cR, cR, ⟨none, 0, 0⟩⟩ := cX.mk (v := ⟨0, 0, cR, cR, ⟨none, 0, 0⟩⟩) (.nil _ _ _ _)
theorem N0 : Sound Tryz.prog 102 PY := by
 refine aI (fn := Tryz.f102) (c := aE Tryz.f102) Tryz.func102 rfl (by decide) ?_
 rintro cvs m h K ⟨v, q, rfl, hq, hK⟩
 refine ⟨MD v m h, rfl, aD f50_sound aH, ?_⟩
 rw [<- Ul v m h K]
 dsimp only [Jo, push_cast]
 obtain ⟨op, ta, w, co, on, gr, od, li, args⟩ := q
 have a := hq.parts
 have e0 := a.op_
 have e1 := a.table_
 have e2 := a.limit_
 have l1 := zA a.columns_.slen
 have l2 := zA a.on_.slen
 have l3 := zA a.group_.slen
 have l4 := zA a.order_.slen
 simp only [dM] at hK
 subst e0 e1 e2
 refine ⟨λ r => (r = true ↔ v.op = 9 \/ v.op = 10), aB (λ h1 => ⟨true, by simp at h1; simp [h1], MT⟩) (λ h1 => ⟨_, ?_, MT⟩), λ r hr => ?_⟩
 . simp only [beq_eq_false_iff_ne] at h1; simp [h1]
 refine ⟨λ x => x.1 = r /\ (x.2 = true ↔ (v.op = 1 \/ v.table = 0)), aB (λ h1 => ⟨(r, true), ⟨rfl, by simp at h1; simp [h1]⟩, MT⟩) (λ h1 => ⟨(r, _), ⟨rfl, ?_⟩, MT⟩), ?_⟩
 . simp only [beq_eq_false_iff_ne] at h1; simp [h1]
 rintro ⟨r, c⟩ ⟨rfl, hc⟩
 dsimp only at hc hr ⊢
 refine ⟨λ x => x.1 = r /\ (x.2 = true ↔ (v.op = 1 \/ v.table = 0) /\ (v.op = 2 \/ w = gD)), aB (λ h1 => aB (λ h2 => ⟨(r, true), ⟨rfl, ⟨λ _ => ⟨hc.1 h1, .inl (by simpa using h2)⟩, λ _ => rfl⟩⟩, MT⟩) (λ h2 => ⟨v.where_, ⟨0, 0, cR, cR, ⟨none, 0, 0⟩⟩, w, gD, rfl, a.where_, A8 h, λ r' hr' => ⟨(r, r'), ⟨rfl, ?_⟩, MT⟩⟩)) (λ h1 => ⟨(r, false), ⟨rfl, ?_⟩, MT⟩), ?_⟩
 . simp only [beq_eq_false_iff_ne] at h2; simp only [hr', hc.1 h1, h2, true_and, false_or]
 . rw [h1] at hc; simp only [Bool.false_eq_true, false_iff] at hc ⊢; exact λ e => hc e.1
 clear hc c
 rintro ⟨r, c⟩ ⟨rfl, hc⟩
 dsimp only at hc hr ⊢
 refine ⟨λ x => x.1 = r /\ (x.2 = true ↔ (v.op = 1 \/ v.table = 0) /\ (v.op = 2 \/ w = gD) /\ (v.op = 3 \/ co = [])), aB (λ h1 => aB (λ h2 => ⟨(r, true), ⟨rfl, ⟨λ _ => ⟨(hc.1 h1).1, (hc.1 h1).2, .inl (by simpa using h2)⟩, λ _ => rfl⟩⟩, MT⟩) (λ h2 => ⟨(r, _), ⟨rfl, ?_⟩, MT⟩)) (λ h1 => ⟨(r, false), ⟨rfl, ?_⟩, MT⟩), ?_⟩
 . simp only [beq_eq_false_iff_ne] at h2; simp only [l1, hc.1 h1, h2, true_and, false_or]
 . rw [h1] at hc; simp only [Bool.false_eq_true, false_iff] at hc ⊢; exact λ e => hc ⟨e.1, e.2.1⟩
 clear hc c
 rintro ⟨r, c⟩ ⟨rfl, hc⟩
 dsimp only at hc hr ⊢
 refine ⟨λ x => x.1 = r /\ (x.2 = true ↔ (v.op = 1 \/ v.table = 0) /\ (v.op = 2 \/ w = gD) /\ (v.op = 3 \/ co = []) /\ (v.op = 4 \/ v.op = 5 \/ on = [])), aB (λ h1 => aB (λ h2 => ⟨(r, true), ⟨rfl, ⟨λ _ => ⟨(hc.1 h1).1, (hc.1 h1).2.1, (hc.1 h1).2.2, .inl (by simpa using h2)⟩, λ _ => rfl⟩⟩, MT⟩) (λ h2 => aB (λ h3 => ⟨(r, true), ⟨rfl, ⟨λ _ => ⟨(hc.1 h1).1, (hc.1 h1).2.1, (hc.1 h1).2.2, .inr (.inl (by simpa using h3))⟩, λ _ => rfl⟩⟩, MT⟩) (λ h3 => ⟨(r, _), ⟨rfl, ?_⟩, MT⟩))) (λ h1 => ⟨(r, false), ⟨rfl, ?_⟩, MT⟩), ?_⟩
 . simp only [beq_eq_false_iff_ne] at h2 h3; simp only [l2, hc.1 h1, h2, h3, true_and, false_or]
 . rw [h1] at hc; simp only [Bool.false_eq_true, false_iff] at hc ⊢; exact λ e => hc ⟨e.1, e.2.1, e.2.2.1⟩
 clear hc c
 rintro ⟨r, c⟩ ⟨rfl, hc⟩
 dsimp only at hc hr ⊢
 refine aB (λ h1 => aB (λ h2 => hK true ⟨λ _ => ?_, λ _ => rfl⟩) (λ h2 => aB (λ h3 => aB (λ h4 => hK _ ?_) (λ h4 => hK false ?_)) (λ h3 => hK false ?_))) (λ h1 => hK false ?_)
 . obtain ⟨p1, p2, p3, p4⟩ := hc.1 h1
   refine ⟨p1, p2, p3, p4, ?_⟩
   rcases hr.1 h2 with e | e
   . exact .inl e
   . exact .inr (.inl e)
 . obtain ⟨p1, p2, p3, p4⟩ := hc.1 h1
   have nr : ¬ (v.op = 9 \/ v.op = 10) := λ e => by rw [hr.2 e] at h2; cases h2
   rw [beq_iff_eq]
   refine ⟨λ e => ⟨p1, p2, p3, p4, .inr (.inr ⟨l3.1 h3, l4.1 h4, e⟩)⟩, λ e => ?_⟩
   rcases e.2.2.2.2 with e | e | e
   . exact (nr (.inl e)).elim
   . exact (nr (.inr e)).elim
   . exact e.2.2
 . have nr : ¬ (v.op = 9 \/ v.op = 10) := λ e => by rw [hr.2 e] at h2; cases h2
   refine ⟨λ e => (by cases e), λ e => ?_⟩
   rcases e.2.2.2.2 with e | e | e
   . exact (nr (.inl e)).elim
   . exact (nr (.inr e)).elim
   . rw [l4.2 e.2.1] at h4; cases h4
 . have nr : ¬ (v.op = 9 \/ v.op = 10) := λ e => by rw [hr.2 e] at h2; cases h2
   refine ⟨λ e => (by cases e), λ e => ?_⟩
   rcases e.2.2.2.2 with e | e | e
   . exact (nr (.inl e)).elim
   . exact (nr (.inr e)).elim
   . rw [l3.2 e.1] at h3; cases h3
 . refine ⟨λ e => (by cases e), λ e => ?_⟩
   rw [hc.2 ⟨e.1, e.2.1, e.2.2.1, e.2.2.2.1⟩] at h1; cases h1
theorem kG (l : List Int) : dK 1 (l.map eI) := by
 constructor
 . intro e he; obtain ⟨x, _, rfl⟩ := List.mem_map.1 he; rfl
 . intro e he u hu; obtain ⟨x, _, rfl⟩ := List.mem_map.1 he; simp [eI] at hu; subst hu; rfl
theorem KR.err {r : List Int × Int} {e : Int} (hK : KR K m h r) (hle : PH.le h h') (he : r = eX e) : K (.tup [.val (.slice none 0 0), .val (.int .i64 e)]) m h' := by
 subst he
 exact hK ⟨none, 0, 0⟩ h' hle ⟨.nil _ _, by simp [eX]⟩
theorem KR.big {r : List Int × Int} (hK : KR K m h r) (hle : PH.le h h') (he : r = lH l) (hl : 12 < l.length) : K (.tup [.val (.slice none 0 0), .val (.int .i64 2)]) m h' :=
 hK.err hle (by rw [he, lH, if_neg (by omega)]; rfl)
theorem KR.ok {r : List Int × Int} {sl : Sl} (hK : KR K m h r) (hle : PH.le h h') (he : r = lH l) (hl : l.length <= 12) (hi : cW h' sl 1 (l.map eI)) : K (.tup [.val (.slice sl.a sl.len sl.cap), .val (.int .i64 0)]) m h' := by
 rw [he, lH, if_pos hl] at hK
 exact hK sl h' hle ⟨hi, by show l.length <= 17592186044416; omega⟩
theorem Vq {p : Sl} {a b : Sl} {la lb : List Int} (hs : eW h s sc) (h8 : iH s) (hp : aU h p ps) (hq : cC h q v) (ha : aU h a la) (hb : aU h b lb) (la12 : la.length <= 12) (lb12 : lb.length <= 12) (hK : KR K m h (fF s ps q la lb)) : Hp sc p v a b m h K := by
 dsimp only [Hp, push_cast]
 have hqr := hq
 obtain ⟨op, ta, w, co, on, gr, od, li, args⟩ := q
 have x := hq.parts
 have e0 := x.op_
 have e1 := x.table_
 have e2 := x.limit_
 have hsl := hs.tables.slen
 have hal := ha.slen
 have hcl := x.columns_.slen
 have hclen := x.columns_.len
 subst e0 e1 e2
 refine ⟨v.op, rfl, aC (λ h1 => hK.err (.refl _) ?_) (λ h1 => ⟨v, _, rfl, hqr, λ r hr => aB (λ h2 => hK.err (.refl _) ?_) (λ h2 => ?_)⟩)⟩
 . unfold fF; rw [if_pos (.inl h1)]
 . unfold fF; rw [if_pos (.inr λ e => by rw [hr.2 e] at h2; cases h2)]
 have hu : dM (.mk v.op v.table w co on gr od v.limit args) := hr.1 (by simpa using h2)
 unfold fF at hK
 rw [if_neg (λ e => e.elim h1 (λ e => e hu))] at hK
 dsimp only at hK
 clear hr h2
 refine ⟨la.map eI, kG _, ha.row, by simp; omega, by simp; omega, aB (λ c1 => ?_) (λ c1 => aB (λ c2 => ?_) (λ c2 => aB (λ c3 => ?_) (λ c3 => aB (λ c4 => ?_) (λ c4 => aB (λ c5 => ?_) (λ c5 => aB (λ c6 => ?_) (λ c6 => ?_))))))⟩
 . rw [beq_iff_eq] at c1
   rw [if_pos c1] at hK
   refine aC (λ d1 => hK.err (.refl _) (if_neg (by omega))) (λ d1 => aC (λ d2 => hK.err (.refl _) (if_neg (by omega))) (λ d2 => ⟨sc, s, v.table, rfl, hs, h8, λ sl h' hle hi => ?_⟩))
   rw [if_pos (by omega)] at hK
   have := hi.slen
   exact aC (λ d3 => hK.big hle rfl (by omega)) (λ d3 => hK.ok hle rfl (by omega) hi.row)
 . rw [beq_eq_false_iff_ne] at c1
   rw [beq_iff_eq] at c2
   rw [if_neg c1, if_pos c2] at hK
   refine ⟨a, p, v.where_, la, ps, w, rfl, ha, hp, x.where_, aB (λ d1 => hK.err (.refl _) (if_neg (by simpa using d1))) (λ d1 => ?_)⟩
   rw [if_pos (by simpa using d1)] at hK
   exact aC (λ d3 => hK.big (.refl _) rfl (by simp at d3; omega)) (λ d3 sl h' hle hi => hK.ok hle rfl (by omega) hi)
 . rw [beq_eq_false_iff_ne] at c1 c2
   rw [beq_iff_eq] at c3
   rw [if_neg c1, if_neg c2, if_pos c3] at hK
   refine aB (λ d1 => hK.err (.refl _) (if_neg λ e => e.1 ((zA hcl).1 d1))) (λ d1 => ?_)
   have hne : co ≠ [] := λ e => by rw [(zA hcl).2 e] at d1; cases d1
   refine ⟨λ ⟨i, a', co', l, hx⟩ => a' = a /\ co' = v.columns /\ hx = h /\ i <= co.length /\ l = (co.take i).map (λ c => la.getD c.toNat 0) /\ eG (λ _ c => Df la c = true) co i, λ ⟨i, _, _, _, _⟩ => co.length - i, ⟨(0, a, v.columns, [], h), ⟨rfl, rfl, rfl, by omega, by simp, .zero⟩, MT⟩, ?_⟩
   rintro ⟨i, a, _, l, h⟩ ⟨rfl, rfl, rfl, hi, rfl, hg⟩
   dsimp only
   refine aC (λ hlt => ?_) (λ hge => ?_)
   . obtain ⟨c, hc⟩ := fP hcl hlt
     obtain ⟨b1, o1, ea1, r1⟩ := x.columns_.at' hc
     refine ⟨b1, o1, ea1, by omega, hlt, c, .imm r1, a, la, c, rfl, ha, aB (λ d2 => hK.err (.refl _) (if_neg λ e => ?_)) (λ d2 => ?_)⟩
     . have := e.2 i c hc; rw [this] at d2; cases d2
     have d2 : Df la c = true := by simpa using d2
     have d3 := eE.1 d2
     obtain ⟨b2, o2, ea2, r2⟩ := ha.inb d3.1 d3.2
     refine ⟨b2, o2, ea2, by omega, by omega, _, .imm r2, ?_, ?_, (i + 1, a, v.columns, (co.take (i + 1)).map (λ c => la.getD c.toNat 0), h), ⟨rfl, rfl, rfl, by omega, rfl, hg.succ hc d2⟩, by show co.length - (i + 1) < co.length - i; omega, ?_⟩
     . simp; omega
     . simp; omega
     . rw [gJ hc, List.map_append]
       exact MT
   . rw [if_pos ⟨hne, hg.all (by omega)⟩] at hK
     rw [List.take_of_length_le (by omega)]
     exact aC (λ d3 => hK.big (.refl _) rfl (by simp at d3 ⊢; omega)) (λ d3 sl h' hle hi => hK.ok hle rfl (by simp at d3 ⊢; omega) hi)
 . rw [beq_eq_false_iff_ne] at c1 c2 c3
   have c4' := beq_iff_eq.1 c4
   rw [if_neg c1, if_neg c2, if_neg c3, if_pos c4'] at hK
   refine ⟨v.on, a, b, on, la, lb, rfl, x.on_, ha, hb, λ r hr => aB (λ d1 => hK.err (.refl _) (if_neg λ e => ?_)) (λ d1 => aB (λ _ => ⟨lb.map eI, kG _, hb.row, by simp; omega, by simp; omega, ?_⟩) (λ d2 => ?_))⟩
   . rw [hr.2 e] at d1; cases d1
   . rw [if_pos (hr.1 (by simpa using d1))] at hK
     rw [<- List.map_append]
     exact aC (λ d3 => hK.big (.refl _) rfl (by simp at d3 ⊢; omega)) (λ d3 sl h' hle hi => hK.ok hle rfl (by simp at d3 ⊢; omega) hi)
   . rw [c4] at d2; cases d2
 . rw [beq_eq_false_iff_ne] at c1 c2 c3
   have c4' := beq_eq_false_iff_ne.1 c4
   rw [beq_iff_eq] at c5
   rw [if_neg c1, if_neg c2, if_neg c3, if_neg c4', if_pos c5] at hK
   refine ⟨v.on, a, b, on, la, lb, rfl, x.on_, ha, hb, λ r hr => aB (λ d1 => hK.err (.refl _) (if_neg λ e => ?_)) (λ d1 => aB (λ d2 => ?_) (λ d2 => ?_))⟩
   . rw [hr.2 e] at d1; cases d1
   . rw [c4] at d2; cases d2
   . rw [if_pos (hr.1 (by simpa using d1))] at hK
     exact aC (λ d3 => hK.big (.refl _) rfl (by simp at d3; omega)) (λ d3 sl h' hle hi => hK.ok hle rfl (by omega) hi)
 . rw [beq_eq_false_iff_ne] at c1 c2 c3 c4 c5
   rw [beq_iff_eq] at c6
   rw [if_neg c1, if_neg c2, if_neg c3, if_neg c4, if_neg c5, if_pos c6] at hK
   refine ⟨v, a, gr, od, la, rfl, x.group_, x.order_, ha, λ r hr => aB (λ d1 => hK.err (.refl _) (if_neg λ e => ?_)) (λ d1 => ?_)⟩
   . rw [hr.2 e] at d1; cases d1
   rw [if_pos (hr.1 (by simpa using d1))] at hK
   exact aC (λ d3 => hK.big (.refl _) rfl (by simp at d3; omega)) (λ d3 sl h' hle hi => hK.ok hle rfl (by omega) hi)
 . rw [beq_eq_false_iff_ne] at c1 c2 c3 c4 c5 c6
   rw [if_neg c1, if_neg c2, if_neg c3, if_neg c4, if_neg c5, if_neg c6] at hK
   refine ⟨a, b, la, lb, rfl, ha, hb, λ r hr => aB (λ d1 => hK.err (.refl _) ?_) (λ d1 => aB (λ d2 => ⟨v, a, gr, od, la, rfl, x.group_, x.order_, ha, λ r2 hr2 => aB (λ d4 => hK.err (.refl _) ?_) (λ d4 => ?_)⟩) (λ d2 => ?_))⟩
   . have hne : ¬ la = lb := λ e => by rw [hr.2 e] at d1; cases d1
     by_cases h10 : v.op = 10
     . rw [if_pos h10, if_neg (λ e => hne e.1)]
     . rw [if_neg h10, if_neg hne]
   . rw [beq_iff_eq] at d2
     rw [if_pos d2, if_neg λ e => by rw [hr2.2 e.2] at d4; cases d4]
   . rw [beq_iff_eq] at d2
     rw [if_pos d2, if_pos ⟨hr.1 (by simpa using d1), hr2.1 (by simpa using d4)⟩] at hK
     exact aC (λ d3 => hK.big (.refl _) rfl (by simp at d3; omega)) (λ d3 sl h' hle hi => hK.ok hle rfl (by omega) hi)
   . rw [beq_eq_false_iff_ne] at d2
     rw [if_neg d2, if_pos (hr.1 (by simpa using d1))] at hK
     exact aC (λ d3 => hK.big (.refl _) rfl (by simp at d3; omega)) (λ d3 sl h' hle hi => hK.ok hle rfl (by omega) hi)
theorem IK : Sound Tryz.prog 75 SK := by
 refine aI (fn := Tryz.f75) (c := aE Tryz.f75) Tryz.func75 rfl (by decide) ?_
 rintro cvs m h K ⟨sc, p, v, a, b, s, ps, q, la, lb, rfl, hs, h8, hp, hq, ha, hb, h1, h2, hK⟩
 refine ⟨O2 m, rfl, aD AU (aD N0 (aD f52_sound (aD f57_sound (aD DB (aD NZ (aD NY (aD IV aH))))))), ?_⟩
 rw [<- Vp sc p v a b m h K]
 exact Vq hs h8 hp hq ha hb h1 h2 hK
mutual
noncomputable def dH (s : oC) (ps : List Int) : Query -> List Int × Int
 | .mk op ta w co on gr od li args =>
  match jE s ps args with
  | (ks, e) => if e = 0 then (if (ks.length : Int) = arity op then fF s ps (.mk op ta w co on gr od li args) (ks.getD 0 []) (ks.getD 1 []) else eX 100) else eX e
noncomputable def jE (s : oC) (ps : List Int) : List Query -> List (List Int) × Int
 | [] => ([], 0)
 | q :: qs =>
  match dH s ps q with
  | (k, e) => if e = 0 then (match jE s ps qs with | (ks, e') => if e' = 0 then (k :: ks, 0) else ([], e')) else ([], e)
end
theorem zB {s : oC} {ps : List Int} : ∀ {qs : List Query} {ks : List (List Int)}, qs.map (dH s ps) = ks.map (λ k => (k, 0)) -> jE s ps qs = (ks, 0)
 | [], [], _ => by simp [jE]
 | q :: qs, k :: ks, h => by
  simp only [List.map_cons, List.cons.injEq] at h
  simp only [jE, h.1, zB h.2, if_true]
 | [], _ :: _, h => by simp at h
 | _ :: _, [], h => by simp at h
theorem Cf {s : oC} {ps : List Int} {e : Int} (he : e ≠ 0) : ∀ {qs : List Query} {ks : List (List Int)} {i : Nat} {q : Query}, (qs.take i).map (dH s ps) = ks.map (λ k => (k, 0)) -> qs[i]? = some q -> (dH s ps q).2 = e -> jE s ps qs = ([], e)
 | [], _, _, _, _, h, _ => by simp at h
 | q :: qs, _, 0, q', _, h, h2 => by
  simp at h; subst h
  simp only [jE, h2, if_neg he]
 | q :: qs, [], i + 1, _, h, _, _ => by simp at h
 | q :: qs, k :: ks, i + 1, q', h, hq, h2 => by
  simp only [List.take_succ_cons, List.map_cons, List.cons.injEq] at h
  have := Cf he h.2 (by simpa using hq) h2
  simp only [jE, h.1, this, if_true, if_neg he]
theorem R7 (l : List Int) : (lH l).1.length <= 12 := by unfold lH; split <;> simp_all
theorem Ix (s : oC) (ps : List Int) (q : Query) (a b : List Int) : (fF s ps q a b).1.length <= 12 := by
 obtain ⟨op, ta, w, co, on, gr, od, li, args⟩ := q
 unfold fF
 dsimp only
 repeat' split
 all_goals first | exact R7 _ | (simp [eX]; done)
theorem zC (s : oC) (ps : List Int) (q : Query) : (dH s ps q).1.length <= 12 := by
 obtain ⟨op, ta, w, co, on, gr, od, li, args⟩ := q
 simp only [dH]
 repeat' split
 all_goals first | exact Ix .. | simp [eX]
noncomputable def dV (s : oC) (ps : List Int) (q : Query) : List Int × Int :=
 if cN s = 0 then (if ps.all dR = true then (if lK q = true then dH s ps q else eX 2) else eX 1) else eX (cN s)
def Slices (h : PH) (ss : List Sl) (ks : List (List Int)) : Prop := ss.length = ks.length /\ ∀ (j : Nat) s k, ss[j]? = some s -> ks[j]? = some k -> aU h s k
theorem Slices.mono {ss : List Sl} (x : Slices h ss ks) (le : PH.le h h') : Slices h' ss ks := ⟨x.1, λ j s k h1 h2 => (x.2 j s k h1 h2).mono le⟩
theorem Slices.snoc {ss : List Sl} {s : Sl} {k : List Int} (x : Slices h ss ks) (hi : aU h s k) : Slices h (ss ++ [s]) (ks ++ [k]) := by
 refine ⟨by simp [x.1], λ j s' k' h1 h2 => ?_⟩
 by_cases hj : j < ss.length
 . rw [List.getElem?_append_left hj] at h1
   rw [List.getElem?_append_left (by rw [<- x.1]; exact hj)] at h2
   exact x.2 j s' k' h1 h2
 . rw [List.getElem?_append_right (by omega)] at h1
   rw [List.getElem?_append_right (by have := x.1; omega), <- x.1] at h2
   cases e : j - ss.length with
   | zero => rw [e] at h1 h2; simp at h1 h2; subst h1 h2; exact hi
   | succ n => rw [e] at h1; simp at h1
def wM (N : Nat) : Vc.Spec := λ cvs m h K => ∃ sc p v s ps q, cvs = [aS sc, cS p, aQ v] /\ eW h s sc /\ iH s /\ aU h p ps /\ cC h q v /\ SizeOf.sizeOf q < N /\ KR K m h (dH s ps q)
def sN : Vc.Spec := λ cvs m h K => ∃ sc p v s ps q, cvs = [aS sc, cS p, aQ v] /\ eW h s sc /\ aU h p ps /\ cC h q v /\ KR K m h (dV s ps q)
noncomputable def f55_ctx (N : Nat) (sc : bH) (p : Sl) (v : QV) (m : MH) : Ctx :=
 cO [(55, wM N), (48, AK), (75, SK)] [(3, { A := Nat × List Sl × PH, st := λ ⟨i, ss, h⟩ => cD 58 61 [(1, sv p), (3, .at (.ptr 3 0)), (5, .at (.ptr 5 0)), (8, .at (.lst 35)), (14, iv v.args.len), (15, iv i)] [(3, .cells 28 (sc.enc.map .val)), (5, .cells 43 (v.enc.map .val)), (35, .lst 39 1 (ss.map eS))] m h })] [] [] false
abbrev rY (a b : Nat) (c : List (List Value)) : Prop := cM a b [] = cM a b c
noncomputable abbrev oV (a : Nat × List Sl × PH) : List (List Value) := List.map eS a.2.1
noncomputable abbrev kB (a : Nat × List Sl × PH) : Nat -> Nat -> Option Value := a.2.2
abbrev xA (a : bH -> Sl -> Prop) : Prop := ∃ (x : bH) (x1 : Sl), a x x1
abbrev rZ (a : bH -> Sl -> QV -> Prop) : Prop := xA (λ x x1 => ∃ (x2 : QV), a x x1 x2)
abbrev Da (a : oC -> (List Int) -> Prop) : Prop := ∃ (x : oC) (x1 : List Int), a x x1
abbrev sA (a : oC -> (List Int) -> Query -> Prop) : Prop := Da (λ x x1 => ∃ (x2 : Query), a x x1 x2)
abbrev oO (a : List (List Value)) (b : Nat) (c : Prop) : Prop := aA (fR (iV a 1 * b)) (kR a) c
noncomputable abbrev mI (a b : List Value) : List (List Value) := a :: jG b
abbrev AH (a : List (List Value)) (b : Nat) (c : List Value) : Prop := a[b]? = Option.some c
abbrev uA (a : Prop) (b c : Int) (d : List (List Value)) (e : (List Value) -> Prop) : Prop := aG a (b <= c) (c < kE d) (∃ (x : List Value), e x)
abbrev iO (a b : Nat) (c d : List Value) : Prop := List.take a (List.drop b c) = d
noncomputable abbrev fG (a b : CV) (c : List CV) : List CV := a :: b :: c
abbrev xC (a : List Int) (b : Nat) : Prop := a.length <= b
attribute [push_cast] rY oV kB xA rZ Da sA oO mI AH uA iO fG xC
def f55_nice (N : Nat) (sc : bH) (p : Sl) (v : QV) (m : MH) (h : PH) (K : CV -> MH -> PH -> Prop) : Prop :=
  ∃ (I : Nat × List Sl × PH -> Prop) (m1 : Nat × List Sl × PH -> Nat), (∃ (x : Nat × List Sl × PH), aA (I x) (aK p) (aA (eP 3) (eP 5) (aA (eL 35) (oU v) (aA (bO x.1) (bR sc) (kN (dD v) (rY 39 1 (oV x)) (m = m) h (kB x)))))) /\ ∀ (x : Nat × List Sl × PH), I x -> bE (↑x.1 : Int) (aF v.args) (aY (λ b o => aG (bC v.args.a b o) (0 <= (↑x.1 : Int)) ((↑x.1 : Int) < aF v.args) (∃ (y : QV), bI m (kB x) b (bZ o x.1 21) y.enc /\ rZ (λ s p1 v1 => sA (λ s1 p2 q => aA (bK sc :: bX (dO p) y.enc = bK s :: bX (dO p1) v1.enc) (eW (kB x) s1 s) (aA (iH s1) (aU (kB x) p1 p2) (aA (cC (kB x) q v1) (qM q N) (fM (kB x) (dH s1 p2 q).1 (λ s2 h1 => dE (dH s1 p2 q).2 0 (K (CV.tup (lY Fj (CV.val (cZ (dH s1 p2 q).2)))) m h1) (oO (oV x) 24 (∃ (x1 : Nat ×
 List Sl × PH), aA (I x1) (m1 x1 < m1 x) (aA (aK p) hJ (aA eT (eL 35) (aA (oU v) (aZ x.1 1 x1.1) (aA (bR sc) (dD v) (aA (cM 39 1 (iK (oV x) (cT s2)) = cM 39 1 (oV x1)) (m = m) (bG h1 (kB x1)))))))))))))))))) (rD v.op (λ o => dE (kE (oV x)) (arity o) (bM K 100 m (kB x)) (aA (fR (iV (oV x) 2 * 24)) (fR (iV (oV x) 2)) (aA (aW 0) (0 < kE (oV x ++ mI eZ eZ)) (∃ (e : List Value), AH (oV x ++ mI eZ eZ) 0 e /\ ∃ (y : Sl), uA (iO 1 0 e (cT y)) 0 1 (oV x ++ mI eZ eZ) (λ e1 => AH (oV x ++ mI eZ eZ) 1 e1 /\ ∃ (y1 : Sl), iO 1 0 e1 (cT y1) /\ rZ (λ s p1 v1 => gW (λ a b => sA (λ s1 p2 q => vE (λ l l1 => aA (fG (bK sc) (dO p) (eN v :: dL (dO y)
 y1) = fG (bK s) (dO p1) (eN v1 :: dL (dO a) b)) (eW (kB x) s1 s) (aA (iH s1) (aU (kB x) p1 p2) (aA (cC (kB x) q v1) (aU (kB x) a l) (aA (aU (kB x) b l1) (xC l 12) (xC l1 12 /\ fM (kB x) (fF s1 p2 q l l1).1 (λ s2 h1 => K (CV.tup (lY (dO s2) (CV.val (cZ (fF s1 p2 q l l1).2)))) m h1)))))))))))))))
theorem f55_vc (N : Nat) (sc : bH) (p : Sl) (v : QV) (m : MH) (h : PH) (K : CV -> MH -> PH -> Prop) : f55_nice N sc p v m h K = (cG (f55_ctx N sc p v m) Tryz.f55 (aE Tryz.f55) (entry Tryz.f55.ntmps [aS sc, cS p, aQ v] m h) K) := by kernel_rfl
def Mh (N : Nat) (sc : bH) (p : Sl) (v : QV) (m : MH) (h : PH) (K : CV -> MH -> PH -> Prop) : Prop :=
  mX (λ v1 s => aA (cK (bK sc) (bK v1)) (eW h s v1) (dE (cN s) 0 (bM K (cN s) m h) (nC p h (λ l => rL (wZ l) (bM K 1 m h) (kS (λ v2 p1 => aA (cK (eN v) (eN v2)) (cC h p1 v2) (rL (lK p1) (bM K 2 m h) (rZ (λ s1 p2 v3 => sA (λ s2 p3 q => aA (bK sc :: bX (dO p) v.enc = bK s1 :: bX (dO p2) v3.enc) (eW h s2 s1) (aA (iH s2) (aU h p2 p3) (aA (cC h q v3) (qM q N) (fM h (dH s2 p3 q).1 (λ s3 h1 => K (CV.tup (lY (dO s3) (CV.val (cZ (dH s2 p3 q).2)))) m h1))))))))))))))
theorem V5 (N : Nat) (sc : bH) (p : Sl) (v : QV) (m : MH) (h : PH) (K : CV -> MH -> PH -> Prop) : Mh N sc p v m h K = (cG (cO [(53, qA), (54, Fu), (19, Kw), (55, wM N)] [] [] [] false) Tryz.f26 (aE Tryz.f26) (entry Tryz.f26.ntmps [aS sc, cS p, aQ v] m h) K) := by kernel_rfl
theorem ES {qs : List Query} (h : qs.map (dH s ps) = ks.map (λ k => (k, 0))) (j : Nat) : (ks.getD j []).length <= 12 := by
 rw [List.getD_eq_getElem?_getD]
 cases e : ks[j]? with
 | none => simp
 | some k =>
  have h1 : (qs.map (dH s ps))[j]? = some (k, 0) := by rw [h]; simp [e]
  rw [List.getElem?_map, Option.map_eq_some_iff] at h1
  obtain ⟨q, _, h2⟩ := h1
  have := zC s ps q
  rw [h2] at this
  simpa using this
theorem Slices.pick {ss : List Sl} (x : Slices h ss ks) (j : Nat) (hj : j < ss.length + 2) : ∃ y : Sl, (ss.map eS ++ [[.slice none 0 0], [.slice none 0 0]])[j]? = some [.slice y.a y.len y.cap] /\ aU h y (ks.getD j []) := by
 by_cases h1 : j < ss.length
 . refine ⟨ss[j], ?_, ?_⟩
   . rw [List.getElem?_append_left (by simpa using h1)]; simp [h1, eS]
   . have h2 : j < ks.length := by rw [<- x.1]; exact h1
     rw [List.getD_eq_getElem?_getD, List.getElem?_eq_getElem h2]
     exact x.2 j _ _ (List.getElem?_eq_getElem h1) (List.getElem?_eq_getElem h2)
 . refine ⟨⟨none, 0, 0⟩, ?_, ?_⟩
   . rw [List.getElem?_append_right (by simpa using h1)]
     simp only [List.length_map]
     have : j - ss.length = 0 \/ j - ss.length = 1 := by omega
     rcases this with e | e <;> rw [e] <;> rfl
   . rw [List.getD_eq_getElem?_getD, List.getElem?_eq_none (by have := x.1; omega)]
     exact ⟨.nil _ _, by simp⟩
theorem f55_all : ∀ N, Sound Tryz.prog 55 (wM N)
 | 0 => by
  refine aI (fn := Tryz.f55) (c := aE Tryz.f55) Tryz.func55 rfl (by decide) ?_
  rintro cvs m h K ⟨sc, p, v, s, ps, q, rfl, _, _, _, _, hN, _⟩
  omega
 | N + 1 => by
  refine aI (fn := Tryz.f55) (c := aE Tryz.f55) Tryz.func55 rfl (by decide) ?_
  rintro cvs m h K ⟨sc, p, v, s, ps, q, rfl, hs, h8, hp, hq, hN, hK⟩
  refine ⟨f55_ctx N sc p v m, rfl, aD (f55_all N) (aD AU (aD IK aH)), ?_⟩
  rw [<- f55_vc N sc p v m h K]
  dsimp only [f55_nice, push_cast]
  have hlt := @qS q
  have hqr := hq
  obtain ⟨op, ta, w, co, on, gr, od, li, args⟩ := q
  have x := hq.parts
  have e0 := x.op_
  have hl := x.args_.slen
  have hlen := x.args_.len
  simp only [Query.args] at hlt
  simp only [dH] at hK
  refine ⟨λ ⟨i, ss, hx⟩ => i <= args.length /\ PH.le h hx /\ ∃ ks, Slices hx ss ks /\ (args.take i).map (dH s ps) = ks.map (λ k => (k, 0)), λ ⟨i, _, _⟩ => args.length - i, ⟨(0, [], h), ⟨by omega, .refl _, [], ⟨rfl, λ j s k h1 => by simp at h1⟩, by simp⟩, MT⟩, ?_⟩
  rintro ⟨i, ss, hx⟩ ⟨hi, hle, ks, hS, hks⟩
  have hkl : ks.length = i := by have := congrArg List.length hks; simp at this; omega
  have hsl : ss.length = i := by rw [hS.1, hkl]
  dsimp only
  refine aC (λ hlt2 => ?_) (λ hge => ?_)
  . obtain ⟨q', hq'⟩ := fP hl hlt2
    obtain ⟨b1, o1, u, ea1, r1, hru⟩ := (x.args_.mono hle).at hq'
    refine ⟨b1, o1, ea1, by omega, hlt2, u, .imm r1, sc, p, u, s, ps, q', rfl, hs.mono hle, h8, hp.mono hle, hru, ?_, λ sl h' hle' hi' => aB (λ h1 => ?_) (λ h1 => ?_)⟩
    . have := hlt (List.mem_of_getElem? hq'); omega
    . have he : (dH s ps q').2 ≠ 0 := by simpa using h1
      rw [Cf he hks hq' rfl] at hK
      exact hK.err (hle.trans hle') (if_neg he)
    . have he : (dH s ps q').2 = 0 := by simpa using h1
      refine ⟨by simp; omega, by simp; omega, (i + 1, ss ++ [sl], h'), ⟨by omega, hle.trans hle', ks ++ [(dH s ps q').1], (hS.mono hle').snoc hi', ?_⟩, by show args.length - (i + 1) < args.length - i; omega, ?_⟩
      . rw [gJ hq', hks, List.map_append]
        simp only [List.map_cons, List.map_nil]
        rw [<- he]
      . rw [List.map_append]; exact MT
  . rw [List.take_of_length_le (by omega)] at hks
    rw [zB hks] at hK
    simp only [if_true] at hK
    refine ⟨v.op, rfl, aB (λ h1 => hK.err hle (if_neg λ e => ?_)) (λ h1 => ?_)⟩
    . rw [e0] at h1; simp at h1; omega
    have h1 : (ss.length : Int) = arity op := by rw [e0] at h1; simpa using h1
    rw [if_pos (by omega)] at hK
    obtain ⟨y0, hy0, i0⟩ := hS.pick 0 (by omega)
    obtain ⟨y1, hy1, i1⟩ := hS.pick 1 (by omega)
    exact ⟨by simp; omega, by simp; omega, by omega, by simp; omega, _, hy0, y0, rfl, by omega, by simp; omega, _, hy1, y1, rfl, sc, p, v, y0, y1, s, ps, _, _, _, rfl, hs.mono hle, h8, hp.mono hle, hqr.mono hle, i0, i1, ES hks 0, ES hks 1, λ sl h' hle' hi => hK sl h' (hle.trans hle') hi⟩
theorem Ip (h : cN s = 0) : iH s := by
 have hl : zI s := Classical.byContradiction λ hn => by rw [oH hn] at h; cases h
 intro t ht
 obtain ⟨j, hj⟩ := List.mem_iff_getElem?.1 ht
 exact (hl.2 j t hj).1
theorem E6 : Sound Tryz.prog 26 sN := by
 refine aI (fn := Tryz.f26) (c := aE Tryz.f26) Tryz.func26 rfl (by decide) ?_
 rintro cvs m h K ⟨sc, p, v, s, ps, q, rfl, hs, hp, hq, hK⟩
 refine ⟨cO [(53, qA), (54, Fu), (19, Kw), (55, wM (SizeOf.sizeOf q + 1))] [] [] [] false, rfl, aD f53_sound (aD f54_sound (aD Rw (aD (f55_all _) aH))), ?_⟩
 rw [<- V5 (SizeOf.sizeOf q + 1) sc p v m h K]
 dsimp only [Mh, push_cast]
 unfold dV at hK
 refine ⟨sc, s, rfl, hs, aB (λ h1 => hK.err (.refl _) (if_neg (by simpa using h1))) (λ h1 => ?_)⟩
 have h1 : cN s = 0 := by simpa using h1
 rw [if_pos h1] at hK
 refine ⟨p, ps, rfl, hp, aB (λ h2 => hK.err (.refl _) (if_neg λ e => by rw [e] at h2; cases h2)) (λ h2 => ?_)⟩
 rw [if_pos (by rw [Bool.not_eq_false'] at h2; exact h2)] at hK
 refine ⟨v, q, rfl, hq, aB (λ h3 => hK.err (.refl _) (if_neg λ e => by rw [e] at h3; cases h3)) (λ h3 => ?_)⟩
 rw [if_pos (by rw [Bool.not_eq_false'] at h3; exact h3)] at hK
 exact ⟨sc, p, v, s, ps, q, rfl, hs, Ip h1, hp, hq, by omega, hK⟩
def aN (n : NV) : CV := .val (.agg ⟨n.enc⟩)
structure sD (h : PH) (s : oC) (ps : List Int) (q : Query) (ks : List (List Int)) (n : NV) : Prop where
 s_ : eW h s n.s
 ps_ : aU h n.params ps
 q_ : cC h q n.q
 ks_ : iT h 1 eS (λ k sl => aU h sl k) n.args ks
 len : ∀ k ∈ ks, k.length <= 12
def Query.withOf (u q : Query) : Query := match u, q with | .mk _ ta w co on gr od li _, .mk op _ _ _ _ _ _ _ args => .mk op ta w co on gr od li args
def qB : Vc.Spec := λ cvs m h K => ∃ n k u s ps q ks uq, cvs = [aN n, cI k, aQ u] /\ sD h s ps q ks n /\ cC h uq u /\ ∀ r : Bool, (r = true ↔ (ks.length : Int) = k /\ q = uq.withOf q) -> K (cB r) m h
def Cs : Vc.Spec := λ cvs m h K => ∃ n s ps q ks, cvs = [aN n] /\ sD h s ps q ks n /\ K (aQ ⟨0, 0, ⟨0, 0, cR, cR, ⟨none, 0, 0⟩⟩, ⟨none, 0, 0⟩, ⟨none, 0, 0⟩, n.q.group, n.q.order, n.q.limit, ⟨none, 0, 0⟩⟩) m h
def Ct : Vc.Spec := λ cvs m h K => ∃ n s ps q ks a, cvs = [aN n] /\ sD h s ps q ks n /\ ks[0]? = some a /\ ∀ r : Bool, (r = true ↔ ∃ op ta w co on gr od li args, q = .mk op ta w co on gr od li args /\ nF a gr od li) -> K (cB r) m h
def Gh (ks : List (List Int)) : Query -> Prop
 | .mk op ta w co on gr od li _ => ks.length = 2 /\ ta = 0 /\ w = gD /\ co = [] /\ gr = [] /\ od = [] /\ li = 0 /\ Good (sO (ks.getD 0 []) (ks.getD 1 [])) on
def Cu : Vc.Spec := λ cvs m h K => ∃ n s ps q ks, cvs = [aN n] /\ sD h s ps q ks n /\ ∀ r : Bool, (r = true ↔ Gh ks q) -> K (cB r) m h
noncomputable def Mv (n : NV) (h : PH) : Ctx :=
 zD [] [(4, { A := Nat × Nat × Nat × MH, st := λ ⟨i, wd, b, mx⟩ => cD 72 73 [(1, .at (.ptr 1 0)), (3, iv wd), (4, vv (.pointer (some ⟨b, 0, none⟩))), (16, sv n.q.group), (17, iv n.q.group.len), (18, iv i)] [(1, .cells 155 (n.enc.map .val))] mx h }),
  (11, { A := Nat × Nat × MH, st := λ ⟨i, wd, mx⟩ => cD 72 73 [(1, .at (.ptr 1 0)), (3, iv wd), (39, sv n.q.order), (40, iv n.q.order.len), (41, iv i)] [(1, .cells 155 (n.enc.map .val))] mx h })] [] [] [183] [] false
noncomputable def Mw (n : NV) (h : PH) : Ctx :=
 zD [(126, qB)] [(6, { A := Nat × Sl × Sl × Nat × Nat × MH, st := λ ⟨i, s, t, b, c, mx⟩ => cD 80 81 [(3, sv s), (4, sv t), (5, vv (.pointer (some ⟨b, 0, none⟩))), (6, vv (.pointer (some ⟨c, 0, none⟩))), (28, sv n.q.on), (29, iv n.q.on.len), (30, iv i)] [] mx h })] [] [] [183] [] false
noncomputable abbrev tP (a : QV) : Value := cZ a.table
noncomputable abbrev vF (a : QV) : Value := cZ a.where_.op
noncomputable abbrev vG (a : QV) : Int := a.where_.cmp
noncomputable abbrev hX (a : OV) : Value := cZ a.kind
noncomputable abbrev eM (a : QV) : OV := a.where_.left
noncomputable abbrev hZ (a : OV) : Value := cZ a.index
noncomputable abbrev qC (a : OV) : Int := a.value.int
noncomputable abbrev iE (a : OV) : Value := cZ (qC a)
noncomputable abbrev gL (a : OV) : Value := Value.string a.value.text
noncomputable abbrev dU (a : QV) : OV := a.where_.right
noncomputable abbrev iD (a : OV) : Value := cZ (iA a)
noncomputable abbrev w9 (a : QV) : Value := nG a.where_.args
noncomputable abbrev xD (a : QV) : Value := nG a.columns
noncomputable abbrev y7 (a : QV) : Value := nG a.group
noncomputable abbrev y8 (a : QV) : Value := nG a.order
noncomputable abbrev vB (a : QV) : Value := cZ a.limit
attribute [push_cast] tP vF vG hX eM hZ qC iE gL dU iD w9 xD y7 y8 vB
def Jc (n : NV) (k : Int) (u : QV) (m : MH) (h : PH) (K : CV -> MH -> PH -> Prop) : Prop :=
  dW (aF n.args) k (∃ (v : QV), kS (λ w p => ∃ (q : Query), aG (bX (eN n.q) (aL (cZ n.q.op) (tP u) (aL (vF u) (cZ (vG u)) (aL (hX (eM u)) (hZ (eM u)) (aL (cZ (iA (eM u))) (iE (eM u)) (aL (gL (eM u)) (hX (dU u)) (aL (hZ (dU u)) (iD (dU u)) (aL (iE (dU u)) (gL (dU u)) (aL (w9 u) (xD u) (aL (nG u.on) (y7 u) (aL (y8 u) (vB u) (cT n.q.args))))))))))) = wD v w) (cC h p v) (cC h q w) (∀ (r : Bool), dQ r (p = q) -> K (uS r) m h))) (K aR m h)
theorem TP (n : NV) (k : Int) (u : QV) (m : MH) (h : PH) (K : CV -> MH -> PH -> Prop) : Jc n k u m h K = (cG (cO [(134, Oe)] [] [] [] false) Tryz.f126 (aE Tryz.f126) (entry Tryz.f126.ntmps [aN n, cI k, aQ u] m h) K) := by kernel_rfl
def Jb (n : NV) (m : MH) (h : PH) (K : CV -> MH -> PH -> Prop) : Prop :=
  K (kK (aL aX aX (aL aX aX (aL aX aX (aL aX aX (tN DL DL j7 j7 j7 (y7 n.q) (y8 n.q) (vB n.q) eZ)))))) m h
theorem TM (n : NV) (m : MH) (h : PH) (K : CV -> MH -> PH -> Prop) : Jb n m h K = (cG (cO [] [] [] [] false) Tryz.f128 (aE Tryz.f128) (entry Tryz.f128.ntmps [aN n] m h) K) := by kernel_rfl
noncomputable abbrev fH  : Value := Value.bool false
noncomputable abbrev tO (a : QV) : At := bL a.table
noncomputable abbrev wX (a : QV) (b : Sl) (c d : At) (e : List At) : List At := pQ a.where_ (bB (gI a.columns) (gI b) (bB c d e))
abbrev xU (a : bH) (b : At) (c : Int) (d : QV) (e : At) : Prop := eQ (oQ 155 (bB (bL a.version) (gI a.tables) (bB b (bL c) (tO d :: wX d d.on (gI d.group) (gI d.order) (bB (bL d.limit) (gI d.args) (iQ e))))))
abbrev pP (a : MH) (b c : Nat) (d : List Value) (e : MH -> Prop) : Prop := xB (λ x x1 => aA (KB a b (xJ x x1 0)) (c < x.size) (∀ (x2 : MH), hO a x2 b (splice x.toList c d) x1 -> e x2))
noncomputable abbrev Ds  : Value := Value.bool true
attribute [push_cast] fH tO wX xU pP Ds
def CO (n : NV) (m : MH) (h : PH) (K : CV -> MH -> PH -> Prop) : Prop :=
  aY (λ b o => aG (bC n.args.a b o) ((0 : Int) <= 0) (0 < aF n.args) (∃ (y : Sl), bI m h b (o + 0) (cT y) /\ ∀ (b1 : Nat) (m1 : MH), gX m h b1 -> hO m m1 b1 (aL fH fH (aL fH fH (aL fH fH (aL fH fH (aL fH fH (aL fH fH [])))))) 183 -> ∃ (I : Nat × Nat × Nat × MH -> Prop) (m2 : Nat × Nat × Nat × MH -> Nat), (∃ (x : Nat × Nat × Nat × MH), aA (I x) gF (aA (wR y.len = wR x.2.1) (i7 b1 (iL x.2)) (aA (aK n.q.group) (cF n.q.group) (aA (bO x.1) (xU n.s (gI n.params) n.q.op n.q (gI n.args)) (cQ (m1 = iM x.2) h h))))) /\ ∀ (x : Nat × Nat × Nat × MH), I x -> bE (↑x.1 : Int) (aF n.q.group) (aY (λ b2 o1 => aG (bC n.q.group.a b2 o1) (0 <= (↑x.1 : Int)) ((↑x.1 : Int) < aF n.q.group) (∃ (y1 : Int), bI (iM x.2) h b2 (bZ o1 x.1 1) (bT y1) /\
 bE y1 0 (K aR (iM x.2) h) (fI y1 (↑x.2.1 : Int) (K aR (iM x.2) h) (aA (aW y1) (y1 < 12) (∃ (y2 : Bool), bI (iM x.2) h (iL x.2) (iW 0 y1 1) (oB (Value.bool y2)) /\ branch y2 (K aR (iM x.2) h) (aA (aW y1) (y1 < 12) (pP (iM x.2) (iL x.2) (iW 0 y1 1) (oB Ds) (λ m3 => ∃ (x1 : Nat × Nat × Nat × MH), aA (I x1) (m2 x1 < m2 x) (aA (eP 1) (dG x.2.1 x1.2.1) (aA (i7 (iL x.2) (iL x1.2)) (aK n.q.group) (aA (cF n.q.group) (aZ x.1 1 x1.1) (aG (xU n.s (gI n.params) n.q.op n.q (gI n.args)) (m3 = iM x1.2) (h = h) True))))))))))))) (∃ (I1 : Nat × Nat × MH -> Prop) (m3 : Nat × Nat × MH -> Nat), (∃ (x1 : Nat × Nat × MH), aA (I1 x1) gF (aA (dG x.2.1 (iL x1)) (aK n.q.order) (aA (cF n.q.order) (bO x1.1) (aA (xU n.s (gI n.params) n.q.op n.q (gI n.args))
 (iM x.2 = iM x1) (bG h h))))) /\ ∀ (x1 : Nat × Nat × MH), I1 x1 -> bE (↑x1.1 : Int) (aF n.q.order) (aY (λ b2 o1 => aG (bC n.q.order.a b2 o1) (0 <= (↑x1.1 : Int)) ((↑x1.1 : Int) < aF n.q.order) (∃ (y1 : Int × Bool), bI (iM x1) h b2 (bZ o1 x1.1 2) (pX y1) /\ bE y1.1 0 (K aR (iM x1) h) (fI y1.1 (↑(iL x1) : Int) (K aR (iM x1) h) (∃ (x2 : Nat × Nat × MH), aA (I1 x2) (m3 x2 < m3 x1) (aA (eP 1) (dG (iL x1) (iL x2)) (aA (aK n.q.order) (cF n.q.order) (aA (aZ x1.1 1 x2.1) (xU n.s (gI n.params) n.q.op n.q (gI n.args)) (cQ (iM x1 = iM x2) h h))))))))) (branch (decide (aF n.q.order <= 12)) (fI n.q.limit 0 (K (uS (decide (n.q.limit <= 100))) (iM x1) h) (K aR (iM x1) h)) (K aR (iM x1) h)))))
theorem TK (n : NV) (m : MH) (h : PH) (K : CV -> MH -> PH -> Prop) : CO n m h K = (cG (Mv n h) Tryz.f129 (aE Tryz.f129) (entry Tryz.f129.ntmps [aN n] m h) K) := by kernel_rfl
abbrev rV (a : oC -> (List Int) -> Query -> (List (List Int)) -> Prop) : Prop := Da (λ x x1 => ∃ (x2 : Query) (x3 : List (List Int)), a x x1 x2 x3)
noncomputable abbrev fX (a : NV) (b : List Value) : CV := kK (aL (cZ a.s.version) (nG a.s.tables) (aL (nG a.params) (cZ a.q.op) (aL (tP a.q) (vF a.q) (aL (cZ (vG a.q)) (hX (eM a.q)) b))))
noncomputable abbrev fY (a : NV) (b : List Value) : List Value := aL (hZ (eM a.q)) (iD (eM a.q)) (aL (iE (eM a.q)) (gL (eM a.q)) (aL (hX (dU a.q)) (hZ (dU a.q)) (aL (cZ (iA (dU a.q))) (iE (dU a.q)) b)))
noncomputable abbrev w8 (a : OV) (b : QV) (c d : Sl) : List Value := aL (gL a) (w9 b) (aL (xD b) (nG c) (aL (y7 b) (y8 b) (aL (cZ b.limit) (nG b.args) (cT d))))
noncomputable abbrev fW (a : NV) : List Value := w8 (dU a.q) a.q a.q.on a.args
noncomputable abbrev B3 (a : List (List Int)) : Int := (↑a.length : Int)
abbrev Ac (a : List (List Int)) (b : Int) (c d : Query) : Prop := B3 a = b /\ c = Query.withOf d c
noncomputable abbrev wY (a : Nat × Sl × Sl × Nat × Nat × MH) : Nat × Nat × MH := a.2.2.2
noncomputable abbrev oR (a : Nat × Sl × Sl × Nat × Nat × MH) : Nat -> Option Obj := iM (wY a)
attribute [push_cast] rV fX fY w8 fW B3 Ac wY oR
def CP (n : NV) (m : MH) (h : PH) (K : CV -> MH -> PH -> Prop) : Prop :=
  ∃ (n1 : NV) (k : Int) (u : QV), rV (λ s p q k1 => ∃ (u1 : Query), aG (fX n (fY n (fW n)) :: bX (fS 2) (aL aX aX (aL aX aX (aL aX aX (aL aX aX (tN DL DL j7 j7 (nG n.q.on) j7 j7 aX eZ))))) = fX n1 (fY n1 (fW n1)) :: bX (fS k) u.enc) (sD h s p q k1 n1) (cC h u1 u) (∀ (r : Bool), eJ (dQ r (Ac k1 k q u1)) (!r) (K aR m h) (aY (λ b o => aG (bC n.args.a b o) ((0 : Int) <= 0) (0 < aF n.args) (∃ (y : Sl), bI m h b (o + 0) (cT y) /\ aY (λ b1 o1 => aG (bC n.args.a b1 o1) ((0 : Int) <= 1) (1 < aF n.args) (∃ (y1 : Sl), bI m h b1 (o1 + 1) (cT y1) /\ ∀ (b2 : Nat) (m1 : MH), gX m h b2 -> hO m m1 b2 (aL fH fH (aL fH fH (aL fH fH (aL fH fH (aL fH fH (aL fH fH [])))))) 183 -> ∀ (b3 : Nat) (m2
 : MH), gX m1 h b3 -> hO m1 m2 b3 (aL fH fH (aL fH fH (aL fH fH (aL fH fH (aL fH fH (aL fH fH [])))))) 183 -> ∃ (I : Nat × Sl × Sl × Nat × Nat × MH -> Prop) (m3 : Nat × Sl × Sl × Nat × Nat × MH -> Nat), (∃ (x : Nat × Sl × Sl × Nat × Nat × MH), aA (I x) (bW y x.2.1) (aA (bW y1 x.2.2.1) (i7 b2 (wY x).1) (aA (i7 b3 (iL (wY x))) (aK n.q.on) (aA (cF n.q.on) (bO x.1) (cQ (m2 = oR x) h h))))) /\ ∀ (x : Nat × Sl × Sl × Nat × Nat × MH), I x -> bE (↑x.1 : Int) (aF n.q.on) (aY (λ b4 o2 => aG (bC n.q.on.a b4 o2) (0 <= (↑x.1 : Int)) ((↑x.1 : Int) < aF n.q.on) (∃ (y2 : Int × Int), aA (bI (oR x) h b4 (bZ o2 x.1 2) (rK y2)) (aW 0) (aA ((0 : Int) < 2) (aW 1) ((1 : Int) < 2 /\ bE y2.1 0 (K aR (oR x) h) (fI y2.1 (aF x.2.1) (K
 aR (oR x) h) (bE y2.2 0 (K aR (oR x) h) (fI y2.2 (aF x.2.2.1) (K aR (oR x) h) (aY (λ b5 o3 => aG (bC x.2.1.a b5 o3) (0 <= y2.1) (y2.1 < aF x.2.1) (∃ (y3 : Int), bI (oR x) h b5 (iW o3 y2.1 1) (bT y3) /\ aY (λ b6 o4 => aG (bC x.2.2.1.a b6 o4) (0 <= y2.2) (y2.2 < aF x.2.2.1) (∃ (y4 : Int), bI (oR x) h b6 (iW o4 y2.2 1) (bT y4) /\ dE y3 y4 (K aR (oR x) h) (aA (aW y2.1) (y2.1 < 12) (∃ (y5 : Bool), bI (oR x) h (wY x).1 (iW 0 y2.1 1) (oB (Value.bool y5)) /\ branch y5 (K aR (oR x) h) (aA (aW y2.2) (y2.2 < 12) (∃ (y6 : Bool), bI (oR x) h (iL (wY x)) (iW 0 y2.2 1) (oB (Value.bool y6)) /\ branch y6 (K aR (oR x) h) (aA (aW y2.1) (y2.1 < 12) (pP (oR x) (wY x).1 (iW 0 y2.1 1) (oB Ds) (λ m4 => aA (aW y2.2) (y2.2 <
 12) (pP m4 (iL (wY x)) (iW 0 y2.2 1) (oB Ds) (λ m5 => ∃ (x1 : Nat × Sl × Sl × Nat × Nat × MH), aA (I x1) (m3 x1 < m3 x) (aA (bW x.2.1 x1.2.1) (bW x.2.2.1 x1.2.2.1) (aA (i7 (wY x).1 (wY x1).1) (i7 (iL (wY x)) (iL (wY x1))) (aA (aK n.q.on) (cF n.q.on) (aG (aZ x.1 1 x1.1) (m5 = oR x1) (h = h) True)))))))))))))))))))))))))) (K gV (oR x) h))))))))
theorem TO (n : NV) (m : MH) (h : PH) (K : CV -> MH -> PH -> Prop) : CP n m h K = (cG (Mw n h) Tryz.f127 (aE Tryz.f127) (entry Tryz.f127.ntmps [aN n] m h) K) := by kernel_rfl
structure Qh (m : MH) (b : Nat) (seen : List Int) : Prop where
 ex : ∃ bs : List Bool, m b = some (.cells ⟨bs.map Value.bool⟩ 183 (0, 0)) /\ bs.length = 12 /\ ∀ k : Nat, k < 12 -> (bs[k]? = some true ↔ (k : Int) ∈ seen)
theorem Qh.zero (h : m b = some (.cells ⟨[.bool false, .bool false, .bool false, .bool false, .bool false, .bool false, .bool false, .bool false, .bool false, .bool false, .bool false, .bool false]⟩ 183 (0, 0))) : Qh m b [] :=
 ⟨⟨List.replicate 12 false, h, rfl, λ k hk => by rw [List.getElem?_replicate]; simp [hk]⟩⟩
theorem Qh.look {seen : List Int} (x : Qh m b seen) {n : Int} (h0 : 0 <= n) (h1 : n < 12) : ∃ y : Bool, bI m h b (0 + n.toNat * 1) [.bool y] /\ (y = true ↔ n ∈ seen) := by
 obtain ⟨bs, e, hl, hs⟩ := x.ex
 have hk : n.toNat < bs.length := by omega
 refine ⟨bs[n.toNat], .lent _ _ _ e ?_, ?_⟩
 . simp only [Nat.zero_add, Nat.mul_one, List.length_cons, List.length_nil]
   rw [List.drop_eq_getElem_cons (by simpa using hk)]
   simp
 . have := hs n.toNat (by omega)
   rw [List.getElem?_eq_getElem hk] at this
   rw [show ((n.toNat : Nat) : Int) = n by omega] at this
   simpa using this
theorem Qh.store {seen : List Int} (x : Qh m b seen) {n : Int} (h0 : 0 <= n) (h1 : n < 12) : ∃ (cs : Array Value) (E : TypeId), KB m b (.cells cs E (0, 0)) /\ 0 + n.toNat * 1 < cs.size /\ ∀ m', gS m m' b (.cells ⟨splice cs.toList (0 + n.toNat * 1) [.bool true]⟩ E (0, 0)) -> Qh m' b (seen ++ [n]) := by
 obtain ⟨bs, e, hl, hs⟩ := x.ex
 have hk : n.toNat < bs.length := by omega
 refine ⟨_, _, ⟨e⟩, by simpa using hk, λ m' hu => ⟨bs.set n.toNat true, ?_, by simpa using hl, λ k hk' => ?_⟩⟩
 . rw [hu.at_]
   congr 3
   simp only [splice, Nat.zero_add, Nat.mul_one, List.length_cons, List.length_nil]
   rw [List.set_eq_take_append_cons_drop, if_pos hk]
   simp [List.map_take, List.map_drop]
 . rw [List.getElem?_set, List.mem_append, List.mem_singleton]
   by_cases e' : n.toNat = k
   . subst e'
     rw [if_pos rfl, if_pos hk]
     exact ⟨λ _ => .inr (by omega), λ _ => rfl⟩
   . rw [if_neg e', hs k hk']
     exact ⟨.inl, λ h => h.elim id λ e => by omega⟩
theorem Qh.other {b' : Nat} {seen : List Int} (x : Qh m b seen) (hne : b ≠ b') (ho : ∀ c, c ≠ b' -> m' c = m c) : Qh m' b seen := by
 obtain ⟨bs, e, hl, hs⟩ := x.ex
 exact ⟨bs, by rw [ho b hne, e], hl, hs⟩
theorem sD.arg {n : NV} (x : sD h s ps q ks n) {j : Nat} {k : List Int} (hk : ks[j]? = some k) : ∃ b o sl, n.args.a = some ⟨b, o, none⟩ /\ cL h b (o + j * 1) [.slice sl.a sl.len sl.cap] /\ aU h sl k /\ k.length <= 12 /\ j < n.args.len := by
 obtain ⟨b, o, sl, e, r, hi⟩ := x.ks_.at hk
 have := (List.getElem?_eq_some_iff.1 hk).1
 exact ⟨b, o, sl, e, r, hi, x.len k (List.mem_of_getElem? hk), by rw [x.ks_.slen]; exact this⟩
theorem TN {n : NV} (hK : K (aQ ⟨0, 0, ⟨0, 0, cR, cR, ⟨none, 0, 0⟩⟩, ⟨none, 0, 0⟩, ⟨none, 0, 0⟩, n.q.group, n.q.order, n.q.limit, ⟨none, 0, 0⟩⟩) m h) : Jb n m h K := hK
theorem sB : Sound Tryz.prog 126 qB := by
 refine aI (fn := Tryz.f126) (c := aE Tryz.f126) Tryz.func126 rfl (by decide) ?_
 rintro cvs m h K ⟨n, k, u, s, ps, q, ks, uq, rfl, hn, hu, hK⟩
 refine ⟨cO [(134, Oe)] [] [] [] false, rfl, aD Ny aH, ?_⟩
 rw [<- TP n k u m h K]
 dsimp only [Jc, push_cast]
 have hl := hn.ks_.slen
 have hq := hn.q_
 have hq2 := hn.q_
 obtain ⟨op, ta, w, co, on, gr, od, li, args⟩ := q
 obtain ⟨op', ta', w', co', on', gr', od', li', args'⟩ := uq
 have x := hu.parts
 have y := hq.parts
 refine aB (λ h1 => ⟨n.q, ⟨n.q.op, u.table, u.where_, u.columns, u.on, u.group, u.order, u.limit, n.q.args⟩, _, .mk op ta' w' co' on' gr' od' li' args, rfl, hq2, iU.rep ⟨y.op_, x.table_, x.where_, x.columns_, x.on_, x.group_, x.order_, x.limit_, y.args_⟩, λ r hr => hK r (hr.trans ⟨λ e => ⟨?_, e⟩, λ e => e.2⟩)⟩) (λ h1 => hK false ⟨λ e => (by cases e), λ e => ?_⟩)
 . have : (n.args.len : Int) = k := by simpa using h1
   omega
 . have : (n.args.len : Int) ≠ k := by simpa using h1
   have := e.1
   omega
theorem HF : Sound Tryz.prog 128 Cs := by
 refine aI (fn := Tryz.f128) (c := aE Tryz.f128) Tryz.func128 rfl (by decide) ?_
 rintro cvs m h K ⟨n, s, ps, q, ks, rfl, hn, hK⟩
 refine ⟨cO [] [] [] [] false, rfl, aH, ?_⟩
 rw [<- TM n m h K]
 exact TN hK
theorem TL {n : NV} {op : Int} {on : List (Int × Int)} {args : List Query} (hn : sD h s ps (.mk op ta w co on gr od li args) ks n) (ha : ks[0]? = some a) (hK : ∀ r : Bool, (r = true ↔ nF a gr od li) -> K (cB r) m h) : CO n m h (lZ h K) := by
 dsimp only [CO, push_cast]
 have x := hn.q_.parts
 have gl := x.group_.slen
 have glen := x.group_.len
 have ol := x.order_.slen
 have olen := x.order_.len
 have el := x.limit_
 obtain ⟨b0, o0, sl, e0, r0, hi0, hl12, hlen⟩ := hn.arg ha
 have sla := hi0.slen
 have bad : ∀ mx, Sub m mx -> ¬ nF a gr od li -> lZ h K (.val (.bool false)) mx h := λ mx hm hn => .sub hm (hK false ⟨λ e => (by cases e), λ e => (hn e).elim⟩)
 refine ⟨b0, o0, e0, by omega, by omega, sl, .imm (by simpa using r0), λ b m1 hb hm1 => ?_⟩
 refine ⟨λ ⟨i, wd, b', mx⟩ => wd = a.length /\ b' = b /\ i <= gr.length /\ Sub m mx /\ Qh mx b (gr.take i) /\ eG (Fv a) gr i, λ ⟨i, _, _, _⟩ => gr.length - i, ⟨(0, sl.len, b, m1), ⟨sla, rfl, by omega, (Sub.refl m).upd hb.m_ hm1.other, .zero hm1.at_, .zero⟩, MT⟩, ?_⟩
 rintro ⟨i, wd, b, mx⟩ ⟨rfl, rfl, hi, hsub, harr, hg⟩
 dsimp only
 refine aC (λ hlt => ?_) (λ hge => ?_)
 . obtain ⟨c, hc⟩ := fP gl hlt
   obtain ⟨b1, o1, e1, r1⟩ := x.group_.at' hc
   have gbad : ¬ Fv a (gr.take i) c -> lZ h K (.val (.bool false)) mx h := λ hn => bad mx hsub λ hh => Good.not hc hn hh.group_
   refine ⟨b1, o1, e1, by omega, hlt, c, .imm r1, aC (λ h1 => gbad λ hh => ?_) (λ h1 => aC (λ h2 => gbad λ hh => ?_) (λ h2 => ?_))⟩
   . have := eE.1 hh.1; omega
   . have := eE.1 hh.1; omega
   obtain ⟨y, hy, hys⟩ := harr.look (h := h) (n := c) (by omega) (by omega)
   refine ⟨by omega, by omega, y, hy, aB (λ h3 => gbad λ hh => hh.2 (hys.1 h3)) (λ h3 => ?_)⟩
   obtain ⟨cs, E, hat, hsz, hst⟩ := harr.store (n := c) (by omega) (by omega)
   refine ⟨by omega, by omega, cs, E, hat, hsz, λ m2 hm2 => ⟨(i + 1, a.length, b, m2), ⟨rfl, rfl, by omega, hsub.upd hb.m_ hm2.other, ?_, hg.succ hc ⟨eE.2 ⟨by omega, by omega⟩, λ e => ?_⟩⟩, by show gr.length - (i + 1) < gr.length - i; omega, MT⟩⟩
   . have := hst m2 hm2
     rwa [List.take_add_one, hc]
   . rw [hys.2 e] at h3; cases h3
 have gg := hg.all (by omega)
 refine ⟨λ ⟨i, wd, mx⟩ => wd = a.length /\ i <= od.length /\ Sub m mx /\ eG (DG a) od i, λ ⟨i, _, _⟩ => od.length - i, ⟨(0, a.length, mx), ⟨rfl, by omega, hsub, .zero⟩, MT⟩, ?_⟩
 clear hi hg hge hsub harr mx
 rintro ⟨i, wd, mx⟩ ⟨rfl, hi, hsub, hoi⟩
 dsimp only
 refine aC (λ hlt => ?_) (λ hge => ?_)
 . obtain ⟨c, hc⟩ := fP ol hlt
   obtain ⟨b1, o1, e1, r1⟩ := x.order_.at hc
   have obad : ¬ DG a (od.take i) c -> lZ h K (.val (.bool false)) mx h := λ hn => bad mx hsub λ hh => Good.not hc hn hh.order_
   refine ⟨b1, o1, e1, by omega, hlt, c, .imm r1, aC (λ h1 => obad λ hh => ?_) (λ h1 => aC (λ h2 => obad λ hh => ?_) (λ h2 => ⟨(i + 1, a.length, mx), ⟨rfl, by omega, hsub, hoi.succ hc (eE.2 ⟨by omega, by omega⟩)⟩, by show od.length - (i + 1) < od.length - i; omega, MT⟩))⟩
   . have := eE.1 (show Df a c.1 = true from hh); omega
   . have := eE.1 (show Df a c.1 = true from hh); omega
 have oo := hoi.all (by omega)
 rw [el]
 refine aC (λ h1 => aC (λ h2 => ?_) (λ h2 => bad mx hsub λ hh => ?_)) (λ h1 => bad mx hsub λ hh => ?_)
 . exact .sub hsub (hK (decide (li <= 100)) ⟨λ e => ⟨gg, oo, by omega, h2, by simpa using e⟩, λ e => decide_eq_true e.high⟩)
 . have := hh.low; omega
 . have := hh.len_; omega
theorem HE : Sound Tryz.prog 129 Ct := by
 refine gC (fn := Tryz.f129) (c := aE Tryz.f129) Tryz.func129 rfl (by decide) ?_
 rintro cvs m h K ⟨n, s, ps, q, ks, a, rfl, hn, ha, hK⟩
 refine ⟨Mv n h, rfl, aH, ?_⟩
 rw [<- TK n m h _]
 dsimp only [CO, push_cast]
 obtain ⟨op, ta, w, co, on, gr, od, li, args⟩ := q
 refine TL hn ha (λ r hr => hK r (hr.trans ⟨λ e => ⟨_, _, _, _, _, _, _, _, _, rfl, e⟩, ?_⟩))
 rintro ⟨_, _, _, _, _, _, _, _, _, e, hr⟩
 cases e
 exact hr
theorem M4 {on : List (Int × Int)} {sl : Sl} (hon : gM h sl on) : cC h (.mk 0 0 gD [] on [] [] 0 []) ⟨0, 0, ⟨0, 0, cR, cR, ⟨none, 0, 0⟩⟩, ⟨none, 0, 0⟩, sl, ⟨none, 0, 0⟩, ⟨none, 0, 0⟩, 0, ⟨none, 0, 0⟩⟩ :=
 iU.rep ⟨rfl, rfl, A8 h, ⟨.nil _ _, by simp⟩, hon, ⟨.nil _ _, by simp⟩, ⟨.nil _ _, by simp⟩, rfl, .nil _ _ _ _⟩
theorem HG : Sound Tryz.prog 127 Cu := by
 refine gC (fn := Tryz.f127) (c := aE Tryz.f127) Tryz.func127 rfl (by decide) ?_
 rintro cvs m h K ⟨n, s, ps, q, ks, rfl, hn, hK⟩
 refine ⟨Mw n h, rfl, aD sB aH, ?_⟩
 rw [<- TO n m h _]
 dsimp only [CP, push_cast]
 obtain ⟨op, ta, w, co, on, gr, od, li, args⟩ := q
 show CP n m h (lZ h K)
 dsimp only [CP, push_cast]
 have x := hn.q_.parts
 have ol := x.on_.slen
 have olen := x.on_.len
 have bad : ∀ mx, Sub m mx -> ¬ Gh ks (.mk op ta w co on gr od li args) -> lZ h K (.val (.bool false)) mx h := λ mx hm hn => .sub hm (hK false ⟨λ e => (by cases e), λ e => (hn e).elim⟩)
 refine ⟨n, 2, ⟨0, 0, ⟨0, 0, cR, cR, ⟨none, 0, 0⟩⟩, ⟨none, 0, 0⟩, n.q.on, ⟨none, 0, 0⟩, ⟨none, 0, 0⟩, 0, ⟨none, 0, 0⟩⟩, s, ps, _, ks, .mk 0 0 gD [] on [] [] 0 [], rfl, hn, M4 x.on_, λ r hr => aB (λ h1 => bad m (Sub.refl m) λ hh => ?_) (λ h1 => ?_)⟩
 . have : r = true := hr.2 ⟨by have := hh.1; omega, by obtain ⟨_, rfl, rfl, rfl, rfl, rfl, rfl, _⟩ := hh; rfl⟩
   rw [this] at h1; cases h1
 obtain ⟨hk2, heq⟩ := hr.1 (by simpa using h1)
 simp only [Query.withOf, Query.mk.injEq] at heq
 obtain ⟨_, rfl, rfl, rfl, _, rfl, rfl, rfl, _⟩ := heq
 obtain ⟨a0, a1, rfl⟩ : ∃ a0 a1, ks = [a0, a1] := by
  match ks, hk2 with
  | [a0, a1], _ => exact ⟨a0, a1, rfl⟩
  | [], h => simp at h
  | [_], h => simp at h
  | _ :: _ :: _ :: _, h => simp at h; omega
 obtain ⟨b0, o0, s0, e0, r0, i0, l0, j0⟩ := hn.arg (j := 0) rfl
 obtain ⟨b1, o1, s1, e1, r1, i1, l1, j1⟩ := hn.arg (j := 1) rfl
 have sl0 := i0.slen
 have sl1 := i1.slen
 have bad : ∀ mx, Sub m mx -> ¬ Good (sO a0 a1) on -> lZ h K (.val (.bool false)) mx h := λ mx hm hn => bad mx hm λ hh => hn hh.2.2.2.2.2.2.2
 refine ⟨b0, o0, e0, by omega, by omega, s0, .imm (by simpa using r0), b1, o1, e1, by omega, by omega, s1, .imm (by simpa using r1), λ b m1 hb hm1 c m2 hc hm2 => ?_⟩
 have hne : b ≠ c := λ e => by have := hc.m_; rw [<- e, hm1.at_] at this; cases this
 have hs1 : Sub m m1 := (Sub.refl m).upd hb.m_ hm1.other
 have hcm : m c = none := hs1.free hc.m_
 refine ⟨λ ⟨i, s', t', b', c', mx⟩ => s' = s0 /\ t' = s1 /\ b' = b /\ c' = c /\ i <= on.length /\ Sub m mx /\ Qh mx b ((on.take i).map Prod.fst) /\ Qh mx c ((on.take i).map Prod.snd) /\ eG (sO a0 a1) on i, λ ⟨i, _, _, _, _, _⟩ => on.length - i,
  ⟨(0, s0, s1, b, c, m2), ⟨rfl, rfl, rfl, rfl, by omega, hs1.upd hcm hm2.other, (Qh.zero hm1.at_).other hne hm2.other, .zero hm2.at_, .zero⟩, MT⟩, ?_⟩
 rintro ⟨i, s0, s1, b, c, mx⟩ ⟨rfl, rfl, rfl, rfl, hi, hsub, hA, hB, hg⟩
 dsimp only
 refine aC (λ hlt => ?_) (λ hge => .sub hsub (hK true ⟨λ _ => ⟨rfl, rfl, rfl, rfl, rfl, rfl, rfl, hg.all (by omega)⟩, λ _ => rfl⟩))
 obtain ⟨p, hp⟩ := fP ol hlt
 obtain ⟨bp, op', ep, rp⟩ := x.on_.at hp
 have pbad : ¬ sO a0 a1 (on.take i) p -> lZ h K (.val (.bool false)) mx h := λ hn => bad mx hsub (Good.not hp hn)
 refine ⟨bp, op', ep, by omega, hlt, p, .imm rp, by omega, by omega, by omega, by omega, aC (λ d1 => pbad λ hh => ?_) (λ d1 => aC (λ d2 => pbad λ hh => ?_) (λ d2 => aC (λ d3 => pbad λ hh => ?_) (λ d3 => aC (λ d4 => pbad λ hh => ?_) (λ d4 => ?_))))⟩
 . have := eE.1 hh.1; omega
 . have := eE.1 hh.1; omega
 . have := eE.1 hh.2.1; omega
 . have := eE.1 hh.2.1; omega
 obtain ⟨b2, o2, e2, r2⟩ := i0.inb (n := p.1) (by omega) (by omega)
 obtain ⟨b3, o3, e3, r3⟩ := i1.inb (n := p.2) (by omega) (by omega)
 obtain ⟨y, hy, hys⟩ := hA.look (h := h) (n := p.1) (by omega) (by omega)
 obtain ⟨z, hz, hzs⟩ := hB.look (h := h) (n := p.2) (by omega) (by omega)
 obtain ⟨cs, E, hat, hsz, hst⟩ := hA.store (n := p.1) (by omega) (by omega)
 refine ⟨b2, o2, e2, by omega, by omega, _, .imm r2, b3, o3, e3, by omega, by omega, _, .imm r3, aB (λ d5 => pbad λ hh => ?_) (λ d5 => ⟨by omega, by omega, y, hy, aB (λ d6 => pbad λ hh => ?_) (λ d6 => ⟨by omega, by omega, z, hz, aB (λ d7 => pbad λ hh => ?_) (λ d7 => ⟨by omega, by omega, cs, E, hat, hsz, λ m3 hm3 => ?_⟩)⟩)⟩)⟩
 . rw [hh.2.2.1] at d5; simp at d5
 . obtain ⟨q, hq, e⟩ := List.mem_map.1 (hys.1 d6)
   exact (hh.2.2.2 q hq).1 e
 . obtain ⟨q, hq, e⟩ := List.mem_map.1 (hzs.1 d7)
   exact (hh.2.2.2 q hq).2 e
 have hA3 := hst m3 hm3
 have hB3 := hB.other hne.symm hm3.other
 obtain ⟨cs2, E2, hat2, hsz2, hst2⟩ := hB3.store (n := p.2) (by omega) (by omega)
 refine ⟨by omega, by omega, cs2, E2, hat2, hsz2, λ m4 hm4 => ⟨(i + 1, s0, s1, b, c, m4), ⟨rfl, rfl, rfl, rfl, by omega, (hsub.upd hb.m_ hm3.other).upd hcm hm4.other, ?_, ?_, hg.succ hp ⟨eE.2 ⟨by omega, by omega⟩, eE.2 ⟨by omega, by omega⟩, by simpa using d5, λ q hq => ⟨λ e => ?_, λ e => ?_⟩⟩⟩, by show on.length - (i + 1) < on.length - i; omega, MT⟩⟩
 . rw [gJ hp]; exact hA3.other hne hm4.other
 . rw [gJ hp]; exact hst2 m4 hm4
 . rw [hys.2 (List.mem_map.2 ⟨q, hq, e⟩)] at d6; cases d6
 . rw [hzs.2 (List.mem_map.2 ⟨q, hq, e⟩)] at d7; cases d7
def fin (r : List Int × Int) : List Int × Int := if r.2 = 0 then lH r.1 else eX r.2
def Query.op : Query -> Int
 | .mk op .. => op
noncomputable def xN (s : oC) (ps : List Int) (q : Query) (ks : List (List Int)) : List Int × Int := if (ks.length : Int) = arity q.op then fF s ps q (ks.getD 0 []) (ks.getD 1 []) else eX 100
def xP (P : Int -> Prop) : Vc.Spec := λ cvs m h K => ∃ n s ps q ks, cvs = [aN n] /\ sD h s ps q ks n /\ iH s /\ P q.op /\ ∀ r, fin r = xN s ps q ks -> KR K m h r
def Wp (h : PH) (ss : Sl) (ks : List (List Int)) : Prop := iT h 1 eS (λ k sl => aU h sl k) ss ks
def C2 : Vc.Spec := λ cvs m h K => ∃ ss ks, cvs = [cS ss] /\ Wp h ss ks /\ ks.length <= 10 /\ (∀ k ∈ ks, k.length <= 12) /\ ∀ sl h', PH.le h h' -> aU h' sl ks.flatten -> K (cS sl) m h'
noncomputable def Mx (n : NV) (m : MH) (h : PH) : Ctx :=
 cO [(126, qB)] [(5, { A := Nat × List Int, st := λ ⟨i, l⟩ => cD 57 58 [(1, .at (.ptr 1 0)), (4, .at (.lst 25)), (28, sv n.q.columns), (29, iv n.q.columns.len), (30, iv i)] [(1, .cells 155 (n.enc.map .val)), (25, .lst 3 1 (l.map eI))] m h })] [] [] false
noncomputable abbrev qJ (a b c : Value) (d : List Value) : List Value := aL a b (aL aX aX (aL aX aX (aL aX aX (tN DL DL j7 c j7 j7 j7 aX d))))
attribute [push_cast] qJ
def CX (n : NV) (m : MH) (h : PH) (K : CV -> MH -> PH -> Prop) : Prop :=
  ∃ (n1 : NV) (k : Int) (u : QV), rV (λ s p q k1 => ∃ (u1 : Query), aG (fX n (fY n (fW n)) :: bX (fS 0) (qJ aX (tP n.q) j7 eZ) = fX n1 (fY n1 (fW n1)) :: bX (fS k) u.enc) (sD h s p q k1 n1) (cC h u1 u) (∀ (r : Bool), eJ (dQ r (Ac k1 k q u1)) (!r) (bM K 100 m h) (bE n.q.table 0 (bM K 100 m h) (fI n.q.table (iR n.s) (bM K 100 m h) (mX (λ v s1 => ∃ (t : Int), aG (cV (bK n.s) n.q.table = cV (bK v) t) (eW h s1 v) (iH s1) (fM h (j5 s1 t) (λ s2 h1 => gE K s2 m h1))))))))
theorem Ua (n : NV) (m : MH) (h : PH) (K : CV -> MH -> PH -> Prop) : CX n m h K = (cG (cO [(126, qB), (62, uO)] [] [] [] false) Tryz.f112 (aE Tryz.f112) (entry Tryz.f112.ntmps [aN n] m h) K) := by kernel_rfl
def CW (n : NV) (m : MH) (h : PH) (K : CV -> MH -> PH -> Prop) : Prop :=
  ∃ (n1 : NV) (k : Int) (u : QV), rV (λ s p q k1 => ∃ (u1 : Query), aG (fX n (fY n (fW n)) :: bX (fS 1) (aL aX aX (aL (vF n.q) (cZ (vG n.q)) (aL (hX (eM n.q)) (hZ (eM n.q)) (aL (cZ (iA (eM n.q))) (iE (eM n.q)) (aL (gL (eM n.q)) (hX (dU n.q)) (aL (hZ (dU n.q)) (iD (dU n.q)) (aL (iE (dU n.q)) (gL (dU n.q)) (aL (w9 n.q) j7 (aL j7 j7 (aL j7 aX eZ)))))))))) = fX n1 (fY n1 (fW n1)) :: bX (fS k) u.enc) (sD h s p q k1 n1) (cC h u1 u) (∀ (r : Bool), eJ (dQ r (Ac k1 k q u1)) (!r) (bM K 100 m h) (aY (λ b o => aG (bC n.args.a b o) ((0 : Int) <= 0) (0 < aF n.args) (∃ (y : Sl), bI m h b (o + 0) (cT y) /\ gW (λ s1 t => ∃ (v : PV), vE (λ c p1 => ∃ (p2 : Pred), aA (dO y :: bX (dO n.params)
 n.q.where_.enc = dO s1 :: bX (dO t) v.enc) (aU h s1 c) (aA (aU h t p1) (cX h p2 v) (dE (fE c p1 p2) 0 (bM K (fE c p1 p2) m h) (aY (λ b1 o1 => aG (bC n.args.a b1 o1) ((0 : Int) <= 0) (0 < aF n.args) (∃ (y1 : Sl), bI m h b1 (o1 + 0) (cT y1) /\ gE K y1 m h))))))))))))
theorem T8 (n : NV) (m : MH) (h : PH) (K : CV -> MH -> PH -> Prop) : CW n m h K = (cG (cO [(126, qB), (63, lW)] [] [] [] false) Tryz.f113 (aE Tryz.f113) (entry Tryz.f113.ntmps [aN n] m h) K) := by kernel_rfl
abbrev J3 (a : (Nat × List Int -> Prop) -> (Nat × List Int -> Nat) -> Prop) : Prop := ∃ (x : Nat × List Int -> Prop) (x1 : Nat × List Int -> Nat), a x x1
abbrev JZ (a b : (Nat × List Int) -> Prop) : Prop := (∃ (x : Nat × List Int), a x) /\ ∀ (x : Nat × List Int), b x
attribute [push_cast] J3 JZ
def CU (n : NV) (m : MH) (h : PH) (K : CV -> MH -> PH -> Prop) : Prop :=
  ∃ (n1 : NV) (k : Int) (u : QV), rV (λ s p q k1 => ∃ (u1 : Query), aG (fX n (fY n (fW n)) :: bX (fS 1) (qJ aX aX (xD n.q) eZ) = fX n1 (fY n1 (fW n1)) :: bX (fS k) u.enc) (sD h s p q k1 n1) (cC h u1 u) (∀ (r : Bool), dQ r (Ac k1 k q u1) -> dT (!r) (bM K 100 m h) (aF n.q.columns == 0) (bM K 100 m h) (aA (aW 0) (aW (aF n.q.columns)) (aA (kT (aF n.q.columns * 8)) (kT (aF n.q.columns)) (J3 (λ I m1 => JZ (λ x => aA (I x) gF (aA (eL 25) (aK n.q.columns) (aA (cF n.q.columns) (bO x.1) (aA (xU n.s (gI n.params) n.q.op n.q (gI n.args)) (yW 3 1 x.2) (cQ (m = m) h h))))) (λ x => I x -> bE (↑x.1 : Int) (aF n.q.columns) (aY (λ b o => aG (bC n.q.columns.a b o) (0 <= (↑x.1 : Int)) ((↑x.1 : Int) < aF n.q.columns) (∃ (y :
 Int), bI m h b (bZ o x.1 1) (bT y) /\ bE y 0 (bM K 100 m h) (aY (λ b1 o1 => aG (bC n.args.a b1 o1) ((0 : Int) <= 0) (0 < aF n.args) (∃ (y1 : Sl), bI m h b1 (o1 + 0) (cT y1) /\ fI y (aF y1) (bM K 100 m h) (aY (λ b2 o2 => aG (bC n.args.a b2 o2) ((0 : Int) <= 0) (0 < aF n.args) (∃ (y2 : Sl), bI m h b2 (o2 + 0) (cT y2) /\ aY (λ b3 o3 => aG (bC y2.a b3 o3) (0 <= y) (y < aF y2) (∃ (y3 : Int), aG (bI m h b3 (iW o3 y 1) (bT y3)) (fR (iV (bY x.2) 1 * 8)) (kR (bY x.2)) (∃ (x1 : Nat × List Int), aA (I x1) (m1 x1 < m1 x) (aA (eP 1) (eL 25) (aA (aK n.q.columns) (cF n.q.columns) (aA (aZ x.1 1 x1.1) (xU n.s (gI n.params) n.q.op n.q (gI n.args)) (aG (uB x.2 y3 x1.2) (m = m) (h = h) True)))))))))))))))) (bQ h 1 (bY x.2) (λ s1 h1 => gE K s1 m h1)))))))))
theorem T6 (n : NV) (m : MH) (h : PH) (K : CV -> MH -> PH -> Prop) : CU n m h K = (cG (Mx n m h) Tryz.f114 (aE Tryz.f114) (entry Tryz.f114.ntmps [aN n] m h) K) := by kernel_rfl
def CT (n : NV) (m : MH) (h : PH) (K : CV -> MH -> PH -> Prop) : Prop :=
  ∃ (n1 : NV), rV (λ s p q k => aA (cK (fX n (fY n (fW n))) (fX n1 (fY n1 (fW n1)))) (sD h s p q k n1) (∀ (r : Bool), eJ (dQ r (Gh k q)) (!r) (bM K 100 m h) (aY (λ b o => aG (bC n.args.a b o) ((0 : Int) <= 0) (0 < aF n.args) (∃ (y : Sl), bI m h b (o + 0) (cT y) /\ aY (λ b1 o1 => aG (bC n.args.a b1 o1) ((0 : Int) <= 1) (1 < aF n.args) (∃ (y1 : Sl), aG (bI m h b1 (o1 + 1) (cT y1)) (cL h b (o + 0) (cT y)) (cL h b1 (o1 + 1) (cT y1)) (bQ h 1 (mI (cT y) (cT y1)) (λ s1 h1 => ∃ (s2 : Sl) (k1 : List (List Int)), aA (D2 (dO s1) = D2 (dO s2)) (Wp h1 s2 k1) (aA (k1.length <= 10) (∀ (k2 : List Int), List.Mem k2 k1 -> xC k2 12) (fM h1 k1.flatten (λ s3 h2 => gE K s3 m h2))))))))))))
theorem T4 (n : NV) (m : MH) (h : PH) (K : CV -> MH -> PH -> Prop) : CT n m h K = (cG (cO [(127, Cu), (101, C2)] [] [] [] false) Tryz.f115 (aE Tryz.f115) (entry Tryz.f115.ntmps [aN n] m h) K) := by kernel_rfl
def CS (n : NV) (m : MH) (h : PH) (K : CV -> MH -> PH -> Prop) : Prop :=
  ∃ (n1 : NV), rV (λ s p q k => aA (cK (fX n (fY n (fW n))) (fX n1 (fY n1 (fW n1)))) (sD h s p q k n1) (∀ (r : Bool), eJ (dQ r (Gh k q)) (!r) (bM K 100 m h) (aY (λ b o => aG (bC n.args.a b o) ((0 : Int) <= 0) (0 < aF n.args) (∃ (y : Sl), bI m h b (o + 0) (cT y) /\ gE K y m h)))))
theorem T2 (n : NV) (m : MH) (h : PH) (K : CV -> MH -> PH -> Prop) : CS n m h K = (cG (cO [(127, Cu)] [] [] [] false) Tryz.f116 (aE Tryz.f116) (entry Tryz.f116.ntmps [aN n] m h) K) := by kernel_rfl
def Fc (n : NV) (m : MH) (h : PH) (K : CV -> MH -> PH -> Prop) : Prop :=
  ∃ (n1 : NV) (k : Int) (u : QV), rV (λ s p q k1 => ∃ (u1 : Query), aG (fX n (fY n (fW n)) :: bX (fS 2) zV = fX n1 (fY n1 (fW n1)) :: bX (fS k) u.enc) (sD h s p q k1 n1) (cC h u1 u) (∀ (r : Bool), eJ (dQ r (Ac k1 k q u1)) (!r) (bM K 100 m h) (aY (λ b o => aG (bC n.args.a b o) ((0 : Int) <= 0) (0 < aF n.args) (∃ (y : Sl), bI m h b (o + 0) (cT y) /\ aY (λ b1 o1 => aG (bC n.args.a b1 o1) ((0 : Int) <= 1) (1 < aF n.args) (∃ (y1 : Sl), bI m h b1 (o1 + 1) (cT y1) /\ rC y y1 h (λ a b2 r1 => eJ (dQ r1 (a = b2)) (!r1) (bM K 100 m h) (aY (λ b3 o2 => aG (bC n.args.a b3 o2) ((0 : Int) <= 0) (0 < aF n.args) (∃ (y2 : Sl), bI m h b3 (o2 + 0) (cT y2) /\ gE K y2 m h)))))))))))
theorem T0 (n : NV) (m : MH) (h : PH) (K : CV -> MH -> PH -> Prop) : Fc n m h K = (cG (cO [(126, qB), (99, rB)] [] [] [] false) Tryz.f117 (aE Tryz.f117) (entry Tryz.f117.ntmps [aN n] m h) K) := by kernel_rfl
def CR (n : NV) (m : MH) (h : PH) (K : CV -> MH -> PH -> Prop) : Prop :=
  ∃ (n1 : NV), rV (λ s p q k => aA (cK (fX n (fY n (fW n))) (fX n1 (fY n1 (fW n1)))) (sD h s p q k n1) (∃ (n2 : NV) (k1 : Int) (u : QV), rV (λ s1 p1 q1 k2 => ∃ (u1 : Query), aG (fX n (fY n (fW n)) :: bX (fS 1) (aL aX aX (aL aX aX (aL aX aX (aL aX aX (tN DL DL j7 j7 j7 (y7 n1.q) (y8 n1.q) (vB n1.q) eZ))))) = fX n2 (fY n2 (fW n2)) :: bX (fS k1) u.enc) (sD h s1 p1 q1 k2 n2) (cC h u1 u) (∀ (r : Bool), eJ (dQ r (Ac k2 k1 q1 u1)) (!r) (bM K 100 m h) (∃ (n3 : NV), rV (λ s2 p2 q2 k3 => ∃ (a : List Int), aG (cK (fX n (fY n (fW n))) (fX n3 (fY n3 (fW n3)))) (sD h s2 p2 q2 k3 n3) (k3[0]? = Option.some a) (∀ (r1 : Bool), eJ (dQ r1 (∃ (o t : Int) (w : Pred) (c : List Int) (o1 : List (Int × Int)) (g :
 List Int) (o2 : List (Int × Bool)) (l : Int) (a1 : List Query), q2 = Query.mk o t w c o1 g o2 l a1 /\ nF a g o2 l)) (!r1) (bM K 100 m h) (aY (λ b o => aG (bC n.args.a b o) ((0 : Int) <= 0) (0 < aF n.args) (∃ (y : Sl), bI m h b (o + 0) (cT y) /\ gE K y m h))))))))))
theorem TY (n : NV) (m : MH) (h : PH) (K : CV -> MH -> PH -> Prop) : CR n m h K = (cG (cO [(126, qB), (128, Cs), (129, Ct)] [] [] [] false) Tryz.f118 (aE Tryz.f118) (entry Tryz.f118.ntmps [aN n] m h) K) := by kernel_rfl
def CQ (n : NV) (m : MH) (h : PH) (K : CV -> MH -> PH -> Prop) : Prop :=
  ∃ (n1 : NV), rV (λ s p q k => aA (cK (fX n (fY n (fW n))) (fX n1 (fY n1 (fW n1)))) (sD h s p q k n1) (∃ (n2 : NV) (k1 : Int) (u : QV), rV (λ s1 p1 q1 k2 => ∃ (u1 : Query), aG (fX n (fY n (fW n)) :: bX (fS 2) (aL aX aX (aL aX aX (aL aX aX (aL aX aX (tN DL DL j7 j7 j7 (y7 n1.q) (y8 n1.q) (vB n1.q) eZ))))) = fX n2 (fY n2 (fW n2)) :: bX (fS k1) u.enc) (sD h s1 p1 q1 k2 n2) (cC h u1 u) (∀ (r : Bool), eJ (dQ r (Ac k2 k1 q1 u1)) (!r) (bM K 100 m h) (aY (λ b o => aG (bC n.args.a b o) ((0 : Int) <= 0) (0 < aF n.args) (∃ (y : Sl), bI m h b (o + 0) (cT y) /\ aY (λ b1 o1 => aG (bC n.args.a b1 o1) ((0 : Int) <= 1) (1 < aF n.args) (∃ (y1 : Sl), bI m h b1 (o1 + 1) (cT y1) /\ rC y y1 h (λ a b2 r1 =>
 eJ (dQ r1 (a = b2)) (!r1) (aA (cL h b (o + 0) (cT y)) (cL h b1 (o1 + 1) (cT y1)) (bM K 100 m h)) (aA (cL h b (o + 0) (cT y)) (cL h b1 (o1 + 1) (cT y1)) (∃ (n3 : NV), rV (λ s2 p2 q2 k3 => ∃ (a1 : List Int), aG (cK (fX n (fY n (fW n))) (fX n3 (fY n3 (fW n3)))) (sD h s2 p2 q2 k3 n3) (k3[0]? = Option.some a1) (∀ (r2 : Bool), eJ (dQ r2 (∃ (o2 t : Int) (w : Pred) (c : List Int) (o3 : List (Int × Int)) (g : List Int) (o4 : List (Int × Bool)) (l : Int) (a2 : List Query), q2 = Query.mk o2 t w c o3 g o4 l a2 /\ nF a1 g o4 l)) (!r2) (bM K 100 m h) (aY (λ b3 o2 => aG (bC n.args.a b3 o2) ((0 : Int) <= 0) (0 < aF n.args) (∃ (y2 : Sl), bI m h b3 (o2 + 0) (cT y2) /\ gE K y2 m h)))))))))))))))))
theorem TW (n : NV) (m : MH) (h : PH) (K : CV -> MH -> PH -> Prop) : CQ n m h K = (cG (cO [(126, qB), (99, rB), (128, Cs), (129, Ct)] [] [] [] false) Tryz.f119 (aE Tryz.f119) (entry Tryz.f119.ntmps [aN n] m h) K) := by kernel_rfl
theorem Kg {e : Int} (h : e ≠ 0) : fin (eX e) = eX e := by unfold fin; rw [if_neg (by simpa [eX] using h)]; rfl
theorem OB (l : List Int) : fin (l, 0) = lH l := by unfold fin; rw [if_pos rfl]
structure RK (K : CV -> MH -> PH -> Prop) (m : MH) (h : PH) (full : List Int × Int) : Prop where
 all : ∀ r, fin r = full -> KR K m h r
theorem RK.err {f : List Int × Int} {e : Int} (x : RK K m h f) (he : f = eX e) (h0 : e ≠ 0) (hle : PH.le h h') : K (.tup [.val (.slice none 0 0), .val (.int .i64 e)]) m h' :=
 (x.all (eX e) (by rw [he, Kg h0])).err hle rfl
theorem RK.ok {f : List Int × Int} {sl : Sl} (x : RK K m h f) (he : f = lH l) (hle : PH.le h h') (hi : aU h' sl l) : K (.tup [.val (.slice sl.a sl.len sl.cap), .val (.int .i64 0)]) m h' :=
 x.all (l, 0) (by rw [he, OB]) sl h' hle hi
theorem uJ (h : ¬ ((ks.length : Int) = arity q.op /\ dM q)) : xN s ps q ks = eX 100 := by
 unfold xN
 by_cases h1 : (ks.length : Int) = arity q.op
 . rw [if_pos h1]
   unfold fF
   rw [if_pos (.inr λ e => h ⟨h1, e⟩)]
 . rw [if_neg h1]
theorem nM {s : oC} {ps : List Int} {op ta : Int} {w : Pred} {co : List Int} {on : List (Int × Int)} {gr : List Int} {od : List (Int × Bool)} {li : Int} {args : List Query} {ks : List (List Int)} (h1 : (ks.length : Int) = arity op) (h2 : dM (.mk op ta w co on gr od li args)) (h0 : 0 <= arity op) :
 xN s ps (.mk op ta w co on gr od li args) ks = fF s ps (.mk op ta w co on gr od li args) (ks.getD 0 []) (ks.getD 1 []) /\ ¬ (arity op < 0 \/ ¬ dM (.mk op ta w co on gr od li args)) := by
 unfold xN
 rw [if_pos (show (ks.length : Int) = arity (Query.op (.mk op ta w co on gr od li args)) from h1)]
 exact ⟨rfl, λ e => e.elim (λ e => by omega) λ e => e h2⟩
section
variable {n : NV} {s : oC} {ps : List Int} {ta : Int} {w : Pred} {co : List Int} {on : List (Int × Int)} {gr : List Int} {od : List (Int × Bool)} {li : Int} {args : List Query} {ks : List (List Int)} {m : MH} {h : PH} {K : CV -> MH -> PH -> Prop}
theorem Nh (hk : (ks.length : Int) = 1) : ∃ a, ks = [a] := by
 match ks, hk with
 | [a], _ => exact ⟨a, rfl⟩
 | [], h => simp at h
 | _ :: _ :: _, h => simp at h; omega
theorem JK (hk : (ks.length : Int) = 2) : ∃ a b, ks = [a, b] := by
 match ks, hk with
 | [a, b], _ => exact ⟨a, b, rfl⟩
 | [], h => simp at h
 | [_], h => simp at h
 | _ :: _ :: _ :: _, h => simp at h; omega
theorem Ub (hn : sD h s ps (.mk 1 ta w co on gr od li args) ks n) (h8 : iH s) (hT : RK K m h (xN s ps (.mk 1 ta w co on gr od li args) ks)) : CX n m h K := by
 dsimp only [CX, push_cast]
 have x := hn.q_.parts
 have et := x.table_
 have sl := hn.s_.tables.slen
 refine ⟨n, 0, ⟨0, n.q.table, ⟨0, 0, cR, cR, ⟨none, 0, 0⟩⟩, ⟨none, 0, 0⟩, ⟨none, 0, 0⟩, ⟨none, 0, 0⟩, ⟨none, 0, 0⟩, 0, ⟨none, 0, 0⟩⟩, s, ps, _, ks, .mk 0 ta gD [] [] [] [] 0 [], rfl, hn, iU.rep ⟨rfl, et, A8 h, ⟨.nil _ _, by simp⟩, ⟨.nil _ _, by simp⟩, ⟨.nil _ _, by simp⟩, ⟨.nil _ _, by simp⟩, rfl, .nil _ _ _ _⟩, λ r hr => aB (λ h1 => hT.err (uJ λ e => ?_) (by omega) (.refl _)) (λ h1 => ?_)⟩
 . have : r = true := hr.2 ⟨e.1, by have := e.2; simp [dM] at this; obtain ⟨rfl, rfl, rfl, rfl, rfl, rfl⟩ := this; rfl⟩
   rw [this] at h1; cases h1
 obtain ⟨hk, heq⟩ := hr.1 (by simpa using h1)
 simp only [Query.withOf, Query.mk.injEq] at heq
 obtain ⟨_, _, rfl, rfl, rfl, rfl, rfl, rfl, _⟩ := heq
 obtain ⟨hf, hg⟩ := nM (s := s) (ps := ps) (op := 1) (ta := ta) (w := gD) (co := []) (on := []) (gr := []) (od := []) (li := 0) (args := args) (ks := ks) hk (by simp [dM]) (by decide)
 rw [hf] at hT
 unfold fF at hT
 rw [if_neg hg] at hT
 dsimp only at hT
 rw [if_pos rfl] at hT
 refine aC (λ d1 => hT.err (if_neg (by omega)) (by omega) (.refl _)) (λ d1 => aC (λ d2 => hT.err (if_neg (by omega)) (by omega) (.refl _)) (λ d2 => ⟨n.s, s, n.q.table, rfl, hn.s_, h8, λ sl h' hle hi => ?_⟩))
 rw [et] at hi
 exact hT.ok (if_pos (by omega)) hle hi
theorem T9 (hn : sD h s ps (.mk 2 ta w co on gr od li args) ks n) (hT : RK K m h (xN s ps (.mk 2 ta w co on gr od li args) ks)) : CW n m h K := by
 dsimp only [CW, push_cast]
 have x := hn.q_.parts
 refine ⟨n, 1, ⟨0, 0, n.q.where_, ⟨none, 0, 0⟩, ⟨none, 0, 0⟩, ⟨none, 0, 0⟩, ⟨none, 0, 0⟩, 0, ⟨none, 0, 0⟩⟩, s, ps, _, ks, .mk 0 0 w [] [] [] [] 0 [], rfl, hn, iU.rep ⟨rfl, rfl, x.where_, ⟨.nil _ _, by simp⟩, ⟨.nil _ _, by simp⟩, ⟨.nil _ _, by simp⟩, ⟨.nil _ _, by simp⟩, rfl, .nil _ _ _ _⟩, λ r hr => aB (λ h1 => hT.err (uJ λ e => ?_) (by omega) (.refl _)) (λ h1 => ?_)⟩
 . have : r = true := hr.2 ⟨e.1, by have := e.2; simp [dM] at this; obtain ⟨rfl, rfl, rfl, rfl, rfl, rfl⟩ := this; rfl⟩
   rw [this] at h1; cases h1
 obtain ⟨hk, heq⟩ := hr.1 (by simpa using h1)
 simp only [Query.withOf, Query.mk.injEq] at heq
 obtain ⟨_, rfl, _, rfl, rfl, rfl, rfl, rfl, _⟩ := heq
 obtain ⟨hf, hg⟩ := nM (s := s) (ps := ps) (op := 2) (ta := 0) (w := w) (co := []) (on := []) (gr := []) (od := []) (li := 0) (args := args) (ks := ks) hk (by simp [dM]) (by decide)
 rw [hf] at hT
 unfold fF at hT
 rw [if_neg hg] at hT
 dsimp only at hT
 rw [if_neg (by decide), if_pos rfl] at hT
 obtain ⟨a, rfl⟩ := Nh hk
 obtain ⟨b0, o0, s0, e0, r0, i0, l0, j0⟩ := hn.arg (j := 0) rfl
 simp only [List.getD_cons_zero] at hT
 refine ⟨b0, o0, e0, by omega, by omega, s0, .imm (by simpa using r0), s0, n.params, n.q.where_, a, ps, w, rfl, i0, hn.ps_, x.where_, aB (λ d1 => hT.err (if_neg (by simpa using d1)) (by simpa using d1) (.refl _)) (λ d1 => ⟨b0, o0, e0, by omega, by omega, s0, .imm (by simpa using r0), hT.ok (if_pos (by simpa using d1)) (.refl _) i0⟩)⟩
theorem T3 (hn : sD h s ps (.mk 5 ta w co on gr od li args) ks n) (hT : RK K m h (xN s ps (.mk 5 ta w co on gr od li args) ks)) : CS n m h K := by
 dsimp only [CS, push_cast]
 refine ⟨n, s, ps, _, ks, rfl, hn, λ r hr => aB (λ h1 => hT.err ?_ (by omega) (.refl _)) (λ h1 => ?_)⟩
 . by_cases hb : ((ks.length : Int) = arity 5 /\ dM (.mk 5 ta w co on gr od li args))
   . obtain ⟨hf, hg⟩ := nM (s := s) (ps := ps) hb.1 hb.2 (by decide)
     rw [hf]
     unfold fF
     rw [if_neg hg]
     dsimp only
     rw [if_neg (by decide), if_neg (by decide), if_neg (by decide), if_neg (by decide), if_pos rfl, if_neg]
     intro hgood
     have h2 := hb.2
     simp [dM] at h2
     have : r = true := hr.2 ⟨by have := hb.1; simp [arity] at this; omega, h2.1, h2.2.1, h2.2.2.1, h2.2.2.2.1, h2.2.2.2.2.1, h2.2.2.2.2.2, hgood⟩
     rw [this] at h1; cases h1
   . exact uJ hb
 obtain ⟨hk, rfl, rfl, rfl, rfl, rfl, rfl, hgood⟩ := hr.1 (by simpa using h1)
 obtain ⟨hf, hg⟩ := nM (s := s) (ps := ps) (op := 5) (ta := 0) (w := gD) (co := []) (on := on) (gr := []) (od := []) (li := 0) (args := args) (ks := ks) (by rw [hk]; rfl) (by simp [dM]) (by decide)
 rw [hf] at hT
 unfold fF at hT
 rw [if_neg hg] at hT
 dsimp only at hT
 rw [if_neg (by decide), if_neg (by decide), if_neg (by decide), if_neg (by decide), if_pos rfl, if_pos hgood] at hT
 obtain ⟨a, b, rfl⟩ := JK (ks := ks) (by omega)
 obtain ⟨b0, o0, s0, e0, r0, i0, l0, j0⟩ := hn.arg (j := 0) rfl
 exact ⟨b0, o0, e0, by omega, by omega, s0, .imm (by simpa using r0), hT.ok rfl (.refl _) i0⟩
theorem T5 (hn : sD h s ps (.mk 4 ta w co on gr od li args) ks n) (hT : RK K m h (xN s ps (.mk 4 ta w co on gr od li args) ks)) : CT n m h K := by
 dsimp only [CT, push_cast]
 refine ⟨n, s, ps, _, ks, rfl, hn, λ r hr => aB (λ h1 => hT.err ?_ (by omega) (.refl _)) (λ h1 => ?_)⟩
 . by_cases hb : ((ks.length : Int) = arity 4 /\ dM (.mk 4 ta w co on gr od li args))
   . obtain ⟨hf, hg⟩ := nM (s := s) (ps := ps) hb.1 hb.2 (by decide)
     rw [hf]
     unfold fF
     rw [if_neg hg]
     dsimp only
     rw [if_neg (by decide), if_neg (by decide), if_neg (by decide), if_pos rfl, if_neg]
     intro hgood
     have h2 := hb.2
     simp [dM] at h2
     have : r = true := hr.2 ⟨by have := hb.1; simp [arity] at this; omega, h2.1, h2.2.1, h2.2.2.1, h2.2.2.2.1, h2.2.2.2.2.1, h2.2.2.2.2.2, hgood⟩
     rw [this] at h1; cases h1
   . exact uJ hb
 obtain ⟨hk, rfl, rfl, rfl, rfl, rfl, rfl, hgood⟩ := hr.1 (by simpa using h1)
 obtain ⟨hf, hg⟩ := nM (s := s) (ps := ps) (op := 4) (ta := 0) (w := gD) (co := []) (on := on) (gr := []) (od := []) (li := 0) (args := args) (ks := ks) (by rw [hk]; rfl) (by simp [dM]) (by decide)
 rw [hf] at hT
 unfold fF at hT
 rw [if_neg hg] at hT
 dsimp only at hT
 rw [if_neg (by decide), if_neg (by decide), if_neg (by decide), if_pos rfl, if_pos hgood] at hT
 obtain ⟨a, b, rfl⟩ := JK (ks := ks) (by omega)
 obtain ⟨b0, o0, s0, e0, r0, i0, l0, j0⟩ := hn.arg (j := 0) rfl
 obtain ⟨b1, o1, s1, e1, r1, i1, l1, j1⟩ := hn.arg (j := 1) rfl
 refine ⟨b0, o0, e0, by omega, by omega, s0, .imm (by simpa using r0), b1, o1, e1, by omega, by omega, s1, .imm (by simpa using r1), by simpa using r0, by simpa using r1, λ sl h' hle hrow => ⟨sl, [a, b], rfl, ⟨⟨[s0, s1], hrow, rfl, λ j k hk => ?_⟩, by simp⟩, by simp, λ k hk => hn.len k hk, λ sl2 h2 hle2 hi2 => hT.ok (l := a ++ b) (by simp) (hle.trans hle2) (by simpa using hi2)⟩⟩
 match j, hk with
 | 0, hk => simp at hk; subst hk; exact ⟨s0, rfl, i0.mono hle⟩
 | 1, hk => simp at hk; subst hk; exact ⟨s1, rfl, i1.mono hle⟩
 | _ + 2, hk => simp at hk
theorem T1 {op : Int} (hop : op = 6 \/ op = 7 \/ op = 8) (hn : sD h s ps (.mk op ta w co on gr od li args) ks n) (hT : RK K m h (xN s ps (.mk op ta w co on gr od li args) ks)) : Fc n m h K := by
 dsimp only [Fc, push_cast]
 have x := hn.q_.parts
 have ha : arity op = 2 := by rcases hop with rfl | rfl | rfl <;> rfl
 have hne : op ≠ 1 /\ op ≠ 2 /\ op ≠ 3 /\ op ≠ 4 /\ op ≠ 5 /\ op ≠ 9 /\ op ≠ 10 := by omega
 refine ⟨n, 2, ⟨0, 0, ⟨0, 0, cR, cR, ⟨none, 0, 0⟩⟩, ⟨none, 0, 0⟩, ⟨none, 0, 0⟩, ⟨none, 0, 0⟩, ⟨none, 0, 0⟩, 0, ⟨none, 0, 0⟩⟩, s, ps, _, ks, .mk 0 0 gD [] [] [] [] 0 [], rfl, hn, iU.rep ⟨rfl, rfl, A8 h, ⟨.nil _ _, by simp⟩, ⟨.nil _ _, by simp⟩, ⟨.nil _ _, by simp⟩, ⟨.nil _ _, by simp⟩, rfl, .nil _ _ _ _⟩, λ r hr => aB (λ h1 => hT.err (uJ λ e => ?_) (by omega) (.refl _)) (λ h1 => ?_)⟩
 . have e1 : (ks.length : Int) = arity op := e.1
   have : r = true := hr.2 ⟨by omega, by have := e.2; simp [dM, hne] at this; obtain ⟨rfl, rfl, rfl, rfl, rfl, rfl, rfl⟩ := this; rfl⟩
   rw [this] at h1; cases h1
 obtain ⟨hk, heq⟩ := hr.1 (by simpa using h1)
 simp only [Query.withOf, Query.mk.injEq] at heq
 obtain ⟨_, rfl, rfl, rfl, rfl, rfl, rfl, rfl, _⟩ := heq
 obtain ⟨hf, hg⟩ := nM (s := s) (ps := ps) (op := op) (ta := 0) (w := gD) (co := []) (on := []) (gr := []) (od := []) (li := 0) (args := args) (ks := ks) (by omega) (by simp [dM]) (by omega)
 rw [hf] at hT
 unfold fF at hT
 rw [if_neg hg] at hT
 dsimp only at hT
 rw [if_neg hne.1, if_neg hne.2.1, if_neg hne.2.2.1, if_neg hne.2.2.2.1, if_neg hne.2.2.2.2.1, if_neg hne.2.2.2.2.2.1, if_neg hne.2.2.2.2.2.2] at hT
 obtain ⟨a, b, rfl⟩ := JK hk
 obtain ⟨b0, o0, s0, e0, r0, i0, l0, j0⟩ := hn.arg (j := 0) rfl
 obtain ⟨b1, o1, s1, e1, r1, i1, l1, j1⟩ := hn.arg (j := 1) rfl
 refine ⟨b0, o0, e0, by omega, by omega, s0, .imm (by simpa using r0), b1, o1, e1, by omega, by omega, s1, .imm (by simpa using r1), s0, s1, a, b, rfl, i0, i1, λ r2 hr2 => aB (λ d1 => hT.err (if_neg λ e => ?_) (by omega) (.refl _)) (λ d1 => ⟨b0, o0, e0, by omega, by omega, s0, .imm (by simpa using r0), hT.ok (if_pos (hr2.1 (by simpa using d1))) (.refl _) i0⟩)⟩
 have e : a = b := e
 rw [hr2.2 e] at d1; cases d1
theorem T7 (hn : sD h s ps (.mk 3 ta w co on gr od li args) ks n) (hT : RK K m h (xN s ps (.mk 3 ta w co on gr od li args) ks)) : CU n m h K := by
 dsimp only [CU, push_cast]
 have x := hn.q_.parts
 have cl := x.columns_.slen
 have clen := x.columns_.len
 refine ⟨n, 1, ⟨0, 0, ⟨0, 0, cR, cR, ⟨none, 0, 0⟩⟩, n.q.columns, ⟨none, 0, 0⟩, ⟨none, 0, 0⟩, ⟨none, 0, 0⟩, 0, ⟨none, 0, 0⟩⟩, s, ps, _, ks, .mk 0 0 gD co [] [] [] 0 [], rfl, hn, iU.rep ⟨rfl, rfl, A8 h, x.columns_, ⟨.nil _ _, by simp⟩, ⟨.nil _ _, by simp⟩, ⟨.nil _ _, by simp⟩, rfl, .nil _ _ _ _⟩, λ r hr => aB (λ h1 => hT.err (uJ λ e => ?_) (by omega) (.refl _)) (λ h1 => ?_)⟩
 . have : r = true := hr.2 ⟨e.1, by have := e.2; simp [dM] at this; obtain ⟨rfl, rfl, rfl, rfl, rfl, rfl⟩ := this; rfl⟩
   rw [this] at h1; cases h1
 obtain ⟨hk, heq⟩ := hr.1 (by simpa using h1)
 simp only [Query.withOf, Query.mk.injEq] at heq
 obtain ⟨_, rfl, rfl, _, rfl, rfl, rfl, rfl, _⟩ := heq
 obtain ⟨hf, hg⟩ := nM (s := s) (ps := ps) (op := 3) (ta := 0) (w := gD) (co := co) (on := []) (gr := []) (od := []) (li := 0) (args := args) (ks := ks) hk (by simp [dM]) (by decide)
 rw [hf] at hT
 unfold fF at hT
 rw [if_neg hg] at hT
 dsimp only at hT
 rw [if_neg (by decide), if_neg (by decide), if_pos rfl] at hT
 obtain ⟨a, rfl⟩ := Nh hk
 obtain ⟨b0, o0, s0, e0, r0, i0, l0, j0⟩ := hn.arg (j := 0) rfl
 have sl0 := i0.slen
 simp only [List.getD_cons_zero] at hT
 refine aB (λ d1 => hT.err (if_neg λ e => e.1 ((zA cl).1 d1)) (by omega) (.refl _)) (λ d1 => ?_)
 have hne : co ≠ [] := λ e => by rw [(zA cl).2 e] at d1; cases d1
 refine ⟨by omega, by omega, by omega, by omega, λ ⟨i, l⟩ => i <= co.length /\ l = (co.take i).map (λ c => a.getD c.toNat 0) /\ eG (λ _ c => Df a c = true) co i, λ ⟨i, _⟩ => co.length - i, ⟨(0, []), ⟨by omega, by simp, .zero⟩, MT⟩, ?_⟩
 rintro ⟨i, _⟩ ⟨hi, rfl, hgo⟩
 dsimp only
 refine aC (λ hlt => ?_) (λ hge sl h' hle hrow => ?_)
 . obtain ⟨c, hc⟩ := fP cl hlt
   obtain ⟨b1, o1, ea1, r1⟩ := x.columns_.at' hc
   have cbad : ¬ Df a c = true -> K (.tup [.val (.slice none 0 0), .val (.int .i64 100)]) m h := λ hx => hT.err (if_neg λ e => hx (e.2 i c hc)) (by omega) (.refl _)
   refine ⟨b1, o1, ea1, by omega, hlt, c, .imm r1, aC (λ d2 => cbad λ e => ?_) (λ d2 => ⟨b0, o0, e0, by omega, by omega, s0, .imm (by simpa using r0), aC (λ d3 => cbad λ e => ?_) (λ d3 => ?_)⟩)⟩
   . have := eE.1 e; omega
   . have := eE.1 e; omega
   obtain ⟨b2, o2, ea2, r2⟩ := i0.inb (n := c) (by omega) (by omega)
   refine ⟨b0, o0, e0, by omega, by omega, s0, .imm (by simpa using r0), b2, o2, ea2, by omega, by omega, _, .imm r2, ?_, ?_, (i + 1, (co.take (i + 1)).map (λ c => a.getD c.toNat 0)), ⟨by omega, rfl, hgo.succ hc (eE.2 ⟨by omega, by omega⟩)⟩, by show co.length - (i + 1) < co.length - i; omega, ?_⟩
   . simp; omega
   . simp; omega
   . rw [gJ hc, List.map_append]
     exact MT
 . rw [List.take_of_length_le (by omega)] at hrow
   exact hT.ok (if_pos ⟨hne, hgo.all (by omega)⟩) hle ⟨hrow, by simp; omega⟩
theorem TZ (hn : sD h s ps (.mk 9 ta w co on gr od li args) ks n) (hT : RK K m h (xN s ps (.mk 9 ta w co on gr od li args) ks)) : CR n m h K := by
 dsimp only [CR, push_cast]
 have x := hn.q_.parts
 refine ⟨n, s, ps, _, ks, rfl, hn, n, 1, ⟨0, 0, ⟨0, 0, cR, cR, ⟨none, 0, 0⟩⟩, ⟨none, 0, 0⟩, ⟨none, 0, 0⟩, n.q.group, n.q.order, n.q.limit, ⟨none, 0, 0⟩⟩, s, ps, _, ks, .mk 0 0 gD [] [] gr od li [], rfl, hn, iU.rep ⟨rfl, rfl, A8 h, ⟨.nil _ _, by simp⟩, ⟨.nil _ _, by simp⟩, x.group_, x.order_, x.limit_, .nil _ _ _ _⟩, λ r hr => aB (λ h1 => hT.err (uJ λ e => ?_) (by omega) (.refl _)) (λ h1 => ?_)⟩
 . have : r = true := hr.2 ⟨e.1, by have := e.2; simp [dM] at this; obtain ⟨rfl, rfl, rfl, rfl⟩ := this; rfl⟩
   rw [this] at h1; cases h1
 obtain ⟨hk, heq⟩ := hr.1 (by simpa using h1)
 simp only [Query.withOf, Query.mk.injEq] at heq
 obtain ⟨_, rfl, rfl, rfl, rfl, _, _, _, _⟩ := heq
 obtain ⟨hf, hg⟩ := nM (s := s) (ps := ps) (op := 9) (ta := 0) (w := gD) (co := []) (on := []) (gr := gr) (od := od) (li := li) (args := args) (ks := ks) hk (by simp [dM]) (by decide)
 rw [hf] at hT
 unfold fF at hT
 rw [if_neg hg] at hT
 dsimp only at hT
 rw [if_neg (by decide), if_neg (by decide), if_neg (by decide), if_neg (by decide), if_neg (by decide), if_pos rfl] at hT
 obtain ⟨a, rfl⟩ := Nh hk
 obtain ⟨b0, o0, s0, e0, r0, i0, l0, j0⟩ := hn.arg (j := 0) rfl
 refine ⟨n, s, ps, _, [a], a, rfl, hn, rfl, λ r2 hr2 => aB (λ d1 => hT.err (if_neg λ e => ?_) (by omega) (.refl _)) (λ d1 => ⟨b0, o0, e0, by omega, by omega, s0, .imm (by simpa using r0), hT.ok (if_pos ?_) (.refl _) i0⟩)⟩
 . rw [hr2.2 ⟨_, _, _, _, _, _, _, _, _, rfl, e⟩] at d1; cases d1
 . obtain ⟨_, _, _, _, _, _, _, _, _, e, hh⟩ := hr2.1 (by simpa using d1)
   cases e; exact hh
theorem TX (hn : sD h s ps (.mk 10 ta w co on gr od li args) ks n) (hT : RK K m h (xN s ps (.mk 10 ta w co on gr od li args) ks)) : CQ n m h K := by
 dsimp only [CQ, push_cast]
 have x := hn.q_.parts
 refine ⟨n, s, ps, _, ks, rfl, hn, n, 2, ⟨0, 0, ⟨0, 0, cR, cR, ⟨none, 0, 0⟩⟩, ⟨none, 0, 0⟩, ⟨none, 0, 0⟩, n.q.group, n.q.order, n.q.limit, ⟨none, 0, 0⟩⟩, s, ps, _, ks, .mk 0 0 gD [] [] gr od li [], rfl, hn, iU.rep ⟨rfl, rfl, A8 h, ⟨.nil _ _, by simp⟩, ⟨.nil _ _, by simp⟩, x.group_, x.order_, x.limit_, .nil _ _ _ _⟩, λ r hr => aB (λ h1 => hT.err (uJ λ e => ?_) (by omega) (.refl _)) (λ h1 => ?_)⟩
 . have : r = true := hr.2 ⟨e.1, by have := e.2; simp [dM] at this; obtain ⟨rfl, rfl, rfl, rfl⟩ := this; rfl⟩
   rw [this] at h1; cases h1
 obtain ⟨hk, heq⟩ := hr.1 (by simpa using h1)
 simp only [Query.withOf, Query.mk.injEq] at heq
 obtain ⟨_, rfl, rfl, rfl, rfl, _, _, _, _⟩ := heq
 obtain ⟨hf, hg⟩ := nM (s := s) (ps := ps) (op := 10) (ta := 0) (w := gD) (co := []) (on := []) (gr := gr) (od := od) (li := li) (args := args) (ks := ks) hk (by simp [dM]) (by decide)
 rw [hf] at hT
 unfold fF at hT
 rw [if_neg hg] at hT
 dsimp only at hT
 rw [if_neg (by decide), if_neg (by decide), if_neg (by decide), if_neg (by decide), if_neg (by decide), if_neg (by decide), if_pos rfl] at hT
 obtain ⟨a, b, rfl⟩ := JK hk
 obtain ⟨b0, o0, s0, e0, r0, i0, l0, j0⟩ := hn.arg (j := 0) rfl
 obtain ⟨b1, o1, s1, e1, r1, i1, l1, j1⟩ := hn.arg (j := 1) rfl
 refine ⟨b0, o0, e0, by omega, by omega, s0, .imm (by simpa using r0), b1, o1, e1, by omega, by omega, s1, .imm (by simpa using r1), s0, s1, a, b, rfl, i0, i1, λ r3 hr3 => aB (λ d2 => ⟨by simpa using r0, by simpa using r1, hT.err (if_neg λ e => ?_) (by omega) (.refl _)⟩) (λ d2 => ⟨by simpa using r0, by simpa using r1, n, s, ps, _, [a, b], a, rfl, hn, rfl, λ r2 hr2 => aB (λ d1 => hT.err (if_neg λ e => ?_) (by omega) (.refl _)) (λ d1 => ⟨b0, o0, e0, by omega, by omega, s0, .imm (by simpa using r0), hT.ok (if_pos ⟨hr3.1 (by simpa using d2), ?_⟩) (.refl _) i0⟩)⟩)⟩
 . have e : a = b := e.1
   rw [hr3.2 e] at d2; cases d2
 . rw [hr2.2 ⟨_, _, _, _, _, _, _, _, _, rfl, e.2⟩] at d1; cases d1
 . obtain ⟨_, _, _, _, _, _, _, _, _, e, hh⟩ := hr2.1 (by simpa using d1)
   cases e; exact hh
end
def fv (f : Nat) : CV := .val (.func (.func f) #[] #[])
def JB : Vc.Spec := λ cvs m h K => ∃ op, cvs = [cI op] /\
 branch (op == 1) (K (fv 112) m h) (branch (op == 2) (K (fv 113) m h) (branch (op == 3) (K (fv 114) m h) (branch (op == 4) (K (fv 115) m h) (branch (op == 5) (K (fv 116) m h) (branch (op == 6) (K (fv 117) m h) (branch (op == 7) (K (fv 117) m h) (branch (op == 8) (K (fv 117) m h) (branch (op == 9) (K (fv 118) m h) (branch (op == 10) (K (fv 119) m h) (K (.val .nilFunc) m h))))))))))
noncomputable def O7 (N : Nat) (sc : bH) (p : Sl) (v : QV) (m : MH) : Ctx :=
 cO [(65, wM N), (92, JB), (112, xP (· = 1)), (113, xP (· = 2)), (114, xP (· = 3)), (115, xP (· = 4)), (116, xP (· = 5)), (117, xP (λ op => op = 6 \/ op = 7 \/ op = 8)), (118, xP (· = 9)), (119, xP (· = 10))]
  [(3, { A := Nat × List Sl × PH, st := λ ⟨i, ss, h⟩ => cD 62 65 [(1, sv p), (3, .at (.ptr 3 0)), (5, .at (.ptr 5 0)), (8, .at (.ptr 8 0)), (21, sv v.args), (22, iv v.args.len), (23, iv i)] [(3, .cells 28 (sc.enc.map .val)), (5, .cells 43 (v.enc.map .val)), (8, .cells 155 ((sc.enc ++ eS p ++ v.enc).map .val ++ [.lst 41])), (41, .lst 39 1 (ss.map eS))] m h })] [] [] false
noncomputable abbrev tU (a : Nat) : Value := Value.func (Fn.func a) qT qT
attribute [push_cast] tU
def Hm (op : Int) (m : MH) (h : PH) (K : CV -> MH -> PH -> Prop) : Prop :=
  ∀ (b : Nat) (m1 : MH), gX m h b -> hO m m1 b (aL Value.nilFunc Value.nilFunc (aL Value.nilFunc Value.nilFunc (aL Value.nilFunc Value.nilFunc (aL Value.nilFunc Value.nilFunc (aL Value.nilFunc Value.nilFunc (oB Value.nilFunc)))))) 175 -> xB (λ c E => aA (KB m1 b (xJ c E 0)) (11 <= c.size) (∀ (m2 : MH), hO m1 m2 b (aL Value.nilFunc (tU 112) (aL (tU 113) (tU 114) (aL (tU 115) (tU 116) (aL (tU 117) (tU 117) (aL (tU 117) (tU 118) (mL (tU 119) 11 c.toList)))))) E -> bE op 0 (K (CV.val Value.nilFunc) m2 h) (fI op 11 (K (CV.val Value.nilFunc) m2 h) (aA (aW op) (op < 11) (∃ (y : Option Nat), bI m2 h b (iW 0 op 1) (oB (Wo y)) /\ K (CV.val (Wo y)) m2 h)))))
theorem U6 (op : Int) (m : MH) (h : PH) (K : CV -> MH -> PH -> Prop) : Hm op m h K = (cG (zD [] [] [] [] [175] [] false) Tryz.f92 (aE Tryz.f92) (entry Tryz.f92.ntmps [cI op] m h) K) := by kernel_rfl
abbrev tQ (a : Nat × List Sl × PH) (b : bH) (c : Sl) (d : QV) (e : Sl -> List Value) (g : NV -> CV) (i : Query -> Prop) (j : (List Int × Int) -> Sl -> PH -> Prop) : Prop := bQ (kB a) 1 (oV a) (λ x x1 => ∃ (x2 : NV), rV (λ x3 x4 x5 x6 => aA (D2 (kK (aL (cZ b.version) (nG b.tables) (aL (nG c) (cZ d.op) (aL (tP d) (vF d) (aL (cZ (vG d)) (hX (eM d)) (e x)))))) = D2 (g x2)) (sD x1 x3 x4 x5 x6 x2) (aA (iH x3) (i x5) (∀ (x7 : List Int × Int), fin x7 = xN x3 x4 x5 x6 -> fM x1 x7.1 (λ x8 x9 => j x7 x8 x9)))))
noncomputable abbrev tV (a : QV) (b : List Value) : List Value := aL (hZ (eM a)) (iD (eM a)) (aL (iE (eM a)) (gL (eM a)) (aL (hX (dU a)) (hZ (dU a)) (aL (cZ (iA (dU a))) (iE (dU a)) b)))
attribute [push_cast] tQ tV
def LX (N : Nat) (sc : bH) (p : Sl) (v : QV) (m : MH) (h : PH) (K : CV -> MH -> PH -> Prop) : Prop :=
  ∃ (I : Nat × List Sl × PH -> Prop) (m1 : Nat × List Sl × PH -> Nat), (∃ (x : Nat × List Sl × PH), aA (I x) (aK p) (aA (eP 3) (eP 5) (aA (eP 8) (aK v.args) (aA (oU v) (bO x.1) (aA (bR sc) (dD v) (aA (xU sc (gI p) v.op v (At.lst 41)) (rY 39 1 (oV x)) (cQ (m = m) h (kB x)))))))) /\ ∀ (x : Nat × List Sl × PH), I x -> bE (↑x.1 : Int) (aF v.args) (aY (λ b o => aG (bC v.args.a b o) (0 <= (↑x.1 : Int)) ((↑x.1 : Int) < aF v.args) (∃ (y : QV), bI m (kB x) b (bZ o x.1 21) y.enc /\ rZ (λ s p1 v1 => sA (λ s1 p2 q => aA (bK sc :: bX (dO p) y.enc = bK s :: bX (dO p1) v1.enc) (eW (kB x) s1 s) (aA (iH s1) (aU (kB x) p1 p2) (aA (cC (kB x) q v1) (qM q N) (fM (kB x) (dH s1 p2 q).1 (λ s2 h1 => dE (dH s1 p2 q).2 0 (K (CV.tup (lY Fj (CV.val
 (cZ (dH s1 p2 q).2)))) m h1) (oO (oV x) 24 (∃ (x1 : Nat × List Sl × PH), aA (I x1) (m1 x1 < m1 x) (aA (aK p) hJ (aA eT (eP 8) (aA (aK v.args) (oU v) (aA (aZ x.1 1 x1.1) (bR sc) (aA (dD v) (xU sc (gI p) v.op v (At.lst 41)) (aG (cM 39 1 (iK (oV x) (cT s2)) = cM 39 1 (oV x1)) (m = m) (h1 = kB x1) True))))))))))))))))) (rD v.op (λ o => dT (o == 1) (tQ x sc p v (λ s => tV v (w8 (dU v) v v.on s)) (λ n => fX n (fY n (fW n))) (λ q => q.op = 1) (λ r s h1 => lT (r.2 != 0) (bM K r.2 m h1) (aF s) 12 (bM K 2 m h1) (gE K s m h1))) (o == 2) (tQ x sc p v (λ s => tV v (w8 (dU v) v v.on s)) (λ n => fX n (fY n (fW n))) (λ q => q.op = 2) (λ r s h1 => lT (r.2 != 0) (bM K r.2 m h1) (aF s) 12 (bM K 2 m h1)
 (gE K s m h1))) (dT (o == 3) (tQ x sc p v (λ s => tV v (w8 (dU v) v v.on s)) (λ n => fX n (fY n (fW n))) (λ q => q.op = 3) (λ r s h1 => lT (r.2 != 0) (bM K r.2 m h1) (aF s) 12 (bM K 2 m h1) (gE K s m h1))) (o == 4) (tQ x sc p v (λ s => tV v (w8 (dU v) v v.on s)) (λ n => fX n (fY n (fW n))) (λ q => q.op = 4) (λ r s h1 => lT (r.2 != 0) (bM K r.2 m h1) (aF s) 12 (bM K 2 m h1) (gE K s m h1))) (dT (o == 5) (tQ x sc p v (λ s => tV v (w8 (dU v) v v.on s)) (λ n => fX n (fY n (fW n))) (λ q => q.op = 5) (λ r s h1 => lT (r.2 != 0) (bM K r.2 m h1) (aF s) 12 (bM K 2 m h1) (gE K s m h1))) (o == 6) (tQ x sc p v (λ s => tV v (w8 (dU v) v v.on s)) (λ n => fX n (fY n (fW n))) (λ q => q.op = 6 \/
 q.op = 7 \/ q.op = 8) (λ r s h1 => lT (r.2 != 0) (bM K r.2 m h1) (aF s) 12 (bM K 2 m h1) (gE K s m h1))) (dT (o == 7) (tQ x sc p v (λ s => tV v (w8 (dU v) v v.on s)) (λ n => fX n (fY n (fW n))) (λ q => q.op = 6 \/ q.op = 7 \/ q.op = 8) (λ r s h1 => lT (r.2 != 0) (bM K r.2 m h1) (aF s) 12 (bM K 2 m h1) (gE K s m h1))) (o == 8) (tQ x sc p v (λ s => tV v (w8 (dU v) v v.on s)) (λ n => fX n (fY n (fW n))) (λ q => q.op = 6 \/ q.op = 7 \/ q.op = 8) (λ r s h1 => lT (r.2 != 0) (bM K r.2 m h1) (aF s) 12 (bM K 2 m h1) (gE K s m h1))) (dT (o == 9) (tQ x sc p v (λ s => tV v (w8 (dU v) v v.on s)) (λ n => fX n (fY n (fW n))) (λ q => q.op = 9) (λ r s h1 => lT (r.2 != 0) (bM K r.2 m h1) (aF s) 12 (bM K 2 m h1) (gE K s
 m h1))) (o == 10) (tQ x sc p v (λ s => tV v (w8 (dU v) v v.on s)) (λ n => fX n (fY n (fW n))) (λ q => q.op = 10) (λ r s h1 => lT (r.2 != 0) (bM K r.2 m h1) (aF s) 12 (bM K 2 m h1) (gE K s m h1))) (bM K 100 m (kB x))))))))
theorem Vy (N : Nat) (sc : bH) (p : Sl) (v : QV) (m : MH) (h : PH) (K : CV -> MH -> PH -> Prop) : LX N sc p v m h K = (cG (O7 N sc p v m) Tryz.f65 (aE Tryz.f65) (entry Tryz.f65.ntmps [aS sc, cS p, aQ v] m h) K) := by kernel_rfl
theorem QP : Sound Tryz.prog 92 JB := by
 refine gC (fn := Tryz.f92) (c := aE Tryz.f92) Tryz.func92 rfl (by decide) ?_
 rintro cvs m h K ⟨op, rfl, hK⟩
 refine ⟨zD [] [] [] [] [175] [] false, rfl, aH, ?_⟩
 rw [<- U6 op m h _]
 show Hm op m h (lZ h K)
 dsimp only [Hm, push_cast]
 intro b m1 hb hm1
 refine ⟨_, _, ⟨hm1.at_⟩, by decide, λ m2 hm2 => ?_⟩
 have hsub : Sub m m2 := ((Sub.refl m).upd hb.m_ hm1.other).upd hb.m_ hm2.other
 have e := hm2.at_
 have none_ : ∀ k, ¬ (1 <= op /\ op <= 10) -> op = k -> K (.val .nilFunc) m h := λ k hn _ => by
  have : (op == 1) = false /\ (op == 2) = false /\ (op == 3) = false /\ (op == 4) = false /\ (op == 5) = false /\ (op == 6) = false /\ (op == 7) = false /\ (op == 8) = false /\ (op == 9) = false /\ (op == 10) = false := by
   simp only [beq_eq_false_iff_ne]; omega
  obtain ⟨e1, e2, e3, e4, e5, e6, e7, e8, e9, e10⟩ := this
  rw [e1, e2, e3, e4, e5, e6, e7, e8, e9, e10] at hK
  exact hK
 refine aC (λ h1 => .sub hsub (none_ _ (by omega) rfl)) (λ h1 => aC (λ h2 => .sub hsub (none_ _ (by omega) rfl)) (λ h2 => ⟨by omega, by omega, ?_⟩))
 have : op = 0 \/ op = 1 \/ op = 2 \/ op = 3 \/ op = 4 \/ op = 5 \/ op = 6 \/ op = 7 \/ op = 8 \/ op = 9 \/ op = 10 := by omega
 rcases this with rfl | rfl | rfl | rfl | rfl | rfl | rfl | rfl | rfl | rfl | rfl
 . exact ⟨none, .lent _ _ _ e rfl, .sub hsub (none_ 0 (by omega) rfl)⟩
 . exact ⟨some 112, .lent _ _ _ e rfl, .sub hsub hK⟩
 . exact ⟨some 113, .lent _ _ _ e rfl, .sub hsub hK⟩
 . exact ⟨some 114, .lent _ _ _ e rfl, .sub hsub hK⟩
 . exact ⟨some 115, .lent _ _ _ e rfl, .sub hsub hK⟩
 . exact ⟨some 116, .lent _ _ _ e rfl, .sub hsub hK⟩
 . exact ⟨some 117, .lent _ _ _ e rfl, .sub hsub hK⟩
 . exact ⟨some 117, .lent _ _ _ e rfl, .sub hsub hK⟩
 . exact ⟨some 117, .lent _ _ _ e rfl, .sub hsub hK⟩
 . exact ⟨some 118, .lent _ _ _ e rfl, .sub hsub hK⟩
 . exact ⟨some 119, .lent _ _ _ e rfl, .sub hsub hK⟩
theorem NQ : Sound Tryz.prog 112 (xP (· = 1)) := by
 refine aI (fn := Tryz.f112) (c := aE Tryz.f112) Tryz.func112 rfl (by decide) ?_
 rintro cvs m h K ⟨n, s, ps, q, ks, rfl, hn, h8, hop, hT⟩
 obtain ⟨op, ta, w, co, on, gr, od, li, args⟩ := q
 refine ⟨cO [(126, qB), (62, uO)] [] [] [] false, rfl, (aD sB (aD EZ aH)), ?_⟩
 rw [<- Ua n m h K]
 dsimp only [CX, push_cast]
 cases (show op = 1 from hop)
 exact Ub hn h8 ⟨hT⟩
theorem NP : Sound Tryz.prog 113 (xP (· = 2)) := by
 refine aI (fn := Tryz.f113) (c := aE Tryz.f113) Tryz.func113 rfl (by decide) ?_
 rintro cvs m h K ⟨n, s, ps, q, ks, rfl, hn, h8, hop, hT⟩
 obtain ⟨op, ta, w, co, on, gr, od, li, args⟩ := q
 refine ⟨cO [(126, qB), (63, lW)] [] [] [] false, rfl, (aD sB (aD EY aH)), ?_⟩
 rw [<- T8 n m h K]
 dsimp only [CW, push_cast]
 cases (show op = 2 from hop)
 exact T9 hn ⟨hT⟩
theorem NO : Sound Tryz.prog 114 (xP (· = 3)) := by
 refine aI (fn := Tryz.f114) (c := aE Tryz.f114) Tryz.func114 rfl (by decide) ?_
 rintro cvs m h K ⟨n, s, ps, q, ks, rfl, hn, h8, hop, hT⟩
 obtain ⟨op, ta, w, co, on, gr, od, li, args⟩ := q
 refine ⟨Mx n m h, rfl, (aD sB aH), ?_⟩
 rw [<- T6 n m h K]
 dsimp only [CU, push_cast]
 cases (show op = 3 from hop)
 exact T7 hn ⟨hT⟩
theorem NN (h101 : Sound Tryz.prog 101 C2) : Sound Tryz.prog 115 (xP (· = 4)) := by
 refine aI (fn := Tryz.f115) (c := aE Tryz.f115) Tryz.func115 rfl (by decide) ?_
 rintro cvs m h K ⟨n, s, ps, q, ks, rfl, hn, h8, hop, hT⟩
 obtain ⟨op, ta, w, co, on, gr, od, li, args⟩ := q
 refine ⟨cO [(127, Cu), (101, C2)] [] [] [] false, rfl, (aD HG (aD h101 aH)), ?_⟩
 rw [<- T4 n m h K]
 dsimp only [CT, push_cast]
 cases (show op = 4 from hop)
 exact T5 hn ⟨hT⟩
theorem NM : Sound Tryz.prog 116 (xP (· = 5)) := by
 refine aI (fn := Tryz.f116) (c := aE Tryz.f116) Tryz.func116 rfl (by decide) ?_
 rintro cvs m h K ⟨n, s, ps, q, ks, rfl, hn, h8, hop, hT⟩
 obtain ⟨op, ta, w, co, on, gr, od, li, args⟩ := q
 refine ⟨cO [(127, Cu)] [] [] [] false, rfl, (aD HG aH), ?_⟩
 rw [<- T2 n m h K]
 dsimp only [CS, push_cast]
 cases (show op = 5 from hop)
 exact T3 hn ⟨hT⟩
theorem NL : Sound Tryz.prog 117 (xP (λ op => op = 6 \/ op = 7 \/ op = 8)) := by
 refine aI (fn := Tryz.f117) (c := aE Tryz.f117) Tryz.func117 rfl (by decide) ?_
 rintro cvs m h K ⟨n, s, ps, q, ks, rfl, hn, h8, hop, hT⟩
 obtain ⟨op, ta, w, co, on, gr, od, li, args⟩ := q
 refine ⟨cO [(126, qB), (99, rB)] [] [] [] false, rfl, (aD sB (aD CJ aH)), ?_⟩
 rw [<- T0 n m h K]
 exact T1 hop hn ⟨hT⟩
theorem NK : Sound Tryz.prog 118 (xP (· = 9)) := by
 refine aI (fn := Tryz.f118) (c := aE Tryz.f118) Tryz.func118 rfl (by decide) ?_
 rintro cvs m h K ⟨n, s, ps, q, ks, rfl, hn, h8, hop, hT⟩
 obtain ⟨op, ta, w, co, on, gr, od, li, args⟩ := q
 refine ⟨cO [(126, qB), (128, Cs), (129, Ct)] [] [] [] false, rfl, (aD sB (aD HF (aD HE aH))), ?_⟩
 rw [<- TY n m h K]
 dsimp only [CR, push_cast]
 cases (show op = 9 from hop)
 exact TZ hn ⟨hT⟩
theorem NJ : Sound Tryz.prog 119 (xP (· = 10)) := by
 refine aI (fn := Tryz.f119) (c := aE Tryz.f119) Tryz.func119 rfl (by decide) ?_
 rintro cvs m h K ⟨n, s, ps, q, ks, rfl, hn, h8, hop, hT⟩
 obtain ⟨op, ta, w, co, on, gr, od, li, args⟩ := q
 refine ⟨cO [(126, qB), (99, rB), (128, Cs), (129, Ct)] [] [] [] false, rfl, (aD sB (aD CJ (aD HF (aD HE aH)))), ?_⟩
 rw [<- TW n m h K]
 dsimp only [CQ, push_cast]
 cases (show op = 10 from hop)
 exact TX hn ⟨hT⟩
theorem O8 (h101 : Sound Tryz.prog 101 C2) : ∀ N, Sound Tryz.prog 65 (wM N)
 | 0 => by
  refine aI (fn := Tryz.f65) (c := aE Tryz.f65) Tryz.func65 rfl (by decide) ?_
  rintro cvs m h K ⟨sc, p, v, s, ps, q, rfl, _, _, _, _, hN, _⟩
  omega
 | N + 1 => by
  refine aI (fn := Tryz.f65) (c := aE Tryz.f65) Tryz.func65 rfl (by decide) ?_
  rintro cvs m h K ⟨sc, p, v, s, ps, q, rfl, hs, h8, hp, hq, hN, hK⟩
  refine ⟨O7 N sc p v m, rfl, (aD (O8 h101 N) (aD QP (aD NQ (aD NP (aD NO (aD (NN h101) (aD NM (aD NL (aD NK (aD NJ aH)))))))))), ?_⟩
  rw [<- Vy N sc p v m h K]
  dsimp only [LX, push_cast]
  have hlt := @qS q
  have hqr := hq
  obtain ⟨op, ta, w, co, on, gr, od, li, args⟩ := q
  have x := hq.parts
  have e0 := x.op_
  have hl := x.args_.slen
  have hlen := x.args_.len
  simp only [Query.args] at hlt
  simp only [dH] at hK
  refine ⟨λ ⟨i, ss, hx⟩ => i <= args.length /\ PH.le h hx /\ ∃ ks, Slices hx ss ks /\ (args.take i).map (dH s ps) = ks.map (λ k => (k, 0)), λ ⟨i, _, _⟩ => args.length - i, ⟨(0, [], h), ⟨by omega, .refl _, [], ⟨rfl, λ j s k h1 => by simp at h1⟩, by simp⟩, MT⟩, ?_⟩
  rintro ⟨i, ss, hx⟩ ⟨hi, hle, ks, hS, hks⟩
  have hkl : ks.length = i := by have := congrArg List.length hks; simp at this; omega
  have hsl : ss.length = i := by rw [hS.1, hkl]
  dsimp only
  refine aC (λ hlt2 => ?_) (λ hge => ?_)
  . obtain ⟨q', hq'⟩ := fP hl hlt2
    obtain ⟨b1, o1, u, ea1, r1, hru⟩ := (x.args_.mono hle).at hq'
    refine ⟨b1, o1, ea1, by omega, hlt2, u, .imm r1, sc, p, u, s, ps, q', rfl, hs.mono hle, h8, hp.mono hle, hru, ?_, λ sl h' hle' hi' => aB (λ h1 => ?_) (λ h1 => ?_)⟩
    . have := hlt (List.mem_of_getElem? hq'); omega
    . have he : (dH s ps q').2 ≠ 0 := by simpa using h1
      rw [Cf he hks hq' rfl] at hK
      exact hK.err (hle.trans hle') (if_neg he)
    . have he : (dH s ps q').2 = 0 := by simpa using h1
      refine ⟨by simp; omega, by simp; omega, (i + 1, ss ++ [sl], h'), ⟨by omega, hle.trans hle', ks ++ [(dH s ps q').1], (hS.mono hle').snoc hi', ?_⟩, by show args.length - (i + 1) < args.length - i; omega, ?_⟩
      . rw [gJ hq', hks, List.map_append]
        simp only [List.map_cons, List.map_nil]
        rw [<- he]
      . rw [List.map_append]; exact MT
  . rw [List.take_of_length_le (by omega)] at hks
    rw [zB hks] at hK
    simp only [if_true] at hK
    have hK : KR K m h (xN s ps (.mk op ta w co on gr od li args) ks) := hK
    have hrep : ∀ (sl : Sl) (h' : PH), PH.le hx h' -> cW h' sl 1 (ss.map eS) -> sD h' s ps (.mk op ta w co on gr od li args) ks ⟨sc, p, v, sl⟩ := λ sl h' hle' hrow => by
     refine ⟨(hs.mono hle).mono hle', (hp.mono hle).mono hle', (hqr.mono hle).mono hle', ⟨⟨ss, hrow, hS.1.symm, λ j k hk => ?_⟩, by omega⟩, λ k hk => ?_⟩
     . have hj : j < ss.length := by rw [hS.1]; exact (List.getElem?_eq_some_iff.1 hk).1
       exact ⟨ss[j], List.getElem?_eq_getElem hj, (hS.2 j _ _ (List.getElem?_eq_getElem hj) hk).mono hle'⟩
     . obtain ⟨j, hj⟩ := List.mem_iff_getElem?.1 hk
       have := ES hks j
       rwa [List.getD_eq_getElem?_getD, hj] at this
    have tail : ∀ (h' : PH), PH.le hx h' -> ∀ r, fin r = xN s ps (.mk op ta w co on gr od li args) ks -> ∀ (sl : Sl) (h'' : PH), PH.le h' h'' -> aU h'' sl r.1 ->
     branch (r.2 != 0) (K (.tup [.val (.slice none 0 0), .val (.int .i64 r.2)]) m h'') (branch (decide ((sl.len : Int) > 12)) (K (.tup [.val (.slice none 0 0), .val (.int .i64 2)]) m h'') (K (.tup [.val (.slice sl.a sl.len sl.cap), .val (.int .i64 0)]) m h'')) := by
     intro h' hle' r hr sl h'' hle2 hi'
     have hl3 : PH.le h h'' := (hle.trans hle').trans hle2
     rw [<- hr] at hK
     have hsl := hi'.slen
     refine aB (λ d1 => ?_) (λ d1 => aC (λ d2 => ?_) (λ d2 => ?_))
     . have d1 : r.2 ≠ 0 := by simpa using d1
       exact hK.err hl3 (by unfold fin; rw [if_neg d1])
     . have d1 : r.2 = 0 := by simpa using d1
       exact hK.big (l := r.1) hl3 (by unfold fin; rw [if_pos d1]) (by omega)
     . have d1 : r.2 = 0 := by simpa using d1
       exact hK.ok (l := r.1) hl3 (by unfold fin; rw [if_pos d1]) (by omega) hi'.row
    refine ⟨v.op, rfl, ?_⟩
    rw [e0]
    refine aB (λ c1 sl h' hle' hrow => ⟨⟨sc, p, v, sl⟩, s, ps, _, ks, by rw [<- e0], hrep sl h' hle' hrow, h8, beq_iff_eq.1 c1, tail h' hle'⟩) (λ c1 => ?_)
    refine aB (λ c2 sl h' hle' hrow => ⟨⟨sc, p, v, sl⟩, s, ps, _, ks, by rw [<- e0], hrep sl h' hle' hrow, h8, beq_iff_eq.1 c2, tail h' hle'⟩) (λ c2 => ?_)
    refine aB (λ c3 sl h' hle' hrow => ⟨⟨sc, p, v, sl⟩, s, ps, _, ks, by rw [<- e0], hrep sl h' hle' hrow, h8, beq_iff_eq.1 c3, tail h' hle'⟩) (λ c3 => ?_)
    refine aB (λ c4 sl h' hle' hrow => ⟨⟨sc, p, v, sl⟩, s, ps, _, ks, by rw [<- e0], hrep sl h' hle' hrow, h8, beq_iff_eq.1 c4, tail h' hle'⟩) (λ c4 => ?_)
    refine aB (λ c5 sl h' hle' hrow => ⟨⟨sc, p, v, sl⟩, s, ps, _, ks, by rw [<- e0], hrep sl h' hle' hrow, h8, beq_iff_eq.1 c5, tail h' hle'⟩) (λ c5 => ?_)
    refine aB (λ c6 sl h' hle' hrow => ⟨⟨sc, p, v, sl⟩, s, ps, _, ks, by rw [<- e0], hrep sl h' hle' hrow, h8, .inl (beq_iff_eq.1 c6), tail h' hle'⟩) (λ c6 => ?_)
    refine aB (λ c7 sl h' hle' hrow => ⟨⟨sc, p, v, sl⟩, s, ps, _, ks, by rw [<- e0], hrep sl h' hle' hrow, h8, .inr (.inl (beq_iff_eq.1 c7)), tail h' hle'⟩) (λ c7 => ?_)
    refine aB (λ c8 sl h' hle' hrow => ⟨⟨sc, p, v, sl⟩, s, ps, _, ks, by rw [<- e0], hrep sl h' hle' hrow, h8, .inr (.inr (beq_iff_eq.1 c8)), tail h' hle'⟩) (λ c8 => ?_)
    refine aB (λ c9 sl h' hle' hrow => ⟨⟨sc, p, v, sl⟩, s, ps, _, ks, by rw [<- e0], hrep sl h' hle' hrow, h8, beq_iff_eq.1 c9, tail h' hle'⟩) (λ c9 => ?_)
    refine aB (λ c10 sl h' hle' hrow => ⟨⟨sc, p, v, sl⟩, s, ps, _, ks, by rw [<- e0], hrep sl h' hle' hrow, h8, beq_iff_eq.1 c10, tail h' hle'⟩) (λ c10 => hK.err hle ?_)
    refine uJ λ e => ?_
    have : arity op = -1 := by simp only [arity]; simp only [*, Bool.or_false, Bool.false_or, Bool.or_true, Bool.true_or, Bool.and_true, Bool.true_and, Bool.and_false, Bool.false_and, Bool.not_true, Bool.not_false, Bool.false_eq_true, if_true, if_false, ↓reduceIte]
    have := e.1
    simp only [Query.op] at this
    omega
end Go.Ps
