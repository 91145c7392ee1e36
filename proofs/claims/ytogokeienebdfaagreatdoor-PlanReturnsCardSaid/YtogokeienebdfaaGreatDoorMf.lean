/-
  Part 6 of a proof that a law of the given program returns true: a condition generator that is proved sound, and contracts of functions. No condition of its own. Own work, joined by a program (pack2.py); the shelf's contracts among it as the kit's tool wrote them.
-/
import Derived.Shelf.Strconv.Itoa0
import Derived.Shelf.Strconv.Itoa1
import Derived.Shelf.LaysM
import Derived.Shelf.Strconv.Itoa2
import Derived.Shelf.Strconv.AppendUint10
import Derived.Shelf.Strconv.AppendInt10
import Derived.Shelf.Strconv.AppendIntPublic10
import Derived.Test.YtogokeienebdfaaGreatDoorProg
import Derived.Lib.ItoaLen
import Derived.Test.YtogokeienebdfaaGreatDoorMe
namespace Go.Proofs
open Go.Shelf
def Tryz.lays283_ren : Go.Shelf.Ren := ⟨fun | 283 => 140 | n => n, fun | 3 => 3 | 9 => 9 | 4 => 4 | n => n, fun | n => n⟩
theorem Tryz.lays283 : Go.Proofs.Lays.n283 Tryz.prog Tryz.lays283_ren := {
 mixed := by kernel_rfl
 f283 := Tryz.func140.trans (congrArg some (by kernel_rfl))
 t3 := Tryz.underlying3
 a3 := Tryz.isAgg3
 z3 := Tryz.sizeOf3
 v3 := Tryz.zeroValue3
 t4 := Tryz.underlying4
 a4 := Tryz.isAgg4
 z4 := Tryz.sizeOf4
 v4 := Tryz.zeroValue4
 t9 := Tryz.underlying9
 a9 := Tryz.isAgg9
 z9 := Tryz.sizeOf9
 v9 := Tryz.zeroValue9 }
open Go.Lib in
theorem Tryz.internal_strconv_small (i : Nat) (h : i < 100) (w : World) :
 Calls Tryz.prog 140 #[.int .i64 i] w fun e w' => e = .returned (.string ⟨(Lib.decDigits i).toArray⟩) ∧ w' = w := Any.internal_strconv_small Tryz.lays283 i h w
def Tryz.laysM284_ren : Go.Shelf.Ren := ⟨fun | 284 => 141 | 129 => 146 | 317 => 145 | 318 => 147 | n => n, fun | 53 => 184 | 3 => 3 | 212 => 197 | 0 => 0 | 4 => 4 | 46 => 200 | 5 => 5 | 9 => 9 | n => n, fun | 17 => 0 | n => n⟩
theorem Tryz.laysM284 : Go.Proofs.LaysM.n284 Tryz.prog Tryz.laysM284_ren := {
 mixed := by kernel_rfl
 f129 := Tryz.func146.trans (congrArg some (by kernel_rfl))
 f284 := Tryz.func141.trans (congrArg some (by kernel_rfl))
 f317 := Tryz.func145.trans (congrArg some (by kernel_rfl))
 f318 := Tryz.func147.trans (congrArg some (by kernel_rfl))
 t0 := Tryz.underlying0
 a0 := Tryz.isAgg0
 z0 := Tryz.sizeOf0
 v0 := Tryz.zeroValue0
 t3 := Tryz.underlying3
 a3 := Tryz.isAgg3
 z3 := Tryz.sizeOf3
 v3 := Tryz.zeroValue3
 t4 := Tryz.underlying4
 a4 := Tryz.isAgg4
 z4 := Tryz.sizeOf4
 v4 := Tryz.zeroValue4
 t5 := Tryz.underlying5
 a5 := Tryz.isAgg5
 z5 := Tryz.sizeOf5
 v5 := Tryz.zeroValue5
 t9 := Tryz.underlying9
 a9 := Tryz.isAgg9
 z9 := Tryz.sizeOf9
 v9 := Tryz.zeroValue9
 t46 := Tryz.underlying200
 a46 := Tryz.isAgg200
 z46 := Tryz.sizeOf200
 v46 := Tryz.zeroValue200
 t53 := Tryz.underlying184
 a53 := Tryz.isAgg184
 z53 := Tryz.sizeOf184
 v53 := Tryz.zeroValue184
 t212 := Tryz.underlying197
 a212 := Tryz.isAgg197
 z212 := Tryz.sizeOf197
 v212 := Tryz.zeroValue197
 g17 := by kernel_rfl
 i0 := by kernel_rfl
 i3 := by kernel_rfl
 i4 := by kernel_rfl
 i5 := by kernel_rfl
 i9 := by kernel_rfl
 i46 := by kernel_rfl
 i53 := by kernel_rfl
 i212 := by kernel_rfl
 m17 := by kernel_rfl }
open Go.Lib in
theorem Tryz.internal_strconv_numDigits (u : Nat) (h1 : 1 ≤ u) (h2 : u < 18446744073709551616) (w : World) (htab : Lib.TabIs Tryz.prog w "internal/strconv.uint64pow10" .u64 Lib.pow10Tab) :
 Calls Tryz.prog 141 #[.int .u64 u] w fun e w' => e = .returned (.int .i64 (Lib.nDigits u)) ∧ w' = w := Any.internal_strconv_numDigits Tryz.laysM284 u h1 h2 w htab
def Tryz.lays285_ren : Go.Shelf.Ren := ⟨fun | 285 => 142 | n => n, fun | 37 => 22 | 53 => 184 | 3 => 3 | 4 => 4 | 51 => 198 | 9 => 9 | 5 => 5 | 0 => 0 | n => n, fun | n => n⟩
theorem Tryz.lays285 : Go.Proofs.Lays.n285 Tryz.prog Tryz.lays285_ren := {
 mixed := by kernel_rfl
 f285 := Tryz.func142.trans (congrArg some (by kernel_rfl))
 t0 := Tryz.underlying0
 a0 := Tryz.isAgg0
 z0 := Tryz.sizeOf0
 v0 := Tryz.zeroValue0
 t3 := Tryz.underlying3
 a3 := Tryz.isAgg3
 z3 := Tryz.sizeOf3
 v3 := Tryz.zeroValue3
 t4 := Tryz.underlying4
 a4 := Tryz.isAgg4
 z4 := Tryz.sizeOf4
 v4 := Tryz.zeroValue4
 t5 := Tryz.underlying5
 a5 := Tryz.isAgg5
 z5 := Tryz.sizeOf5
 v5 := Tryz.zeroValue5
 t9 := Tryz.underlying9
 a9 := Tryz.isAgg9
 z9 := Tryz.sizeOf9
 v9 := Tryz.zeroValue9
 t37 := Tryz.underlying22
 a37 := Tryz.isAgg22
 z37 := Tryz.sizeOf22
 v37 := Tryz.zeroValue22
 t51 := Tryz.underlying198
 a51 := Tryz.isAgg198
 z51 := Tryz.sizeOf198
 v51 := Tryz.zeroValue198
 t53 := Tryz.underlying184
 a53 := Tryz.isAgg184
 z53 := Tryz.sizeOf184
 v53 := Tryz.zeroValue184 }
open Go.RowKit Go.Sort Go.Lib in
theorem Tryz.internal_strconv_formatBase10 (blk off cap : Nat) (u : Nat) (d : Array UInt8) (w : World) (hH : Holds (fun (b : UInt8) => Value.int .u8 (b.toNat : Int)) w blk off d) (hu : u < 10 ^ d.size) (hu64 : u < 18446744073709551616) (hsz : d.size < 4611686018427387904) :
 Calls Tryz.prog 142 #[.slice (some ⟨blk, off, none⟩) d.size cap, .int .u64 u] w fun e w' =>
  e = .returned (.tuple #[]) ∧ ∃ (n v' : Nat) (dk : Array UInt8), w' = (putRow (fun (b : UInt8) => Value.int .u8 (b.toNat : Int)) w blk off dk).drewN n ∧ FmtInv d.size u 0 v' dk := Any.internal_strconv_formatBase10 Tryz.lays285 blk off cap u d w hH hu hu64 hsz
end Go.Proofs
namespace Go.Ps
open Go Go.Vc Go.Proofs
noncomputable section
variable {K : CV → MH → PH → Prop} {m : MH} {h : PH} {s : Sch} {ps : List Int} {ts : List Step} {cb : Nat} {sc : SchV} {v : QV} {q : Query} {t : Step} {p : Pred} {l : List Int} {i : Nat} {N : Nat} {m' : MH} {h' : PH} {co : List Int} {gr : List Int} {od : List (Int × Bool)} {w : Pred} {ta : Int} {li : Int} {xs : List (List Value)} {sz : Nat} {k : Nat} {ks : List (List Int)} {rs : List Int} {r : Sl} {a : List Int} {b : Nat}
def TabM (m : MH) : Prop := ∃ T fz, T ≠ 60 ∧ T ≠ 90 ∧ m 0 = some (.cells (Lib.pow10Tab.map fun z => Value.int .u64 z).toArray T fz)
def cU (u : Nat) : CV := .val (.int .u64 u)
def DigS : Vc.Spec := fun cvs m h K => ∃ i : Nat, cvs = [cI i] ∧ i < 100 ∧ K (cStr ⟨(Lib.decDigits i).toArray⟩) m h
def NumDigS : Vc.Spec := fun cvs m h K => ∃ u : Nat, cvs = [cU u] ∧ 1 ≤ u ∧ u < 18446744073709551616 ∧ TabM m ∧ K (cI (Lib.nDigits u)) m h
def FmtS : Vc.Spec := fun cvs m h K => ∃ b cap u : Nat, ∃ (cs : Array Value) (T : TypeId), cvs = [.val (.slice (some ⟨b, 0, none⟩) (Lib.nDigits u) cap), cU u] ∧ u < 18446744073709551616 ∧ m b = some (.cells cs T (0, 0)) ∧ cs.toList = List.replicate 24 (.int .u8 0) ∧
 ∀ cs' m', cs'.size = cs.size → cs'.toList.take (Lib.nDigits u) = Lib.byteCells (Lib.decDigits u) → MUpd m m' b (.cells cs' T (0, 0)) → K (.tup []) m' h
def AppUS : Vc.Spec := fun cvs m h K => ∃ xs, ∃ u : Nat, cvs = [.lst 5 1 xs, cU u, cI 10] ∧ u < 18446744073709551616 ∧ TabM m ∧ xs.length + 30 ≤ 140737488355328 ∧ K (.lst 5 1 (xs ++ bytesVal (Lib.decDigits u))) m h
def itoaB (i : Int) : List UInt8 := if i < 0 then 45 :: Lib.decDigits (IntKind.u64.wrap (0 - IntKind.u64.wrap i)).toNat else Lib.decDigits (IntKind.u64.wrap i).toNat
def AppIS : Vc.Spec := fun cvs m h K => ∃ xs i, cvs = [.lst 5 1 xs, cI i, cI 10] ∧ TabM m ∧ xs.length + 40 ≤ 140737488355328 ∧ K (.lst 5 1 (xs ++ bytesVal (itoaB i))) m h
def f135_nice (xs : List (List Value)) (u : Nat) (m : MH) (h : PH) (K : CV → MH → PH → Prop) : Prop :=
 branch (decide ((↑u : Int) < 100)) (∃ (i : Nat), [cQi (IntKind.i64.wrap (↑u : Int))] = [cQi ↑i] /\ i < 100 /\ (xs.length + (bytesOfStr (ByteArray.mk (Array.mk (Lib.decDigits
 i)))).length) * 1 <= 140737488355328 /\ xs.length + (bytesOfStr (ByteArray.mk (Array.mk (Lib.decDigits i)))).length <= 140737488355328 /\ K (CV.lst 5 1 (xs ++ bytesOfStr
 (ByteArray.mk (Array.mk (Lib.decDigits i))))) m h) (∀ (b : Nat) (m' : MH), Unheld m h b -> MUpd m m' b (Obj.cells (Array.mk [Value.int IntKind.u8 0, Value.int IntKind.u8 0,
 Value.int IntKind.u8 0, Value.int IntKind.u8 0, Value.int IntKind.u8 0, Value.int IntKind.u8 0, Value.int IntKind.u8 0, Value.int IntKind.u8 0, Value.int IntKind.u8 0, Value.int
 IntKind.u8 0, Value.int IntKind.u8 0, Value.int IntKind.u8 0, Value.int IntKind.u8 0, Value.int IntKind.u8 0, Value.int IntKind.u8 0, Value.int IntKind.u8 0, Value.int IntKind.u8
 0, Value.int IntKind.u8 0, Value.int IntKind.u8 0, Value.int IntKind.u8 0, Value.int IntKind.u8 0, Value.int IntKind.u8 0, Value.int IntKind.u8 0, Value.int IntKind.u8 0]) 190) ->
 ∃ (u_1 : Nat), [CV.val (Value.int IntKind.u64 (↑u : Int))] = [CV.val (Value.int IntKind.u64 (↑u_1 : Int))] /\ 1 <= u_1 /\ u_1 < 18446744073709551616 /\ TabM m' /\ 0 <=
 (↑(Lib.nDigits u_1) : Int) /\ (↑(Lib.nDigits u_1) : Int) <= 24 /\ ∃ (b_1 cap : Nat) (u_2 : Nat), ∃ (cs : Array Value) (T : TypeId), [CV.val (Value.slice (some (Addr.mk b 0 none))
 (↑(Lib.nDigits u_1) : Int).toNat 24), CV.val (Value.int IntKind.u64 (↑u : Int))] = [CV.val (Value.slice (some (Addr.mk b_1 0 none)) (Lib.nDigits u_2) cap), CV.val (Value.int
 IntKind.u64 (↑u_2 : Int))] /\ u_2 < 18446744073709551616 /\ m' b_1 = some (Obj.cells cs T) /\ cs.toList = [Value.int IntKind.u8 0, Value.int IntKind.u8 0, Value.int IntKind.u8 0,
 Value.int IntKind.u8 0, Value.int IntKind.u8 0, Value.int IntKind.u8 0, Value.int IntKind.u8 0, Value.int IntKind.u8 0, Value.int IntKind.u8 0, Value.int IntKind.u8 0, Value.int
 IntKind.u8 0, Value.int IntKind.u8 0, Value.int IntKind.u8 0, Value.int IntKind.u8 0, Value.int IntKind.u8 0, Value.int IntKind.u8 0, Value.int IntKind.u8 0, Value.int IntKind.u8
 0, Value.int IntKind.u8 0, Value.int IntKind.u8 0, Value.int IntKind.u8 0, Value.int IntKind.u8 0, Value.int IntKind.u8 0, Value.int IntKind.u8 0] /\ ∀ (cs' : Array Value) (m'_1 :
 MH), cs'.size = cs.size -> List.take (Lib.nDigits u_2) cs'.toList = Lib.byteCells (Lib.decDigits u_2) -> MUpd m' m'_1 b_1 (Obj.cells cs' T) -> 0 <= (↑(Lib.nDigits u_1) : Int) /\
 (↑(Lib.nDigits u_1) : Int) <= 24 /\ ∃ (ys : List (List Value)), RowsOk 1 ys /\ SrcIn m'_1 h (Sl.mk (some (Addr.mk b 0 none)) (↑(Lib.nDigits u_1) : Int).toNat 24) 1 ys /\ (xs.length
 + ys.length) * 1 <= 140737488355328 /\ xs.length + ys.length <= 140737488355328 /\ K (CV.lst 5 1 (xs ++ ys)) m'_1 h)
theorem f135_vc (xs : List (List Value)) (u : Nat) (m : MH) (h : PH) (K : CV → MH → PH → Prop) : f135_nice xs u m h K = (fnVC (ctx4 [(140, DigS), (141, NumDigS), (142, FmtS)] [] [] [] [190] [] true) Tryz.f135 (bodyOf Tryz.f135) (entry Tryz.f135.ntmps [.lst 5 1 xs, cU u, cI 10] m h) K) := by kernel_rfl
def f130_nice (xs : List (List Value)) (i : Int) (m : MH) (h : PH) (K : CV → MH → PH → Prop) : Prop :=
 branch (decide (i < 0)) ((xs.length + 1) * 1 <= 140737488355328 /\ xs.length < 140737488355328 /\ ∃ (xs_1 : List (List Value)) (u : Nat), [CV.lst 5 1 (xs ++ [[Value.int IntKind.u8
 45]]), CV.val (Value.int IntKind.u64 (IntKind.u64.wrap (0 - IntKind.u64.wrap i))), cQi 10] = [CV.lst 5 1 xs_1, CV.val (Value.int IntKind.u64 (↑u : Int)), cQi 10] /\ u <
 18446744073709551616 /\ TabM m /\ xs_1.length + 30 <= 140737488355328 /\ K (CV.lst 5 1 (xs_1 ++ bytesVal (Lib.decDigits u))) m h) (∃ (xs_1 : List (List Value)) (u : Nat), [CV.lst 5
 1 xs, CV.val (Value.int IntKind.u64 (IntKind.u64.wrap i)), cQi 10] = [CV.lst 5 1 xs_1, CV.val (Value.int IntKind.u64 (↑u : Int)), cQi 10] /\ u < 18446744073709551616 /\ TabM m /\
 xs_1.length + 30 <= 140737488355328 /\ K (CV.lst 5 1 (xs_1 ++ bytesVal (Lib.decDigits u))) m h)
theorem f130_vc (xs : List (List Value)) (i : Int) (m : MH) (h : PH) (K : CV → MH → PH → Prop) : f130_nice xs i m h K = (fnVC (ctx4 [(135, AppUS)] [] [] [] [] [(135, [0])] true) Tryz.f130 (bodyOf Tryz.f130) (entry Tryz.f130.ntmps [.lst 5 1 xs, cI i, cI 10] m h) K) := by kernel_rfl
def f120_nice (xs : List (List Value)) (i : Int) (m : MH) (h : PH) (K : CV → MH → PH → Prop) : Prop :=
 ∃ (xs_1 : List (List Value)) (i_1 : Int), [CV.lst 5 1 xs, cQi i, cQi 10] = [CV.lst 5 1 xs_1, cQi i_1, cQi 10] /\ TabM m /\ xs_1.length + 40 <= 140737488355328 /\ K (CV.lst 5 1
 (xs_1 ++ bytesVal (itoaB i_1))) m h
theorem f120_vc (xs : List (List Value)) (i : Int) (m : MH) (h : PH) (K : CV → MH → PH → Prop) : f120_nice xs i m h K = (fnVC (ctx4 [(130, AppIS)] [] [] [] [] [(130, [0])] true) Tryz.f120 (bodyOf Tryz.f120) (entry Tryz.f120.ntmps [.lst 5 1 xs, cI i, cI 10] m h) K) := by kernel_rfl
theorem TabM.sub (h : TabM m) (hs : Sub m m') : TabM m' := by
 obtain ⟨T, fz, n1, n2, e⟩ := h
 exact ⟨T, fz, n1, n2, hs 0 _ e⟩
theorem wrel_same {w : World} {cvs : List CV} {vs : List Value} (hp : CallPre w m h cvs vs) : WRel ⟨w, Moved m cvs vs, h, []⟩ m h w :=
 ⟨rfl, rfl, rfl, Nat.le_refl _, fun _ _ _ => rfl, hp.hsat, hp.msat, hp.disj, fun _ _ _ e => e, fun _ _ _ => rfl, fun b o hb => .inr (.inl (by rw [show m b = some o from hb]; simp))⟩
theorem f140_sound : Sound Tryz.prog 140 DigS := by
 refine ⟨⟨Tryz.f140, Tryz.func140, rfl, by decide⟩, ?_⟩
 rintro cvs vs m h w K ⟨i, rfl, hi, hK⟩ hp
 obtain ⟨v, rfl⟩ : ∃ v, vs = [v] := by
  have := (argsOk_get hp.args).1
  match vs, this with
  | [v], _ => exact ⟨v, rfl⟩
 have hv : v = .int .i64 i := hp.args.1
 subst hv
 refine (Tryz.internal_strconv_small i hi w).mono ?_
 rintro e w' ⟨rfl, rfl⟩
 exact ⟨_, _, m, h, rfl, hK, rfl, wrel_same hp, fun b hb => by simp [cStr, cvBlk] at hb⟩
theorem f141_sound : Sound Tryz.prog 141 NumDigS := by
 refine ⟨⟨Tryz.f141, Tryz.func141, rfl, by decide⟩, ?_⟩
 rintro cvs vs m h w K ⟨u, rfl, h1, h2, ⟨T, fz, _, _, ht⟩, hK⟩ hp
 obtain ⟨v, rfl⟩ : ∃ v, vs = [v] := by
  have := (argsOk_get hp.args).1
  match vs, this with
  | [v], _ => exact ⟨v, rfl⟩
 have hv : v = .int .u64 u := hp.args.1
 subst hv
 have hg := hp.msat 0 _ ht
 refine (Tryz.internal_strconv_numDigits u h1 h2 w ?_).mono ?_
 · unfold Lib.TabIs World.var?
   rw [show Tryz.prog.globalNamed _ = some 0 by kernel_rfl]
   simp only [Option.bind_some, hg]
 · rintro e w' ⟨rfl, rfl⟩
   exact ⟨_, _, m, h, rfl, hK, rfl, wrel_same hp, fun b hb => by simp [cI, cvBlk] at hb⟩
theorem f142_sound : Sound Tryz.prog 142 FmtS := by
 refine ⟨⟨Tryz.f142, Tryz.func142, rfl, by decide⟩, ?_⟩
 rintro cvs vs m h w K ⟨b, cap, u, cs, T, rfl, hu, hb, hcs, hK⟩ hp
 obtain ⟨v, v2, rfl⟩ : ∃ v v2, vs = [v, v2] := by
  have := (argsOk_get hp.args).1
  match vs, this with
  | [v, v2], _ => exact ⟨v, v2, rfl⟩
 have hv : v = .slice (some ⟨b, 0, none⟩) (Lib.nDigits u) cap := hp.args.1
 have hv2 : v2 = .int .u64 u := hp.args.2.1
 subst hv hv2
 have hg := hp.msat b _ hb
 have h20 := Lib.nDigits_le20 u hu
 have hsz : cs.size = 24 := by rw [← Array.length_toList, hcs]; simp
 have hH : Sort.Holds (fun (b : UInt8) => Value.int .u8 (b.toNat : Int)) w b 0 (Array.replicate (Lib.nDigits u) (0 : UInt8)) := by
  intro j hj
  simp only [Array.size_replicate] at hj
  refine ⟨?_, ?_⟩
  · rw [cell_of_heap hg, hcs, List.getElem?_replicate, if_pos (by omega)]
    rw [getElem!_pos _ j (by simpa using hj)]
    simp
  · unfold World.frozen?
    rw [hg]
    simp
 have hc := Tryz.internal_strconv_formatBase10 b 0 cap u (Array.replicate (Lib.nDigits u) (0 : UInt8)) w hH (by simpa using Lib.lt_pow_nDigits u) hu (by simp; omega)
 rw [Array.size_replicate] at hc
 refine hc.mono ?_
 rintro e w' ⟨rfl, n, v', dk, rfl, hf⟩
 have hds : dk.size = Lib.nDigits u := hf.size
 obtain ⟨m', hm'⟩ : ∃ m', MUpd m m' b (.cells (Sort.putCells (fun (b : UInt8) => Value.int .u8 (b.toNat : Int)) 0 dk cs) T (0, 0)) := ⟨fun b' => if b' = b then some (.cells (Sort.putCells (fun (b : UInt8) => Value.int .u8 (b.toNat : Int)) 0 dk cs) T (0, 0)) else m b', by simp, fun b' hb' => by simp [hb']⟩
 have hnew : (Sort.putRow (fun (b : UInt8) => Value.int .u8 (b.toNat : Int)) w b 0 dk).heap[b]? = some (.cells (Sort.putCells (fun (b : UInt8) => Value.int .u8 (b.toNat : Int)) 0 dk cs) T (0, 0)) := by
  unfold Sort.putRow Sort.mapBlock
  simp only [Array.getElem?_modify, if_true, hg]
  rfl
 have hold : ∀ b', b' ≠ b → (Sort.putRow (fun (b : UInt8) => Value.int .u8 (b.toNat : Int)) w b 0 dk).heap[b']? = w.heap[b']? := fun b' hb' => by
  unfold Sort.putRow Sort.mapBlock
  simp only [Array.getElem?_modify, if_neg (Ne.symm hb')]
 refine ⟨.tup [], .tuple #[], m', h, rfl, hK _ m' ?_ ?_ hm', ⟨#[], rfl, rfl⟩, ?_, fun b hb => by simp [cvBlk] at hb⟩
 · simp [Sort.putCells]
 · apply List.ext_getElem?
   intro j
   rw [List.getElem?_take]
   have hl : (Lib.byteCells (Lib.decDigits u)).length = Lib.nDigits u := by rw [Lib.byteCells_length, Lib.decDigits_length]
   by_cases hj : j < Lib.nDigits u
   · rw [if_pos hj, Array.getElem?_toList]
     have hj2 : j < (Lib.decDigits u).length := by rw [Lib.decDigits_length]; exact hj
     have hcsj : j < cs.size := by omega
     simp only [Sort.putCells, Array.getElem?_mapIdx, Array.getElem?_eq_getElem hcsj, Option.map_some, Nat.zero_le, Nat.zero_add, Nat.sub_zero, true_and]
     rw [if_pos (by omega), Lib.byteCells, List.getElem?_map, List.getElem?_eq_getElem hj2, Lib.row_is_numeral hf j hj2]
     rfl
   · rw [if_neg hj, List.getElem?_eq_none (by omega)]
 · have hmb : ∀ b' o, m' b' = some o → b' = b ∨ m b' = some o := fun b' o hb' => by
    by_cases e : b' = b
    · exact .inl e
    · rw [hm'.other b' e] at hb'; exact .inr hb'
   have hE : Moved m [.val (.slice (some ⟨b, 0, none⟩) (Lib.nDigits u) cap), cU u] [.slice (some ⟨b, 0, none⟩) (Lib.nDigits u) cap, .int .u64 u] b := .inl (by rw [hb]; simp)
   refine ⟨rfl, rfl, rfl, by simp [Sort.putRow, Sort.mapBlock], ?_, ?_, ?_, ?_, fun _ _ _ e => e, fun _ _ _ => rfl, ?_⟩
   · intro b' _ hn
     exact hold b' (fun e => hn (e ▸ hE))
   · intro b' o x hx
     have hne : b' ≠ b := fun e => by rw [e, hp.disj b _ hb o] at hx; cases hx
     show (Sort.putRow (fun (b : UInt8) => Value.int .u8 (b.toNat : Int)) w b 0 dk).cell? ⟨b', o, none⟩ = some x
     rw [World.cell?_of_block (w := w) (a := ⟨b', o, none⟩) (hold b' hne)]
     exact hp.hsat b' o x hx
   · intro b' o hb'
     by_cases e : b' = b
     · subst e; rw [hm'.at_] at hb'; cases hb'; exact hnew
     · rw [hm'.other b' e] at hb'
       rw [show ((Sort.putRow (fun (b : UInt8) => Value.int .u8 (b.toNat : Int)) w b 0 dk).drewN n).heap[b']? = _ from hold b' e]
       exact hp.msat b' o hb'
   · intro b' o hb' j
     rcases hmb b' o hb' with rfl | h1
     · exact hp.disj b' _ hb j
     · exact hp.disj b' _ h1 j
   · intro b' o hb'
     rcases hmb b' o hb' with rfl | h1
     · exact .inr hE
     · exact .inr (.inl (by rw [h1]; simp))
theorem bytesOf_dig (l : List UInt8) : bytesOfStr ⟨l.toArray⟩ = bytesVal l := by simp [bytesOfStr, bytesVal]
theorem bytesVal_flatten (l : List UInt8) : (bytesVal l).flatten = Lib.byteCells l := by
 unfold bytesVal Lib.byteCells
 induction l with
 | nil => rfl
 | cons b r ih => simp [ih]
theorem bytesVal_length (l : List UInt8) : (bytesVal l).length = l.length := by simp [bytesVal]
theorem f135_ok {u : Nat} (hu : u < 18446744073709551616) (ht : TabM m) (hl : xs.length + 30 ≤ 140737488355328) (hK : K (.lst 5 1 (xs ++ bytesVal (Lib.decDigits u))) m h) : f135_nice xs u m h (Weak h K) := by
 have h20 := Lib.nDigits_le20 u hu
 have hdl := Lib.decDigits_length u
 refine branch_dec (fun h1 => ⟨u, ?_, by omega, ?_, ?_, ?_⟩) (fun h1 b m1 hb hm1 => ?_)
 · rw [wrap_id (by omega) (by omega)]
 · rw [bytesOf_dig, bytesVal_length]; omega
 · rw [bytesOf_dig, bytesVal_length]; omega
 · rw [bytesOf_dig]; exact .here hK
 · have hs1 : Sub m m1 := (Sub.refl m).upd hb.m_ hm1.other
   refine ⟨u, rfl, by omega, hu, ht.sub hs1, by omega, by omega, b, 24, u, _, _, by rw [Int.toNat_natCast], hu, hm1.at_, rfl, fun cs' m2 hsz htake hm2 => ⟨by omega, by omega, bytesVal (Lib.decDigits u), rowsOk_bytes _, ?_, ?_, ?_, ?_⟩⟩
   · refine .lent b 0 cs' 190 (0, 0) rfl ?_ hm2.at_ ?_
     · rw [Int.toNat_natCast, bytesVal_length, hdl]
     · rw [bytesVal_flatten, Lib.byteCells_length, hdl, List.drop_zero]; exact htake
   · rw [bytesVal_length]; omega
   · rw [bytesVal_length]; omega
   · exact .sub (hs1.upd hb.m_ hm2.other) hK
theorem f135_sound : Sound Tryz.prog 135 AppUS := by
 refine fn_sound' (fn := Tryz.f135) (c := bodyOf Tryz.f135) Tryz.func135 rfl (by decide) ?_
 rintro cvs m h K ⟨xs, u, rfl, hu, ht, hl, hK⟩
 refine ⟨ctx4 [(140, DigS), (141, NumDigS), (142, FmtS)] [] [] [] [190] [] true, rfl, specs_cons f140_sound (specs_cons f141_sound (specs_cons f142_sound specs_nil)), ?_⟩
 rw [← f135_vc xs u m h _]
 exact f135_ok hu ht hl hK
theorem wrapU (i : Int) : 0 ≤ IntKind.u64.wrap i ∧ IntKind.u64.wrap i < 18446744073709551616 := by
 simp only [IntKind.wrap, IntKind.bits, IntKind.signed]
 simp
 omega
theorem itoaB_len (i : Int) : (itoaB i).length ≤ 21 := by
 have key : ∀ n : Int, (Lib.decDigits (IntKind.u64.wrap n).toNat).length ≤ 20 := fun n => by
  rw [Lib.decDigits_length]
  exact Lib.nDigits_le20 _ (by have := wrapU n; omega)
 unfold itoaB
 split
 · have := key (0 - IntKind.u64.wrap i); simp only [List.length_cons]; omega
 · have := key i; omega
theorem f130_ok {i : Int} (ht : TabM m) (hl : xs.length + 40 ≤ 140737488355328) (hK : K (.lst 5 1 (xs ++ bytesVal (itoaB i))) m h) : f130_nice xs i m h K := by
 have h1 := wrapU i
 have h2 := wrapU (0 - IntKind.u64.wrap i)
 refine branch_dec (fun hn => ⟨by omega, by omega, xs ++ [[.int .u8 45]], (IntKind.u64.wrap (0 - IntKind.u64.wrap i)).toNat, ?_, by omega, ht, by simp; omega, ?_⟩) (fun hn => ⟨xs, (IntKind.u64.wrap i).toNat, ?_, by omega, ht, by omega, ?_⟩)
 · rw [show (((IntKind.u64.wrap (0 - IntKind.u64.wrap i)).toNat : Nat) : Int) = IntKind.u64.wrap (0 - IntKind.u64.wrap i) by omega]
 · have : itoaB i = 45 :: Lib.decDigits (IntKind.u64.wrap (0 - IntKind.u64.wrap i)).toNat := by unfold itoaB; rw [if_pos hn]
   rw [this] at hK
   rw [List.append_assoc]
   exact hK
 · rw [show (((IntKind.u64.wrap i).toNat : Nat) : Int) = IntKind.u64.wrap i by omega]
 · have : itoaB i = Lib.decDigits (IntKind.u64.wrap i).toNat := by unfold itoaB; rw [if_neg hn]
   rw [this] at hK
   exact hK
theorem f130_sound : Sound Tryz.prog 130 AppIS := by
 refine fn_sound (fn := Tryz.f130) (c := bodyOf Tryz.f130) Tryz.func130 rfl (by decide) ?_
 rintro cvs m h K ⟨xs, i, rfl, ht, hl, hK⟩
 refine ⟨ctx4 [(135, AppUS)] [] [] [] [] [(135, [0])] true, rfl, specs_cons f135_sound specs_nil, ?_⟩
 rw [← f130_vc xs i m h K]
 exact f130_ok ht hl hK
theorem f120_sound : Sound Tryz.prog 120 AppIS := by
 refine fn_sound (fn := Tryz.f120) (c := bodyOf Tryz.f120) Tryz.func120 rfl (by decide) ?_
 rintro cvs m h K ⟨xs, i, rfl, ht, hl, hK⟩
 refine ⟨ctx4 [(130, AppIS)] [] [] [] [] [(130, [0])] true, rfl, specs_cons f130_sound specs_nil, ?_⟩
 rw [← f120_vc xs i m h K]
 exact ⟨xs, i, rfl, ht, hl, hK⟩
def numB (l : List Int) : List UInt8 := l.flatMap fun n => itoaB n ++ [32]
def cellB (v : VV) : List UInt8 := numB [v.kind] ++ (itoaB v.int ++ [32]) ++ numB [(v.text.size : Int)] ++ v.text.data.toList
def opdB (o : OV) : List UInt8 := numB [o.kind, o.index] ++ cellB o.value
mutual
def predB : Pred → List UInt8
 | .mk op cmp l r args => numB [op, cmp] ++ opdB l ++ opdB r ++ numB [(args.length : Int)] ++ predBs args
def predBs : List Pred → List UInt8
 | [] => []
 | p :: ps => predB p ++ predBs ps
end
theorem numB_len : ∀ l : List Int, (numB l).length ≤ 22 * l.length
 | [] => by simp [numB]
 | n :: l => by
  have := numB_len l
  have h2 := itoaB_len n
  unfold numB at this ⊢
  simp only [List.flatMap_cons, List.length_append, List.length_cons, List.length_nil]
  omega
def AppNS : Vc.Spec := fun cvs m h K => ∃ xs s l, cvs = [.lst 5 1 xs, cS s] ∧ Ints h s l ∧ TabM m ∧ xs.length + 22 * l.length + 100 ≤ 140737488355328 ∧ K (.lst 5 1 (xs ++ bytesVal (numB l))) m h
def AppCS : Vc.Spec := fun cvs m h K => ∃ xs v, cvs = [.lst 5 1 xs, aV v] ∧ TabM m ∧ xs.length + v.text.size + 500 ≤ 140737488355328 ∧ K (.lst 5 1 (xs ++ bytesVal (cellB v))) m h
def AppOS : Vc.Spec := fun cvs m h K => ∃ xs o, cvs = [.lst 5 1 xs, aO o] ∧ TabM m ∧ xs.length + o.value.text.size + 1000 ≤ 140737488355328 ∧ K (.lst 5 1 (xs ++ bytesVal (opdB o))) m h
def AppPS (N : Nat) : Vc.Spec := fun cvs m h K => ∃ xs v p, cvs = [.lst 5 1 xs, aP v] ∧ RepP h p v ∧ SizeOf.sizeOf p < N ∧ TabM m ∧ xs.length + (predB p).length + 5000 ≤ 140737488355328 ∧ K (.lst 5 1 (xs ++ bytesVal (predB p))) m h
def AppPA : Vc.Spec := fun cvs m h K => ∃ xs v p, cvs = [.lst 5 1 xs, aP v] ∧ RepP h p v ∧ TabM m ∧ xs.length + (predB p).length + 5000 ≤ 140737488355328 ∧ K (.lst 5 1 (xs ++ bytesVal (predB p))) m h
def f93_ctx (s : Sl) (m : MH) (h : PH) : Ctx :=
 ctx2 [(120, AppIS)] [(2, { A := Nat × List (List Value), st := fun ⟨i, xs⟩ => mkSt 21 23 [(0, .at (.lst 21)), (7, sv s), (8, iv s.len), (9, iv i)] [(21, .lst 5 1 xs)] m h })] [] [(120, [0])] true
def f94_ctx (N : Nat) (v : PV) (m : MH) : Ctx :=
 ctx2 [(93, AppNS), (121, AppOS), (94, AppPS N)] [(6, { A := Nat × List (List Value) × PH, st := fun ⟨i, xs, h⟩ => mkSt 40 42 [(0, .at (.lst 40)), (29, sv v.args), (30, iv v.args.len), (31, iv i)] [(40, .lst 5 1 xs)] m h })] [] [(93, [0]), (121, [0]), (94, [0])] true
def f93_nice (xs : List (List Value)) (s : Sl) (m : MH) (h : PH) (K : CV → MH → PH → Prop) : Prop :=
 ∃ (I : Nat × List (List Value) -> Prop) (mu : Nat × List (List Value) -> Nat), (∃ (x : Nat × List (List Value)), I x /\ eL 21 /\ eQ (sQs s) /\ eQ (sQi ↑s.len) /\ sQi 0 = sQi ↑x.1
 /\ some (Own.lst 5 1 xs) = some (Own.lst 5 1 x.2) /\ m = m /\ h = h /\ True) /\ ∀ (x : Nat × List (List Value)), I x -> branch (decide ((↑x.1 : Int) < ↑s.len)) (∃ (b off : Nat),
 s.a = some (Addr.mk b off none) /\ 0 <= (↑x.1 : Int) /\ (↑x.1 : Int) < ↑s.len /\ ∃ (y : Int), RdAt m h b (off + (↑x.1 : Int).toNat * 1) [vQi y] /\ ∃ (xs : List (List Value)) (i :
 Int), [CV.lst 5 1 x.2, cQi y, cQi 10] = [CV.lst 5 1 xs, cQi i, cQi 10] /\ TabM m /\ xs.length + 40 <= 140737488355328 /\ ((xs ++ bytesVal (itoaB i)).length + 1) * 1 <=
 140737488355328 /\ (xs ++ bytesVal (itoaB i)).length < 140737488355328 /\ ∃ (x_1 : Nat × List (List Value)), I x_1 /\ mu x_1 < mu x /\ eL 21 /\ eQ (sQs s) /\ eQ (sQi ↑s.len) /\ sQi
 (IntKind.i64.wrap ((↑x.1 : Int) + 1)) = sQi ↑x_1.1 /\ some (Own.lst 5 1 (xs ++ bytesVal (itoaB i) ++ [[Value.int IntKind.u8 32]])) = some (Own.lst 5 1 x_1.2) /\ m = m /\ h = h /\
 True) (K (CV.lst 5 1 x.2) m h)
theorem f93_vc (xs : List (List Value)) (s : Sl) (m : MH) (h : PH) (K : CV → MH → PH → Prop) : f93_nice xs s m h K = (fnVC (f93_ctx s m h) Tryz.f93 (bodyOf Tryz.f93) (entry Tryz.f93.ntmps [.lst 5 1 xs, cS s] m h) K) := by kernel_rfl
def f131_nice (xs : List (List Value)) (v : VV) (m : MH) (h : PH) (K : CV → MH → PH → Prop) : Prop :=
 ∀ (s : Sl) (h' : PH), h.le h' -> RowIn h' s 1 [[vQi v.kind]] -> ∃ (xs_1 : List (List Value)) (s_1 : Sl) (l : List Int), [CV.lst 5 1 xs, cQs s] = [CV.lst 5 1 xs_1, cQs s_1] /\ Ints
 h' s_1 l /\ TabM m /\ xs_1.length + 22 * l.length + 100 <= 140737488355328 /\ ∃ (xs : List (List Value)) (i : Int), [CV.lst 5 1 (xs_1 ++ bytesVal (numB l)), cQi v.int, cQi 10] =
 [CV.lst 5 1 xs, cQi i, cQi 10] /\ TabM m /\ xs.length + 40 <= 140737488355328 /\ ((xs ++ bytesVal (itoaB i)).length + 1) * 1 <= 140737488355328 /\ (xs ++ bytesVal (itoaB i)).length
 < 140737488355328 /\ ∀ (s : Sl) (h'_1 : PH), h'.le h'_1 -> RowIn h'_1 s 1 [[vQi ↑v.text.size]] -> ∃ (xs_2 : List (List Value)) (s_2 : Sl) (l : List Int), [CV.lst 5 1 (xs ++
 bytesVal (itoaB i) ++ [[Value.int IntKind.u8 32]]), cQs s] = [CV.lst 5 1 xs_2, cQs s_2] /\ Ints h'_1 s_2 l /\ TabM m /\ xs_2.length + 22 * l.length + 100 <= 140737488355328 /\
 ((xs_2 ++ bytesVal (numB l)).length + (bytesOfStr v.text).length) * 1 <= 140737488355328 /\ (xs_2 ++ bytesVal (numB l)).length + (bytesOfStr v.text).length <= 140737488355328 /\ K
 (CV.lst 5 1 (xs_2 ++ bytesVal (numB l) ++ bytesOfStr v.text)) m h'_1
theorem f131_vc (xs : List (List Value)) (v : VV) (m : MH) (h : PH) (K : CV → MH → PH → Prop) : f131_nice xs v m h K = (fnVC (ctx2 [(93, AppNS), (120, AppIS)] [] [] [(93, [0]), (120, [0])] true) Tryz.f131 (bodyOf Tryz.f131) (entry Tryz.f131.ntmps [.lst 5 1 xs, aV v] m h) K) := by kernel_rfl
def f121_nice (xs : List (List Value)) (o : OV) (m : MH) (h : PH) (K : CV → MH → PH → Prop) : Prop :=
 ∀ (s : Sl) (h' : PH), h.le h' -> RowIn h' s 1 [[vQi o.kind], [vQi o.index]] -> ∃ (xs_1 : List (List Value)) (s_1 : Sl) (l : List Int), [CV.lst 5 1 xs, cQs s] = [CV.lst 5 1 xs_1,
 cQs s_1] /\ Ints h' s_1 l /\ TabM m /\ xs_1.length + 22 * l.length + 100 <= 140737488355328 /\ ∃ (xs : List (List Value)) (v : VV), [CV.lst 5 1 (xs_1 ++ bytesVal (numB l)), cQa
 (VV.enc o.value)] = [CV.lst 5 1 xs, cQa (VV.enc v)] /\ TabM m /\ xs.length + v.text.size + 500 <= 140737488355328 /\ K (CV.lst 5 1 (xs ++ bytesVal (cellB v))) m h'
theorem f121_vc (xs : List (List Value)) (o : OV) (m : MH) (h : PH) (K : CV → MH → PH → Prop) : f121_nice xs o m h K = (fnVC (ctx2 [(93, AppNS), (131, AppCS)] [] [] [(93, [0]), (131, [0])] true) Tryz.f121 (bodyOf Tryz.f121) (entry Tryz.f121.ntmps [.lst 5 1 xs, aO o] m h) K) := by kernel_rfl
def f94_nice (N : Nat) (xs : List (List Value)) (v : PV) (m : MH) (h : PH) (K : CV → MH → PH → Prop) : Prop :=
 ∀ (s : Sl) (h' : PH), h.le h' -> RowIn h' s 1 [[vQi v.op], [vQi v.cmp]] -> ∃ (xs_1 : List (List Value)) (s_1 : Sl) (l : List Int), [CV.lst 5 1 xs, cQs s] = [CV.lst 5 1 xs_1, cQs
 s_1] /\ Ints h' s_1 l /\ TabM m /\ xs_1.length + 22 * l.length + 100 <= 140737488355328 /\ ∃ (xs : List (List Value)) (o : OV), [CV.lst 5 1 (xs_1 ++ bytesVal (numB l)), cQa (OV.enc
 v.left)] = [CV.lst 5 1 xs, cQa (OV.enc o)] /\ TabM m /\ xs.length + o.value.text.size + 1000 <= 140737488355328 /\ ∃ (xs_2 : List (List Value)) (o_1 : OV), [CV.lst 5 1 (xs ++
 bytesVal (opdB o)), cQa (OV.enc v.right)] = [CV.lst 5 1 xs_2, cQa (OV.enc o_1)] /\ TabM m /\ xs_2.length + o_1.value.text.size + 1000 <= 140737488355328 /\ ∀ (s : Sl) (h'_1 : PH),
 h'.le h'_1 -> RowIn h'_1 s 1 [[vQi ↑v.args.len]] -> ∃ (xs : List (List Value)) (s_2 : Sl) (l : List Int), [CV.lst 5 1 (xs_2 ++ bytesVal (opdB o_1)), cQs s] = [CV.lst 5 1 xs, cQs
 s_2] /\ Ints h'_1 s_2 l /\ TabM m /\ xs.length + 22 * l.length + 100 <= 140737488355328 /\ ∃ (I : Nat × List (List Value) × PH -> Prop) (mu : Nat × List (List Value) × PH -> Nat),
 (∃ (x : Nat × List (List Value) × PH), I x /\ eL 40 /\ eQ (sQs v.args) /\ eQ (sQi ↑v.args.len) /\ sQi 0 = sQi ↑x.1 /\ some (Own.lst 5 1 (xs ++ bytesVal (numB l))) = some (Own.lst 5
 1 x.2.1) /\ m = m /\ h'_1 = x.2.2 /\ True) /\ ∀ (x : Nat × List (List Value) × PH), I x -> branch (decide ((↑x.1 : Int) < ↑v.args.len)) (∃ (b off : Nat), v.args.a = some (Addr.mk b
 off none) /\ 0 <= (↑x.1 : Int) /\ (↑x.1 : Int) < ↑v.args.len /\ ∃ (y : PV), RdAt m x.2.2 b (off + (↑x.1 : Int).toNat * 13) (PV.enc y) /\ ∃ (xs : List (List Value)) (v_1 : PV) (p :
 Pred), [CV.lst 5 1 x.2.1, cQa (PV.enc y)] = [CV.lst 5 1 xs, cQa (PV.enc v_1)] /\ RepP x.2.2 p v_1 /\ SizeOf.sizeOf p < N /\ TabM m /\ xs.length + (predB p).length + 5000 <=
 140737488355328 /\ ∃ (x_1 : Nat × List (List Value) × PH), I x_1 /\ mu x_1 < mu x /\ eL 40 /\ eQ (sQs v.args) /\ eQ (sQi ↑v.args.len) /\ sQi (IntKind.i64.wrap ((↑x.1 : Int) + 1)) =
 sQi ↑x_1.1 /\ some (Own.lst 5 1 (xs ++ bytesVal (predB p))) = some (Own.lst 5 1 x_1.2.1) /\ m = m /\ x.2.2 = x_1.2.2 /\ True) (K (CV.lst 5 1 x.2.1) m x.2.2)
theorem f94_vc (N : Nat) (xs : List (List Value)) (v : PV) (m : MH) (h : PH) (K : CV → MH → PH → Prop) : f94_nice N xs v m h K = (fnVC (f94_ctx N v m) Tryz.f94 (bodyOf Tryz.f94) (entry Tryz.f94.ntmps [.lst 5 1 xs, aP v] m h) K) := by kernel_rfl
theorem bytesVal_append (a b : List UInt8) : bytesVal (a ++ b) = bytesVal a ++ bytesVal b := by simp [bytesVal]
theorem Ints.ofRow {s : Sl} (r : RowIn h s 1 (l.map eI)) (hl : l.length ≤ 17592186044416) : Ints h s l := ⟨r, hl⟩
theorem numB_snoc {x : Int} (hx : l[i]? = some x) : numB (l.take (i + 1)) = numB (l.take i) ++ itoaB x ++ [32] := by
 rw [List.take_add_one, hx]
 simp [numB]
theorem f93_ok {s : Sl} (hs : Ints h s l) (ht : TabM m) (hl : xs.length + 22 * l.length + 100 ≤ 140737488355328) (hK : K (.lst 5 1 (xs ++ bytesVal (numB l))) m h) : f93_nice xs s m h K := by
 have hsl := hs.slen
 refine ⟨fun ⟨i, ys⟩ => i ≤ l.length ∧ ys = xs ++ bytesVal (numB (l.take i)), fun ⟨i, _⟩ => l.length - i, ⟨(0, xs), ⟨by omega, by simp [numB, bytesVal]⟩, MT⟩, ?_⟩
 rintro ⟨i, ys⟩ ⟨hi, rfl⟩
 dsimp only
 refine branch_dec (fun hlt => ?_) (fun hge => ?_)
 · obtain ⟨x, hx⟩ := getx hsl hlt
   obtain ⟨b, o, e, r⟩ := hs.at' hx
   have h1 := numB_len (l.take i)
   have h2 := itoaB_len x
   have h3 : (l.take i).length = i := by simp; omega
   refine ⟨b, o, e, by omega, hlt, x, .imm r, _, x, rfl, ht, ?_, ?_, ?_, (i + 1, xs ++ bytesVal (numB (l.take (i + 1)))), ⟨by omega, rfl⟩, by show l.length - (i + 1) < l.length - i; omega, ?_⟩
   · rw [List.length_append, bytesVal_length]; omega
   · rw [List.length_append, List.length_append, bytesVal_length, bytesVal_length]; omega
   · rw [List.length_append, List.length_append, bytesVal_length, bytesVal_length]; omega
   · rw [numB_snoc hx, bytesVal_append, bytesVal_append, ← List.append_assoc, ← List.append_assoc]
     exact MT
 · rw [List.take_of_length_le (by omega)]; exact hK
theorem f93_sound : Sound Tryz.prog 93 AppNS := by
 refine fn_sound (fn := Tryz.f93) (c := bodyOf Tryz.f93) Tryz.func93 rfl (by decide) ?_
 rintro cvs m h K ⟨xs, s, l, rfl, hs, ht, hl, hK⟩
 refine ⟨f93_ctx s m h, rfl, specs_cons f120_sound specs_nil, ?_⟩
 rw [← f93_vc xs s m h K]
 exact f93_ok hs ht hl hK
theorem f131_ok {v : VV} (ht : TabM m) (hl : xs.length + v.text.size + 500 ≤ 140737488355328) (hK : K (.lst 5 1 (xs ++ bytesVal (cellB v))) m h) : f131_nice xs v m h (Weak h K) := by
 intro s1 h1 le1 r1
 have n1 := numB_len [v.kind]
 have n2 := itoaB_len v.int
 have n3 := numB_len [(v.text.size : Int)]
 have n4 : (bytesOfStr v.text).length = v.text.size := by simp [bytesOfStr]
 simp only [List.length_cons, List.length_nil] at n1 n3
 refine ⟨_, s1, [v.kind], rfl, .ofRow r1 (by simp), ht, by simp; omega, _, v.int, rfl, ht, ?_, ?_, ?_, fun s2 h2 le2 r2 => ⟨_, s2, [(v.text.size : Int)], rfl, .ofRow r2 (by simp), ht, ?_, ?_, ?_, ?_⟩⟩
 · rw [List.length_append, bytesVal_length]; omega
 · simp only [List.length_append, bytesVal_length]; omega
 · simp only [List.length_append, bytesVal_length]; omega
 · simp only [List.length_append, bytesVal_length, List.length_cons, List.length_nil]; omega
 · simp only [List.length_append, bytesVal_length, List.length_cons, List.length_nil]; omega
 · simp only [List.length_append, bytesVal_length, List.length_cons, List.length_nil]; omega
 · refine .out (Sub.refl m) (le1.trans le2) ?_
   rw [cellB, bytesVal_append, bytesVal_append, bytesVal_append, bytesVal_append] at hK
   simp only [List.append_assoc] at hK ⊢
   exact hK
theorem f131_sound : Sound Tryz.prog 131 AppCS := by
 refine fn_sound' (fn := Tryz.f131) (c := bodyOf Tryz.f131) Tryz.func131 rfl (by decide) ?_
 rintro cvs m h K ⟨xs, v, rfl, ht, hl, hK⟩
 refine ⟨ctx2 [(93, AppNS), (120, AppIS)] [] [] [(93, [0]), (120, [0])] true, rfl, specs_cons f93_sound (specs_cons f120_sound specs_nil), ?_⟩
 rw [← f131_vc xs v m h _]
 exact f131_ok ht hl hK
theorem f121_ok {o : OV} (ht : TabM m) (hl : xs.length + o.value.text.size + 1000 ≤ 140737488355328) (hK : K (.lst 5 1 (xs ++ bytesVal (opdB o))) m h) : f121_nice xs o m h (Weak h K) := by
 intro s1 h1 le1 r1
 have n1 := numB_len [o.kind, o.index]
 simp only [List.length_cons, List.length_nil] at n1
 refine ⟨_, s1, [o.kind, o.index], rfl, .ofRow r1 (by simp), ht, by simp; omega, _, o.value, rfl, ht, ?_, ?_⟩
 · rw [List.length_append, bytesVal_length]; omega
 · refine .out (Sub.refl m) le1 ?_
   rw [opdB, bytesVal_append, ← List.append_assoc] at hK
   exact hK
theorem f121_sound : Sound Tryz.prog 121 AppOS := by
 refine fn_sound' (fn := Tryz.f121) (c := bodyOf Tryz.f121) Tryz.func121 rfl (by decide) ?_
 rintro cvs m h K ⟨xs, o, rfl, ht, hl, hK⟩
 refine ⟨ctx2 [(93, AppNS), (131, AppCS)] [] [] [(93, [0]), (131, [0])] true, rfl, specs_cons f93_sound (specs_cons f131_sound specs_nil), ?_⟩
 rw [← f121_vc xs o m h _]
 exact f121_ok ht hl hK
theorem cellB_len (v : VV) : v.text.size ≤ (cellB v).length := by
 have : v.text.data.toList.length = v.text.size := by simp
 simp only [cellB, List.length_append]; omega
theorem opdB_len (o : OV) : o.value.text.size ≤ (opdB o).length := by
 have := cellB_len o.value
 simp only [opdB, List.length_append]; omega
theorem predBs_snoc {l : List Pred} {x : Pred} (hx : l[i]? = some x) : predBs (l.take (i + 1)) = predBs (l.take i) ++ predB x := by
 have key : ∀ (a : List Pred), predBs (a ++ [x]) = predBs a ++ predB x := by
  intro a
  induction a with
  | nil => simp [predBs]
  | cons y a ih => simp [predBs, ih]
 rw [List.take_add_one, hx]
 exact key _
theorem predBs_take {l : List Pred} : ∀ (i : Nat), (predBs (l.take i)).length ≤ (predBs l).length := by
 induction l with
 | nil => intro i; simp
 | cons y a ih =>
  intro i
  cases i with
  | zero => simp [predBs]
  | succ i => have := ih i; simp only [List.take_succ_cons, predBs, List.length_append]; omega
theorem f94_ok {v : PV} (hp : RepP h p v) (hN : SizeOf.sizeOf p < N + 1) (ht : TabM m) (hl : xs.length + (predB p).length + 5000 ≤ 140737488355328) (hK : K (.lst 5 1 (xs ++ bytesVal (predB p))) m h) : f94_nice N xs v m h (Weak h K) := by
 have hargs := @args_lt p
 obtain ⟨op, cmp, l, r, qs⟩ := p
 obtain ⟨rfl, rfl, rfl, rfl, ha⟩ := hp.parts
 have hal := ha.slen
 have halen := ha.len
 simp only [Pred.args] at hargs
 have b1 := opdB_len v.left
 have b2 := opdB_len v.right
 have n1 := numB_len [v.op, v.cmp]
 have n2 := numB_len [(qs.length : Int)]
 simp only [List.length_cons, List.length_nil] at n1 n2
 simp only [predB, List.length_append] at hl
 intro s1 h1 le1 r1
 refine ⟨_, s1, [v.op, v.cmp], rfl, .ofRow r1 (by simp), ht, by simp; omega, _, v.left, rfl, ht, ?_, _, v.right, rfl, ht, ?_, fun s2 h2 le2 r2 => ⟨_, s2, [(v.args.len : Int)], rfl, .ofRow r2 (by simp), ht, ?_, ?_⟩⟩
 · simp only [List.length_append, bytesVal_length]; omega
 · simp only [List.length_append, bytesVal_length]; omega
 · simp only [List.length_append, bytesVal_length, List.length_cons, List.length_nil]; omega
 rw [hal]
 refine ⟨fun ⟨i, ys, hx⟩ => i ≤ qs.length ∧ PH.le h hx ∧ ys = xs ++ bytesVal (numB [v.op, v.cmp]) ++ bytesVal (opdB v.left) ++ bytesVal (opdB v.right) ++ bytesVal (numB [(qs.length : Int)]) ++ bytesVal (predBs (qs.take i)), fun ⟨i, _, _⟩ => qs.length - i, ⟨(0, _, h2), ⟨by omega, le1.trans le2, rfl⟩, ?_⟩, ?_⟩
 · simp only [List.take_zero, predBs, bytesVal, List.map_nil, List.append_nil]; exact MT
 rintro ⟨i, ys, hx⟩ ⟨hi, hle, rfl⟩
 dsimp only
 refine branch_dec (fun hlt => ?_) (fun hge => ?_)
 · obtain ⟨q, hq⟩ := getx rfl hlt
   obtain ⟨bb, o, u, e, rr, hru⟩ := (ha.mono hle).at hq
   have b3 := predBs_take (l := qs) (i + 1)
   rw [predBs_snoc hq, List.length_append] at b3
   refine ⟨bb, o, e, by omega, by omega, u, .imm rr, _, u, q, rfl, hru, ?_, ht, ?_, (i + 1, xs ++ bytesVal (numB [v.op, v.cmp]) ++ bytesVal (opdB v.left) ++ bytesVal (opdB v.right) ++ bytesVal (numB [(qs.length : Int)]) ++ bytesVal (predBs (qs.take (i + 1))), hx), ⟨by omega, hle, rfl⟩, by show qs.length - (i + 1) < qs.length - i; omega, ?_⟩
   · have := hargs (List.mem_of_getElem? hq); omega
   · simp only [List.length_append, bytesVal_length]; omega
   · rw [predBs_snoc hq, bytesVal_append, ← List.append_assoc]; exact MT
 · rw [List.take_of_length_le (by omega)]
   refine .out (Sub.refl m) hle ?_
   simp only [predB, bytesVal_append, ← List.append_assoc] at hK
   exact hK
theorem f94_all : ∀ N, Sound Tryz.prog 94 (AppPS N)
 | 0 => by
  refine fn_sound' (fn := Tryz.f94) (c := bodyOf Tryz.f94) Tryz.func94 rfl (by decide) ?_
  rintro cvs m h K ⟨xs, v, p, rfl, _, hN, _, _, _⟩
  omega
 | N + 1 => by
  refine fn_sound' (fn := Tryz.f94) (c := bodyOf Tryz.f94) Tryz.func94 rfl (by decide) ?_
  rintro cvs m h K ⟨xs, v, p, rfl, hp, hN, ht, hl, hK⟩
  refine ⟨f94_ctx N v m, rfl, specs_cons f93_sound (specs_cons f121_sound (specs_cons (f94_all N) specs_nil)), ?_⟩
  rw [← f94_vc N xs v m h _]
  exact f94_ok hp hN ht hl hK
theorem f94_sound : Sound Tryz.prog 94 AppPA := sound_of_all f94_all fun _ _ _ _ ⟨xs, v, p, e, h1, h2, h3, h4⟩ => ⟨SizeOf.sizeOf p + 1, xs, v, p, e, h1, by omega, h2, h3, h4⟩
def pairsB (l : List (Int × Int)) : List UInt8 := l.flatMap fun p => numB [p.1, p.2]
def sortsB (l : List (Int × Bool)) : List UInt8 := l.flatMap fun p => numB [p.1, if p.2 then 1 else 0]
def strV (b : List UInt8) : Value := .string ⟨b.toArray⟩
def keyV (t : Step) : List Value := [.int .i64 t.op, .int .i64 t.table, .int .i64 t.limit, .int .i64 t.left, .int .i64 t.right, strV (predB t.wher), strV (numB t.columns), strV (pairsB t.on), strV (numB t.group), strV (sortsB t.order)]
structure KeyOk (t : Step) : Prop where
 wher : (predB t.wher).length ≤ 1000000000
 columns : t.columns.length ≤ 1000000000
 on : t.on.length ≤ 1000000000
 group : t.group.length ≤ 1000000000
 order : t.order.length ≤ 1000000000
def KeyS : Vc.Spec := fun cvs m h K => ∃ v t, cvs = [aT v] ∧ RepSt h t v ∧ KeyOk t ∧ TabM m ∧ K (.val (.agg ⟨keyV t⟩)) m h
def zero129 : List At := [.val (.int .i64 0), .val (.int .i64 0), .val (.int .i64 0), .val (.int .i64 0), .val (.int .i64 0), .val (.string ⟨#[]⟩), .val (.string ⟨#[]⟩), .val (.string ⟨#[]⟩), .val (.string ⟨#[]⟩), .val (.string ⟨#[]⟩)]
def f70_ctx (v : SV2) (m : MH) : Ctx :=
 ctx2 [(93, AppNS), (94, AppPA)] [(3, { A := Nat × List (List Value) × PH, st := fun ⟨i, xs, h⟩ => mkSt 68 69 [(1, .at (.ptr 1 0)), (2, .at (.ptr 2 0)), (3, .at (.lst 23)), (4, .at (.val (.slice none 0 0))), (11, sv v.on), (12, iv v.on.len), (13, iv i)] [(1, .cells 60 (v.enc.map .val)), (2, .cells 129 zero129), (23, .lst 5 1 xs)] m h }),
  (8, { A := Nat × List (List Value) × List (List Value) × PH, st := fun ⟨i, xs, ys, h⟩ => mkSt 68 69 [(1, .at (.ptr 1 0)), (2, .at (.ptr 2 0)), (3, .at (.lst 23)), (4, .at (.lst 39)), (26, sv v.order), (27, iv v.order.len), (28, iv i)] [(1, .cells 60 (v.enc.map .val)), (2, .cells 129 zero129), (23, .lst 5 1 xs), (39, .lst 5 1 ys)] m h })] [] [(93, [0]), (94, [0])] false
def f70_nice (v : SV2) (m : MH) (h : PH) (K : CV → MH → PH → Prop) : Prop :=
 ∃ (I : Nat × List (List Value) × PH -> Prop) (mu : Nat × List (List Value) × PH -> Nat), (∃ (x : Nat × List (List Value) × PH), I x /\ eP 1 /\ eP 2 /\ eL 23 /\ eQ (sQn) /\ eQ (sQs
 v.on) /\ eQ (sQi ↑v.on.len) /\ sQi 0 = sQi ↑x.1 /\ eQ (oQ 60 (List.map At.val (SV2.enc v))) /\ eQ (oQ 129 [aQi 0, aQi 0, aQi 0, aQi 0, aQi 0, aQz, aQz, aQz, aQz, aQz]) /\ some
 (Own.lst 5 1 []) = some (Own.lst 5 1 x.2.1) /\ m = m /\ h = x.2.2 /\ True) /\ ∀ (x : Nat × List (List Value) × PH), I x -> branch (decide ((↑x.1 : Int) < ↑v.on.len)) (∃ (b off :
 Nat), v.on.a = some (Addr.mk b off none) /\ 0 <= (↑x.1 : Int) /\ (↑x.1 : Int) < ↑v.on.len /\ ∃ (y : Int × Int), RdAt m x.2.2 b (off + (↑x.1 : Int).toNat * 2) [vQi y.1, vQi y.2] /\
 (0 : Int) <= 0 /\ (0 : Int) < 2 /\ (0 : Int) <= 1 /\ (1 : Int) < 2 /\ ∀ (s : Sl) (h' : PH), x.2.2.le h' -> RowIn h' s 1 [[vQi y.1], [vQi y.2]] -> ∃ (xs : List (List Value)) (s_1 :
 Sl) (l : List Int), [CV.lst 5 1 x.2.1, cQs s] = [CV.lst 5 1 xs, cQs s_1] /\ Ints h' s_1 l /\ TabM m /\ xs.length + 22 * l.length + 100 <= 140737488355328 /\ ∃ (x_1 : Nat × List
 (List Value) × PH), I x_1 /\ mu x_1 < mu x /\ eP 1 /\ eP 2 /\ eL 23 /\ eQ (sQn) /\ eQ (sQs v.on) /\ eQ (sQi ↑v.on.len) /\ sQi (IntKind.i64.wrap ((↑x.1 : Int) + 1)) = sQi ↑x_1.1 /\
 eQ (oQ 60 (List.map At.val (SV2.enc v))) /\ eQ (oQ 129 [aQi 0, aQi 0, aQi 0, aQi 0, aQi 0, aQz, aQz, aQz, aQz, aQz]) /\ some (Own.lst 5 1 (xs ++ bytesVal (numB l))) = some (Own.lst
 5 1 x_1.2.1) /\ m = m /\ h' = x_1.2.2 /\ True) (∃ (I : Nat × List (List Value) × List (List Value) × PH -> Prop) (mu : Nat × List (List Value) × List (List Value) × PH -> Nat), (∃
 (x_1 : Nat × List (List Value) × List (List Value) × PH), I x_1 /\ eP 1 /\ eP 2 /\ eL 23 /\ eL 39 /\ eQ (sQs v.order) /\ eQ (sQi ↑v.order.len) /\ sQi 0 = sQi ↑x_1.1 /\ eQ (oQ 60
 (List.map At.val (SV2.enc v))) /\ eQ (oQ 129 [aQi 0, aQi 0, aQi 0, aQi 0, aQi 0, aQz, aQz, aQz, aQz, aQz]) /\ some (Own.lst 5 1 x.2.1) = some (Own.lst 5 1 x_1.2.1) /\ some (Own.lst
 5 1 []) = some (Own.lst 5 1 x_1.2.2.1) /\ m = m /\ x.2.2 = x_1.2.2.2 /\ True) /\ ∀ (x : Nat × List (List Value) × List (List Value) × PH), I x -> branch (decide ((↑x.1 : Int) <
 ↑v.order.len)) (∃ (b off : Nat), v.order.a = some (Addr.mk b off none) /\ 0 <= (↑x.1 : Int) /\ (↑x.1 : Int) < ↑v.order.len /\ ∃ (y : Int × Bool), RdAt m x.2.2.2 b (off + (↑x.1 :
 Int).toNat * 2) [vQi y.1, Value.bool y.2] /\ branch y.2 (∀ (s : Sl) (h' : PH), x.2.2.2.le h' -> RowIn h' s 1 [[vQi y.1], [vQi 1]] -> ∃ (xs : List (List Value)) (s_1 : Sl) (l : List
 Int), [CV.lst 5 1 x.2.2.1, cQs s] = [CV.lst 5 1 xs, cQs s_1] /\ Ints h' s_1 l /\ TabM m /\ xs.length + 22 * l.length + 100 <= 140737488355328 /\ ∃ (x_1 : Nat × List (List Value) ×
 List (List Value) × PH), I x_1 /\ mu x_1 < mu x /\ eP 1 /\ eP 2 /\ eL 23 /\ eL 39 /\ eQ (sQs v.order) /\ eQ (sQi ↑v.order.len) /\ sQi (IntKind.i64.wrap ((↑x.1 : Int) + 1)) = sQi
 ↑x_1.1 /\ eQ (oQ 60 (List.map At.val (SV2.enc v))) /\ eQ (oQ 129 [aQi 0, aQi 0, aQi 0, aQi 0, aQi 0, aQz, aQz, aQz, aQz, aQz]) /\ some (Own.lst 5 1 x.2.1) = some (Own.lst 5 1
 x_1.2.1) /\ some (Own.lst 5 1 (xs ++ bytesVal (numB l))) = some (Own.lst 5 1 x_1.2.2.1) /\ m = m /\ h' = x_1.2.2.2 /\ True) (∀ (s : Sl) (h' : PH), x.2.2.2.le h' -> RowIn h' s 1
 [[vQi y.1], [vQi 0]] -> ∃ (xs : List (List Value)) (s_1 : Sl) (l : List Int), [CV.lst 5 1 x.2.2.1, cQs s] = [CV.lst 5 1 xs, cQs s_1] /\ Ints h' s_1 l /\ TabM m /\ xs.length + 22 *
 l.length + 100 <= 140737488355328 /\ ∃ (x_1 : Nat × List (List Value) × List (List Value) × PH), I x_1 /\ mu x_1 < mu x /\ eP 1 /\ eP 2 /\ eL 23 /\ eL 39 /\ eQ (sQs v.order) /\ eQ
 (sQi ↑v.order.len) /\ sQi (IntKind.i64.wrap ((↑x.1 : Int) + 1)) = sQi ↑x_1.1 /\ eQ (oQ 60 (List.map At.val (SV2.enc v))) /\ eQ (oQ 129 [aQi 0, aQi 0, aQi 0, aQi 0, aQi 0, aQz, aQz,
 aQz, aQz, aQz]) /\ some (Own.lst 5 1 x.2.1) = some (Own.lst 5 1 x_1.2.1) /\ some (Own.lst 5 1 (xs ++ bytesVal (numB l))) = some (Own.lst 5 1 x_1.2.2.1) /\ m = m /\ h' = x_1.2.2.2
 /\ True)) (∃ (bs : List UInt8), x.2.1 = bytesVal bs /\ ∃ (bs_1 : List UInt8), x.2.2.1 = bytesVal bs_1 /\ x.2.1 = bytesOfStr (ByteArray.mk (Array.mk bs)) /\ x.2.2.1 = bytesOfStr
 (ByteArray.mk (Array.mk bs_1)) /\ ∃ (xs : List (List Value)) (v_1 : PV) (p : Pred), [CV.lst 5 1 [], cQa (PV.enc v.where_)] = [CV.lst 5 1 xs, cQa (PV.enc v_1)] /\ RepP x.2.2.2 p v_1
 /\ TabM m /\ xs.length + (predB p).length + 5000 <= 140737488355328 /\ ∃ (bs_2 : List UInt8), xs ++ bytesVal (predB p) = bytesVal bs_2 /\ xs ++ bytesVal (predB p) = bytesOfStr
 (ByteArray.mk (Array.mk bs_2)) /\ x.2.1 = bytesOfStr (ByteArray.mk (Array.mk bs)) /\ x.2.2.1 = bytesOfStr (ByteArray.mk (Array.mk bs_1)) /\ ∃ (xs_1 : List (List Value)) (s : Sl) (l
 : List Int), [CV.lst 5 1 [], cQs v.columns] = [CV.lst 5 1 xs_1, cQs s] /\ Ints x.2.2.2 s l /\ TabM m /\ xs_1.length + 22 * l.length + 100 <= 140737488355328 /\ ∃ (bs_3 : List
 UInt8), xs_1 ++ bytesVal (numB l) = bytesVal bs_3 /\ xs ++ bytesVal (predB p) = bytesOfStr (ByteArray.mk (Array.mk bs_2)) /\ xs_1 ++ bytesVal (numB l) = bytesOfStr (ByteArray.mk
 (Array.mk bs_3)) /\ x.2.1 = bytesOfStr (ByteArray.mk (Array.mk bs)) /\ x.2.2.1 = bytesOfStr (ByteArray.mk (Array.mk bs_1)) /\ ∃ (xs : List (List Value)) (s : Sl) (l : List Int),
 [CV.lst 5 1 [], cQs v.group] = [CV.lst 5 1 xs, cQs s] /\ Ints x.2.2.2 s l /\ TabM m /\ xs.length + 22 * l.length + 100 <= 140737488355328 /\ ∃ (bs_4 : List UInt8), xs ++ bytesVal
 (numB l) = bytesVal bs_4 /\ K (cQa [vQi v.op, vQi v.table, vQi v.limit, vQi v.left, vQi v.right, Value.string (ByteArray.mk (Array.mk bs_2)), Value.string (ByteArray.mk (Array.mk
 bs_3)), Value.string (ByteArray.mk (Array.mk bs)), Value.string (ByteArray.mk (Array.mk bs_4)), Value.string (ByteArray.mk (Array.mk bs_1))]) m x.2.2.2))
theorem f70_vc (v : SV2) (m : MH) (h : PH) (K : CV → MH → PH → Prop) : f70_nice v m h K = (fnVC (f70_ctx v m) Tryz.f70 (bodyOf Tryz.f70) (entry Tryz.f70.ntmps [aT v] m h) K) := by kernel_rfl
theorem pairsB_snoc {l : List (Int × Int)} {x : Int × Int} (hx : l[i]? = some x) : pairsB (l.take (i + 1)) = pairsB (l.take i) ++ numB [x.1, x.2] := by
 rw [List.take_add_one, hx]
 simp [pairsB]
theorem sortsB_snoc {l : List (Int × Bool)} {x : Int × Bool} (hx : l[i]? = some x) : sortsB (l.take (i + 1)) = sortsB (l.take i) ++ numB [x.1, if x.2 then 1 else 0] := by
 rw [List.take_add_one, hx]
 simp [sortsB]
theorem pairsB_len : ∀ l : List (Int × Int), (pairsB l).length ≤ 44 * l.length
 | [] => by simp [pairsB]
 | n :: l => by
  have := pairsB_len l
  have h2 := numB_len [n.1, n.2]
  unfold pairsB at this ⊢
  simp only [List.flatMap_cons, List.length_append, List.length_cons, List.length_nil] at *
  omega
theorem sortsB_len : ∀ l : List (Int × Bool), (sortsB l).length ≤ 44 * l.length
 | [] => by simp [sortsB]
 | n :: l => by
  have := sortsB_len l
  have h2 := numB_len [n.1, if n.2 then 1 else 0]
  unfold sortsB at this ⊢
  simp only [List.flatMap_cons, List.length_append, List.length_cons, List.length_nil] at *
  omega
theorem f70_ok {v : SV2} (hv : RepSt h t v) (hk : KeyOk t) (ht : TabM m) (hK : K (.val (.agg ⟨keyV t⟩)) m h) : f70_nice v m h (Weak h K) := by
 have hon := hv.on_.slen
 have hod := hv.order_.slen
 have k1 := hk.wher
 have k2 := hk.columns
 have k3 := hk.on
 have k4 := hk.group
 have k5 := hk.order
 refine ⟨fun ⟨i, xs, hx⟩ => i ≤ t.on.length ∧ PH.le h hx ∧ xs = bytesVal (pairsB (t.on.take i)), fun ⟨i, _, _⟩ => t.on.length - i, ⟨(0, [], h), ⟨by omega, .refl _, by simp [pairsB, bytesVal]⟩, MT⟩, ?_⟩
 rintro ⟨i, xs, hx⟩ ⟨hi, hle, rfl⟩
 dsimp only
 refine branch_dec (fun hlt => ?_) (fun hge => ?_)
 · obtain ⟨x, hxx⟩ := getx hon hlt
   obtain ⟨b, o, e, r⟩ := (hv.on_.mono hle).at hxx
   have n1 := pairsB_len (t.on.take i)
   have n2 : (t.on.take i).length = i := by simp; omega
   refine ⟨b, o, e, by omega, hlt, x, .imm r, by omega, by omega, by omega, by omega, fun s1 h1 le1 r1 => ⟨_, s1, [x.1, x.2], rfl, .ofRow r1 (by simp), ht, ?_, (i + 1, bytesVal (pairsB (t.on.take (i + 1))), h1), ⟨by omega, hle.trans le1, rfl⟩, by show t.on.length - (i + 1) < t.on.length - i; omega, ?_⟩⟩
   · rw [bytesVal_length]; simp only [List.length_cons, List.length_nil]; omega
   · rw [pairsB_snoc hxx, bytesVal_append]; exact MT
 rw [List.take_of_length_le (by omega)]
 refine ⟨fun ⟨i, xs, ys, hx⟩ => i ≤ t.order.length ∧ PH.le h hx ∧ xs = bytesVal (pairsB t.on) ∧ ys = bytesVal (sortsB (t.order.take i)), fun ⟨i, _, _, _⟩ => t.order.length - i, ⟨(0, bytesVal (pairsB t.on), [], hx), ⟨by omega, hle, rfl, by simp [sortsB, bytesVal]⟩, MT⟩, ?_⟩
 clear hle hge hi
 clear i hx
 rintro ⟨i, xs, ys, hx⟩ ⟨hi, hle, rfl, rfl⟩
 dsimp only
 refine branch_dec (fun hlt => ?_) (fun hge => ?_)
 · obtain ⟨x, hxx⟩ := getx hod hlt
   obtain ⟨b, o, e, r⟩ := (hv.order_.mono hle).at hxx
   have n1 := sortsB_len (t.order.take i)
   have n2 : (t.order.take i).length = i := by simp; omega
   refine ⟨b, o, e, by omega, hlt, x, .imm r, branch_intro (fun hd s1 h1 le1 r1 => ⟨_, s1, [x.1, 1], rfl, .ofRow r1 (by simp), ht, ?_, (i + 1, bytesVal (pairsB t.on), bytesVal (sortsB (t.order.take (i + 1))), h1), ⟨by omega, hle.trans le1, rfl, rfl⟩, by show t.order.length - (i + 1) < t.order.length - i; omega, ?_⟩) (fun hd s1 h1 le1 r1 => ⟨_, s1, [x.1, 0], rfl, .ofRow r1 (by simp), ht, ?_, (i + 1, bytesVal (pairsB t.on), bytesVal (sortsB (t.order.take (i + 1))), h1), ⟨by omega, hle.trans le1, rfl, rfl⟩, by show t.order.length - (i + 1) < t.order.length - i; omega, ?_⟩)⟩
   · rw [bytesVal_length]; simp only [List.length_cons, List.length_nil]; omega
   · rw [sortsB_snoc hxx, bytesVal_append, hd]; exact MT
   · rw [bytesVal_length]; simp only [List.length_cons, List.length_nil]; omega
   · rw [sortsB_snoc hxx, bytesVal_append, hd]; exact MT
 rw [List.take_of_length_le (by omega)]
 refine ⟨_, rfl, _, rfl, bytesOf_dig _, bytesOf_dig _, [], v.where_, t.wher, rfl, hv.where_.mono hle, ht, by simp; omega, _, rfl, bytesOf_dig _, bytesOf_dig _, bytesOf_dig _, [], v.columns, t.columns, rfl, hv.columns_.mono hle, ht, by simp; omega, _, rfl, bytesOf_dig _, bytesOf_dig _, bytesOf_dig _, bytesOf_dig _, [], v.group, t.group, rfl, hv.group_.mono hle, ht, by simp; omega, _, rfl, .out (Sub.refl m) hle ?_⟩
 rw [hv.op_, hv.table_, hv.limit_, hv.left_, hv.right_]
 exact hK
theorem f70_sound : Sound Tryz.prog 70 KeyS := by
 refine fn_sound' (fn := Tryz.f70) (c := bodyOf Tryz.f70) Tryz.func70 rfl (by decide) ?_
 rintro cvs m h K ⟨v, t, rfl, hv, hk, ht, hK⟩
 refine ⟨f70_ctx v m, rfl, specs_cons f93_sound (specs_cons f94_sound specs_nil), ?_⟩
 rw [← f70_vc v m h _]
 exact f70_ok hv hk ht hK
structure KV where
 i0 : Int
 i1 : Int
 i2 : Int
 i3 : Int
 i4 : Int
 s0 : ByteArray
 s1 : ByteArray
 s2 : ByteArray
 s3 : ByteArray
 s4 : ByteArray
def KV.val (a : KV) : Value := .agg #[.int .i64 a.i0, .int .i64 a.i1, .int .i64 a.i2, .int .i64 a.i3, .int .i64 a.i4, .string a.s0, .string a.s1, .string a.s2, .string a.s3, .string a.s4]
def eqKV (a b : KV) : Bool := a.i0 == b.i0 && (a.i1 == b.i1 && (a.i2 == b.i2 && (a.i3 == b.i3 && (a.i4 == b.i4 && (a.s0.toList == b.s0.toList && (a.s1.toList == b.s1.toList && (a.s2.toList == b.s2.toList && (a.s3.toList == b.s3.toList && (a.s4.toList == b.s4.toList && (true))))))))))
theorem eqKV_run (a b : KV) (d : Nat) (w : World) : (Op.equalIn (d + 2) 129 a.val b.val).run Tryz.prog w = .ok (eqKV a b) w := by
 unfold KV.val
 rw [run_equalIn_struct w (d + 1) 129 _ _ (by kernel_rfl) (by kernel_rfl), show (Tryz.prog.fieldsOf 129).toList = [fld 129 0, fld 129 1, fld 129 2, fld 129 3, fld 129 4, fld 129 5, fld 129 6, fld 129 7, fld 129 8, fld 129 9] by kernel_rfl]
 refine eqFields_cons (x := .int .i64 a.i0) (y := .int .i64 b.i0) (by kernel_rfl) (by kernel_rfl) (by kernel_rfl) (run_equalIn_int w d _ .i64 .i64 _ _ (by kernel_rfl)) ?_
 refine eqFields_cons (x := .int .i64 a.i1) (y := .int .i64 b.i1) (by kernel_rfl) (by kernel_rfl) (by kernel_rfl) (run_equalIn_int w d _ .i64 .i64 _ _ (by kernel_rfl)) ?_
 refine eqFields_cons (x := .int .i64 a.i2) (y := .int .i64 b.i2) (by kernel_rfl) (by kernel_rfl) (by kernel_rfl) (run_equalIn_int w d _ .i64 .i64 _ _ (by kernel_rfl)) ?_
 refine eqFields_cons (x := .int .i64 a.i3) (y := .int .i64 b.i3) (by kernel_rfl) (by kernel_rfl) (by kernel_rfl) (run_equalIn_int w d _ .i64 .i64 _ _ (by kernel_rfl)) ?_
 refine eqFields_cons (x := .int .i64 a.i4) (y := .int .i64 b.i4) (by kernel_rfl) (by kernel_rfl) (by kernel_rfl) (run_equalIn_int w d _ .i64 .i64 _ _ (by kernel_rfl)) ?_
 refine eqFields_cons (x := .string a.s0) (y := .string b.s0) (by kernel_rfl) (by kernel_rfl) (by kernel_rfl) (run_equalIn_string w d _ _ _ (by kernel_rfl)) ?_
 refine eqFields_cons (x := .string a.s1) (y := .string b.s1) (by kernel_rfl) (by kernel_rfl) (by kernel_rfl) (run_equalIn_string w d _ _ _ (by kernel_rfl)) ?_
 refine eqFields_cons (x := .string a.s2) (y := .string b.s2) (by kernel_rfl) (by kernel_rfl) (by kernel_rfl) (run_equalIn_string w d _ _ _ (by kernel_rfl)) ?_
 refine eqFields_cons (x := .string a.s3) (y := .string b.s3) (by kernel_rfl) (by kernel_rfl) (by kernel_rfl) (run_equalIn_string w d _ _ _ (by kernel_rfl)) ?_
 refine eqFields_cons (x := .string a.s4) (y := .string b.s4) (by kernel_rfl) (by kernel_rfl) (by kernel_rfl) (run_equalIn_string w d _ _ _ (by kernel_rfl)) ?_
 simp [Op.eqFields]
theorem eqKV_iff {a b : KV} : eqKV a b = true ↔ a = b := by
 obtain ⟨i0, i1, i2, i3, i4, s0, s1, s2, s3, s4⟩ := a
 obtain ⟨i0', i1', i2', i3', i4', s0', s1', s2', s3', s4'⟩ := b
 simp only [eqKV, Bool.and_true, Bool.and_eq_true, beq_iff_eq, KV.mk.injEq]
 constructor
 · rintro ⟨h1, h2, h3, h4, h5, h6, h7, h8, h9, h10⟩
   exact ⟨h1, h2, h3, h4, h5, bytes_ext h6, bytes_ext h7, bytes_ext h8, bytes_ext h9, bytes_ext h10⟩
 · rintro ⟨h1, h2, h3, h4, h5, h6, h7, h8, h9, h10⟩
   exact ⟨h1, h2, h3, h4, h5, by rw [h6], by rw [h7], by rw [h8], by rw [h9], by rw [h10]⟩
theorem KV.val_inj {a b : KV} : a.val = b.val ↔ a = b := by
 obtain ⟨i0, i1, i2, i3, i4, s0, s1, s2, s3, s4⟩ := a
 obtain ⟨i0', i1', i2', i3', i4', s0', s1', s2', s3', s4'⟩ := b
 simp [KV.val]
theorem under129 : ∃ fs, Tryz.prog.underlying 129 = some (.struct fs) := by
 have : (match Tryz.prog.underlying 129 with | some (.struct _) => true | _ => false) = true := by kernel_rfl
 split at this
 · rename_i fs h; exact ⟨fs, h⟩
 · cases this
theorem keyLaw129 : KeyLaw Tryz.prog 129 (fun v => ∃ a : KV, v = a.val) := by
 obtain ⟨fs, hfs⟩ := under129
 refine ⟨⟨_, hfs⟩, ?_, ?_, ?_⟩
 · rintro _ w b ⟨a, rfl⟩
   exact semVal_run _ _ _ (show semVal Tryz.prog (Instr.checkKey b 10000 129 a.val) = some () by kernel_rfl) w
 · rintro _ _ w ⟨a, rfl⟩ ⟨b, rfl⟩
   refine ⟨_, eqKV_run a b 9998 w, ?_⟩
   rw [eqKV_iff, KV.val_inj]
 · rintro d _ _ r hd ⟨a, rfl⟩ ⟨b, rfl⟩ h
   rw [hfs] at hd
   cases hd
   simp [KV.val, Instr.sameNow] at h
def keyOf (t : Step) : KV := ⟨t.op, t.table, t.limit, t.left, t.right, ⟨(predB t.wher).toArray⟩, ⟨(numB t.columns).toArray⟩, ⟨(pairsB t.on).toArray⟩, ⟨(numB t.group).toArray⟩, ⟨(sortsB t.order).toArray⟩⟩
theorem keyOf_val (t : Step) : (keyOf t).val = .agg ⟨keyV t⟩ := rfl
def AddT (t : Step) (ts ts' : List Step) (k : Nat) : Prop := (∃ x, ts[k]? = some x ∧ keyOf x = keyOf t ∧ ts' = ts) ∨ ((∀ x ∈ ts, keyOf x ≠ keyOf t) ∧ ts' = ts ++ [t] ∧ k = ts.length)
def AddQ (q : Query) (ts ts' : List Step) (k : Nat) : Prop :=
 match q with
 | .mk op ta w co on gr od li [] => AddT ⟨op, ta, w, co, on, gr, od, li, 0, 0⟩ ts ts' k
 | .mk op ta w co on gr od li [a] => ∃ ts1 l, AddQ a ts ts1 l ∧ AddT ⟨op, ta, w, co, on, gr, od, li, l, 0⟩ ts1 ts' k
 | .mk op ta w co on gr od li (a :: b :: _) => ∃ ts1 l ts2 r, AddQ a ts ts1 l ∧ AddQ b ts1 ts2 r ∧ AddT ⟨op, ta, w, co, on, gr, od, li, l, r⟩ ts2 ts' k
 termination_by SizeOf.sizeOf q
def QKeyOk (q : Query) : Prop :=
 match q with
 | .mk op ta w co on gr od li args => KeyOk ⟨op, ta, w, co, on, gr, od, li, 0, 0⟩ ∧ ∀ a ∈ args, QKeyOk a
 termination_by SizeOf.sizeOf q
def Steps (h : PH) (vs : List SV2) (ts : List Step) : Prop := vs.length = ts.length ∧ ∀ (i : Nat) t, ts[i]? = some t → ∃ v, vs[i]? = some v ∧ RepSt h t v
structure CompAt (m : MH) (h : PH) (cb mb : Nat) (s : Sl) (ts : List Step) : Prop where
 at_ : m cb = some (.cells #[.slice s.a s.len s.cap, .map (some mb)] 90 (0, 0))
 row : ∃ vs, MRow m s 60 22 (vs.map SV2.enc) ∧ Steps h vs ts
 map_ : MapAt m mb (ts.mapIdx fun i t => ((keyOf t).val, .int .i64 i))
 nodup : (ts.map keyOf).Nodup
structure Grew (m m' : MH) (cb mb : Nat) (s s' : Sl) : Prop where
 other : ∀ b o, m b = some o → b ≠ cb → b ≠ mb → (∀ i, s.a ≠ some ⟨b, i, none⟩) → m' b = some o
 fresh : ∀ b i, s'.a = some ⟨b, i, none⟩ → m b = none ∨ ∃ i, s.a = some ⟨b, i, none⟩
def AddSp (N : Nat) : Vc.Spec := fun cvs m h K => ∃ v q cb mb s ts, cvs = [cP cb, aQ v] ∧ RepQ h q v ∧ SizeOf.sizeOf q < N ∧ QKeyOk q ∧ CompAt m h cb mb s ts ∧ TabM m ∧ (ts.length : Int) + szQ q ≤ 1000000 ∧
 ∀ ts' (k : Nat) s' m' h', PH.le h h' → AddQ q ts ts' k → CompAt m' h' cb mb s' ts' → Grew m m' cb mb s s' → K (cI k) m' h'
def f33_ctx (N : Nat) (cb : Nat) (v : QV) : Ctx :=
 ctx4 [(66, CopyPA), (67, CloneIS), (68, ClonePS), (69, CloneSS), (70, KeyS), (33, AddSp N)] []
  [(2, { A := SV2 × MH × PH, st := fun ⟨t, m, h⟩ => mkSt 89 91 [(0, pv cb), (3, .at (.ptr 3 0)), (5, .at (.ptr 5 0))] [(3, .cells 43 (v.enc.map .val)), (5, .cells 60 (t.enc.map .val))] m h }),
   (4, { A := SV2 × MH × PH, st := fun ⟨t, m, h⟩ => mkSt 89 91 [(0, pv cb), (3, .at (.ptr 3 0)), (5, .at (.ptr 5 0))] [(3, .cells 43 (v.enc.map .val)), (5, .cells 60 (t.enc.map .val))] m h }),
   (6, { A := SV2 × MH × PH, st := fun ⟨t, m, h⟩ => mkSt 89 91 [(0, pv cb), (5, .at (.ptr 5 0))] [(5, .cells 60 (t.enc.map .val))] m h })] [] [1047] [] false
def f33_nice (N : Nat) (cb : Nat) (v : QV) (m : MH) (h : PH) (K : CV → MH → PH → Prop) : Prop :=
 ∃ (I : SV2 × MH × PH -> Prop), ((∃ (v_1 : PV) (p : Pred), [cQa (PV.enc v.where_)] = [cQa (PV.enc v_1)] /\ RepP h p v_1 /\ ∀ (v' : PV) (h' : PH), h.le h' -> RepP h' p v' -> (∃ (s :
 Sl) (l : List Int), [cQs v.columns] = [cQs s] /\ Ints h' s l /\ ∀ (s' : Sl) (h'_1 : PH), h'.le h'_1 -> Ints h'_1 s' l -> (∃ (s : Sl) (l : List (Int × Int)), [cQs v.on] = [cQs s] /\
 Pairs h'_1 s l /\ ∀ (s'_1 : Sl) (h' : PH), h'_1.le h' -> Pairs h' s'_1 l -> (∃ (s : Sl) (l : List Int), [cQs v.group] = [cQs s] /\ Ints h' s l /\ ∀ (s'_2 : Sl) (h'_2 : PH), h'.le
 h'_2 -> Ints h'_2 s'_2 l -> (∃ (s : Sl) (l : List (Int × Bool)), [cQs v.order] = [cQs s] /\ Sorts h'_2 s l /\ ∀ (s'_3 : Sl) (h' : PH), h'_2.le h' -> Sorts h' s'_3 l -> ∃ (x : SV2 ×
 MH × PH), I x /\ eQ (sQo cb 0) /\ eP 3 /\ eP 5 /\ eQ (oQ 43 (List.map At.val (QV.enc v))) /\ oQ 60 (aQi v.op :: aQi v.table :: pQ v' [aQs s', aQs s'_1, aQs s'_2, aQs s'_3, aQi
 v.limit, aQi 0, aQi 0]) = oQ 60 (List.map At.val (SV2.enc x.1)) /\ m = x.2.1 /\ h' = x.2.2 /\ True) /\ ∃ (s : Sl) (l : List (Int × Bool)), [cQs v.order] = [cQs s] /\ Sorts h'_2 s l
 /\ ∀ (s'_3 : Sl) (h' : PH), h'_2.le h' -> Sorts h' s'_3 l -> ∃ (x : SV2 × MH × PH), I x /\ eQ (sQo cb 0) /\ eP 3 /\ eP 5 /\ eQ (oQ 43 (List.map At.val (QV.enc v))) /\ oQ 60 (aQi
 v.op :: aQi v.table :: pQ v' [aQs s', aQs s'_1, aQs s'_2, aQs s'_3, aQi v.limit, aQi 0, aQi 0]) = oQ 60 (List.map At.val (SV2.enc x.1)) /\ m = x.2.1 /\ h' = x.2.2 /\ True) /\ ∃ (s
 : Sl) (l : List Int), [cQs v.group] = [cQs s] /\ Ints h' s l /\ ∀ (s'_2 : Sl) (h'_2 : PH), h'.le h'_2 -> Ints h'_2 s'_2 l -> ∃ (s : Sl) (l : List (Int × Bool)), [cQs v.order] =
 [cQs s] /\ Sorts h'_2 s l /\ ∀ (s'_3 : Sl) (h' : PH), h'_2.le h' -> Sorts h' s'_3 l -> ∃ (x : SV2 × MH × PH), I x /\ eQ (sQo cb 0) /\ eP 3 /\ eP 5 /\ eQ (oQ 43 (List.map At.val
 (QV.enc v))) /\ oQ 60 (aQi v.op :: aQi v.table :: pQ v' [aQs s', aQs s'_1, aQs s'_2, aQs s'_3, aQi v.limit, aQi 0, aQi 0]) = oQ 60 (List.map At.val (SV2.enc x.1)) /\ m = x.2.1 /\
 h' = x.2.2 /\ True) /\ ∃ (s : Sl) (l : List (Int × Int)), [cQs v.on] = [cQs s] /\ Pairs h'_1 s l /\ ∀ (s'_1 : Sl) (h' : PH), h'_1.le h' -> Pairs h' s'_1 l -> ∃ (s : Sl) (l : List
 Int), [cQs v.group] = [cQs s] /\ Ints h' s l /\ ∀ (s'_2 : Sl) (h'_2 : PH), h'.le h'_2 -> Ints h'_2 s'_2 l -> ∃ (s : Sl) (l : List (Int × Bool)), [cQs v.order] = [cQs s] /\ Sorts
 h'_2 s l /\ ∀ (s'_3 : Sl) (h' : PH), h'_2.le h' -> Sorts h' s'_3 l -> ∃ (x : SV2 × MH × PH), I x /\ eQ (sQo cb 0) /\ eP 3 /\ eP 5 /\ eQ (oQ 43 (List.map At.val (QV.enc v))) /\ oQ
 60 (aQi v.op :: aQi v.table :: pQ v' [aQs s', aQs s'_1, aQs s'_2, aQs s'_3, aQi v.limit, aQi 0, aQi 0]) = oQ 60 (List.map At.val (SV2.enc x.1)) /\ m = x.2.1 /\ h' = x.2.2 /\ True)
 /\ ∃ (s : Sl) (l : List Int), [cQs v.columns] = [cQs s] /\ Ints h' s l /\ ∀ (s' : Sl) (h'_1 : PH), h'.le h'_1 -> Ints h'_1 s' l -> ∃ (s : Sl) (l : List (Int × Int)), [cQs v.on] =
 [cQs s] /\ Pairs h'_1 s l /\ ∀ (s'_1 : Sl) (h' : PH), h'_1.le h' -> Pairs h' s'_1 l -> ∃ (s : Sl) (l : List Int), [cQs v.group] = [cQs s] /\ Ints h' s l /\ ∀ (s'_2 : Sl) (h'_2 :
 PH), h'.le h'_2 -> Ints h'_2 s'_2 l -> ∃ (s : Sl) (l : List (Int × Bool)), [cQs v.order] = [cQs s] /\ Sorts h'_2 s l /\ ∀ (s'_3 : Sl) (h' : PH), h'_2.le h' -> Sorts h' s'_3 l -> ∃
 (x : SV2 × MH × PH), I x /\ eQ (sQo cb 0) /\ eP 3 /\ eP 5 /\ eQ (oQ 43 (List.map At.val (QV.enc v))) /\ oQ 60 (aQi v.op :: aQi v.table :: pQ v' [aQs s', aQs s'_1, aQs s'_2, aQs
 s'_3, aQi v.limit, aQi 0, aQi 0]) = oQ 60 (List.map At.val (SV2.enc x.1)) /\ m = x.2.1 /\ h' = x.2.2 /\ True) /\ ∃ (v_1 : PV) (p : Pred), [cQa (PV.enc v.where_)] = [cQa (PV.enc
 v_1)] /\ RepP h p v_1 /\ ∀ (v' : PV) (h' : PH), h.le h' -> RepP h' p v' -> ∃ (s : Sl) (l : List Int), [cQs v.columns] = [cQs s] /\ Ints h' s l /\ ∀ (s' : Sl) (h'_1 : PH), h'.le
 h'_1 -> Ints h'_1 s' l -> ∃ (s : Sl) (l : List (Int × Int)), [cQs v.on] = [cQs s] /\ Pairs h'_1 s l /\ ∀ (s'_1 : Sl) (h' : PH), h'_1.le h' -> Pairs h' s'_1 l -> ∃ (s : Sl) (l :
 List Int), [cQs v.group] = [cQs s] /\ Ints h' s l /\ ∀ (s'_2 : Sl) (h'_2 : PH), h'.le h'_2 -> Ints h'_2 s'_2 l -> ∃ (s : Sl) (l : List (Int × Bool)), [cQs v.order] = [cQs s] /\
 Sorts h'_2 s l /\ ∀ (s'_3 : Sl) (h' : PH), h'_2.le h' -> Sorts h' s'_3 l -> ∃ (x : SV2 × MH × PH), I x /\ eQ (sQo cb 0) /\ eP 3 /\ eP 5 /\ eQ (oQ 43 (List.map At.val (QV.enc v)))
 /\ oQ 60 (aQi v.op :: aQi v.table :: pQ v' [aQs s', aQs s'_1, aQs s'_2, aQs s'_3, aQi v.limit, aQi 0, aQi 0]) = oQ 60 (List.map At.val (SV2.enc x.1)) /\ m = x.2.1 /\ h' = x.2.2 /\
 True) /\ ∀ (x : SV2 × MH × PH), I x -> ∃ (I : SV2 × MH × PH -> Prop), branch (decide ((↑v.args.len : Int) > 0)) (∃ (b off : Nat), v.args.a = some (Addr.mk b off none) /\ (0 : Int)
 <= 0 /\ 0 < (↑v.args.len : Int) /\ ∃ (y : QV), RdAt x.2.1 x.2.2 b (off + 0) (QV.enc y) /\ ∃ (v_1 : QV) (q : Query), ∃ (cb_1 mb : Nat) (s : Sl) (ts : List Step), [cQp cb 0, cQa
 (QV.enc y)] = [cQp cb_1 0, cQa (QV.enc v_1)] /\ RepQ x.2.2 q v_1 /\ SizeOf.sizeOf q < N /\ QKeyOk q /\ CompAt x.2.1 x.2.2 cb_1 mb s ts /\ TabM x.2.1 /\ (↑ts.length : Int) + szQ q
 <= 1000000 /\ ∀ (ts' : List Step) (k : Nat) (s' : Sl) (m' : MH) (h' : PH), x.2.2.le h' -> AddQ q ts ts' k -> CompAt m' h' cb_1 mb s' ts' -> Grew x.2.1 m' cb_1 mb s s' -> ∃ (x_1 :
 SV2 × MH × PH), I x_1 /\ eQ (sQo cb 0) /\ eP 3 /\ eP 5 /\ eQ (oQ 43 (List.map At.val (QV.enc v))) /\ oQ 60 (aQi x.1.op :: aQi x.1.table :: pQ x.1.where_ [aQs x.1.columns, aQs
 x.1.on, aQs x.1.group, aQs x.1.order, aQi x.1.limit, aQi ↑k, aQi x.1.right]) = oQ 60 (List.map At.val (SV2.enc x_1.1)) /\ m' = x_1.2.1 /\ h' = x_1.2.2 /\ True) (∃ (x_1 : SV2 × MH ×
 PH), I x_1 /\ eQ (sQo cb 0) /\ eP 3 /\ eP 5 /\ eQ (oQ 43 (List.map At.val (QV.enc v))) /\ oQ 60 (List.map At.val (SV2.enc x.1)) = oQ 60 (List.map At.val (SV2.enc x_1.1)) /\ x.2.1 =
 x_1.2.1 /\ x.2.2 = x_1.2.2 /\ True) /\ ∀ (x : SV2 × MH × PH), I x -> ∃ (I : SV2 × MH × PH -> Prop), branch (decide ((↑v.args.len : Int) > 1)) (∃ (b off : Nat), v.args.a = some
 (Addr.mk b off none) /\ (0 : Int) <= 1 /\ 1 < (↑v.args.len : Int) /\ ∃ (y : QV), RdAt x.2.1 x.2.2 b (off + 21) (QV.enc y) /\ ∃ (v : QV) (q : Query), ∃ (cb_1 mb : Nat) (s : Sl) (ts
 : List Step), [cQp cb 0, cQa (QV.enc y)] = [cQp cb_1 0, cQa (QV.enc v)] /\ RepQ x.2.2 q v /\ SizeOf.sizeOf q < N /\ QKeyOk q /\ CompAt x.2.1 x.2.2 cb_1 mb s ts /\ TabM x.2.1 /\
 (↑ts.length : Int) + szQ q <= 1000000 /\ ∀ (ts' : List Step) (k : Nat) (s' : Sl) (m' : MH) (h' : PH), x.2.2.le h' -> AddQ q ts ts' k -> CompAt m' h' cb_1 mb s' ts' -> Grew x.2.1 m'
 cb_1 mb s s' -> ∃ (x_1 : SV2 × MH × PH), I x_1 /\ eQ (sQo cb 0) /\ eP 5 /\ oQ 60 (aQi x.1.op :: aQi x.1.table :: pQ x.1.where_ [aQs x.1.columns, aQs x.1.on, aQs x.1.group, aQs
 x.1.order, aQi x.1.limit, aQi x.1.left, aQi ↑k]) = oQ 60 (List.map At.val (SV2.enc x_1.1)) /\ m' = x_1.2.1 /\ h' = x_1.2.2 /\ True) (∃ (x_1 : SV2 × MH × PH), I x_1 /\ eQ (sQo cb 0)
 /\ eP 5 /\ oQ 60 (List.map At.val (SV2.enc x.1)) = oQ 60 (List.map At.val (SV2.enc x_1.1)) /\ x.2.1 = x_1.2.1 /\ x.2.2 = x_1.2.2 /\ True) /\ ∀ (x : SV2 × MH × PH), I x -> ∃ (v_1 :
 SV2) (t : Step), [cQa (SV2.enc x.1)] = [cQa (SV2.enc v_1)] /\ RepSt x.2.2 t v_1 /\ KeyOk t /\ TabM x.2.1 /\ ∃ (y : Nat), RdAt x.2.1 x.2.2 cb 1 [Value.map (some y)] /\ ∃ (kvs : List
 (Value × ((f33_ctx N cb v).dec 3).X)), ∃ (Ok : Value -> Prop), MapAt x.2.1 y (List.map (fun (p : Value × ((f33_ctx N cb v).dec 3).X) => (p.1, vQi p.2)) kvs) /\ KeyLaw Tryz.prog 129
 Ok /\ Ok (Value.agg (Array.mk [vQi t.op, vQi t.table, vQi t.limit, vQi t.left, vQi t.right, Value.string (ByteArray.mk (Array.mk (predB t.wher))), Value.string (ByteArray.mk
 (Array.mk (numB t.columns))), Value.string (ByteArray.mk (Array.mk (pairsB t.on))), Value.string (ByteArray.mk (Array.mk (numB t.group))), Value.string (ByteArray.mk (Array.mk
 (sortsB t.order)))])) /\ (∀ (e : Value × ((f33_ctx N cb v).dec 3).X), List.Mem e kvs -> Ok e.1) /\ ((∀ (e : Value × ((f33_ctx N cb v).dec 3).X), List.Mem e kvs -> e.1 = Value.agg
 (Array.mk [vQi t.op, vQi t.table, vQi t.limit, vQi t.left, vQi t.right, Value.string (ByteArray.mk (Array.mk (predB t.wher))), Value.string (ByteArray.mk (Array.mk (numB
 t.columns))), Value.string (ByteArray.mk (Array.mk (pairsB t.on))), Value.string (ByteArray.mk (Array.mk (numB t.group))), Value.string (ByteArray.mk (Array.mk (sortsB t.order)))])
 -> False) -> ∃ (y : Sl), RdAt x.2.1 x.2.2 cb 0 [vQs y] /\ ∃ (y_1 : Sl), RdAt x.2.1 x.2.2 cb 0 [vQs y_1] /\ RdAt x.2.1 x.2.2 cb 0 [vQs y_1] /\ ∃ (xs : List (List Value)), MRow x.2.1
 (Sl.mk y_1.a y_1.len y_1.cap) 60 22 xs /\ (xs.length + 1) * 272 <= 140737488355328 /\ xs.length < 140737488355328 /\ ∀ (s' : Sl) (m' : MH), MGrown x.2.1 m' (Sl.mk y_1.a y_1.len
 y_1.cap) s' 60 22 (xs ++ [(SV2.enc x.1)]) -> ∃ (cs : Array Value) (E : TypeId), MAt m' cb (Obj.cells cs E) /\ 0 < cs.size /\ ∀ (m'_1 : MH), MUpd m' m'_1 cb (Obj.cells (Array.mk
 (vQs s' :: (List.drop 1 cs.toList))) E) -> ∃ (y_2 : Nat), RdAt m'_1 x.2.2 cb 1 [Value.map (some y_2)] /\ ∃ (kvs : List (Value × Value)) (Ok : Value -> Prop), MapAt m'_1 y_2 kvs /\
 KeyLaw Tryz.prog 129 Ok /\ Ok (Value.agg (Array.mk [vQi t.op, vQi t.table, vQi t.limit, vQi t.left, vQi t.right, Value.string (ByteArray.mk (Array.mk (predB t.wher))), Value.string
 (ByteArray.mk (Array.mk (numB t.columns))), Value.string (ByteArray.mk (Array.mk (pairsB t.on))), Value.string (ByteArray.mk (Array.mk (numB t.group))), Value.string (ByteArray.mk
 (Array.mk (sortsB t.order)))])) /\ (∀ (e : Value × Value), List.Mem e kvs -> Ok e.1) /\ (∀ (e : Value × Value), List.Mem e kvs -> e.1 = Value.agg (Array.mk [vQi t.op, vQi t.table,
 vQi t.limit, vQi t.left, vQi t.right, Value.string (ByteArray.mk (Array.mk (predB t.wher))), Value.string (ByteArray.mk (Array.mk (numB t.columns))), Value.string (ByteArray.mk
 (Array.mk (pairsB t.on))), Value.string (ByteArray.mk (Array.mk (numB t.group))), Value.string (ByteArray.mk (Array.mk (sortsB t.order)))]) -> False) /\ ∀ (m' : MH), MSame m'_1 m'
 y_2 -> MapAt m' y_2 (kvs ++ [(Value.agg (Array.mk [vQi t.op, vQi t.table, vQi t.limit, vQi t.left, vQi t.right, Value.string (ByteArray.mk (Array.mk (predB t.wher))), Value.string
 (ByteArray.mk (Array.mk (numB t.columns))), Value.string (ByteArray.mk (Array.mk (pairsB t.on))), Value.string (ByteArray.mk (Array.mk (numB t.group))), Value.string (ByteArray.mk
 (Array.mk (sortsB t.order)))]), vQi ↑y.len)]) -> K (cQi ↑y.len) m' x.2.2) /\ ∀ (y : Int), List.Mem (Value.agg (Array.mk [vQi t.op, vQi t.table, vQi t.limit, vQi t.left, vQi
 t.right, Value.string (ByteArray.mk (Array.mk (predB t.wher))), Value.string (ByteArray.mk (Array.mk (numB t.columns))), Value.string (ByteArray.mk (Array.mk (pairsB t.on))),
 Value.string (ByteArray.mk (Array.mk (numB t.group))), Value.string (ByteArray.mk (Array.mk (sortsB t.order)))]), y) kvs -> K (cQi y) x.2.1 x.2.2
theorem f33_vc (N : Nat) (cb : Nat) (v : QV) (m : MH) (h : PH) (K : CV → MH → PH → Prop) : f33_nice N cb v m h K = (fnVC (f33_ctx N cb v) Tryz.f33 (bodyOf Tryz.f33) (entry Tryz.f33.ntmps [cP cb, aQ v] m h) K) := by kernel_rfl
def First (args : List Query) (ts ts1 : List Step) (l : Nat) : Prop := match args with
 | [] => ts1 = ts ∧ l = 0
 | a :: _ => AddQ a ts ts1 l
def Second (args : List Query) (ts ts1 : List Step) (r : Nat) : Prop := match args with
 | _ :: b :: _ => AddQ b ts ts1 r
 | _ => ts1 = ts ∧ r = 0
theorem addQ_iff {op : Int} {on : List (Int × Int)} {args : List Query} {ts' : List Step} :
 AddQ (.mk op ta w co on gr od li args) ts ts' k ↔ ∃ ts1 l ts2 r, First args ts ts1 l ∧ Second args ts1 ts2 r ∧ AddT ⟨op, ta, w, co, on, gr, od, li, (l : Nat), (r : Nat)⟩ ts2 ts' k := by
 rw [AddQ.eq_def]
 cases args with
 | nil =>
  simp only [First, Second]
  constructor
  · intro h; exact ⟨ts, 0, ts, 0, ⟨rfl, rfl⟩, ⟨rfl, rfl⟩, h⟩
  · rintro ⟨_, _, _, _, ⟨rfl, rfl⟩, ⟨rfl, rfl⟩, h⟩; exact h
 | cons a args =>
  cases args with
  | nil =>
   simp only [First, Second]
   constructor
   · rintro ⟨ts1, l, h1, h2⟩; exact ⟨ts1, l, ts1, 0, h1, ⟨rfl, rfl⟩, h2⟩
   · rintro ⟨ts1, l, _, _, h1, ⟨rfl, rfl⟩, h2⟩; exact ⟨_, l, h1, h2⟩
  | cons b args =>
   simp only [First, Second]
theorem addT_len {ts' : List Step} (h : AddT t ts ts' k) : ts'.length ≤ ts.length + 1 := by
 rcases h with ⟨_, _, _, rfl⟩ | ⟨_, rfl, _⟩
 · omega
 · simp
theorem addQ_len : ∀ (q : Query) {ts ts' : List Step} {k : Nat}, AddQ q ts ts' k → (ts'.length : Int) ≤ ts.length + szQ q
 | .mk op ta w co on gr od li args, ts, ts', k, h => by
  rw [addQ_iff] at h
  obtain ⟨ts1, l, ts2, r, h1, h2, h3⟩ := h
  have := addT_len h3
  simp only [szQ]
  match args, h1, h2 with
  | [], h1, h2 =>
   obtain ⟨rfl, _⟩ := h1
   obtain ⟨rfl, _⟩ := h2
   simp only [szQs]; omega
  | [a], h1, h2 =>
   obtain ⟨rfl, _⟩ := h2
   have := addQ_len a h1
   simp only [szQs]; omega
  | a :: b :: r, h1, h2 =>
   have := addQ_len a h1
   have := addQ_len b h2
   have := szQs_pos r
   simp only [szQs]; omega
theorem qkey_iff {op : Int} {on : List (Int × Int)} {args : List Query} :
 QKeyOk (.mk op ta w co on gr od li args) ↔ KeyOk ⟨op, ta, w, co, on, gr, od, li, 0, 0⟩ ∧ ∀ a ∈ args, QKeyOk a := by rw [QKeyOk.eq_def]
theorem MRow.blk {s : Sl} {E : Nat} (h : MRow m s E sz xs) (e : s.a = some ⟨b, i, none⟩) : ∃ cur, m b = some (.cells cur E (0, 0)) := by
 rcases h.ex with ⟨rfl, _⟩ | ⟨b', cap, cur, rfl, hm, _⟩
 · cases e
 · simp only [Option.some.injEq, Addr.mk.injEq] at e
   rw [← e.1]; exact ⟨cur, hm⟩
theorem MRow.slen {s : Sl} {E : Nat} (h : MRow m s E sz xs) : s.len = xs.length := by
 rcases h.ex with ⟨rfl, rfl⟩ | ⟨b', cap, cur, rfl, hm, _⟩ <;> rfl
theorem MRow.keep {s : Sl} {E : Nat} (h : MRow m s E sz xs) (hk : ∀ b i, s.a = some ⟨b, i, none⟩ → m' b = m b) : MRow m' s E sz xs := by
 refine ⟨h.rows, ?_⟩
 rcases h.ex with h1 | ⟨b, cap, cur, rfl, hm, h2⟩
 · exact .inl h1
 · exact .inr ⟨b, cap, cur, rfl, by rw [hk b 0 rfl]; exact hm, h2⟩
theorem Grew.refl (m : MH) (cb mb : Nat) (s : Sl) : Grew m m cb mb s s := ⟨fun _ _ h _ _ _ => h, fun b i h => .inr ⟨i, h⟩⟩
theorem Grew.trans {m1 m2 : MH} {h1 : PH} {mb : Nat} {s s1 s2 : Sl} {ts1 : List Step} (a : Grew m m1 cb mb s s1) (c : CompAt m1 h1 cb mb s1 ts1) (b : Grew m1 m2 cb mb s1 s2) : Grew m m2 cb mb s s2 := by
 refine ⟨fun x o h n1 n2 n3 => b.other x o (a.other x o h n1 n2 n3) n1 n2 (fun i e => ?_), fun x i e => ?_⟩
 · rcases a.fresh x i e with h1 | ⟨j, h1⟩
   · rw [h1] at h; cases h
   · exact n3 j h1
 · rcases b.fresh x i e with h2 | ⟨j, h2⟩
   · by_cases hs : ∃ i, s.a = some ⟨x, i, none⟩
     · exact .inr hs
     · left
       cases hm : m x with
       | none => rfl
       | some o =>
        have n1 : x ≠ cb := fun e => by rw [e, c.at_] at h2; cases h2
        have n2 : x ≠ mb := fun e => by
         obtain ⟨es, cl, h3, _⟩ := c.map_.ex
         rw [e, h3] at h2; cases h2
        rw [a.other x o hm n1 n2 (fun i e => hs ⟨i, e⟩)] at h2
        cases h2
   · exact a.fresh x j h2
theorem CompAt.tab {mb : Nat} {s s' : Sl} (c : CompAt m h cb mb s ts) (g : Grew m m' cb mb s s') (ht : TabM m) : TabM m' := by
 obtain ⟨T, fz, n1, n2, e⟩ := ht
 refine ⟨T, fz, n1, n2, g.other 0 _ e (fun x => ?_) (fun x => ?_) (fun i x => ?_)⟩
 · rw [x, c.at_] at e
   simp only [Option.some.injEq, Obj.cells.injEq] at e
   exact n2 e.2.1.symm
 · obtain ⟨es, cl, h3, _⟩ := c.map_.ex
   rw [x, h3] at e; cases e
 · obtain ⟨vs, hr, _⟩ := c.row
   obtain ⟨cur, h3⟩ := MRow.blk hr x
   rw [h3] at e
   simp only [Option.some.injEq, Obj.cells.injEq] at e
   exact n1 e.2.1.symm
theorem CompAt.mono {mb : Nat} {s : Sl} (c : CompAt m h cb mb s ts) (le : PH.le h h') : CompAt m h' cb mb s ts := by
 obtain ⟨vs, h1, h2, h3⟩ := c.row
 exact ⟨c.at_, ⟨vs, h1, h2, fun i t e => let ⟨v, e1, e2⟩ := h3 i t e; ⟨v, e1, e2.mono le⟩⟩, c.map_, c.nodup⟩
theorem mem_kvs {ts : List Step} {k : Value} {y : Int} (h : (k, y) ∈ ts.mapIdx fun i t => ((keyOf t).val, (i : Int))) : ∃ (i : Nat) (t : Step), ts[i]? = some t ∧ k = (keyOf t).val ∧ y = i := by
 obtain ⟨i, hi, e⟩ := List.mem_mapIdx.1 h
 simp only [Prod.mk.injEq] at e
 exact ⟨i, ts[i], List.getElem?_eq_getElem hi, e.1.symm, e.2.symm⟩
theorem add_step {m : MH} {h : PH} {cb mb : Nat} {s : Sl} {ts : List Step} {t : Step} {v : SV2} {N : Nat} {w : QV} {K : CV → MH → PH → Prop} (c : CompAt m h cb mb s ts) (ht : TabM m) (hk : KeyOk t) (hv : RepSt h t v) (hl : ts.length + 1 ≤ 1000001)
 (hK : ∀ ts' (k : Nat) s' m', AddT t ts ts' k → CompAt m' h cb mb s' ts' → Grew m m' cb mb s s' → K (cI k) m' h) :
 ∃ (v_2 : SV2) (t : Step), [CV.val (.agg ⟨v.enc⟩)] = [CV.val (.agg ⟨v_2.enc⟩)] ∧ RepSt h t v_2 ∧ KeyOk t ∧ TabM m ∧ ∃ y : Nat, RdAt m h cb 1 [Value.map (some y)] ∧ ∃ (kvs : List (Value × Int)) (Ok : Value → Prop), MapAt m y (kvs.map fun p => (p.1, .int .i64 p.2)) ∧ KeyLaw Tryz.prog 129 Ok ∧ Ok (.agg ⟨keyV t⟩) ∧ (∀ e : Value × Int, List.Mem e kvs → Ok e.1) ∧
  ((∀ e : Value × Int, List.Mem e kvs → e.1 = .agg ⟨keyV t⟩ → False) → ∃ y : Sl, RdAt m h cb 0 [.slice y.a y.len y.cap] ∧ ∃ y_1 : Sl, RdAt m h cb 0 [.slice y_1.a y_1.len y_1.cap] ∧ RdAt m h cb 0 [.slice y_1.a y_1.len y_1.cap] ∧ ∃ xs, MRow m ⟨y_1.a, y_1.len, y_1.cap⟩ 60 22 xs ∧ (xs.length + 1) * 272 ≤ 140737488355328 ∧ xs.length < 140737488355328 ∧
   ∀ (s' : Sl) (m' : MH), MGrown m m' ⟨y_1.a, y_1.len, y_1.cap⟩ s' 60 22 (xs ++ [v.enc]) → ∃ (cs : Array Value) (E : TypeId), MAt m' cb (.cells cs E (0, 0)) ∧ 0 < cs.size ∧ ∀ m'_1 : MH, MUpd m' m'_1 cb (.cells ⟨.slice s'.a s'.len s'.cap :: ([] ++ cs.toList.drop 1)⟩ E (0, 0)) →
    ∃ y_2 : Nat, RdAt m'_1 h cb 1 [Value.map (some y_2)] ∧ ∃ (kvs : List (Value × Value)) (Ok : Value → Prop), MapAt m'_1 y_2 kvs ∧ KeyLaw Tryz.prog 129 Ok ∧ Ok (.agg ⟨keyV t⟩) ∧ (∀ e : Value × Value, List.Mem e kvs → Ok e.1) ∧ (∀ e : Value × Value, List.Mem e kvs → e.1 = .agg ⟨keyV t⟩ → False) ∧
     ∀ m' : MH, MSame m'_1 m' y_2 → MapAt m' y_2 (kvs ++ [(.agg ⟨keyV t⟩, .int .i64 y.len)]) → K (.val (.int .i64 y.len)) m' h) ∧
  ∀ y : Int, List.Mem (Value.agg ⟨keyV t⟩, y) kvs → K (.val (.int .i64 y)) m h := by
 obtain ⟨vs, hr, hsl, hst⟩ := c.row
 have hlen := MRow.slen hr
 rw [List.length_map, hsl] at hlen
 have hmap : (ts.mapIdx fun i t => ((keyOf t).val, (i : Int))).map (fun p => (p.1, Value.int .i64 p.2)) = ts.mapIdx fun i t => ((keyOf t).val, .int .i64 i) := by
  apply List.ext_getElem?
  intro i
  simp only [List.getElem?_map, List.getElem?_mapIdx, Option.map_map]
  rfl
 have rd1 : RdAt m h cb 1 [Value.map (some mb)] := .of_m c.at_ rfl
 have rd0 : RdAt m h cb 0 [.slice s.a s.len s.cap] := .of_m c.at_ rfl
 have ncb : ∀ b i, s.a = some ⟨b, i, none⟩ → b ≠ cb := fun b i e e2 => by
  obtain ⟨cur, h3⟩ := MRow.blk hr e
  rw [e2, c.at_] at h3; cases h3
 have cbmb : cb ≠ mb := fun e => by
  obtain ⟨es, cl, h3, _⟩ := c.map_.ex
  rw [← e, c.at_] at h3; cases h3
 refine ⟨v, t, rfl, hv, hk, ht, mb, rd1, ts.mapIdx fun i t => ((keyOf t).val, (i : Int)), _, by rw [hmap]; exact c.map_, keyLaw129, ⟨keyOf t, rfl⟩, fun e he => ?_, fun hno => ?_, fun y hy => ?_⟩
 · obtain ⟨i, t', _, e1, _⟩ := mem_kvs (k := e.1) (y := e.2) he
   exact ⟨keyOf t', e1⟩
 · have hno' : ∀ x ∈ ts, keyOf x ≠ keyOf t := by
    intro x hx e
    obtain ⟨i, hi⟩ := List.mem_iff_getElem?.1 hx
    have hil := (List.getElem?_eq_some_iff.1 hi).1
    refine hno ((keyOf x).val, (i : Int)) ?_ (by rw [e]; rfl)
    refine List.mem_mapIdx.2 ⟨i, hil, ?_⟩
    rw [List.getElem?_eq_getElem hil] at hi
    cases hi; rfl
   refine ⟨s, rd0, s, rd0, rd0, vs.map SV2.enc, hr, by rw [List.length_map]; omega, by rw [List.length_map]; omega, fun s' m1 hg => ?_⟩
   have m1cb : m1 cb = some (.cells #[.slice s.a s.len s.cap, .map (some mb)] 90 (0, 0)) := hg.other cb _ c.at_ (fun i e => ncb cb i e rfl)
   refine ⟨_, _, ⟨m1cb⟩, by simp, fun m2 hu => ?_⟩
   have hu : MUpd m1 m2 cb (.cells #[.slice s'.a s'.len s'.cap, .map (some mb)] 90 (0, 0)) := hu
   obtain ⟨es, cl, hes, hkv⟩ := c.map_.ex
   have m1mb : m1 mb = some (.map es cl) := hg.other mb _ hes (fun i e => by
    obtain ⟨cur, h3⟩ := MRow.blk hr e
    rw [hes] at h3; cases h3)
   have m2mb : m2 mb = some (.map es cl) := by rw [hu.other mb (Ne.symm cbmb)]; exact m1mb
   refine ⟨mb, .of_m hu.at_ rfl, ts.mapIdx fun i t => ((keyOf t).val, .int .i64 i), _, ⟨es, cl, m2mb, hkv⟩, keyLaw129, ⟨keyOf t, rfl⟩, fun e he => ?_, fun e he e2 => ?_, fun m3 hs3 hm3 => ?_⟩
   · obtain ⟨i, hi, e1⟩ := List.mem_mapIdx.1 he
     exact ⟨keyOf ts[i], by rw [← e1]⟩
   · obtain ⟨i, hi, e1⟩ := List.mem_mapIdx.1 he
     rw [← e1] at e2
     exact hno' ts[i] (List.getElem_mem hi) (KV.val_inj.1 e2)
   · rw [hlen] at hm3 ⊢
     have s'cb : ∀ b i, s'.a = some ⟨b, i, none⟩ → b ≠ cb := fun b i e e2 => by
      obtain ⟨cur, h3⟩ := MRow.blk hg.row e
      rw [e2, m1cb] at h3; cases h3
     have s'mb : ∀ b i, s'.a = some ⟨b, i, none⟩ → b ≠ mb := fun b i e e2 => by
      obtain ⟨cur, h3⟩ := MRow.blk hg.row e
      rw [e2, m1mb] at h3; cases h3
     refine hK (ts ++ [t]) ts.length s' m3 (.inr ⟨hno', rfl, rfl⟩) ⟨?_, ⟨vs ++ [v], ?_, ?_⟩, ?_, ?_⟩ ⟨?_, ?_⟩
     · rw [hs3.other cb cbmb]; exact hu.at_
     · rw [List.map_append]
       refine MRow.keep hg.row (fun b i e => ?_)
       rw [hs3.other b (s'mb b i e), hu.other b (s'cb b i e)]
     · refine ⟨by simp [hsl], fun i x hx => ?_⟩
       by_cases hi : i < ts.length
       · rw [List.getElem?_append_left hi] at hx
         obtain ⟨u, e1, e2⟩ := hst i x hx
         exact ⟨u, by rw [List.getElem?_append_left (by omega)]; exact e1, e2⟩
       · rw [List.getElem?_append_right (by omega)] at hx
         have hil := (List.getElem?_eq_some_iff.1 hx).1
         simp at hil
         have : i = ts.length := by omega
         subst this
         simp at hx
         subst hx
         exact ⟨v, by rw [List.getElem?_append_right (by omega), hsl]; simp, hv⟩
     · rw [List.mapIdx_append]
       rw [← keyOf_val] at hm3
       simpa using hm3
     · rw [List.map_append, List.nodup_append]
       refine ⟨c.nodup, by simp, fun a ha b hb => ?_⟩
       obtain ⟨x, hx, rfl⟩ := List.mem_map.1 ha
       simp at hb
       rw [hb]; exact hno' x hx
     · intro b o e n1 n2 n3
       rw [hs3.other b n2, hu.other b n1]
       exact hg.other b o e n3
     · exact hg.fresh
 · obtain ⟨i, t', hi, e1, rfl⟩ := mem_kvs hy
   refine hK ts i s m (.inl ⟨t', hi, ?_, rfl⟩) c (.refl _ _ _ _)
   exact (KV.val_inj.1 (e1.symm.trans rfl : (keyOf t').val = (keyOf t).val))
theorem f33_ok {mb : Nat} {s : Sl} (hq : RepQ h q v) (hN : SizeOf.sizeOf q < N + 1) (hk : QKeyOk q) (c : CompAt m h cb mb s ts) (ht : TabM m) (hl : (ts.length : Int) + szQ q ≤ 1000000)
 (hK : ∀ ts' (k : Nat) s' m' h', PH.le h h' → AddQ q ts ts' k → CompAt m' h' cb mb s' ts' → Grew m m' cb mb s s' → K (cI k) m' h') : f33_nice N cb v m h K := by
 have hargs := @qargs_lt q
 obtain ⟨op, ta, w, co, on, gr, od, li, args⟩ := q
 have x := hq.parts
 have hal := x.args_.slen
 rw [qkey_iff] at hk
 obtain ⟨hk, hka⟩ := hk
 simp only [szQ] at hl
 simp only [Query.args] at hargs
 refine ⟨fun ⟨t, mx, hx⟩ => mx = m ∧ PH.le h hx ∧ RepSt hx ⟨op, ta, w, co, on, gr, od, li, 0, 0⟩ t, ?_, ?_⟩
 · repeat' (first
    | (refine ⟨v.where_, w, rfl, x.where_, fun v1 h1 le1 r1 => ?_⟩)
    | (refine ⟨v.columns, co, rfl, x.columns_.mono le1, fun s2 h2 le2 r2 => ?_⟩)
    | (refine ⟨v.on, on, rfl, x.on_.mono (le1.trans le2), fun s3 h3 le3 r3 => ?_⟩)
    | (refine ⟨v.group, gr, rfl, x.group_.mono ((le1.trans le2).trans le3), fun s4 h4 le4 r4 => ?_⟩)
    | (refine ⟨v.order, od, rfl, x.order_.mono (((le1.trans le2).trans le3).trans le4), fun s5 h5 le5 r5 => ?_⟩)
    | (exact ⟨(⟨v.op, v.table, v1, s2, s3, s4, s5, v.limit, 0, 0⟩, m, h5), ⟨rfl, (((le1.trans le2).trans le3).trans le4).trans le5, ⟨x.op_, x.table_, r1.mono (((le2.trans le3).trans le4).trans le5), r2.mono ((le3.trans le4).trans le5), r3.mono (le4.trans le5), r4.mono le5, r5, x.limit_, rfl, rfl⟩⟩, MT⟩)
    | apply And.intro)
 rintro ⟨t, m0, hx⟩ ⟨rfl, hle, hr⟩
 dsimp only
 refine ⟨fun ⟨t, mx, hy⟩ => ∃ ts1 l s1, First args ts ts1 l ∧ (ts1.length : Int) + szQs (args.drop 1) + 1 ≤ 1000000 ∧ CompAt mx hy cb mb s1 ts1 ∧ Grew m0 mx cb mb s s1 ∧ PH.le h hy ∧ RepSt hy ⟨op, ta, w, co, on, gr, od, li, (l : Nat), 0⟩ t, branch_dec (fun hpos => ?_) (fun hneg => ?_), ?_⟩
 · obtain ⟨a, rs, rfl⟩ : ∃ a rs, args = a :: rs := by
    cases args with
    | nil => simp at hal; omega
    | cons a rs => exact ⟨a, rs, rfl⟩
   simp only [szQs] at hl
   have hsa := szQs_pos rs
   obtain ⟨b1, o1, u, e1, r1, hru⟩ := (x.args_.mono hle).at (i := 0) (x := a) rfl
   refine ⟨b1, o1, e1, by omega, by omega, u, .imm (by simpa using r1), u, a, cb, mb, s, ts, rfl, hru, ?_, hka a (by simp), c.mono hle, ht, by omega, fun ts' k s' m' h' le' ha hc hg => ⟨(⟨t.op, t.table, t.where_, t.columns, t.on, t.group, t.order, t.limit, k, t.right⟩, m', h'), ⟨ts', k, s', ha, ?_, hc, hg, hle.trans le', ?_⟩, ?_⟩⟩
   · have := hargs (q := a) (by simp); omega
   · have := addQ_len a ha; simp only [List.drop_succ_cons, List.drop_zero]; omega
   · have r := hr.mono le'; exact ⟨r.op_, r.table_, r.where_, r.columns_, r.on_, r.group_, r.order_, r.limit_, rfl, r.right_⟩
   · rw [hr.right_]; exact MT
 · obtain rfl : args = [] := by
    cases args with
    | nil => rfl
    | cons a rs => simp at hal; omega
   exact ⟨(t, m0, hx), ⟨ts, 0, s, ⟨rfl, rfl⟩, by simp [szQs] at hl ⊢; omega, c.mono hle, .refl _ _ _ _, hle, hr⟩, MT⟩
 clear hr hle
 rintro ⟨t, m1, hy⟩ ⟨ts1, l, s1, hf, hl1, c1, g1, hle, hr⟩
 dsimp only
 have ht1 := c.tab g1 ht
 refine ⟨fun ⟨t, mx, hz⟩ => ∃ ts2 r s2, Second args ts1 ts2 r ∧ ts2.length + 1 ≤ 1000000 ∧ CompAt mx hz cb mb s2 ts2 ∧ Grew m0 mx cb mb s s2 ∧ PH.le h hz ∧ RepSt hz ⟨op, ta, w, co, on, gr, od, li, (l : Nat), (r : Nat)⟩ t, branch_dec (fun hpos => ?_) (fun hneg => ?_), ?_⟩
 · obtain ⟨a0, a, rs, rfl⟩ : ∃ a0 a rs, args = a0 :: a :: rs := by
    cases args with
    | nil => simp at hal; omega
    | cons a rs => cases rs with
     | nil => simp at hal; omega
     | cons b rs => exact ⟨a, b, rs, rfl⟩
   simp only [szQs, List.drop_succ_cons, List.drop_zero] at hl1
   have hsa := szQs_pos rs
   obtain ⟨b1, o1, u, e1, r1, hru⟩ := (x.args_.mono hle).at (i := 1) (x := a) rfl
   refine ⟨b1, o1, e1, by omega, by omega, u, .imm (by simpa using r1), u, a, cb, mb, s1, ts1, rfl, hru, ?_, hka a (by simp), c1, ht1, by omega, fun ts' k s' m' h' le' ha hc hg => ⟨(⟨t.op, t.table, t.where_, t.columns, t.on, t.group, t.order, t.limit, t.left, k⟩, m', h'), ⟨ts', k, s', ha, ?_, hc, g1.trans c1 hg, hle.trans le', ?_⟩, ?_⟩⟩
   · have := hargs (q := a) (by simp); omega
   · have := addQ_len a ha; omega
   · have r := hr.mono le'; exact ⟨r.op_, r.table_, r.where_, r.columns_, r.on_, r.group_, r.order_, r.limit_, r.left_, rfl⟩
   · exact MT
 · cases args with
   | nil => exact ⟨(t, m1, hy), ⟨ts1, 0, s1, ⟨rfl, rfl⟩, by simp [szQs] at hl1; omega, c1, g1, hle, hr⟩, MT⟩
   | cons a rs => cases rs with
    | nil => exact ⟨(t, m1, hy), ⟨ts1, 0, s1, ⟨rfl, rfl⟩, by simp [szQs] at hl1; omega, c1, g1, hle, hr⟩, MT⟩
    | cons b rs => simp at hal; omega
 clear hr
 rintro ⟨t, m2, hz⟩ ⟨ts2, r, s2, hf2, hl2, c2, g2, hle2, hr⟩
 dsimp only
 exact add_step (N := N) (w := v) (t := ⟨op, ta, w, co, on, gr, od, li, (l : Nat), (r : Nat)⟩) c2 (c.tab g2 ht) ⟨hk.wher, hk.columns, hk.on, hk.group, hk.order⟩ hr (by omega) (fun ts' k s' m' ha hc hg => hK ts' k s' m' hz hle2 (addQ_iff.2 ⟨ts1, l, ts2, r, hf, hf2, ha⟩) hc (g2.trans c2 hg))
theorem f33_all : ∀ N, Sound Tryz.prog 33 (AddSp N)
 | 0 => by
  refine fn_sound (fn := Tryz.f33) (c := bodyOf Tryz.f33) Tryz.func33 rfl (by decide) ?_
  rintro cvs m h K ⟨v, q, cb, mb, s, ts, rfl, _, hN, _⟩
  omega
 | N + 1 => by
  refine fn_sound (fn := Tryz.f33) (c := bodyOf Tryz.f33) Tryz.func33 rfl (by decide) ?_
  rintro cvs m h K ⟨v, q, cb, mb, s, ts, rfl, hq, hN, hk, c, ht, hl, hK⟩
  refine ⟨f33_ctx N cb v, rfl, specs_cons f66_sound (specs_cons f67_sound (specs_cons f68_sound (specs_cons f69_sound (specs_cons f70_sound (specs_cons (f33_all N) specs_nil))))), ?_⟩
  rw [← f33_vc N cb v m h K]
  exact f33_ok hq hN hk c ht hl hK
def AddAll : List Query → List Step → List Step → List Nat → Prop
 | [], ts, ts', ks => ts' = ts ∧ ks = []
 | q :: qs, ts, ts', ks => ∃ ts1 k ks', AddQ q ts ts1 k ∧ AddAll qs ts1 ts' ks' ∧ ks = k :: ks'
def compErr (s : Sch) (qs : List Query) : Int := if 32 < qs.length then 2 else if schErr s ≠ 0 then schErr s else firstErr (qs.map fun q => (queryR s [] q).2)
def aPl (p r : Sl) : CV := .val (.agg ⟨[.slice p.a p.len p.cap, .slice r.a r.len r.cap]⟩)
structure PlanAt (h : PH) (p r : Sl) (ts : List Step) (ks : List Nat) : Prop where
 steps : ∃ vs, RowIn h p 22 (vs.map SV2.enc) ∧ Steps h vs ts
 roots : Ints h r (ks.map fun (k : Nat) => (k : Int))
 nodup : (ts.map keyOf).Nodup
def CompileS : Vc.Spec := fun cvs m h K => ∃ sc sl s qs, cvs = [aS sc, cS sl] ∧ RepS h s sc ∧ RepQl h sl qs ∧ TabM m ∧ (∀ q ∈ qs, (queryR s [] q).2 = 0 → QKeyOk q) ∧
 (compErr s qs ≠ 0 → K (.tup [aPl nilS nilS, cI (compErr s qs)]) m h) ∧ (compErr s qs = 0 → ∀ p r ts ks h', PH.le h h' → AddAll qs [] ts ks → PlanAt h' p r ts ks → K (.tup [aPl p r, cI 0]) m h')
def AddA : Vc.Spec := fun cvs m h K => ∃ v q cb mb s ts, cvs = [cP cb, aQ v] ∧ RepQ h q v ∧ QKeyOk q ∧ CompAt m h cb mb s ts ∧ TabM m ∧ (ts.length : Int) + szQ q ≤ 1000000 ∧
 ∀ ts' (k : Nat) s' m' h', PH.le h h' → AddQ q ts ts' k → CompAt m' h' cb mb s' ts' → Grew m m' cb mb s s' → K (cI k) m' h'
def f14_ctx (sc : SchV) (sl : Sl) (m0 : MH) : Ctx :=
 ctx4 [(31, SchCheckS), (32, QueryCheckS), (33, AddA)]
  [(7, { A := Nat × PH, st := fun ⟨i, h⟩ => mkSt 64 66 [(1, sv sl), (2, .at (.ptr 2 0)), (4, .at (.ptr 4 0)), (25, sv sl), (26, iv sl.len), (27, iv i)] [(2, .cells 28 (sc.enc.map .val)), (4, .cells 49 [.val (.slice none 0 0), .val (.slice none 0 0)])] m0 h }),
   (16, { A := Nat × Nat × List Int × MH × PH, st := fun ⟨i, cb, ks, m, h⟩ => mkSt 64 66 [(4, .at (.ptr 4 0)), (11, pv cb), (12, .at (.lst 46)), (47, sv sl), (48, iv sl.len), (49, iv i)] [(4, .cells 49 [.val (.slice none 0 0), .val (.slice none 0 0)]), (46, .lst 3 1 (ks.map eI))] m h })] [] [] [90] [] false
def f14_nice (sc : SchV) (sl : Sl) (m : MH) (h : PH) (K : CV → MH → PH → Prop) : Prop :=
 branch (decide ((↑sl.len : Int) > 32)) (K (CV.tup [cQa [vQn, vQn], cQi 2]) m h) (∃ (v : SchV) (s : Sch), [cQa [vQi sc.version, vQs sc.tables]] = [cQa [vQi v.version, vQs v.tables]]
 /\ RepS h s v /\ branch (schErr s != 0) (K (CV.tup [cQa [vQn, vQn], cQi (schErr s)]) m h) (∃ (I : Nat × PH -> Prop) (mu : Nat × PH -> Nat), (∃ (x : Nat × PH), I x /\ eQ (sQs sl) /\
 eP 2 /\ eP 4 /\ eQ (sQs sl) /\ eQ (sQi ↑sl.len) /\ sQi 0 = sQi ↑x.1 /\ eQ (oQ 28 [aQi sc.version, aQs sc.tables]) /\ eQ (oQ 49 [aQn, aQn]) /\ m = m /\ h = x.2 /\ True) /\ ∀ (x :
 Nat × PH), I x -> branch (decide ((↑x.1 : Int) < ↑sl.len)) (∃ (b off : Nat), sl.a = some (Addr.mk b off none) /\ 0 <= (↑x.1 : Int) /\ (↑x.1 : Int) < ↑sl.len /\ ∃ (y : QV), RdAt m
 x.2 b (off + (↑x.1 : Int).toNat * 21) (QV.enc y) /\ ∃ (sc_1 : SchV) (p : Sl), ∃ (v : QV) (s : Sch), ∃ (ps : List Int) (q : Query), [cQa [vQi sc.version, vQs sc.tables], cQn, cQa
 (QV.enc y)] = [cQa [vQi sc_1.version, vQs sc_1.tables], cQs p, cQa (QV.enc v)] /\ RepS x.2 s sc_1 /\ Ints x.2 p ps /\ RepQ x.2 q v /\ ∀ (sl_1 : Sl) (h' : PH), x.2.le h' -> Ints h'
 sl_1 (queryR s ps q).1 -> branch ((queryR s ps q).2 != 0) (K (CV.tup [cQa [vQn, vQn], CV.val (vQi (queryR s ps q).2)]) m h') (∃ (x_1 : Nat × PH), I x_1 /\ mu x_1 < mu x /\ eQ (sQs
 sl) /\ eP 2 /\ eP 4 /\ eQ (sQs sl) /\ eQ (sQi ↑sl.len) /\ sQi (IntKind.i64.wrap ((↑x.1 : Int) + 1)) = sQi ↑x_1.1 /\ eQ (oQ 28 [aQi sc.version, aQs sc.tables]) /\ eQ (oQ 49 [aQn,
 aQn]) /\ m = m /\ h' = x_1.2 /\ True)) (∀ (b : Nat) (m' : MH), Unheld m x.2 b -> MUpd m m' b (Obj.map (Array.mk []) 0) -> ∀ (b_1 : Nat) (m'_1 : MH), Unheld m' x.2 b_1 -> MUpd m'
 m'_1 b_1 (Obj.cells (Array.mk [vQn, Value.map none]) 90) -> ∃ (cs : Array Value) (E : TypeId), MAt m'_1 b_1 (Obj.cells cs E) /\ 2 <= cs.size /\ ∀ (m' : MH), MUpd m'_1 m' b_1
 (Obj.cells (Array.mk (vQn :: Value.map (some b) :: (List.drop 2 cs.toList))) E) -> 0 <= (↑sl.len : Int) /\ (↑sl.len : Int) <= ↑sl.len /\ (↑sl.len : Int) * 8 <= 281474976710656 /\
 (↑sl.len : Int) <= 281474976710656 /\ ∃ (I : Nat × Nat × List Int × MH × PH -> Prop) (mu : Nat × Nat × List Int × MH × PH -> Nat), (∃ (x_1 : Nat × Nat × List Int × MH × PH), I x_1
 /\ eP 4 /\ sQo b_1 0 = sQo x_1.2.1 0 /\ eL 46 /\ eQ (sQs sl) /\ eQ (sQi ↑sl.len) /\ sQi 0 = sQi ↑x_1.1 /\ eQ (oQ 49 [aQn, aQn]) /\ some (Own.lst 3 1 (List.replicate (↑sl.len :
 Int).toNat [vQi 0])) = some (Own.lst 3 1 (List.map eI x_1.2.2.1)) /\ m' = x_1.2.2.2.1 /\ x.2 = x_1.2.2.2.2 /\ True) /\ ∀ (x : Nat × Nat × List Int × MH × PH), I x -> branch (decide
 ((↑x.1 : Int) < ↑sl.len)) (∃ (b off : Nat), sl.a = some (Addr.mk b off none) /\ 0 <= (↑x.1 : Int) /\ (↑x.1 : Int) < ↑sl.len /\ ∃ (y : QV), RdAt x.2.2.2.1 x.2.2.2.2 b (off + (↑x.1 :
 Int).toNat * 21) (QV.enc y) /\ ∃ (v : QV) (q : Query), ∃ (cb mb : Nat) (s : Sl) (ts : List Step), [cQp x.2.1 0, cQa (QV.enc y)] = [cQp cb 0, cQa (QV.enc v)] /\ RepQ x.2.2.2.2 q v
 /\ QKeyOk q /\ CompAt x.2.2.2.1 x.2.2.2.2 cb mb s ts /\ TabM x.2.2.2.1 /\ (↑ts.length : Int) + szQ q <= 1000000 /\ ∀ (ts' : List Step) (k : Nat) (s' : Sl) (m' : MH) (h' : PH),
 x.2.2.2.2.le h' -> AddQ q ts ts' k -> CompAt m' h' cb mb s' ts' -> Grew x.2.2.2.1 m' cb mb s s' -> 0 <= (↑x.1 : Int) /\ (↑x.1 : Int) < (↑(List.map eI x.2.2.1).length : Int) /\ ∃ (e
 : List Value), (List.map eI x.2.2.1)[(↑x.1 : Int).toNat]? = some e /\ 0 < e.length /\ ∃ (x_1 : Nat × Nat × List Int × MH × PH), I x_1 /\ mu x_1 < mu x /\ eP 4 /\ sQo x.2.1 0 = sQo
 x_1.2.1 0 /\ eL 46 /\ eQ (sQs sl) /\ eQ (sQi ↑sl.len) /\ sQi (IntKind.i64.wrap ((↑x.1 : Int) + 1)) = sQi ↑x_1.1 /\ eQ (oQ 49 [aQn, aQn]) /\ some (Own.lst 3 1 ((List.map eI
 x.2.2.1).set (↑x.1 : Int).toNat (vQi ↑k :: (List.drop 1 e)))) = some (Own.lst 3 1 (List.map eI x_1.2.2.1)) /\ m' = x_1.2.2.2.1 /\ h' = x_1.2.2.2.2 /\ True) (∃ (y : Sl), RdAt
 x.2.2.2.1 x.2.2.2.2 x.2.1 0 [vQs y] /\ ∀ (s : Sl) (h' : PH), x.2.2.2.2.le h' -> RowIn h' s 1 (List.map eI x.2.2.1) -> K (CV.tup [cQa [vQs y, vQs s], cQi 0]) x.2.2.2.1 h'))))
theorem f14_vc (sc : SchV) (sl : Sl) (m : MH) (h : PH) (K : CV → MH → PH → Prop) : f14_nice sc sl m h K = (fnVC (f14_ctx sc sl m) Tryz.f14 (bodyOf Tryz.f14) (entry Tryz.f14.ntmps [aS sc, cS sl] m h) K) := by kernel_rfl
theorem f33_sound : Sound Tryz.prog 33 AddA := sound_of_all f33_all fun _ _ _ _ ⟨v, q, cb, mb, s, ts, e, h1, h2, h3, h4, h5, h6⟩ => ⟨SizeOf.sizeOf q + 1, v, q, cb, mb, s, ts, e, h1, by omega, h2, h3, h4, h5, h6⟩
theorem addAll_snoc : ∀ {qs : List Query} {q : Query} {ts ts' ts'' : List Step} {ks : List Nat} {k : Nat}, AddAll qs ts ts' ks → AddQ q ts' ts'' k → AddAll (qs ++ [q]) ts ts'' (ks ++ [k])
 | [], q, ts, ts', ts'', ks, k, h, h2 => by
  obtain ⟨rfl, rfl⟩ := h
  exact ⟨ts'', k, [], h2, ⟨rfl, rfl⟩, rfl⟩
 | p :: qs, q, ts, ts', ts'', ks, k, h, h2 => by
  obtain ⟨ts1, k1, ks1, h1, h3, rfl⟩ := h
  exact ⟨ts1, k1, _, h1, addAll_snoc h3 h2, rfl⟩
theorem Strong.keep {r : CV} (hm : Sub m m') (le : PH.le h h') (hK : K r m h) : Strong h K r m' h' :=
 fun _ => ⟨m, h, hm, .refl _, fun b i v e => .inl (le.le b i v e), hK⟩
theorem firstErr_get : ∀ {l : List Int} {i : Nat} {e : Int}, l[i]? = some e → e ≠ 0 → (∀ j x, j < i → l[j]? = some x → x = 0) → firstErr l = e
 | [], _, _, h, _, _ => by simp at h
 | x :: r, 0, e, h, he, _ => by simp at h; subst h; simp [firstErr, he]
 | x :: r, i + 1, e, h, he, h0 => by
  have : x = 0 := h0 0 x (by omega) rfl
  subst this
  simp only [firstErr, if_true]
  exact firstErr_get (i := i) (by simpa using h) he (fun j y hj hy => h0 (j + 1) y (by omega) (by simpa using hy))
theorem szQ_small (h : smallQ q = true) : szQ q ≤ 24 := by
 rw [← vis_small, (visQ_eq q 8 0 (by omega)).1] at h
 have := h.1
 omega
theorem query_small (h : (queryR s ps q).2 = 0) : smallQ q = true := by
 unfold queryR at h
 split at h
 · split at h
   · split at h
     · assumption
     · simp [errK] at h
   · simp [errK] at h
 · rename_i h1; simp [errK] at h; exact (h1 h).elim
theorem nil_mrow (m : MH) : MRow m nilS 60 22 (([] : List SV2).map SV2.enc) := ⟨⟨fun _ h => by simp at h, fun _ h => by simp at h⟩, .inl ⟨rfl, rfl⟩⟩
theorem set_next {kk : List Nat} {n : Nat} (hn : kk.length < n) : ((kk.map fun (k : Nat) => (k : Int)) ++ List.replicate (n - kk.length) (0 : Int)).set kk.length (k : Int) = ((kk ++ [k]).map fun (k : Nat) => (k : Int)) ++ List.replicate (n - (kk.length + 1)) (0 : Int) := by
 have e : n - kk.length = (n - (kk.length + 1)) + 1 := by omega
 rw [e, List.replicate_succ]
 have h2 : kk.length = (kk.map fun (k : Nat) => (k : Int)).length := by simp
 rw [List.set_append, if_neg (by simp)]
 simp
theorem f14_ok {sl : Sl} {qs : List Query} (hs : RepS h s sc) (hq : RepQl h sl qs) (ht : TabM m) (hkey : ∀ q ∈ qs, (queryR s [] q).2 = 0 → QKeyOk q)
 (hE : compErr s qs ≠ 0 → K (.tup [aPl nilS nilS, cI (compErr s qs)]) m h) (hK : compErr s qs = 0 → ∀ p r ts ks h', PH.le h h' → AddAll qs [] ts ks → PlanAt h' p r ts ks → K (.tup [aPl p r, cI 0]) m h') : f14_nice sc sl m h (Strong h K) := by
 have hl := hq.slen
 unfold compErr at hE hK
 refine branch_dec (fun h1 => ?_) (fun h1 => ⟨sc, s, rfl, hs, branch_intro (fun h2 => ?_) (fun h2 => ?_)⟩)
 · rw [if_pos (by omega)] at hE; exact Strong.keep (Sub.refl m) (.refl _) (hE (by decide))
 · have h2 : schErr s ≠ 0 := by simpa using h2
   rw [if_neg (by omega), if_pos h2] at hE
   exact Strong.keep (Sub.refl m) (.refl _) (hE h2)
 have h2 : schErr s = 0 := by simpa using h2
 rw [if_neg (by omega), if_neg (by simpa using h2)] at hE hK
 refine ⟨fun ⟨i, hx⟩ => i ≤ qs.length ∧ PH.le h hx ∧ ∀ j q, j < i → qs[j]? = some q → (queryR s [] q).2 = 0, fun ⟨i, _⟩ => qs.length - i, ⟨(0, h), ⟨by omega, .refl _, fun j q hj => by omega⟩, MT⟩, ?_⟩
 rintro ⟨i, hx⟩ ⟨hi, hle, hall⟩
 dsimp only
 refine branch_dec (fun hlt => ?_) (fun hge b m1 hb hu1 cb m2 hcb hu2 => ?_)
 · obtain ⟨q, hqi⟩ := getx hl hlt
   obtain ⟨b1, o1, u, e1, r1, hru⟩ := (hq.mono hle).at hqi
   refine ⟨b1, o1, e1, by omega, hlt, u, .imm r1, sc, nilS, u, s, [], q, rfl, hs.mono hle, ⟨RowIn.nil _ _, by simp⟩, hru, fun s1 h1 le1 ri => branch_intro (fun he => ?_) (fun he => ?_)⟩
   · have he : (queryR s [] q).2 ≠ 0 := by simpa using he
     have hfe : firstErr (qs.map fun q => (queryR s [] q).2) = (queryR s [] q).2 := firstErr_get (i := i) (by simp [hqi]) he (fun j x hj hx => by
      rw [List.getElem?_map, Option.map_eq_some_iff] at hx
      obtain ⟨q', hq', rfl⟩ := hx
      exact hall j q' hj hq')
     rw [hfe] at hE
     exact Strong.keep (Sub.refl m) (hle.trans le1) (hE he)
   · have he : (queryR s [] q).2 = 0 := by simpa using he
     refine ⟨(i + 1, h1), ⟨by show i + 1 ≤ qs.length; omega, hle.trans le1, fun j q' hj hq' => ?_⟩, by show qs.length - (i + 1) < qs.length - i; omega, MT⟩
     by_cases hji : j = i
     · subst hji; rw [hqi] at hq'; cases hq'; exact he
     · exact hall j q' (by omega) hq'
 have hall' : ∀ q ∈ qs, (queryR s [] q).2 = 0 := fun q hq' => by
  obtain ⟨j, hj⟩ := List.mem_iff_getElem?.1 hq'
  exact hall j q (by have := (List.getElem?_eq_some_iff.1 hj).1; omega) hj
 have hfe : firstErr (qs.map fun q => (queryR s [] q).2) = 0 := firstErr_zero _ (fun x hx => by
  obtain ⟨q, hq', rfl⟩ := List.mem_map.1 hx
  exact hall' q hq')
 have hK := hK hfe
 have cbb : cb ≠ b := fun e => by have := hcb.m_; rw [e, hu1.at_] at this; cases this
 refine ⟨_, _, ⟨hu2.at_⟩, by simp, fun m3 hu3 => ?_⟩
 have hu3 : MUpd m2 m3 cb (.cells #[.slice none 0 0, .map (some b)] 90 (0, 0)) := hu3
 have sub3 : Sub m m3 := fun x o e => by
  have n1 : x ≠ b := fun e' => by rw [e', hb.m_] at e; cases e
  have n2 : x ≠ cb := fun e' => by
   have := hcb.m_
   rw [← e', hu1.other x n1, e] at this; cases this
  rw [hu3.other x n2, hu2.other x n2, hu1.other x n1]; exact e
 have c0 : CompAt m3 hx cb b nilS [] := ⟨hu3.at_, ⟨[], nil_mrow m3, rfl, fun i t e => by simp at e⟩, ⟨#[], 0, by rw [hu3.other b (Ne.symm cbb), hu2.other b (Ne.symm cbb)]; exact hu1.at_, rfl⟩, by simp⟩
 refine ⟨by omega, by omega, by omega, by omega, ?_⟩
 refine ⟨fun ⟨i, cb', ks, mx, hy⟩ => cb' = cb ∧ i ≤ qs.length ∧ PH.le hx hy ∧ ∃ ts s1 kk, kk.length = i ∧ ks = (kk.map fun (k : Nat) => (k : Int)) ++ List.replicate (qs.length - i) 0 ∧ AddAll (qs.take i) [] ts kk ∧ CompAt mx hy cb b s1 ts ∧ Grew m3 mx cb b nilS s1 ∧ ts.length ≤ 24 * i, fun ⟨i, _, _, _, _⟩ => qs.length - i, ⟨(0, cb, List.replicate qs.length 0, m3, hx), ⟨rfl, by omega, .refl _, [], nilS, [], rfl, by simp, ⟨rfl, rfl⟩, c0, .refl _ _ _ _, by simp⟩, ?_⟩, ?_⟩
 · have : List.map eI (List.replicate qs.length (0 : Int)) = List.replicate (Int.toNat (sl.len : Int)) [Value.int .i64 0] := by rw [List.map_replicate, Int.toNat_natCast, hl]; rfl
   rw [this]; exact MT
 clear hi hge hall i
 rintro ⟨i, cb', ks, mx, hy⟩ ⟨rfl, hi, hle2, ts, s1, kk, hkk, rfl, hadd, hc, hg, htl⟩
 dsimp only
 have htab : TabM mx := c0.tab hg (ht.sub sub3)
 refine branch_dec (fun hlt => ?_) (fun hge => ?_)
 · obtain ⟨q, hqi⟩ := getx hl hlt
   obtain ⟨b1, o1, u, e1, r1, hru⟩ := (hq.mono (hle.trans hle2)).at hqi
   have hq0 := hall' q (List.mem_of_getElem? hqi)
   have hsz := szQ_small (query_small hq0)
   refine ⟨b1, o1, e1, by omega, hlt, u, .imm r1, u, q, cb', b, s1, ts, rfl, hru, hkey q (List.mem_of_getElem? hqi) hq0, hc, htab, by omega, fun ts' k s' m' h' le' ha hc' hg' => ⟨by omega, ?_, eI 0, ?_, by simp [eI], (i + 1, cb', ((kk ++ [k]).map fun (k : Nat) => (k : Int)) ++ List.replicate (qs.length - (i + 1)) 0, m', h'), ⟨rfl, by omega, hle2.trans le', ts', s', kk ++ [k], by simp [hkk], rfl, ?_, hc', hg.trans hc hg', ?_⟩, by show qs.length - (i + 1) < qs.length - i; omega, ?_⟩⟩
   · simp [hkk]; omega
   · rw [List.getElem?_map, Int.toNat_natCast, List.getElem?_append_right (by simp [hkk]), List.getElem?_replicate, if_pos (by simp [hkk]; omega)]
     rfl
   · rw [List.take_add_one, hqi]; exact addAll_snoc hadd ha
   · have := addQ_len q ha; omega
   · have e2 : (List.map eI ((kk.map fun (k : Nat) => (k : Int)) ++ List.replicate (qs.length - i) 0)).set (Int.toNat (i : Int)) (Value.int .i64 (k : Int) :: ([] ++ List.drop 1 (eI 0))) = List.map eI (((kk ++ [k]).map fun (k : Nat) => (k : Int)) ++ List.replicate (qs.length - (i + 1)) 0) := by
      subst hkk
      rw [← set_next (by omega), List.map_set, Int.toNat_natCast]; rfl
     rw [← e2]
     exact MT
 · rw [List.take_of_length_le (by omega)] at hadd
   refine ⟨s1, .of_m hc.at_ rfl, fun r h' le' hr => ?_⟩
   have hz : qs.length - i = 0 := by omega
   rw [hz, List.replicate_zero, List.append_nil] at hr
   obtain ⟨vs, hrow, hst⟩ := hc.row
   intro hdis
   have subx : Sub m mx := fun x o e => hg.other x o (sub3 x o e) (fun e' => by
    have n1 : x ≠ b := fun e' => by rw [e', hb.m_] at e; cases e
    have := hcb.m_
    rw [← e', hu1.other x n1, e] at this; cases this) (fun e' => by rw [e', hb.m_] at e; cases e) (fun i e' => by cases e')
   have hroots : Ints h' r (kk.map fun (k : Nat) => (k : Int)) := ⟨hr, by simp; omega⟩
   rcases hrow.ex with ⟨e1, e2⟩ | ⟨g, cap, cur, e1, hm, hcap, _, hcs, htake⟩
   · refine ⟨m, h', subx, hle.trans (hle2.trans le'), fun b i v e => .inl e, hK s1 r ts kk h' (hle.trans (hle2.trans le')) hadd ⟨⟨vs, ?_, ?_⟩, hroots, hc.nodup⟩⟩
     · rw [e1, e2]; exact RowIn.nil _ _
     · exact ⟨hst.1, fun i t e => let ⟨v, k1, k2⟩ := hst.2 i t e; ⟨v, k1, k2.mono le'⟩⟩
   · have mg : m g = none := by
      cases e : m g with
      | none => rfl
      | some o =>
       rcases hg.fresh g 0 (by rw [e1]) with e' | ⟨_, e'⟩
       · rw [sub3 g o e] at e'; cases e'
       · cases e'
     have hg0 : ∀ i, h' g i = none := hdis g _ hm
     have hle3 : PH.le h' (fun x i => if x = g then cur[i]? else h' x i) := ⟨fun x i v e => by
      have : x ≠ g := fun e' => by rw [e', hg0 i] at e; cases e
      simp [this, e]⟩
     refine ⟨m, fun x i => if x = g then cur[i]? else h' x i, subx, (hle.trans (hle2.trans le')).trans hle3, fun x i v e => ?_, hK s1 r ts kk _ ((hle.trans (hle2.trans le')).trans hle3) hadd ⟨⟨vs, ?_, ?_⟩, hroots.mono hle3, hc.nodup⟩⟩
     · by_cases e' : x = g
       · subst e'
         simp at e
         exact .inr ⟨cur, 60, (0, 0), hm, e, mg⟩
       · simp [e'] at e; exact .inl e
     · refine ⟨by rw [e1], .inr ⟨g, 0, by rw [e1], fun i e hi => ⟨fun j v hj => ?_⟩⟩, by rw [e1]; exact hcap⟩
       have h1 := flatten_get (xs := vs.map SV2.enc) (sz := 22) (fun e he => by obtain ⟨x, _, rfl⟩ := List.mem_map.1 he; rfl) hi j v hj
       rw [← htake, List.getElem?_take] at h1
       split at h1
       · simp only [if_true, Nat.zero_add]
         rw [← Array.getElem?_toList]; exact h1
       · cases h1
     · exact ⟨hst.1, fun i t e => let ⟨v, k1, k2⟩ := hst.2 i t e; ⟨v, k1, k2.mono (le'.trans hle3)⟩⟩
theorem f14_sound : Sound Tryz.prog 14 CompileS := by
 refine fn_sound2 (fn := Tryz.f14) (c := bodyOf Tryz.f14) Tryz.func14 rfl (by decide) ?_
 rintro cvs m h K ⟨sc, sl, s, qs, rfl, hs, hq, ht, hkey, hE, hK⟩
 refine ⟨f14_ctx sc sl m, rfl, specs_cons f31_sound (specs_cons f32_sound (specs_cons f33_sound specs_nil)), ?_⟩
 rw [← f14_vc sc sl m h _]
 exact f14_ok hs hq ht hkey hE hK
structure TabRow (m : MH) (tb : Nat) (ws : List TabV) : Prop where
 ex : ∃ cur : Array Value, m tb = some (.cells cur 72 (0, 0)) ∧ cur.toList.take (ws.length * 5) = (ws.map TabV.enc).flatten
def KindsMS : Vc.Spec := fun cvs m h K => ∃ ver tb n cap ws w cols, ∃ t : Nat, cvs = [aS ⟨ver, ⟨some ⟨tb, 0, none⟩, n, cap⟩⟩, cI t] ∧ t < n ∧ TabRow m tb ws ∧ ws[t]? = some w ∧ Cols h w.columns cols ∧ cols.length ≤ 8 ∧
 ∀ sl h', PH.le h h' → Ints h' sl (cols.map ColV.kind) → K (cS sl) m h'
def f25_ctx (cb : Nat) : Ctx :=
 ctx4 [(12, IntW), (10, BoolW), (51, ColumnS), (52, KindsMS), (27, PredicateW)] []
  [(5, { A := Int × Int × MH × PH, st := fun ⟨n, id, m, h⟩ => mkSt 86 87 [(0, pv cb), (2, .at (.ptr 2 0)), (3, iv n), (4, iv id)] [(2, .cells 28 [.val (.int .i64 0), .val (.slice none 0 0)])] m h }),
   (9, { A := Int × SchV × MH × PH, st := fun ⟨n, s, m, h⟩ => mkSt 86 87 [(0, pv cb), (2, .at (.ptr 2 0)), (3, iv n), (5, .at (.ptr 5 0))] [(2, .cells 28 [.val (.int .i64 0), .val (.slice none 0 0)]), (5, .cells 28 (s.enc.map .val))] m h }),
   (11, { A := Int × SchV × MH × PH, st := fun ⟨n, s, m, h⟩ => mkSt 86 87 [(0, pv cb), (2, .at (.ptr 2 0)), (3, iv n), (5, .at (.ptr 5 0))] [(2, .cells 28 [.val (.int .i64 0), .val (.slice none 0 0)]), (5, .cells 28 (s.enc.map .val))] m h }),
   (13, { A := SchV × MH × PH, st := fun ⟨s, m, h⟩ => mkSt 86 87 [(0, pv cb), (2, .at (.ptr 2 0)), (5, .at (.ptr 5 0))] [(2, .cells 28 [.val (.int .i64 0), .val (.slice none 0 0)]), (5, .cells 28 (s.enc.map .val))] m h }),
   (15, { A := SchV × MH × PH, st := fun ⟨s, m, h⟩ => mkSt 86 87 [(2, .at (.ptr 2 0)), (5, .at (.ptr 5 0))] [(2, .cells 28 [.val (.int .i64 0), .val (.slice none 0 0)]), (5, .cells 28 (s.enc.map .val))] m h })] [] [26] [] false
def plainTabs (id : Int) : List Tab :=
 [⟨⟨⟨[112, 114, 111, 106, 101, 99, 116, 115]⟩⟩, [⟨⟨⟨[105, 100]⟩⟩, 4⟩, ⟨⟨⟨[111, 119, 110, 101, 114]⟩⟩, 4⟩], 1, [], []⟩,
  ⟨⟨⟨[116, 97, 115, 107, 115]⟩⟩, [⟨⟨⟨[105, 100]⟩⟩, id⟩, ⟨⟨⟨[112, 114, 111, 106, 101, 99, 116]⟩⟩, 4⟩, ⟨⟨⟨[116, 105, 116, 108, 101]⟩⟩, 5⟩, ⟨⟨⟨[100, 111, 110, 101]⟩⟩, 3⟩], 1, [], []⟩,
  ⟨⟨⟨[109, 101, 109, 98, 101, 114, 115]⟩⟩, [⟨⟨⟨[112, 114, 111, 106, 101, 99, 116]⟩⟩, 4⟩, ⟨⟨⟨[112, 101, 114, 115, 111, 110]⟩⟩, 4⟩], 2, [], []⟩,
  ⟨⟨⟨[97, 114, 99, 104, 105, 118, 101, 100]⟩⟩, [⟨⟨⟨[116, 97, 115, 107]⟩⟩, id⟩], 1, [], []⟩]
structure TabHalf (h : PH) (t : Tab) (w : TabV) : Prop where
 name_ : w.name = t.name
 key_ : w.key = t.key
 cols_ : Cols h w.columns t.columns
def WsOk (h : PH) (id : Int) (ws : List TabV) : Prop := ws.length = 4 ∧ ∀ (i : Nat) t, (plainTabs id)[i]? = some t → ∃ w, ws[i]? = some w ∧ TabHalf h t w
structure SchAt (m0 : MH) (h0 : PH) (cb : Nat) (tb n : Nat) (id : Int) (ws : List TabV) (s : SchV) (m : MH) (h : PH) : Prop where
 le_ : PH.le h0 h
 ver0 : 0 ≤ s.version
 ver1 : s.version ≤ 2
 case_ : CaseOk m h cb
 n2 : 2 ≤ n
 n4 : n ≤ 4
 sl_ : ∃ cap, s.tables = ⟨some ⟨tb, 0, none⟩, n, cap⟩ ∧ n ≤ cap
 id_ : id = 4 ∨ id = 5
 new_ : m0 tb = none
 ne_ : tb ≠ cb
 row_ : TabRow m tb ws
 ws_ : WsOk h id ws
 other_ : ∀ b, b ≠ cb → b ≠ tb → m b = m0 b
def SchemaW : Vc.Spec := fun cvs m h K => ∃ cb, cvs = [cP cb] ∧ CaseOk m h cb ∧ ∀ tb n id ws s m' h', SchAt m h cb tb n id ws s m' h' → K (aS s) m' h'
def f8_ctx : Ctx :=
 ctx4 [(25, SchemaW)] [(3, { A := Nat × SchV × MH × PH, st := fun ⟨i, s, m, h⟩ => mkSt 25 26 [(2, .at (.ptr 2 0)), (3, .at (.ptr 3 0)), (9, iv s.tables.len), (10, iv i)] [(2, .cells 28 [.val (.int .i64 0), .val (.slice none 0 0)]), (3, .cells 28 (s.enc.map .val))] m h })] [] [] [26] [] false
def f52m_nice (v : SchV) (t : Int) (m : MH) (h : PH) (K : CV → MH → PH → Prop) : Prop :=
 branch (decide (t < 0)) (K (cQn) m h) (branch (decide (t ≥ (↑v.tables.len : Int))) (K (cQn) m h) (∃ (b off : Nat), v.tables.a = some (Addr.mk b off none) /\ 0 <= t /\ t <
 (↑v.tables.len : Int) /\ ∃ (y : Sl), RdAt m h b (off + t.toNat * 5 + 1) [vQs y] /\ ∃ (I : Nat × Sl × List Int -> Prop) (mu : Nat × Sl × List Int -> Nat), (∃ (x : Nat × Sl × List
 Int), I x /\ eL 32 /\ sQs y = sQs x.2.1 /\ sQi ↑y.len = sQi ↑x.2.1.len /\ sQi 0 = sQi ↑x.1 /\ some (Own.lst 3 1 []) = some (Own.lst 3 1 (List.map eI x.2.2)) /\ m = m /\ h = h /\
 True) /\ ∀ (x : Nat × Sl × List Int), I x -> branch (decide ((↑x.1 : Int) < ↑x.2.1.len)) (∃ (b off : Nat), x.2.1.a = some (Addr.mk b off none) /\ 0 <= (↑x.1 : Int) /\ (↑x.1 : Int)
 < ↑x.2.1.len /\ ∃ (y : ColV), RdAt m h b (off + (↑x.1 : Int).toNat * 2) [Value.string y.name, vQi y.kind] /\ ((List.map eI x.2.2).length + 1) * 8 <= 140737488355328 /\ (List.map eI
 x.2.2).length < 140737488355328 /\ ∃ (x_1 : Nat × Sl × List Int), I x_1 /\ mu x_1 < mu x /\ eL 32 /\ sQs x.2.1 = sQs x_1.2.1 /\ sQi ↑x.2.1.len = sQi ↑x_1.2.1.len /\ sQi
 (IntKind.i64.wrap ((↑x.1 : Int) + 1)) = sQi ↑x_1.1 /\ some (Own.lst 3 1 (List.map eI x.2.2 ++ [[vQi y.kind]])) = some (Own.lst 3 1 (List.map eI x_1.2.2)) /\ m = m /\ h = h /\ True)
 (∀ (s : Sl) (h' : PH), h.le h' -> RowIn h' s 1 (List.map eI x.2.2) -> K (cQs s) m h')))
theorem f52m_vc (v : SchV) (t : Int) (m : MH) (h : PH) (K : CV → MH → PH → Prop) : f52m_nice v t m h K = (fnVC (f52_ctx m h) Tryz.f52 (bodyOf Tryz.f52) (entry Tryz.f52.ntmps [aS v, cI t] m h) K) := by kernel_rfl
def f25_nice (cb : Nat) (m : MH) (h : PH) (K : CV → MH → PH → Prop) : Prop :=
 ∃ (cb_1 : Nat) (n : Int), [cQp cb 0, cQi 3] = [cQp cb_1 0, cQi n] /\ CaseOk m h cb_1 /\ ∀ (k : Int) (m' : MH), 0 <= k -> k < n ∨ k = 0 -> MOther m m' cb_1 -> CaseOk m' h cb_1 -> ∃
 (I : Int × Int × MH × PH -> Prop), (∃ (cb_2 : Nat) (n : Int), [cQp cb 0, cQi 5] = [cQp cb_2 0, cQi n] /\ 0 <= n /\ n <= 1000 /\ CaseOk m' h cb_2 /\ ∀ (r : Bool) (m'_1 : MH), MOther
 m' m'_1 cb_2 -> CaseOk m'_1 h cb_2 -> branch r (∃ (x : Int × Int × MH × PH), I x /\ eQ (sQo cb 0) /\ eP 2 /\ sQi (IntKind.i64.wrap (2 + k)) = sQi x.1 /\ sQi 5 = sQi x.2.1 /\ eQ (oQ
 28 [aQi 0, aQn]) /\ m'_1 = x.2.2.1 /\ h = x.2.2.2 /\ True) (∃ (x : Int × Int × MH × PH), I x /\ eQ (sQo cb 0) /\ eP 2 /\ sQi (IntKind.i64.wrap (2 + k)) = sQi x.1 /\ sQi 4 = sQi
 x.2.1 /\ eQ (oQ 28 [aQi 0, aQn]) /\ m'_1 = x.2.2.1 /\ h = x.2.2.2 /\ True)) /\ ∀ (x : Int × Int × MH × PH), I x -> ∃ (cb_2 : Nat) (n : Int), [cQp cb 0, cQi 3] = [cQp cb_2 0, cQi n]
 /\ CaseOk x.2.2.1 x.2.2.2 cb_2 /\ ∀ (k : Int) (m' : MH), 0 <= k -> k < n ∨ k = 0 -> MOther x.2.2.1 m' cb_2 -> CaseOk m' x.2.2.2 cb_2 -> ∃ (n : ByteArray) (k_1 : Int), [CV.val
 (Value.string (ByteArray.mk (Array.mk [OfNat.ofNat 105, OfNat.ofNat 100]))), cQi 4] = [CV.val (Value.string n), cQi k_1] /\ ∃ (n_1 : ByteArray) (k_2 : Int), [CV.val (Value.string
 (ByteArray.mk (Array.mk [OfNat.ofNat 111, OfNat.ofNat 119, OfNat.ofNat 110, OfNat.ofNat 101, OfNat.ofNat 114]))), cQi 4] = [CV.val (Value.string n_1), cQi k_2] /\ ∃ (n_2 :
 ByteArray) (k_3 : Int), [CV.val (Value.string (ByteArray.mk (Array.mk [OfNat.ofNat 105, OfNat.ofNat 100]))), cQi x.2.1] = [CV.val (Value.string n_2), cQi k_3] /\ ∃ (n_3 :
 ByteArray) (k_4 : Int), [CV.val (Value.string (ByteArray.mk (Array.mk [OfNat.ofNat 112, OfNat.ofNat 114, OfNat.ofNat 111, OfNat.ofNat 106, OfNat.ofNat 101, OfNat.ofNat 99,
 OfNat.ofNat 116]))), cQi 4] = [CV.val (Value.string n_3), cQi k_4] /\ ∃ (n_4 : ByteArray) (k_5 : Int), [CV.val (Value.string (ByteArray.mk (Array.mk [OfNat.ofNat 116, OfNat.ofNat
 105, OfNat.ofNat 116, OfNat.ofNat 108, OfNat.ofNat 101]))), cQi 5] = [CV.val (Value.string n_4), cQi k_5] /\ ∃ (n_5 : ByteArray) (k_6 : Int), [CV.val (Value.string (ByteArray.mk
 (Array.mk [OfNat.ofNat 100, OfNat.ofNat 111, OfNat.ofNat 110, OfNat.ofNat 101]))), cQi 3] = [CV.val (Value.string n_5), cQi k_6] /\ ∃ (n_6 : ByteArray) (k_7 : Int), [CV.val
 (Value.string (ByteArray.mk (Array.mk [OfNat.ofNat 112, OfNat.ofNat 114, OfNat.ofNat 111, OfNat.ofNat 106, OfNat.ofNat 101, OfNat.ofNat 99, OfNat.ofNat 116]))), cQi 4] = [CV.val
 (Value.string n_6), cQi k_7] /\ ∃ (n_7 : ByteArray) (k_8 : Int), [CV.val (Value.string (ByteArray.mk (Array.mk [OfNat.ofNat 112, OfNat.ofNat 101, OfNat.ofNat 114, OfNat.ofNat 115,
 OfNat.ofNat 111, OfNat.ofNat 110]))), cQi 4] = [CV.val (Value.string n_7), cQi k_8] /\ ∃ (n_8 : ByteArray) (k_9 : Int), [CV.val (Value.string (ByteArray.mk (Array.mk [OfNat.ofNat
 116, OfNat.ofNat 97, OfNat.ofNat 115, OfNat.ofNat 107]))), cQi x.2.1] = [CV.val (Value.string n_8), cQi k_9] /\ ∀ (s : Sl) (h' : PH), x.2.2.2.le h' -> RowIn h' s 2 [[Value.string
 n, vQi k_1], [Value.string n_1, vQi k_2]] -> ∀ (s_1 : Sl) (h'_1 : PH), h'.le h'_1 -> RowIn h'_1 s_1 2 [[Value.string n_2, vQi k_3], [Value.string n_3, vQi k_4], [Value.string n_4,
 vQi k_5], [Value.string n_5, vQi k_6]] -> ∀ (s_2 : Sl) (h' : PH), h'_1.le h' -> RowIn h' s_2 2 [[Value.string n_6, vQi k_7], [Value.string n_7, vQi k_8]] -> ∀ (s_3 : Sl) (h'_2 :
 PH), h'.le h'_2 -> RowIn h'_2 s_3 2 [[Value.string n_8, vQi k_9]] -> ∀ (s_4 : Sl) (m'_1 : MH), MNew m' m'_1 h'_2 s_4 72 5 [[Value.string (ByteArray.mk (Array.mk [OfNat.ofNat 112,
 OfNat.ofNat 114, OfNat.ofNat 111, OfNat.ofNat 106, OfNat.ofNat 101, OfNat.ofNat 99, OfNat.ofNat 116, OfNat.ofNat 115])), vQs s, vQi 1, vQn, vQn], [Value.string (ByteArray.mk
 (Array.mk [OfNat.ofNat 116, OfNat.ofNat 97, OfNat.ofNat 115, OfNat.ofNat 107, OfNat.ofNat 115])), vQs s_1, vQi 1, vQn, vQn], [Value.string (ByteArray.mk (Array.mk [OfNat.ofNat 109,
 OfNat.ofNat 101, OfNat.ofNat 109, OfNat.ofNat 98, OfNat.ofNat 101, OfNat.ofNat 114, OfNat.ofNat 115])), vQs s_2, vQi 2, vQn, vQn], [Value.string (ByteArray.mk (Array.mk
 [OfNat.ofNat 97, OfNat.ofNat 114, OfNat.ofNat 99, OfNat.ofNat 104, OfNat.ofNat 105, OfNat.ofNat 118, OfNat.ofNat 101, OfNat.ofNat 100])), vQs s_3, vQi 1, vQn, vQn]] -> 0 <= x.1 /\
 x.1 <= (↑s_4.cap : Int) /\ ∃ (I : Int × SchV × MH × PH -> Prop), (∃ (cb_3 : Nat) (n : Int), [cQp cb 0, cQi 2] = [cQp cb_3 0, cQi n] /\ 0 <= n /\ n <= 1000 /\ CaseOk m'_1 h'_2 cb_3
 /\ ∀ (r : Bool) (m' : MH), MOther m'_1 m' cb_3 -> CaseOk m' h'_2 cb_3 -> branch r (∀ (s : Sl) (h' : PH), h'_2.le h' -> RowIn h' s 1 [[vQi 1]] -> ∃ (b off : Nat), s_4.a = some
 (Addr.mk b off none) /\ (0 : Int) <= 1 /\ 1 < (↑x.1.toNat : Int) /\ ∀ (s_5 : Sl) (h'_3 : PH), h'.le h'_3 -> RowIn h'_3 s_5 2 [[vQs s, vQi 0]] -> ∃ (cs : Array Value) (E : TypeId),
 MAt m' b (Obj.cells cs E) /\ off + 5 + 3 < cs.size /\ ∀ (m'_2 : MH), MUpd m' m'_2 b (Obj.cells (Array.mk (splice cs.toList (off + 5 + 3) [vQs s_5])) E) -> ∃ (x_1 : Int × SchV × MH
 × PH), I x_1 /\ eQ (sQo cb 0) /\ eP 2 /\ sQi x.1 = sQi x_1.1 /\ eP 5 /\ eQ (oQ 28 [aQi 0, aQn]) /\ oQ 28 [aQi k, At.val (Value.slice s_4.a x.1.toNat s_4.cap)] = oQ 28 [aQi
 x_1.2.1.version, aQs x_1.2.1.tables] /\ m'_2 = x_1.2.2.1 /\ h'_3 = x_1.2.2.2 /\ True) (∃ (x_1 : Int × SchV × MH × PH), I x_1 /\ eQ (sQo cb 0) /\ eP 2 /\ sQi x.1 = sQi x_1.1 /\ eP 5
 /\ eQ (oQ 28 [aQi 0, aQn]) /\ oQ 28 [aQi k, At.val (Value.slice s_4.a x.1.toNat s_4.cap)] = oQ 28 [aQi x_1.2.1.version, aQs x_1.2.1.tables] /\ m' = x_1.2.2.1 /\ h'_2 = x_1.2.2.2 /\
 True)) /\ ∀ (x : Int × SchV × MH × PH), I x -> ∃ (I : Int × SchV × MH × PH -> Prop), branch (decide (x.1 > 2)) (∃ (cb_3 : Nat) (n : Int), [cQp cb 0, cQi 3] = [cQp cb_3 0, cQi n] /\
 0 <= n /\ n <= 1000 /\ CaseOk x.2.2.1 x.2.2.2 cb_3 /\ ∀ (r : Bool) (m' : MH), MOther x.2.2.1 m' cb_3 -> CaseOk m' x.2.2.2 cb_3 -> branch r (∀ (s : Sl) (h' : PH), x.2.2.2.le h' ->
 RowIn h' s 1 [[vQi 0]] -> ∃ (b off : Nat), x.2.1.tables.a = some (Addr.mk b off none) /\ (0 : Int) <= 2 /\ 2 < (↑x.2.1.tables.len : Int) /\ ∀ (s_5 : Sl) (h'_3 : PH), h'.le h'_3 ->
 RowIn h'_3 s_5 2 [[vQs s, vQi 0]] -> ∃ (cs : Array Value) (E : TypeId), MAt m' b (Obj.cells cs E) /\ off + 10 + 3 < cs.size /\ ∀ (m'_2 : MH), MUpd m' m'_2 b (Obj.cells (Array.mk
 (splice cs.toList (off + 10 + 3) [vQs s_5])) E) -> ∃ (x_1 : Int × SchV × MH × PH), I x_1 /\ eQ (sQo cb 0) /\ eP 2 /\ sQi x.1 = sQi x_1.1 /\ eP 5 /\ eQ (oQ 28 [aQi 0, aQn]) /\ oQ 28
 [aQi x.2.1.version, aQs x.2.1.tables] = oQ 28 [aQi x_1.2.1.version, aQs x_1.2.1.tables] /\ m'_2 = x_1.2.2.1 /\ h'_3 = x_1.2.2.2 /\ True) (∃ (x_1 : Int × SchV × MH × PH), I x_1 /\
 eQ (sQo cb 0) /\ eP 2 /\ sQi x.1 = sQi x_1.1 /\ eP 5 /\ eQ (oQ 28 [aQi 0, aQn]) /\ oQ 28 [aQi x.2.1.version, aQs x.2.1.tables] = oQ 28 [aQi x_1.2.1.version, aQs x_1.2.1.tables] /\
 m' = x_1.2.2.1 /\ x.2.2.2 = x_1.2.2.2 /\ True)) (∃ (x_1 : Int × SchV × MH × PH), I x_1 /\ eQ (sQo cb 0) /\ eP 2 /\ sQi x.1 = sQi x_1.1 /\ eP 5 /\ eQ (oQ 28 [aQi 0, aQn]) /\ oQ 28
 [aQi x.2.1.version, aQs x.2.1.tables] = oQ 28 [aQi x_1.2.1.version, aQs x_1.2.1.tables] /\ x.2.2.1 = x_1.2.2.1 /\ x.2.2.2 = x_1.2.2.2 /\ True) /\ ∀ (x : Int × SchV × MH × PH), I x
 -> ∃ (I : SchV × MH × PH -> Prop), branch (decide (x.1 > 3)) (∃ (cb_3 : Nat) (n : Int), [cQp cb 0, cQi 3] = [cQp cb_3 0, cQi n] /\ 0 <= n /\ n <= 1000 /\ CaseOk x.2.2.1 x.2.2.2
 cb_3 /\ ∀ (r : Bool) (m' : MH), MOther x.2.2.1 m' cb_3 -> CaseOk m' x.2.2.2 cb_3 -> branch r (∀ (s : Sl) (h' : PH), x.2.2.2.le h' -> RowIn h' s 1 [[vQi 0]] -> ∃ (b off : Nat),
 x.2.1.tables.a = some (Addr.mk b off none) /\ (0 : Int) <= 3 /\ 3 < (↑x.2.1.tables.len : Int) /\ ∀ (s_5 : Sl) (h'_3 : PH), h'.le h'_3 -> RowIn h'_3 s_5 2 [[vQs s, vQi 1]] -> ∃ (cs
 : Array Value) (E : TypeId), MAt m' b (Obj.cells cs E) /\ off + 15 + 3 < cs.size /\ ∀ (m'_2 : MH), MUpd m' m'_2 b (Obj.cells (Array.mk (splice cs.toList (off + 15 + 3) [vQs s_5]))
 E) -> ∃ (x_1 : SchV × MH × PH), I x_1 /\ eQ (sQo cb 0) /\ eP 2 /\ eP 5 /\ eQ (oQ 28 [aQi 0, aQn]) /\ oQ 28 [aQi x.2.1.version, aQs x.2.1.tables] = oQ 28 [aQi x_1.1.version, aQs
 x_1.1.tables] /\ m'_2 = x_1.2.1 /\ h'_3 = x_1.2.2 /\ True) (∃ (x_1 : SchV × MH × PH), I x_1 /\ eQ (sQo cb 0) /\ eP 2 /\ eP 5 /\ eQ (oQ 28 [aQi 0, aQn]) /\ oQ 28 [aQi x.2.1.version,
 aQs x.2.1.tables] = oQ 28 [aQi x_1.1.version, aQs x_1.1.tables] /\ m' = x_1.2.1 /\ x.2.2.2 = x_1.2.2 /\ True)) (∃ (x_1 : SchV × MH × PH), I x_1 /\ eQ (sQo cb 0) /\ eP 2 /\ eP 5 /\
 eQ (oQ 28 [aQi 0, aQn]) /\ oQ 28 [aQi x.2.1.version, aQs x.2.1.tables] = oQ 28 [aQi x_1.1.version, aQs x_1.1.tables] /\ x.2.2.1 = x_1.2.1 /\ x.2.2.2 = x_1.2.2 /\ True) /\ ∀ (x :
 SchV × MH × PH), I x -> ∃ (I : SchV × MH × PH -> Prop), (∃ (cb_3 : Nat) (n : Int), [cQp cb 0, cQi 3] = [cQp cb_3 0, cQi n] /\ 0 <= n /\ n <= 1000 /\ CaseOk x.2.1 x.2.2 cb_3 /\ ∀ (r
 : Bool) (m' : MH), MOther x.2.1 m' cb_3 -> CaseOk m' x.2.2 cb_3 -> branch r (∃ (ver : Int), ∃ (tb n : Nat) (cap : Nat), ∃ (ws : List TabV) (w : TabV), ∃ (cols : List ColV) (t :
 Nat), [cQa [vQi x.1.version, vQs x.1.tables], cQi 1] = [cQa [vQi ver, Value.slice (some (Addr.mk tb 0 none)) n cap], cQi ↑t] /\ t < n /\ TabRow m' tb ws /\ ws[t]? = some w /\ Cols
 x.2.2 w.columns cols /\ cols.length <= 8 /\ ∀ (sl : Sl) (h' : PH), x.2.2.le h' -> Ints h' sl (List.map ColV.kind cols) -> ∃ (cb_4 : Nat), ∃ (s t : Sl), ∃ (cols params : List Int)
 (deep : Nat), [cQp cb 0, cQs sl, cQn, cQi 1] = [cQp cb_4 0, cQs s, cQs t, cQi ↑deep] /\ CaseOk m' h' cb_4 /\ Ints h' s cols /\ Ints h' t params /\ cols.length <= 1000 /\
 params.length <= 1000 /\ deep <= 1000 /\ ∀ (v : PV) (p : Pred) (m'_2 : MH) (h'_3 : PH), h'.le h'_3 -> RepP h'_3 p v -> PredW p -> MOther m' m'_2 cb_4 -> CaseOk m'_2 h'_3 cb_4 -> ∃
 (b off : Nat), x.1.tables.a = some (Addr.mk b off none) /\ (0 : Int) <= 1 /\ 1 < (↑x.1.tables.len : Int) /\ ∀ (s : Sl) (h' : PH), h'_3.le h' -> RowIn h' s 13 [(PV.enc v)] -> ∃ (cs
 : Array Value) (E : TypeId), MAt m'_2 b (Obj.cells cs E) /\ off + 5 + 4 < cs.size /\ ∀ (m' : MH), MUpd m'_2 m' b (Obj.cells (Array.mk (splice cs.toList (off + 5 + 4) [vQs s])) E)
 -> ∃ (x_1 : SchV × MH × PH), I x_1 /\ eP 2 /\ eP 5 /\ eQ (oQ 28 [aQi 0, aQn]) /\ oQ 28 [aQi x.1.version, aQs x.1.tables] = oQ 28 [aQi x_1.1.version, aQs x_1.1.tables] /\ m' =
 x_1.2.1 /\ h' = x_1.2.2 /\ True) (∃ (x_1 : SchV × MH × PH), I x_1 /\ eP 2 /\ eP 5 /\ eQ (oQ 28 [aQi 0, aQn]) /\ oQ 28 [aQi x.1.version, aQs x.1.tables] = oQ 28 [aQi x_1.1.version,
 aQs x_1.1.tables] /\ m' = x_1.2.1 /\ x.2.2 = x_1.2.2 /\ True)) /\ ∀ (x : SchV × MH × PH), I x -> K (cQa [vQi x.1.version, vQs x.1.tables]) x.2.1 x.2.2
theorem f25_vc (cb : Nat) (m : MH) (h : PH) (K : CV → MH → PH → Prop) : f25_nice cb m h K = (fnVC (f25_ctx cb) Tryz.f25 (bodyOf Tryz.f25) (entry Tryz.f25.ntmps [cP cb] m h) K) := by kernel_rfl
def f8_nice (cb : Nat) (m : MH) (h : PH) (K : CV → MH → PH → Prop) : Prop :=
 ∃ (cb_1 : Nat), [cQp cb 0] = [cQp cb_1 0] /\ CaseOk m h cb_1 /\ ∀ (tb n : Nat) (id : Int) (ws : List TabV) (s : SchV) (m' : MH) (h' : PH), SchAt m h cb_1 tb n id ws s m' h' -> ∃ (I
 : Nat × SchV × MH × PH -> Prop) (mu : Nat × SchV × MH × PH -> Nat), (∃ (x : Nat × SchV × MH × PH), I x /\ eP 2 /\ eP 3 /\ sQi ↑s.tables.len = sQi ↑x.2.1.tables.len /\ sQi 0 = sQi
 ↑x.1 /\ eQ (oQ 28 [aQi 0, aQn]) /\ oQ 28 [aQi s.version, aQs s.tables] = oQ 28 [aQi x.2.1.version, aQs x.2.1.tables] /\ m' = x.2.2.1 /\ h' = x.2.2.2 /\ True) /\ ∀ (x : Nat × SchV ×
 MH × PH), I x -> branch (decide ((↑x.1 : Int) < ↑x.2.1.tables.len)) (∃ (b off : Nat), x.2.1.tables.a = some (Addr.mk b off none) /\ 0 <= (↑x.1 : Int) /\ (↑x.1 : Int) <
 ↑x.2.1.tables.len /\ ∃ (cs : Array Value) (E : TypeId), MAt x.2.2.1 b (Obj.cells cs E) /\ off + (↑x.1 : Int).toNat * 5 + 3 < cs.size /\ ∀ (m' : MH), MUpd x.2.2.1 m' b (Obj.cells
 (Array.mk (splice cs.toList (off + (↑x.1 : Int).toNat * 5 + 3) [vQn])) E) -> ∃ (b off : Nat), x.2.1.tables.a = some (Addr.mk b off none) /\ 0 <= (↑x.1 : Int) /\ (↑x.1 : Int) <
 ↑x.2.1.tables.len /\ ∃ (cs : Array Value) (E : TypeId), MAt m' b (Obj.cells cs E) /\ off + (↑x.1 : Int).toNat * 5 + 4 < cs.size /\ ∀ (m'_1 : MH), MUpd m' m'_1 b (Obj.cells
 (Array.mk (splice cs.toList (off + (↑x.1 : Int).toNat * 5 + 4) [vQn])) E) -> ∃ (x_1 : Nat × SchV × MH × PH), I x_1 /\ mu x_1 < mu x /\ eP 2 /\ eP 3 /\ sQi ↑x.2.1.tables.len = sQi
 ↑x_1.2.1.tables.len /\ sQi (IntKind.i64.wrap ((↑x.1 : Int) + 1)) = sQi ↑x_1.1 /\ eQ (oQ 28 [aQi 0, aQn]) /\ oQ 28 [aQi x.2.1.version, aQs x.2.1.tables] = oQ 28 [aQi
 x_1.2.1.version, aQs x_1.2.1.tables] /\ m'_1 = x_1.2.2.1 /\ x.2.2.2 = x_1.2.2.2 /\ True) (K (cQa [vQi x.2.1.version, vQs x.2.1.tables]) x.2.2.1 x.2.2.2)
theorem f8_vc (cb : Nat) (m : MH) (h : PH) (K : CV → MH → PH → Prop) : f8_nice cb m h K = (fnVC f8_ctx Tryz.f8 (bodyOf Tryz.f8) (entry Tryz.f8.ntmps [cP cb] m h) K) := by kernel_rfl
theorem splice_one {α : Type} (l : List α) (o : Nat) (x : α) (h : o < l.length) : splice l o [x] = l.set o x := by
 rw [List.set_eq_take_append_cons_drop, if_pos h]; simp [splice]
theorem flatten_set : ∀ (ws : List TabV) {i k : Nat} {w w' : TabV} {x : Value}, ws[i]? = some w → k < 5 → w'.enc = w.enc.set k x → ((ws.map TabV.enc).flatten).set (i * 5 + k) x = ((ws.set i w').map TabV.enc).flatten
 | [], i, k, w, w', x, h, _, _ => by simp at h
 | u :: ws, 0, k, w, w', x, h, hk, e => by
  simp at h; subst h
  simp only [List.map_cons, List.flatten_cons, List.set_cons_zero, Nat.zero_mul, Nat.zero_add, e]
  rw [List.set_append_left _ _ (by simpa [TabV.enc] using hk)]
 | u :: ws, i + 1, k, w, w', x, h, hk, e => by
  simp only [List.map_cons, List.flatten_cons, List.set_cons_succ]
  have hl : u.enc.length = 5 := rfl
  rw [List.set_append_right _ _ (by rw [hl]; omega), hl, show (i + 1) * 5 + k - 5 = i * 5 + k by omega, flatten_set ws (by simpa using h) hk e]
theorem flat_len (ws : List TabV) : ((ws.map TabV.enc).flatten).length = ws.length * 5 := by
 induction ws with
 | nil => rfl
 | cons w ws ih => simp only [List.map_cons, List.flatten_cons, List.length_append, ih, List.length_cons]; show 5 + _ = _; omega
theorem TabRow.big {tb : Nat} {ws : List TabV} {cs : Array Value} {E : TypeId} {fz : Nat × Nat} (h : TabRow m tb ws) (hm : m tb = some (.cells cs E fz)) : ws.length * 5 ≤ cs.size := by
 obtain ⟨cur, h1, h2⟩ := h.ex
 rw [h1] at hm
 simp only [Option.some.injEq, Obj.cells.injEq] at hm
 obtain ⟨rfl, _, _⟩ := hm
 have := congrArg List.length h2
 rw [flat_len] at this
 simp at this
 omega
theorem TabRow.store {tb : Nat} {ws : List TabV} {w w' : TabV} {x : Value} (h : TabRow m tb ws) (hi : ws[i]? = some w) (hk : k < 5) (e : w'.enc = w.enc.set k x) {cs : Array Value} {E : TypeId} {fz : Nat × Nat} (hm : m tb = some (.cells cs E fz))
 (hu : m' tb = some (.cells (splice cs.toList (i * 5 + k) [x]).toArray E (0, 0))) : TabRow m' tb (ws.set i w') := by
 have hb := h.big hm
 have hil := (List.getElem?_eq_some_iff.1 hi).1
 obtain ⟨cur, h1, h2⟩ := h.ex
 rw [h1] at hm
 simp only [Option.some.injEq, Obj.cells.injEq] at hm
 obtain ⟨rfl, rfl, _⟩ := hm
 refine ⟨_, hu, ?_⟩
 rw [splice_one _ _ _ (by simp; omega), List.length_set, List.toList_toArray, List.take_set, h2]
 exact flatten_set ws hi hk e
theorem TabRow.rd {tb : Nat} {ws : List TabV} (r : TabRow m tb ws) {j : Nat} {w : TabV} {x : Value} (hi : ws[i]? = some w) (hj : w.enc[j]? = some x) : RdAt m h tb (i * 5 + j) [x] := by
 obtain ⟨cur, h1, h2⟩ := r.ex
 refine .of_m h1 ?_
 have h3 := flatten_get (xs := ws.map TabV.enc) (sz := 5) (fun e he => by obtain ⟨x, _, rfl⟩ := List.mem_map.1 he; rfl) (by rw [List.getElem?_map, hi]; rfl) j x hj
 rw [← h2, List.getElem?_take] at h3
 split at h3
 · rw [drop_cons h3]; rfl
 · cases h3
theorem f52m_ok {ver : Int} {tb n cap : Nat} {ws : List TabV} {w : TabV} {cols : List ColV} {t : Nat} (ht : t < n) (hr : TabRow m tb ws) (hw : ws[t]? = some w) (hc : Cols h w.columns cols) (h8 : cols.length ≤ 8)
 (hK : ∀ sl h', PH.le h h' → Ints h' sl (cols.map ColV.kind) → K (cS sl) m h') : f52m_nice ⟨ver, ⟨some ⟨tb, 0, none⟩, n, cap⟩⟩ t m h K := by
 have hcl := RepL.slen hc
 refine branch_dec (fun h1 => by omega) (fun h1 => branch_dec (fun h2 => by have h2 : (t : Int) ≥ (n : Int) := h2; omega) (fun h2 => ?_))
 refine ⟨tb, 0, rfl, by omega, by show (t : Int) < (n : Int); omega, w.columns, ?_, fun ⟨i, sl, l⟩ => sl = w.columns ∧ i ≤ cols.length ∧ l = (cols.take i).map ColV.kind, fun ⟨i, _, _⟩ => cols.length - i, ⟨(0, w.columns, []), ⟨rfl, by simp, by simp⟩, MT⟩, ?_⟩
 · rw [Nat.zero_add, Int.toNat_natCast]; exact hr.rd hw rfl
 rintro ⟨i, _, _⟩ ⟨rfl, hi, rfl⟩
 dsimp only
 refine branch_dec (fun hlt => ?_) (fun hge sl h' hle hrow => ?_)
 · obtain ⟨c, hx⟩ := getx hcl hlt
   obtain ⟨b, o, e, r⟩ := Cols.at hc hx
   refine ⟨b, o, e, by omega, hlt, c, .imm r, ?_, ?_, (i + 1, w.columns, (cols.take (i + 1)).map ColV.kind), ⟨rfl, by omega, rfl⟩, by show cols.length - (i + 1) < cols.length - i; omega, ?_⟩
   · simp; omega
   · simp; omega
   · rw [map_take_succ hx, List.map_append]
     exact MT
 · rw [List.take_of_length_le (by omega)] at hrow
   exact hK sl h' hle ⟨hrow, by simp; omega⟩
theorem f52m_sound : Sound Tryz.prog 52 KindsMS := by
 refine fn_sound (fn := Tryz.f52) (c := bodyOf Tryz.f52) Tryz.func52 rfl (by decide) ?_
 rintro cvs m h K ⟨ver, tb, n, cap, ws, w, cols, t, rfl, h1, h2, h3, h4, h5, h6⟩
 refine ⟨f52_ctx m h, rfl, specs_nil, ?_⟩
 rw [← f52m_vc]
 exact f52m_ok h1 h2 h3 h4 h5 h6
theorem TabHalf.mono {t : Tab} {w : TabV} (x : TabHalf h t w) (le : PH.le h h') : TabHalf h' t w := ⟨x.name_, x.key_, RepL.mono x.cols_ le fun _ _ e => e⟩
theorem WsOk.mono {id : Int} {ws : List TabV} (x : WsOk h id ws) (le : PH.le h h') : WsOk h' id ws := ⟨x.1, fun i t e => let ⟨w, e1, e2⟩ := x.2 i t e; ⟨w, e1, e2.mono le⟩⟩
theorem WsOk.set {id : Int} {ws : List TabV} {w w' : TabV} (x : WsOk h id ws) (hi : ws[i]? = some w) (e1 : w'.name = w.name) (e2 : w'.key = w.key) (e3 : w'.columns = w.columns) : WsOk h id (ws.set i w') := by
 refine ⟨by rw [List.length_set]; exact x.1, fun j t e => ?_⟩
 obtain ⟨u, h1, h2⟩ := x.2 j t e
 by_cases hj : i = j
 · subst hj
   rw [hi] at h1; cases h1
   exact ⟨w', by rw [List.getElem?_set_self (List.getElem?_eq_some_iff.1 hi).1], ⟨by rw [e1]; exact h2.name_, by rw [e2]; exact h2.key_, by rw [e3]; exact h2.cols_⟩⟩
 · exact ⟨u, by rw [List.getElem?_set_ne hj]; exact h1, h2⟩
theorem SchAt.on {m0 m1 : MH} {h0 h1 : PH} {tb n : Nat} {id : Int} {ws : List TabV} {s : SchV} (x : SchAt m0 h0 cb tb n id ws s m h) (le : PH.le h h1) (ho : MOther m m1 cb) (hc : CaseOk m1 h1 cb) : SchAt m0 h0 cb tb n id ws s m1 h1 := by
 refine ⟨x.le_.trans le, x.ver0, x.ver1, hc, x.n2, x.n4, x.sl_, x.id_, x.new_, x.ne_, ?_, x.ws_.mono le, fun b n1 n2 => by rw [ho.other b n1]; exact x.other_ b n1 n2⟩
 obtain ⟨cur, e1, e2⟩ := x.row_.ex
 exact ⟨cur, by rw [ho.other tb x.ne_]; exact e1, e2⟩
theorem SchAt.store {m0 : MH} {h0 : PH} {tb n : Nat} {id : Int} {ws : List TabV} {s : SchV} (x : SchAt m0 h0 cb tb n id ws s m h) {o : Nat} {w w' : TabV} {y : Value} (hi : ws[i]? = some w) (hk : k < 5) (ho : o = i * 5 + k) (e : w'.enc = w.enc.set k y) (e1 : w'.name = w.name) (e2 : w'.key = w.key) (e3 : w'.columns = w.columns) {Q : MH → Prop}
 (hQ : ∀ m2, SchAt m0 h0 cb tb n id (ws.set i w') s m2 h → Q m2) : ∃ (cs : Array Value) (E : TypeId), MAt m tb (.cells cs E (0, 0)) ∧ o < cs.size ∧ ∀ m2 : MH, MUpd m m2 tb (.cells (splice cs.toList o [y]).toArray E (0, 0)) → Q m2 := by
 obtain ⟨cur, h1, h2⟩ := x.row_.ex
 have hil := (List.getElem?_eq_some_iff.1 hi).1
 refine ⟨cur, 72, ⟨h1⟩, by have := x.row_.big h1; omega, fun m2 hu => hQ m2 ?_⟩
 subst ho
 refine ⟨x.le_, x.ver0, x.ver1, ?_, x.n2, x.n4, x.sl_, x.id_, x.new_, x.ne_, x.row_.store hi hk e h1 hu.at_, x.ws_.set hi e1 e2 e3, fun b n1 n2 => by rw [hu.other b n2]; exact x.other_ b n1 n2⟩
 obtain ⟨r, q, cs, k, q1, q2⟩ := x.case_
 exact ⟨r, q, cs, k, by rw [hu.other cb x.ne_.symm]; exact q1, q2⟩
theorem cols_of {h : PH} {s : Sl} {l : List ColV} (r : RowIn h s 2 (l.map ColV.enc)) (hl : l.length ≤ 8) : Cols h s l := ⟨⟨l, r, rfl, fun i x e => ⟨x, e, rfl⟩⟩, by omega⟩
theorem MNew.tabs {m m' : MH} {h : PH} {s : Sl} {w : TabV} {ws : List TabV} (x : MNew m m' h s 72 5 ((w :: ws).map TabV.enc)) : ∃ tb cap, s = ⟨some ⟨tb, 0, none⟩, ws.length + 1, cap⟩ ∧ ws.length + 1 ≤ cap ∧ TabRow m' tb (w :: ws) ∧ Unheld m h tb ∧ ∀ b, b ≠ tb → m' b = m b := by
 rcases x.row.ex with ⟨_, e⟩ | ⟨b, cap, cur, e, hm, h1, _, h3, h4⟩
 · cases e
 · subst e
   refine ⟨b, cap, by simp, by simpa using h1, ⟨cur, hm, by simpa using h4⟩, x.fresh b 0 rfl, fun c hc => x.other c (fun i e => by simp only [Option.some.injEq, Addr.mk.injEq] at e; exact hc e.1.symm)⟩
theorem f25_ok (hc : CaseOk m h cb) (hK : ∀ tb n id ws s m' h', SchAt m h cb tb n id ws s m' h' → K (aS s) m' h') : f25_nice cb m h K := by
 refine ⟨cb, 3, rfl, hc, fun k m1 k0 k1 o1 c1 => ?_⟩
 have hk2 : IntKind.i64.wrap (2 + k) = 2 + k := wrap_id (by omega) (by omega)
 rw [hk2]
 refine ⟨fun ⟨n, id, mx, hx⟩ => 2 ≤ n ∧ n ≤ 4 ∧ (id = 4 ∨ id = 5) ∧ hx = h ∧ MOther m mx cb ∧ CaseOk mx h cb, ⟨cb, 5, rfl, by omega, by omega, c1, fun r m2 o2 c2 => branch_intro (fun _ => ⟨(2 + k, 5, m2, h), ⟨by show 2 ≤ 2 + k; omega, by show 2 + k ≤ 4; omega, .inr rfl, rfl, o1.trans o2, c2⟩, MT⟩) (fun _ => ⟨(2 + k, 4, m2, h), ⟨by show 2 ≤ 2 + k; omega, by show 2 + k ≤ 4; omega, .inl rfl, rfl, o1.trans o2, c2⟩, MT⟩)⟩, ?_⟩
 clear o1 c1 m1 hk2 k0 k1 k
 rintro ⟨n, id, m1, hx⟩ ⟨n2, n4, hid, rfl, o1, c1⟩
 dsimp only
 refine ⟨cb, 3, rfl, c1, fun k m2 k0 k1 o2 c2 => ?_⟩
 refine ⟨_, _, rfl, _, _, rfl, _, _, rfl, _, _, rfl, _, _, rfl, _, _, rfl, _, _, rfl, _, _, rfl, _, _, rfl, fun s1 h1 le1 r1 s2 h2 le2 r2 s3 h3 le3 r3 s4 h4 le4 r4 tl m3 hnew => ?_⟩
 obtain ⟨tb, cap, rfl, hcap, hrow, hun, hoth⟩ := MNew.tabs (w := ⟨_, s1, 1, nilS, nilS⟩) (ws := [⟨_, s2, 1, nilS, nilS⟩, ⟨_, s3, 2, nilS, nilS⟩, ⟨_, s4, 1, nilS, nilS⟩]) hnew
 simp only [List.length_cons, List.length_nil] at hcap
 have hle : PH.le hx h4 := ((le1.trans le2).trans le3).trans le4
 have tbcb : tb ≠ cb := fun e => by
  obtain ⟨r, q, cs, j, q1, _⟩ := c2
  have := hun.m_
  rw [e, q1] at this; cases this
 have hm0 : m tb = none := by rw [← o1.other tb tbcb, ← o2.other tb tbcb]; exact hun.m_
 have c3 : CaseOk m3 h4 cb := by
  obtain ⟨r, q, cs, j, q1, q2, q3⟩ := c2
  exact ⟨r, q, cs, j, by rw [hoth cb tbcb.symm]; exact q1, q2.mono hle, q3⟩
 have S0 : SchAt m hx cb tb n.toNat id _ ⟨k, ⟨some ⟨tb, 0, none⟩, n.toNat, cap⟩⟩ m3 h4 := ⟨hle, k0, by show k ≤ 2; omega, c3, by omega, by omega, ⟨cap, rfl, by omega⟩, hid, hm0, tbcb, hrow, ⟨rfl, fun i t e => ?_⟩, fun b n1 n2 => by rw [hoth b n2, o2.other b n1, o1.other b n1]⟩
 rotate_left
 · match i, e with
   | 0, e => cases e; exact ⟨_, rfl, ⟨rfl, rfl, cols_of (l := [⟨_, _⟩, ⟨_, _⟩]) (r1.mono ((le2.trans le3).trans le4)) (by decide)⟩⟩
   | 1, e => cases e; exact ⟨_, rfl, ⟨rfl, rfl, cols_of (l := [⟨_, _⟩, ⟨_, _⟩, ⟨_, _⟩, ⟨_, _⟩]) (r2.mono (le3.trans le4)) (by simp)⟩⟩
   | 2, e => cases e; exact ⟨_, rfl, ⟨rfl, rfl, cols_of (l := [⟨_, _⟩, ⟨_, _⟩]) (r3.mono le4) (by decide)⟩⟩
   | 3, e => cases e; exact ⟨_, rfl, ⟨rfl, rfl, cols_of (l := [⟨_, _⟩]) r4 (by simp)⟩⟩
   | i + 4, e => simp [plainTabs] at e
 generalize hws : (TabV.mk _ s1 1 nilS nilS :: _) = ws0 at S0
 clear hws hrow hnew r1 r2 r3 r4
 have getw : ∀ {ws : List TabV} {i : Nat}, ws.length = 4 → i < 4 → ∃ w, ws[i]? = some w := fun hl hi => ⟨_, List.getElem?_eq_getElem (by omega)⟩
 refine ⟨by omega, by show n ≤ (cap : Int); omega, fun ⟨n', s, mx, hy⟩ => n' = n ∧ ∃ ws, SchAt m hx cb tb n.toNat id ws s mx hy, ⟨cb, 2, rfl, by omega, by omega, c3, fun r m4 o4 c4 => branch_intro (fun _ s5 h5 le5 r5 => ⟨tb, 0, rfl, by omega, by omega, fun s6 h6 le6 r6 => ?_⟩) (fun _ => ⟨(n, ⟨k, ⟨some ⟨tb, 0, none⟩, n.toNat, cap⟩⟩, m4, h4), ⟨rfl, _, S0.on (.refl _) o4 c4⟩, MT⟩)⟩, ?_⟩
 · obtain ⟨w, hw⟩ := getw (i := 1) S0.ws_.1 (by omega)
   exact (S0.on (le5.trans le6) o4 (c4.mono (le5.trans le6))).store (k := 3) (w' := { w with references := s6 }) hw (by omega) rfl rfl rfl rfl rfl fun m5 x5 => ⟨(n, ⟨k, ⟨some ⟨tb, 0, none⟩, n.toNat, cap⟩⟩, m5, h6), ⟨rfl, _, x5⟩, MT⟩
 clear S0 c3 hoth hun hm0 hcap hle le1 le2 le3 le4 o1 o2 c1 c2
 rintro ⟨n', s, m4, h5⟩ ⟨rfl, ws, S0⟩
 dsimp only
 obtain ⟨cap, hsl, _⟩ := S0.sl_
 have hsa : s.tables.a = some ⟨tb, 0, none⟩ := by rw [hsl]
 have hsn : s.tables.len = n'.toNat := by rw [hsl]
 refine ⟨fun ⟨n, s, mx, hy⟩ => n = n' ∧ ∃ ws, SchAt m hx cb tb n.toNat id ws s mx hy, branch_dec (fun hn => ⟨cb, 3, rfl, by omega, by omega, S0.case_, fun r m5 o5 c5 => branch_intro (fun _ s7 h7 le7 r7 => ⟨tb, 0, hsa, by omega, by omega, fun s8 h8 le8 r8 => ?_⟩) (fun _ => ⟨(n', s, m5, h5), ⟨rfl, _, S0.on (.refl _) o5 c5⟩, MT⟩)⟩) (fun _ => ⟨(n', s, m4, h5), ⟨rfl, _, S0⟩, MT⟩), ?_⟩
 · obtain ⟨w, hw⟩ := getw (i := 2) S0.ws_.1 (by omega)
   exact (S0.on (le7.trans le8) o5 (c5.mono (le7.trans le8))).store (k := 3) (w' := { w with references := s8 }) hw (by omega) rfl rfl rfl rfl rfl fun m5 x5 => ⟨(n', s, m5, h8), ⟨rfl, _, x5⟩, MT⟩
 clear S0 hsa hsn hsl
 rintro ⟨n'', s, m4, h5⟩ ⟨rfl, ws, S0⟩
 dsimp only
 obtain ⟨cap, hsl, _⟩ := S0.sl_
 have hsa : s.tables.a = some ⟨tb, 0, none⟩ := by rw [hsl]
 have hsn : s.tables.len = n''.toNat := by rw [hsl]
 refine ⟨fun ⟨s, mx, hy⟩ => ∃ ws, SchAt m hx cb tb n''.toNat id ws s mx hy, branch_dec (fun hn => ⟨cb, 3, rfl, by omega, by omega, S0.case_, fun r m5 o5 c5 => branch_intro (fun _ s7 h7 le7 r7 => ⟨tb, 0, hsa, by omega, by omega, fun s8 h8 le8 r8 => ?_⟩) (fun _ => ⟨(s, m5, h5), ⟨_, S0.on (.refl _) o5 c5⟩, MT⟩)⟩) (fun _ => ⟨(s, m4, h5), ⟨_, S0⟩, MT⟩), ?_⟩
 · obtain ⟨w, hw⟩ := getw (i := 3) S0.ws_.1 (by omega)
   exact (S0.on (le7.trans le8) o5 (c5.mono (le7.trans le8))).store (k := 3) (w' := { w with references := s8 }) hw (by omega) rfl rfl rfl rfl rfl fun m5 x5 => ⟨(s, m5, h8), ⟨_, x5⟩, MT⟩
 clear S0 hsa hsn hsl
 rintro ⟨s, m4, h5⟩ ⟨ws, S0⟩
 dsimp only
 obtain ⟨cap, hsl, _⟩ := S0.sl_
 have hsa : s.tables.a = some ⟨tb, 0, none⟩ := by rw [hsl]
 have hsn : s.tables.len = n''.toNat := by rw [hsl]
 refine ⟨fun ⟨s, mx, hy⟩ => ∃ ws, SchAt m hx cb tb n''.toNat id ws s mx hy, ⟨cb, 3, rfl, by omega, by omega, S0.case_, fun r m5 o5 c5 => branch_intro (fun _ => ?_) (fun _ => ⟨(s, m5, h5), ⟨_, S0.on (.refl _) o5 c5⟩, MT⟩)⟩, fun ⟨s, m4, h5⟩ ⟨ws, S0⟩ => hK _ _ _ _ _ _ _ S0⟩
 have S1 := S0.on (.refl _) o5 c5
 obtain ⟨w, hw, hhalf⟩ := S1.ws_.2 1 _ rfl
 refine ⟨s.version, tb, n''.toNat, cap, ws, w, _, 1, by rw [hsl]; rfl, by omega, S1.row_, hw, hhalf.cols_, by simp, fun sl h6 le6 hi6 => ?_⟩
 refine ⟨cb, sl, nilS, _, [], 1, rfl, c5.mono le6, hi6, ⟨RowIn.nil _ _, by simp⟩, by simp, by simp, by omega, fun pvv p m6 h7 le7 hp hpw o6 c6 => ⟨tb, 0, hsa, by omega, by omega, fun s8 h8 le8 r8 => ?_⟩⟩
 exact (S1.on ((le6.trans le7).trans le8) o6 (c6.mono le8)).store (k := 4) (w' := { w with checks := s8 }) hw (by omega) rfl rfl rfl rfl rfl fun m5 x5 => ⟨(s, m5, h8), ⟨_, x5⟩, MT⟩
theorem f25_sound : Sound Tryz.prog 25 SchemaW := by
 refine fn_sound (fn := Tryz.f25) (c := bodyOf Tryz.f25) Tryz.func25 rfl (by decide) ?_
 rintro cvs m h K ⟨cb, rfl, hc, hK⟩
 refine ⟨f25_ctx cb, rfl, specs_cons intW (specs_cons f10_sound (specs_cons f51_sound (specs_cons f52m_sound (specs_cons f27_sound specs_nil)))), ?_⟩
 rw [← f25_vc cb m h K]
 exact f25_ok hc hK
structure PlainSch (s : Sch) : Prop where
 ex : ∃ ver n id, 0 ≤ ver ∧ ver ≤ 2 ∧ 2 ≤ n ∧ n ≤ 4 ∧ (id = 4 ∨ id = 5) ∧ s = ⟨ver, (plainTabs id).take n⟩
def PlainW : Vc.Spec := fun cvs m h K => ∃ cb, cvs = [cP cb] ∧ CaseOk m h cb ∧ ∀ s v m' h', PlainSch s → RepS h' s v → PH.le h h' → MOther m m' cb → CaseOk m' h' cb → K (aS v) m' h'
theorem f8_ok (hc : CaseOk m h cb) (hK : ∀ s v m' h', PlainSch s → RepS h' s v → PH.le h h' → MOther m m' cb → CaseOk m' h' cb → K (aS v) m' h') : f8_nice cb m h (Strong h K) := by
 refine ⟨cb, rfl, hc, fun tb n id ws s m1 h1 S1 => ?_⟩
 refine ⟨fun ⟨i, s', mx, hx⟩ => s' = s ∧ hx = h1 ∧ i ≤ n ∧ ∃ ws, SchAt m h cb tb n id ws s mx h1 ∧ ∀ j w, j < i → ws[j]? = some w → w.references = nilS ∧ w.checks = nilS, fun ⟨i, _, _, _⟩ => n - i, ⟨(0, s, m1, h1), ⟨rfl, rfl, by omega, ws, S1, fun j w hj => by omega⟩, MT⟩, ?_⟩
 clear S1 ws m1
 rintro ⟨i, s', m1, hx⟩ ⟨rfl, rfl, hi, ws, S1, hnil⟩
 dsimp only
 obtain ⟨cap, hsl, hscap⟩ := S1.sl_
 have hsa : s'.tables.a = some ⟨tb, 0, none⟩ := by rw [hsl]
 have hsn : s'.tables.len = n := by rw [hsl]
 have hn4 := S1.n4
 refine branch_dec (fun hlt => ⟨tb, 0, hsa, by omega, hlt, ?_⟩) (fun hge hdis => ?_)
 · obtain ⟨w, hw⟩ : ∃ w, ws[i]? = some w := ⟨_, List.getElem?_eq_getElem (by have := S1.ws_.1; have := S1.n4; omega)⟩
   refine S1.store (i := i) (k := 3) (w' := { w with references := nilS }) hw (by omega) (by omega) rfl rfl rfl rfl fun m2 S2 => ⟨tb, 0, hsa, by omega, hlt, ?_⟩
   have hil := (List.getElem?_eq_some_iff.1 hw).1
   have hw2 : (ws.set i { w with references := nilS })[i]? = some { w with references := nilS } := List.getElem?_set_self hil
   refine S2.store (i := i) (k := 4) (w' := { w with references := nilS, checks := nilS }) hw2 (by omega) (by omega) rfl rfl rfl rfl fun m3 S3 => ⟨(i + 1, s', m3, hx), ⟨rfl, rfl, by show i + 1 ≤ n; omega, _, S3, fun j u hj hu => ?_⟩, by show n - (i + 1) < n - i; omega, MT⟩
   by_cases e : i = j
   · subst e
     rw [List.getElem?_set_self (by rw [List.length_set]; exact hil)] at hu
     cases hu; exact ⟨rfl, rfl⟩
   · rw [List.getElem?_set_ne e, List.getElem?_set_ne e] at hu
     exact hnil j u (by omega) hu
 · have hdis := hdis
   obtain ⟨cur, hcur, htake⟩ := S1.row_.ex
   have hg0 : ∀ i, hx tb i = none := hdis tb _ hcur
   have hle3 : PH.le hx (fun x i => if x = tb then cur[i]? else hx x i) := ⟨fun x i v e => by
    have : x ≠ tb := fun e' => by rw [e', hg0 i] at e; cases e
    simp [this, e]⟩
   refine ⟨fun b => if b = tb then none else m1 b, fun x i => if x = tb then cur[i]? else hx x i, fun b o e => ?_, S1.le_.trans hle3, fun x i v e => ?_, hK ⟨s'.version, (plainTabs id).take n⟩ s' _ _ ⟨⟨_, _, _, S1.ver0, S1.ver1, S1.n2, S1.n4, S1.id_, rfl⟩⟩ ⟨rfl, ?_⟩ (S1.le_.trans hle3) ⟨fun b hb => ?_⟩ ?_⟩
   · by_cases e' : b = tb
     · simp [e'] at e
     · simpa [e'] using e
   · by_cases e' : x = tb
     · subst e'
       simp at e
       exact .inr ⟨cur, 72, (0, 0), hcur, e, by simp⟩
     · simp [e'] at e; exact .inl e
   · have hws4 := S1.ws_.1
     have hn4 := S1.n4
     refine ⟨⟨ws.take n, ⟨by rw [hsn]; simp; omega, .inr ⟨tb, 0, hsa, fun i e hi => ⟨fun j v hj => ?_⟩⟩, by rw [hsl]; exact hscap⟩, by simp [plainTabs]; omega, fun i t e => ?_⟩, by simp [plainTabs]; omega⟩
     · rw [List.map_take, List.getElem?_take] at hi
       split at hi
       · have h1 := flatten_get (xs := ws.map TabV.enc) (sz := 5) (fun e he => by obtain ⟨x, _, rfl⟩ := List.mem_map.1 he; rfl) hi j v hj
         rw [← htake, List.getElem?_take] at h1
         split at h1
         · simp only [if_true, Nat.zero_add]
           rw [← Array.getElem?_toList]; exact h1
         · cases h1
       · cases hi
     · rw [List.getElem?_take] at e
       split at e
       · rename_i hin
         obtain ⟨w, e1, e2⟩ := S1.ws_.2 i t e
         obtain ⟨z1, z2⟩ := hnil i w (by omega) e1
         have hh := e2.mono hle3
         have hnorc : t.refs = [] ∧ t.checks = [] := by
          match i, e with
          | 0, e => cases e; exact ⟨rfl, rfl⟩
          | 1, e => cases e; exact ⟨rfl, rfl⟩
          | 2, e => cases e; exact ⟨rfl, rfl⟩
          | 3, e => cases e; exact ⟨rfl, rfl⟩
          | i + 4, e => simp [plainTabs] at e
         refine ⟨w, by rw [List.getElem?_take, if_pos hin]; exact e1, ⟨hh.name_, hh.cols_, hh.key_, by rw [z1, hnorc.1]; exact RepL.nil _ _ _ _, by rw [z2, hnorc.2]; exact RepL.nil _ _ _ _⟩⟩
       · cases e
   · by_cases e' : b = tb
     · subst e'; simp [S1.new_]
     · simp [e']; exact S1.other_ b hb e'
   · obtain ⟨r, q, cs, k, q1, q2, q3⟩ := S1.case_
     exact ⟨r, q, cs, k, by simp [S1.ne_.symm]; exact q1, q2.mono hle3, q3⟩
theorem f8_sound : Sound Tryz.prog 8 PlainW := by
 refine fn_sound2 (fn := Tryz.f8) (c := bodyOf Tryz.f8) Tryz.func8 rfl (by decide) ?_
 rintro cvs m h K ⟨cb, rfl, hc, hK⟩
 refine ⟨f8_ctx, rfl, specs_cons f25_sound specs_nil, ?_⟩
 rw [← f8_vc cb m h _]
 exact f8_ok hc hK
def QW (q : Query) : Prop :=
 match q with
 | .mk _ _ w _ _ _ _ _ args => PredW w ∧ ∀ a ∈ args, QW a
 termination_by SizeOf.sizeOf q
theorem qw_iff {op : Int} {on : List (Int × Int)} {args : List Query} :
 QW (.mk op ta w co on gr od li args) ↔ PredW w ∧ ∀ a ∈ args, QW a := by rw [QW.eq_def]
def KQ (K : CV → MH → PH → Prop) (m : MH) (h : PH) (cb : Nat) : Prop := ∀ w q m' h', PH.le h h' → RepQ h' q w → QW q → MOther m m' cb → CaseOk m' h' cb → K (aQ w) m' h'
def ShapedW : Vc.Spec := fun cvs m h K => ∃ cb sc p k v s ps ks q, cvs = [cP cb, aS sc, cS p, cS k, aQ v] ∧ CaseOk m h cb ∧ RepS h s sc ∧ small8 s ∧ s.tables.length ≤ 1000 ∧ Ints h p ps ∧ ps.length ≤ 1000 ∧ Ints h k ks ∧ ks.length ≤ 1000 ∧ RepQ h q v ∧ QW q ∧ KQ K m h cb
def f39_ctx (cb : Nat) (sc : SchV) (p k : Sl) (v : QV) : Ctx :=
 ctx2 [(12, IntW), (52, KindsOfS), (37, ScanS), (10, BoolW), (27, PredicateW)]
  [(3, { A := Int × Nat × MH × PH, st := fun ⟨f, n, m, h⟩ => mkSt 112 117 [(0, pv cb), (2, sv p), (3, sv k), (6, .at (.ptr 6 0)), (9, .at (.ptr 9 0)), (10, .at (.ptr 10 0)), (11, iv f), (12, iv n)] [(6, .cells 28 (sc.enc.map .val)), (9, .cells 43 (v.enc.map .val)), (10, .cells 43 (zeroQV.enc.map .val))] m h }),
   (9, { A := Int × Nat × Int × Sl × List Int × Nat × MH × PH, st := fun ⟨f, n, t, have_, cols, i, m, h⟩ => mkSt 112 117 [(0, pv cb), (2, sv p), (3, sv k), (6, .at (.ptr 6 0)), (9, .at (.ptr 9 0)), (10, .at (.ptr 10 0)), (11, iv f), (12, iv n), (13, iv t), (14, sv have_), (15, .at (.lst 75)), (45, sv k), (46, iv k.len), (47, iv i)] [(6, .cells 28 (sc.enc.map .val)), (9, .cells 43 (v.enc.map .val)), (10, .cells 43 (zeroQV.enc.map .val)), (75, .lst 3 1 (cols.map eI))] m h }),
   (13, { A := Int × Nat × Int × Sl × List Int × Nat × Int × Int × Nat × MH × PH, st := fun ⟨f, n, t, have_, cols, i, kind, fr, j, m, h⟩ => mkSt 112 117 [(0, pv cb), (2, sv p), (3, sv k), (6, .at (.ptr 6 0)), (9, .at (.ptr 9 0)), (10, .at (.ptr 10 0)), (11, iv f), (12, iv n), (13, iv t), (14, sv have_), (15, .at (.lst 75)), (17, iv kind), (18, iv fr), (45, sv k), (46, iv k.len), (47, iv i), (56, iv have_.len), (57, iv j)] [(6, .cells 28 (sc.enc.map .val)), (9, .cells 43 (v.enc.map .val)), (10, .cells 43 (zeroQV.enc.map .val)), (75, .lst 3 1 (cols.map eI))] m h })] [] [] false
def f39_nice (cb : Nat) (sc : SchV) (p k : Sl) (v : QV) (m : MH) (h : PH) (K : CV → MH → PH → Prop) : Prop :=
 ∃ (cb_1 : Nat) (n : Int), [cQp cb 0, cQi (IntKind.i64.wrap ((↑sc.tables.len : Int) + 1))] = [cQp cb_1 0, cQi n] /\ CaseOk m h cb_1 /\ ∀ (k_1 : Int) (m' : MH), 0 <= k_1 -> k_1 < n ∨
 k_1 = 0 -> MOther m m' cb_1 -> CaseOk m' h cb_1 -> ∃ (I : Int × Nat × MH × PH -> Prop) (mu : Int × Nat × MH × PH -> Nat), (∃ (x : Int × Nat × MH × PH), I x /\ eQ (sQo cb 0) /\ eQ
 (sQs p) /\ eQ (sQs k) /\ eP 6 /\ eP 9 /\ eP 10 /\ sQi k_1 = sQi x.1 /\ sQi 0 = sQi ↑x.2.1 /\ eQ (oQ 28 [aQi sc.version, aQs sc.tables]) /\ eQ (oQ 43 (List.map At.val (QV.enc v)))
 /\ eQ (oQ 43 zQ) /\ m' = x.2.2.1 /\ h = x.2.2.2 /\ True) /\ ∀ (x : Int × Nat × MH × PH), I x -> branch (decide ((↑x.2.1 : Int) < ↑sc.tables.len)) (((↑sc.tables.len : Int) = 0 ->
 False) /\ ∃ (v_1 : SchV) (s : Sch) (t : Int), [cQa [vQi sc.version, vQs sc.tables], cQi ((IntKind.i64.wrap (x.1 + (↑x.2.1 : Int))).tmod (↑sc.tables.len : Int))] = [cQa [vQi
 v_1.version, vQs v_1.tables], cQi t] /\ RepS x.2.2.2 s v_1 /\ small8 s /\ ∀ (sl : Sl) (h' : PH), x.2.2.2.le h' -> Ints h' sl (kindsT s t) -> ∃ (I_1 : Int × Nat × Int × Sl × List
 Int × Nat × MH × PH -> Prop) (mu_1 : Int × Nat × Int × Sl × List Int × Nat × MH × PH -> Nat), (∃ (x_1 : Int × Nat × Int × Sl × List Int × Nat × MH × PH), I_1 x_1 /\ eQ (sQo cb 0)
 /\ eQ (sQs p) /\ eQ (sQs k) /\ eP 6 /\ eP 9 /\ eP 10 /\ sQi x.1 = sQi x_1.1 /\ sQi ↑x.2.1 = sQi ↑x_1.2.1 /\ sQi ((IntKind.i64.wrap (x.1 + (↑x.2.1 : Int))).tmod (↑sc.tables.len :
 Int)) = sQi x_1.2.2.1 /\ sQs sl = sQs x_1.2.2.2.1 /\ eL 75 /\ eQ (sQs k) /\ eQ (sQi ↑k.len) /\ sQi 0 = sQi ↑x_1.2.2.2.2.2.1 /\ eQ (oQ 28 [aQi sc.version, aQs sc.tables]) /\ eQ (oQ
 43 (List.map At.val (QV.enc v))) /\ eQ (oQ 43 zQ) /\ some (Own.lst 3 1 []) = some (Own.lst 3 1 (List.map eI x_1.2.2.2.2.1)) /\ x.2.2.1 = x_1.2.2.2.2.2.2.1 /\ h' = x_1.2.2.2.2.2.2.2
 /\ True) /\ ∀ (x_1 : Int × Nat × Int × Sl × List Int × Nat × MH × PH), I_1 x_1 -> branch (decide ((↑x_1.2.2.2.2.2.1 : Int) < ↑k.len)) (∃ (b off : Nat), k.a = some (Addr.mk b off
 none) /\ 0 <= (↑x_1.2.2.2.2.2.1 : Int) /\ (↑x_1.2.2.2.2.2.1 : Int) < ↑k.len /\ ∃ (y : Int), RdAt x_1.2.2.2.2.2.2.1 x_1.2.2.2.2.2.2.2 b (off + (↑x_1.2.2.2.2.2.1 : Int).toNat * 1)
 [vQi y] /\ ∃ (cb_2 : Nat) (n : Int), [cQp cb 0, cQi ↑x_1.2.2.2.1.len] = [cQp cb_2 0, cQi n] /\ CaseOk x_1.2.2.2.2.2.2.1 x_1.2.2.2.2.2.2.2 cb_2 /\ ∀ (k_2 : Int) (m' : MH), 0 <= k_2
 -> k_2 < n ∨ k_2 = 0 -> MOther x_1.2.2.2.2.2.2.1 m' cb_2 -> CaseOk m' x_1.2.2.2.2.2.2.2 cb_2 -> ∃ (I : Int × Nat × Int × Sl × List Int × Nat × Int × Int × Nat × MH × PH -> Prop)
 (mu : Int × Nat × Int × Sl × List Int × Nat × Int × Int × Nat × MH × PH -> Nat), (∃ (x : Int × Nat × Int × Sl × List Int × Nat × Int × Int × Nat × MH × PH), I x /\ eQ (sQo cb 0) /\
 eQ (sQs p) /\ eQ (sQs k) /\ eP 6 /\ eP 9 /\ eP 10 /\ sQi x_1.1 = sQi x.1 /\ sQi ↑x_1.2.1 = sQi ↑x.2.1 /\ sQi x_1.2.2.1 = sQi x.2.2.1 /\ sQs x_1.2.2.2.1 = sQs x.2.2.2.1 /\ eL 75 /\
 sQi y = sQi x.2.2.2.2.2.2.1 /\ sQi k_2 = sQi x.2.2.2.2.2.2.2.1 /\ eQ (sQs k) /\ eQ (sQi ↑k.len) /\ sQi ↑x_1.2.2.2.2.2.1 = sQi ↑x.2.2.2.2.2.1 /\ sQi ↑x_1.2.2.2.1.len = sQi
 ↑x.2.2.2.1.len /\ sQi 0 = sQi ↑x.2.2.2.2.2.2.2.2.1 /\ eQ (oQ 28 [aQi sc.version, aQs sc.tables]) /\ eQ (oQ 43 (List.map At.val (QV.enc v))) /\ eQ (oQ 43 zQ) /\ some (Own.lst 3 1
 (List.map eI x_1.2.2.2.2.1)) = some (Own.lst 3 1 (List.map eI x.2.2.2.2.1)) /\ m' = x.2.2.2.2.2.2.2.2.2.1 /\ x_1.2.2.2.2.2.2.2 = x.2.2.2.2.2.2.2.2.2.2 /\ True) /\ ∀ (x : Int × Nat
 × Int × Sl × List Int × Nat × Int × Int × Nat × MH × PH), I x -> branch (decide ((↑x.2.2.2.2.2.2.2.2.1 : Int) < ↑x.2.2.2.1.len)) (((↑x.2.2.2.1.len : Int) = 0 -> False) /\ ∃ (b off
 : Nat), x.2.2.2.1.a = some (Addr.mk b off none) /\ 0 <= (IntKind.i64.wrap (x.2.2.2.2.2.2.2.1 + (↑x.2.2.2.2.2.2.2.2.1 : Int))).tmod (↑x.2.2.2.1.len : Int) /\ (IntKind.i64.wrap
 (x.2.2.2.2.2.2.2.1 + (↑x.2.2.2.2.2.2.2.2.1 : Int))).tmod (↑x.2.2.2.1.len : Int) < ↑x.2.2.2.1.len /\ ∃ (y : Int), RdAt x.2.2.2.2.2.2.2.2.2.1 x.2.2.2.2.2.2.2.2.2.2 b (off +
 ((IntKind.i64.wrap (x.2.2.2.2.2.2.2.1 + (↑x.2.2.2.2.2.2.2.2.1 : Int))).tmod (↑x.2.2.2.1.len : Int)).toNat * 1) [vQi y] /\ branch (y == x.2.2.2.2.2.2.1) (((List.map eI
 x.2.2.2.2.1).length + 1) * 8 <= 140737488355328 /\ (List.map eI x.2.2.2.2.1).length < 140737488355328 /\ ∃ (x_2 : Int × Nat × Int × Sl × List Int × Nat × MH × PH), I_1 x_2 /\ mu_1
 x_2 < mu_1 x_1 /\ eQ (sQo cb 0) /\ eQ (sQs p) /\ eQ (sQs k) /\ eP 6 /\ eP 9 /\ eP 10 /\ sQi x.1 = sQi x_2.1 /\ sQi ↑x.2.1 = sQi ↑x_2.2.1 /\ sQi x.2.2.1 = sQi x_2.2.2.1 /\ sQs
 x.2.2.2.1 = sQs x_2.2.2.2.1 /\ eL 75 /\ eQ (sQs k) /\ eQ (sQi ↑k.len) /\ sQi (IntKind.i64.wrap ((↑x.2.2.2.2.2.1 : Int) + 1)) = sQi ↑x_2.2.2.2.2.2.1 /\ eQ (oQ 28 [aQi sc.version,
 aQs sc.tables]) /\ eQ (oQ 43 (List.map At.val (QV.enc v))) /\ eQ (oQ 43 zQ) /\ some (Own.lst 3 1 (List.map eI x.2.2.2.2.1 ++ [[vQi ((IntKind.i64.wrap (x.2.2.2.2.2.2.2.1 +
 (↑x.2.2.2.2.2.2.2.2.1 : Int))).tmod (↑x.2.2.2.1.len : Int))]])) = some (Own.lst 3 1 (List.map eI x_2.2.2.2.2.1)) /\ x.2.2.2.2.2.2.2.2.2.1 = x_2.2.2.2.2.2.2.1 /\
 x.2.2.2.2.2.2.2.2.2.2 = x_2.2.2.2.2.2.2.2 /\ True) (∃ (x_2 : Int × Nat × Int × Sl × List Int × Nat × Int × Int × Nat × MH × PH), I x_2 /\ mu x_2 < mu x /\ eQ (sQo cb 0) /\ eQ (sQs
 p) /\ eQ (sQs k) /\ eP 6 /\ eP 9 /\ eP 10 /\ sQi x.1 = sQi x_2.1 /\ sQi ↑x.2.1 = sQi ↑x_2.2.1 /\ sQi x.2.2.1 = sQi x_2.2.2.1 /\ sQs x.2.2.2.1 = sQs x_2.2.2.2.1 /\ eL 75 /\ sQi
 x.2.2.2.2.2.2.1 = sQi x_2.2.2.2.2.2.2.1 /\ sQi x.2.2.2.2.2.2.2.1 = sQi x_2.2.2.2.2.2.2.2.1 /\ eQ (sQs k) /\ eQ (sQi ↑k.len) /\ sQi ↑x.2.2.2.2.2.1 = sQi ↑x_2.2.2.2.2.2.1 /\ sQi
 ↑x.2.2.2.1.len = sQi ↑x_2.2.2.2.1.len /\ sQi (IntKind.i64.wrap ((↑x.2.2.2.2.2.2.2.2.1 : Int) + 1)) = sQi ↑x_2.2.2.2.2.2.2.2.2.1 /\ eQ (oQ 28 [aQi sc.version, aQs sc.tables]) /\ eQ
 (oQ 43 (List.map At.val (QV.enc v))) /\ eQ (oQ 43 zQ) /\ some (Own.lst 3 1 (List.map eI x.2.2.2.2.1)) = some (Own.lst 3 1 (List.map eI x_2.2.2.2.2.1)) /\ x.2.2.2.2.2.2.2.2.2.1 =
 x_2.2.2.2.2.2.2.2.2.2.1 /\ x.2.2.2.2.2.2.2.2.2.2 = x_2.2.2.2.2.2.2.2.2.2.2 /\ True)) (∃ (x_2 : Int × Nat × Int × Sl × List Int × Nat × MH × PH), I_1 x_2 /\ mu_1 x_2 < mu_1 x_1 /\
 eQ (sQo cb 0) /\ eQ (sQs p) /\ eQ (sQs k) /\ eP 6 /\ eP 9 /\ eP 10 /\ sQi x.1 = sQi x_2.1 /\ sQi ↑x.2.1 = sQi ↑x_2.2.1 /\ sQi x.2.2.1 = sQi x_2.2.2.1 /\ sQs x.2.2.2.1 = sQs
 x_2.2.2.2.1 /\ eL 75 /\ eQ (sQs k) /\ eQ (sQi ↑k.len) /\ sQi (IntKind.i64.wrap ((↑x.2.2.2.2.2.1 : Int) + 1)) = sQi ↑x_2.2.2.2.2.2.1 /\ eQ (oQ 28 [aQi sc.version, aQs sc.tables]) /\
 eQ (oQ 43 (List.map At.val (QV.enc v))) /\ eQ (oQ 43 zQ) /\ some (Own.lst 3 1 (List.map eI x.2.2.2.2.1)) = some (Own.lst 3 1 (List.map eI x_2.2.2.2.2.1)) /\ x.2.2.2.2.2.2.2.2.2.1 =
 x_2.2.2.2.2.2.2.1 /\ x.2.2.2.2.2.2.2.2.2.2 = x_2.2.2.2.2.2.2.2 /\ True)) (branch (x_1.1 == (↑sc.tables.len : Int)) (∃ (x_2 : Int × Nat × MH × PH), I x_2 /\ mu x_2 < mu x /\ eQ (sQo
 cb 0) /\ eQ (sQs p) /\ eQ (sQs k) /\ eP 6 /\ eP 9 /\ eP 10 /\ sQi x_1.1 = sQi x_2.1 /\ sQi (IntKind.i64.wrap ((↑x_1.2.1 : Int) + 1)) = sQi ↑x_2.2.1 /\ eQ (oQ 28 [aQi sc.version,
 aQs sc.tables]) /\ eQ (oQ 43 (List.map At.val (QV.enc v))) /\ eQ (oQ 43 zQ) /\ x_1.2.2.2.2.2.2.1 = x_2.2.2.1 /\ x_1.2.2.2.2.2.2.2 = x_2.2.2.2 /\ True) (branch (decide ((↑(List.map
 eI x_1.2.2.2.2.1).length : Int) < (↑k.len : Int))) (∃ (x_2 : Int × Nat × MH × PH), I x_2 /\ mu x_2 < mu x /\ eQ (sQo cb 0) /\ eQ (sQs p) /\ eQ (sQs k) /\ eP 6 /\ eP 9 /\ eP 10 /\
 sQi x_1.1 = sQi x_2.1 /\ sQi (IntKind.i64.wrap ((↑x_1.2.1 : Int) + 1)) = sQi ↑x_2.2.1 /\ eQ (oQ 28 [aQi sc.version, aQs sc.tables]) /\ eQ (oQ 43 (List.map At.val (QV.enc v))) /\ eQ
 (oQ 43 zQ) /\ x_1.2.2.2.2.2.2.1 = x_2.2.2.1 /\ x_1.2.2.2.2.2.2.2 = x_2.2.2.2 /\ True) (∃ (t : Int), [cQi x_1.2.2.1] = [cQi t] /\ ∃ (cb_2 : Nat) (n : Int), [cQp cb 0, cQi 2] = [cQp
 cb_2 0, cQi n] /\ 0 <= n /\ n <= 1000 /\ CaseOk x_1.2.2.2.2.2.2.1 x_1.2.2.2.2.2.2.2 cb_2 /\ ∀ (r : Bool) (m' : MH), MOther x_1.2.2.2.2.2.2.1 m' cb_2 -> CaseOk m' x_1.2.2.2.2.2.2.2
 cb_2 -> branch r ((∃ (cb_3 : Nat), ∃ (s t_1 : Sl), ∃ (cols params : List Int) (deep : Nat), [cQp cb 0, cQs x_1.2.2.2.1, cQs p, cQi 1] = [cQp cb_3 0, cQs s, cQs t_1, cQi ↑deep] /\
 CaseOk m' x_1.2.2.2.2.2.2.2 cb_3 /\ Ints x_1.2.2.2.2.2.2.2 s cols /\ Ints x_1.2.2.2.2.2.2.2 t_1 params /\ cols.length <= 1000 /\ params.length <= 1000 /\ deep <= 1000 /\ ∀ (v : PV)
 (p : Pred) (m'_1 : MH) (h' : PH), x_1.2.2.2.2.2.2.2.le h' -> RepP h' p v -> PredW p -> MOther m' m'_1 cb_3 -> CaseOk m'_1 h' cb_3 -> ∀ (s : Sl) (h'_1 : PH), h'.le h'_1 -> RowIn
 h'_1 s 21 [[vQi 1, vQi t, vQi 0, vQi 0, vQi 0, vQi 0, vQi 0, vQi 0, vQz, vQi 0, vQi 0, vQi 0, vQi 0, vQz, vQn, vQn, vQn, vQn, vQn, vQi 0, vQn]] -> ∀ (s_1 : Sl) (h' : PH), h'_1.le
 h' -> RowIn h' s_1 1 (List.map eI x_1.2.2.2.2.1) -> ∀ (s_2 : Sl) (h'_2 : PH), h'.le h'_2 -> RowIn h'_2 s_2 21 [[vQi 2, vQi 0, vQi v.op, vQi v.cmp, vQi v.left.kind, vQi
 v.left.index, vQi v.left.value.kind, vQi v.left.value.int, Value.string v.left.value.text, vQi v.right.kind, vQi v.right.index, vQi v.right.value.kind, vQi v.right.value.int,
 Value.string v.right.value.text, vQs v.args, vQn, vQn, vQn, vQn, vQi 0, vQs s]] -> K (cQa [vQi 3, vQi 0, vQi 0, vQi 0, vQi 0, vQi 0, vQi 0, vQi 0, vQz, vQi 0, vQi 0, vQi 0, vQi 0,
 vQz, vQn, vQs s_1, vQn, vQn, vQn, vQi 0, vQs s_2]) m'_1 h'_2) /\ ∃ (cb_3 : Nat), ∃ (s t_1 : Sl), ∃ (cols params : List Int) (deep : Nat), [cQp cb 0, cQs x_1.2.2.2.1, cQs p, cQi 1]
 = [cQp cb_3 0, cQs s, cQs t_1, cQi ↑deep] /\ CaseOk m' x_1.2.2.2.2.2.2.2 cb_3 /\ Ints x_1.2.2.2.2.2.2.2 s cols /\ Ints x_1.2.2.2.2.2.2.2 t_1 params /\ cols.length <= 1000 /\
 params.length <= 1000 /\ deep <= 1000 /\ ∀ (v : PV) (p : Pred) (m'_1 : MH) (h' : PH), x_1.2.2.2.2.2.2.2.le h' -> RepP h' p v -> PredW p -> MOther m' m'_1 cb_3 -> CaseOk m'_1 h'
 cb_3 -> ∀ (s : Sl) (h'_1 : PH), h'.le h'_1 -> RowIn h'_1 s 21 [[vQi 1, vQi t, vQi 0, vQi 0, vQi 0, vQi 0, vQi 0, vQi 0, vQz, vQi 0, vQi 0, vQi 0, vQi 0, vQz, vQn, vQn, vQn, vQn,
 vQn, vQi 0, vQn]] -> ∀ (s_1 : Sl) (h' : PH), h'_1.le h' -> RowIn h' s_1 1 (List.map eI x_1.2.2.2.2.1) -> ∀ (s_2 : Sl) (h'_2 : PH), h'.le h'_2 -> RowIn h'_2 s_2 21 [[vQi 2, vQi 0,
 vQi v.op, vQi v.cmp, vQi v.left.kind, vQi v.left.index, vQi v.left.value.kind, vQi v.left.value.int, Value.string v.left.value.text, vQi v.right.kind, vQi v.right.index, vQi
 v.right.value.kind, vQi v.right.value.int, Value.string v.right.value.text, vQs v.args, vQn, vQn, vQn, vQn, vQi 0, vQs s]] -> K (cQa [vQi 3, vQi 0, vQi 0, vQi 0, vQi 0, vQi 0, vQi
 0, vQi 0, vQz, vQi 0, vQi 0, vQi 0, vQi 0, vQz, vQn, vQs s_1, vQn, vQn, vQn, vQi 0, vQs s_2]) m'_1 h'_2) (∀ (s : Sl) (h' : PH), x_1.2.2.2.2.2.2.2.le h' -> RowIn h' s 1 (List.map eI
 x_1.2.2.2.2.1) -> ∀ (s_1 : Sl) (h'_1 : PH), h'.le h'_1 -> RowIn h'_1 s_1 21 [[vQi 1, vQi t, vQi 0, vQi 0, vQi 0, vQi 0, vQi 0, vQi 0, vQz, vQi 0, vQi 0, vQi 0, vQi 0, vQz, vQn,
 vQn, vQn, vQn, vQn, vQi 0, vQn]] -> K (cQa [vQi 3, vQi 0, vQi 0, vQi 0, vQi 0, vQi 0, vQi 0, vQi 0, vQz, vQi 0, vQi 0, vQi 0, vQi 0, vQz, vQn, vQs s, vQn, vQn, vQn, vQi 0, vQs
 s_1]) m' h'_1))))) ((∃ (cb_2 : Nat), ∃ (s t : Sl), ∃ (cols params : List Int) (deep : Nat), [cQp cb 0, cQs k, cQs p, cQi 1] = [cQp cb_2 0, cQs s, cQs t, cQi ↑deep] /\ CaseOk
 x.2.2.1 x.2.2.2 cb_2 /\ Ints x.2.2.2 s cols /\ Ints x.2.2.2 t params /\ cols.length <= 1000 /\ params.length <= 1000 /\ deep <= 1000 /\ ∀ (v_1 : PV) (p : Pred) (m' : MH) (h' : PH),
 x.2.2.2.le h' -> RepP h' p v_1 -> PredW p -> MOther x.2.2.1 m' cb_2 -> CaseOk m' h' cb_2 -> ∀ (s : Sl) (h'_1 : PH), h'.le h'_1 -> RowIn h'_1 s 21 [(QV.enc v)] -> K (cQa [vQi 2, vQi
 0, vQi v_1.op, vQi v_1.cmp, vQi v_1.left.kind, vQi v_1.left.index, vQi v_1.left.value.kind, vQi v_1.left.value.int, Value.string v_1.left.value.text, vQi v_1.right.kind, vQi
 v_1.right.index, vQi v_1.right.value.kind, vQi v_1.right.value.int, Value.string v_1.right.value.text, vQs v_1.args, vQn, vQn, vQn, vQn, vQi 0, vQs s]) m' h'_1) /\ ∃ (cb_2 : Nat),
 ∃ (s t : Sl), ∃ (cols params : List Int) (deep : Nat), [cQp cb 0, cQs k, cQs p, cQi 1] = [cQp cb_2 0, cQs s, cQs t, cQi ↑deep] /\ CaseOk x.2.2.1 x.2.2.2 cb_2 /\ Ints x.2.2.2 s cols
 /\ Ints x.2.2.2 t params /\ cols.length <= 1000 /\ params.length <= 1000 /\ deep <= 1000 /\ ∀ (v_1 : PV) (p : Pred) (m' : MH) (h' : PH), x.2.2.2.le h' -> RepP h' p v_1 -> PredW p
 -> MOther x.2.2.1 m' cb_2 -> CaseOk m' h' cb_2 -> ∀ (s : Sl) (h'_1 : PH), h'.le h'_1 -> RowIn h'_1 s 21 [(QV.enc v)] -> K (cQa [vQi 2, vQi 0, vQi v_1.op, vQi v_1.cmp, vQi
 v_1.left.kind, vQi v_1.left.index, vQi v_1.left.value.kind, vQi v_1.left.value.int, Value.string v_1.left.value.text, vQi v_1.right.kind, vQi v_1.right.index, vQi
 v_1.right.value.kind, vQi v_1.right.value.int, Value.string v_1.right.value.text, vQs v_1.args, vQn, vQn, vQn, vQn, vQi 0, vQs s]) m' h'_1)
theorem f39_vc (cb : Nat) (sc : SchV) (p k : Sl) (v : QV) (m : MH) (h : PH) (K : CV → MH → PH → Prop) : f39_nice cb sc p k v m h K = (fnVC (f39_ctx cb sc p k v) Tryz.f39 (bodyOf Tryz.f39) (entry Tryz.f39.ntmps [cP cb, aS sc, cS p, cS k, aQ v] m h) K) := by kernel_rfl
theorem ints_nil (h : PH) : Ints h nilS [] := ⟨RowIn.nil _ _, by simp⟩
theorem pairs_nil (h : PH) : Pairs h nilS [] := ⟨RowIn.nil _ _, by simp⟩
theorem sorts_nil (h : PH) : Sorts h nilS [] := ⟨RowIn.nil _ _, by simp⟩
theorem zeroP_rep (h : PH) : RepP h zeroP zeroPV := leaf_rep (v := zeroPV) rfl
theorem repQl_one {h : PH} {s : Sl} {v : QV} {q : Query} (r : RowIn h s 21 [QV.enc v]) (hq : RepQ h q v) : RepQl h s [q] := ⟨⟨[v], r, rfl, fun i x e => by
 match i, e with
 | 0, e => simp at e; subst e; exact ⟨v, rfl, hq⟩
 | i + 1, e => simp at e⟩, by simp⟩
theorem scan_rep (h : PH) (t : Int) : RepQ h (.mk 1 t zeroP [] [] [] [] 0 []) ⟨1, t, zeroPV, nilS, nilS, nilS, nilS, 0, nilS⟩ :=
 QParts.rep ⟨rfl, rfl, zeroP_rep h, ints_nil h, pairs_nil h, ints_nil h, sorts_nil h, rfl, RepL.nil _ _ _ _⟩
theorem filter_rep {v : PV} {s : Sl} (hp : RepP h p v) (hq : RepQl h s [q]) : RepQ h (.mk 2 0 p [] [] [] [] 0 [q]) ⟨2, 0, v, nilS, nilS, nilS, nilS, 0, s⟩ :=
 QParts.rep ⟨rfl, rfl, hp, ints_nil h, pairs_nil h, ints_nil h, sorts_nil h, rfl, hq⟩
theorem project_rep {h : PH} {c s : Sl} {cols : List Int} {q : Query} (hc : Ints h c cols) (hq : RepQl h s [q]) : RepQ h (.mk 3 0 zeroP cols [] [] [] 0 [q]) ⟨3, 0, zeroPV, c, nilS, nilS, nilS, 0, s⟩ :=
 QParts.rep ⟨rfl, rfl, zeroP_rep h, hc, pairs_nil h, ints_nil h, sorts_nil h, rfl, hq⟩
theorem predW_zero : PredW zeroP := ⟨valW_zero, valW_zero, trivial⟩
theorem qw_one {op : Int} {on : List (Int × Int)} (hw : PredW w) (hq : QW q) : QW (.mk op ta w co on gr od li [q]) := qw_iff.2 ⟨hw, fun a ha => by simp at ha; subst ha; exact hq⟩
theorem qw_scan (t : Int) : QW (.mk 1 t zeroP [] [] [] [] 0 []) := qw_iff.2 ⟨predW_zero, fun a ha => by simp at ha⟩
theorem tmod_lt {a : Int} {n : Nat} (h0 : 0 ≤ a) (hn : 0 < n) : 0 ≤ a.tmod (n : Int) ∧ a.tmod (n : Int) < (n : Int) := by
 rw [Int.tmod_eq_emod_of_nonneg h0]
 exact ⟨Int.emod_nonneg _ (by omega), Int.emod_lt_of_pos _ (by omega)⟩
theorem f39_ok {p k : Sl} {ks : List Int} (hc : CaseOk m h cb) (hs : RepS h s sc) (h8 : small8 s) (hts : s.tables.length ≤ 1000) (hp : Ints h p ps) (hpl : ps.length ≤ 1000) (hk : Ints h k ks) (hkl : ks.length ≤ 1000) (hq : RepQ h q v) (hqw : QW q)
 (hK : KQ K m h cb) : f39_nice cb sc p k v m h K := by
 have htl := hs.tables.slen
 have hkn := hk.slen
 have hw : IntKind.i64.wrap ((sc.tables.len : Int) + 1) = (sc.tables.len : Int) + 1 := wrap_id (by omega) (by omega)
 unfold f39_nice
 rw [hw]
 refine ⟨cb, _, rfl, hc, fun f m1 f0 f1 o1 c1 => ?_⟩
 refine ⟨fun ⟨f, n, mx, hx⟩ => 0 ≤ f ∧ f ≤ sc.tables.len ∧ n ≤ sc.tables.len ∧ PH.le h hx ∧ MOther m mx cb ∧ CaseOk mx hx cb, fun ⟨_, n, _, _⟩ => sc.tables.len - n, ⟨(f, 0, m1, h), ⟨f0, by show f ≤ (sc.tables.len : Int); omega, by omega, .refl _, o1, c1⟩, MT⟩, ?_⟩
 clear f0 f1 o1 c1 m1 hw
 rintro ⟨f, n, m1, hx⟩ ⟨f0, f1, hn, hle, o1, c1⟩
 dsimp only
 have pred : ∀ (kk : Sl) (kl : List Int) (mx : MH) (hx : PH) (Q : PV → Pred → MH → PH → Prop), Ints hx kk kl → kl.length ≤ 1000 → PH.le h hx → CaseOk mx hx cb → (∀ v p m' h', PH.le hx h' → RepP h' p v → PredW p → MOther mx m' cb → CaseOk m' h' cb → Q v p m' h') →
  ∃ (cb_2 : Nat) (s t : Sl) (cols params : List Int) (deep : Nat), [CV.val (.pointer (some ⟨cb, 0, none⟩)), CV.val (.slice kk.a kk.len kk.cap), CV.val (.slice p.a p.len p.cap), CV.val (.int .i64 1)] = [CV.val (.pointer (some ⟨cb_2, 0, none⟩)), CV.val (.slice s.a s.len s.cap), CV.val (.slice t.a t.len t.cap), CV.val (.int .i64 deep)] ∧ CaseOk mx hx cb_2 ∧ Ints hx s cols ∧ Ints hx t params ∧ cols.length ≤ 1000 ∧ params.length ≤ 1000 ∧ deep ≤ 1000 ∧
   ∀ (v : PV) (p : Pred) (m' : MH) (h' : PH), PH.le hx h' → RepP h' p v → PredW p → MOther mx m' cb_2 → CaseOk m' h' cb_2 → Q v p m' h' := fun kk kl mx hx Q h1 h2 h3 h4 h5 =>
  ⟨cb, kk, p, kl, ps, 1, rfl, h4, h1, hp.mono h3, h2, hpl, by omega, fun v p m' h' q1 q2 qp q3 q4 => h5 v p m' h' q1 q2 qp q3 q4⟩
 refine branch_dec (fun hlt => ?_) (fun hge => ?_)
 rotate_left
 · have fin : ∀ (w : PV) (p : Pred) (m' : MH) (h' : PH), PH.le hx h' → RepP h' p w → PredW p → MOther m1 m' cb → CaseOk m' h' cb → ∀ (s : Sl) (h'_1 : PH), PH.le h' h'_1 → RowIn h'_1 s 21 [QV.enc v] → K (aQ ⟨2, 0, w, nilS, nilS, nilS, nilS, 0, s⟩) m' h'_1 := fun w p m' h' q1 q2 qp q3 q4 s h2 q5 q6 =>
    hK _ _ m' h2 ((hle.trans q1).trans q5) (filter_rep (q2.mono q5) (repQl_one q6 (hq.mono ((hle.trans q1).trans q5)))) (qw_one qp hqw) (o1.trans q3) (q4.mono q5)
   exact ⟨pred k ks m1 hx _ (hk.mono hle) hkl hle c1 fin, pred k ks m1 hx _ (hk.mono hle) hkl hle c1 fin⟩
 have hw2 : IntKind.i64.wrap (f + (n : Int)) = f + (n : Int) := wrap_id (by omega) (by omega)
 rw [hw2]
 refine ⟨by omega, sc, s, _, rfl, hs.mono hle, h8, fun hv h2 le2 hhv => ?_⟩
 have hvn := hhv.slen
 have hv8 : (kindsT s ((f + (n : Int)).tmod (sc.tables.len : Int))).length ≤ 8 := by
  unfold kindsT
  split
  · simp
  · split
    · simp
    · rename_i t ht
      simpa using h8 t (List.mem_of_getElem? ht)
 generalize kindsT s ((f + (n : Int)).tmod (sc.tables.len : Int)) = kt at hhv hvn hv8
 refine ⟨fun ⟨f', n', t, have_, cols, i, mx, hx⟩ => f' = f ∧ n' = n ∧ have_ = hv ∧ i ≤ ks.length ∧ cols.length ≤ i ∧ PH.le h2 hx ∧ MOther m mx cb ∧ CaseOk mx hx cb, fun ⟨_, _, _, _, _, i, _, _⟩ => ks.length - i, ⟨(f, n, (f + (n : Int)).tmod (sc.tables.len : Int), hv, [], 0, m1, h2), ⟨rfl, rfl, rfl, by omega, by simp, .refl _, o1, c1.mono le2⟩, MT⟩, ?_⟩
 rintro ⟨f', n', t, hv, cols, i, m2, h3⟩ ⟨rfl, rfl, rfl, hi, hcl, le3, o2, c2⟩
 dsimp only
 have hle3 : PH.le h h3 := (hle.trans le2).trans le3
 refine branch_dec (fun hlt2 => ?_) (fun hge2 => ?_)
 · obtain ⟨x, hx⟩ := getx hkn hlt2
   obtain ⟨b1, of1, e1, r1⟩ := (hk.mono hle3).at hx
   refine ⟨b1, of1, e1, by omega, hlt2, x, .imm (by simpa using r1), cb, _, rfl, c2, fun fr m3 fr0 fr1 o3 c3 => ?_⟩
   refine ⟨fun ⟨f2, n2, t2, have_, cols2, i2, kind, fr', j, mx, hy⟩ => f2 = f' ∧ n2 = n' ∧ have_ = hv ∧ cols2 = cols ∧ i2 = i ∧ mx = m3 ∧ hy = h3 ∧ j ≤ hv.len ∧ fr' = fr, fun ⟨_, _, _, _, _, _, _, _, j, _, _⟩ => hv.len - j, ⟨(f', n', t, hv, cols, i, x, fr, 0, m3, h3), ⟨rfl, rfl, rfl, rfl, rfl, rfl, rfl, by omega, rfl⟩, MT⟩, ?_⟩
   rintro ⟨f2, n2, t2, hv, cols, i, kind, fr', j, m3, h3⟩ ⟨rfl, rfl, rfl, rfl, rfl, rfl, rfl, hj, rfl⟩
   dsimp only
   refine branch_dec (fun hlt3 => ?_) (fun hge3 => ⟨(f2, n2, t2, _, _, _, _, _), ⟨rfl, rfl, rfl, by show i + 1 ≤ ks.length; omega, by show cols.length ≤ i + 1; omega, le3, o2.trans o3, c3⟩, by show ks.length - (i + 1) < ks.length - i; omega, MT⟩)
   have hw3 : IntKind.i64.wrap (fr' + (j : Int)) = fr' + (j : Int) := wrap_id (by omega) (by omega)
   rw [hw3]
   have hm := tmod_lt (a := fr' + (j : Int)) (n := Sl.len _) (by omega) (show 0 < hv.len by omega)
   obtain ⟨b2, of2, e2, r2⟩ := (hhv.mono le3).inb (n := (fr' + (j : Int)).tmod (hv.len : Int)) hm.1 (by rw [← hvn]; exact hm.2)
   refine ⟨by omega, b2, of2, e2, hm.1, hm.2, _, .imm (by simpa using r2), branch_intro (fun _ => ⟨by simp; omega, by simp; omega, (f2, n2, t2, _, cols ++ [(fr' + (j : Int)).tmod (hv.len : Int)], i + 1, _, _), ⟨rfl, rfl, rfl, by show i + 1 ≤ ks.length; omega, by simp; omega, le3, o2.trans o3, c3⟩, by show ks.length - (i + 1) < ks.length - i; omega, ?_⟩) (fun _ => ⟨(f2, n2, t2, hv, cols, i, kind, fr', j + 1, m3, h3), ⟨rfl, rfl, rfl, rfl, rfl, rfl, rfl, by show j + 1 ≤ hv.len; omega, rfl⟩, by show hv.len - (j + 1) < hv.len - j; omega, MT⟩)⟩
   rw [List.map_append]; exact MT
 · have hn1 : n' + 1 ≤ sc.tables.len := by omega
   refine branch_intro (fun _ => ⟨(f', n' + 1, m2, h3), ⟨f0, f1, hn1, hle3, o2, c2⟩, by show sc.tables.len - (n' + 1) < sc.tables.len - n'; omega, MT⟩) (fun _ => branch_dec (fun _ => ⟨(f', n' + 1, m2, h3), ⟨f0, f1, hn1, hle3, o2, c2⟩, by show sc.tables.len - (n' + 1) < sc.tables.len - n'; omega, MT⟩) (fun _ => ⟨t, rfl, cb, 2, rfl, by omega, by omega, c2, fun r m4 o4 c4 => branch_intro (fun _ => ?_) (fun _ s1 h5 le5 r5 s2 h6 le6 r6 => ?_)⟩))
   · have fin : ∀ (w : PV) (p : Pred) (m' : MH) (h' : PH), PH.le h3 h' → RepP h' p w → PredW p → MOther m4 m' cb → CaseOk m' h' cb → ∀ (s : Sl) (h'_1 : PH), PH.le h' h'_1 → RowIn h'_1 s 21 [QV.enc ⟨1, t, zeroPV, nilS, nilS, nilS, nilS, 0, nilS⟩] → ∀ (s_1 : Sl) (h'_2 : PH), PH.le h'_1 h'_2 → RowIn h'_2 s_1 1 (cols.map eI) → ∀ (s_2 : Sl) (h'_3 : PH), PH.le h'_2 h'_3 → RowIn h'_3 s_2 21 [QV.enc ⟨2, 0, w, nilS, nilS, nilS, nilS, 0, s⟩] → K (aQ ⟨3, 0, zeroPV, s_1, nilS, nilS, nilS, 0, s_2⟩) m' h'_3 := fun w p m' h' q1 q2 qp q3 q4 s h5 q5 q6 s1 h6 q7 q8 s2 h7 q9 q10 =>
      hK _ _ m' h7 ((((hle3.trans q1).trans q5).trans q7).trans q9) (project_rep (cols := cols) ⟨q8.mono q9, by omega⟩ (repQl_one q10 (filter_rep (q2.mono ((q5.trans q7).trans q9)) (repQl_one (q6.mono (q7.trans q9)) (scan_rep _ t))))) (qw_one predW_zero (qw_one qp (qw_scan t))) ((o2.trans o4).trans q3) (q4.mono ((q5.trans q7).trans q9))
     exact ⟨pred hv kt m4 h3 _ (hhv.mono le3) (by omega) hle3 c4 fin, pred hv kt m4 h3 _ (hhv.mono le3) (by omega) hle3 c4 fin⟩
   · exact hK _ _ m4 h6 ((hle3.trans le5).trans le6) (project_rep (cols := cols) ⟨r5.mono le6, by omega⟩ (repQl_one (v := ⟨1, t, zeroPV, nilS, nilS, nilS, nilS, 0, nilS⟩) r6 (scan_rep _ t))) (qw_one predW_zero (qw_scan t)) (o2.trans o4) (c4.mono (le5.trans le6))
theorem f39_sound : Sound Tryz.prog 39 ShapedW := by
 refine fn_sound (fn := Tryz.f39) (c := bodyOf Tryz.f39) Tryz.func39 rfl (by decide) ?_
 rintro cvs m h K ⟨cb, sc, p, k, v, s, ps, ks, q, rfl, hc, hs, h8, hts, hp, hpl, hk, hkl, hq, hqw, hK⟩
 refine ⟨f39_ctx cb sc p k v, rfl, specs_cons intW (specs_cons f52_sound (specs_cons f37_sound (specs_cons f10_sound (specs_cons f27_sound specs_nil)))), ?_⟩
 rw [← f39_vc cb sc p k v m h K]
 exact f39_ok hc hs h8 hts hp hpl hk hkl hq hqw hK
def KQ2 (K : CV → MH → PH → Prop) (m : MH) (h : PH) (cb : Nat) (s : Sch) (ps : List Int) : Prop := ∀ w q m' h', PH.le h h' → RepQ h' q w → QW q → (queryR s ps q).2 = 0 → MOther m m' cb → CaseOk m' h' cb → K (aQ w) m' h'
def QueryW (N : Nat) : Vc.Spec := fun cvs m h K => ∃ cb sc p s ps deep, cvs = [cP cb, aS sc, cS p, cI deep] ∧ CaseOk m h cb ∧ RepS h s sc ∧ schErr s = 0 ∧ s.tables ≠ [] ∧ Ints h p ps ∧ ps.length ≤ 1000 ∧ ps.all colKind = true ∧ -1 ≤ deep ∧ deep ≤ 1000 ∧ (deep + 1).toNat < N ∧ KQ2 K m h cb s ps
def f18_ctx (N : Nat) (cb : Nat) (sc : SchV) (p : Sl) : Ctx :=
 ctx4 [(12, IntW), (37, ScanS), (26, QueryCheckS), (38, PairsW), (39, ShapedW), (40, RankW), (27, PredicateW), (18, QueryW N)]
  [(11, { A := QV × QV × Sl × Int × MH × PH, st := fun ⟨a, q, k, n, m, h⟩ => mkSt 171 175 [(0, pv cb), (2, sv p), (5, .at (.ptr 5 0)), (8, .at (.ptr 8 0)), (10, .at (.ptr 10 0)), (11, sv k), (13, .at (.ptr 13 0)), (14, iv n)] [(5, .cells 28 (sc.enc.map .val)), (8, .cells 43 (zeroQV.enc.map .val)), (10, .cells 43 (a.enc.map .val)), (13, .cells 43 (q.enc.map .val))] m h })]
  [(7, { A := Int × Int × QV × QV × Sl × MH × PH, st := fun ⟨d, op, a, q, k, m, h⟩ => mkSt 171 175 [(0, pv cb), (2, sv p), (3, iv d), (5, .at (.ptr 5 0)), (8, .at (.ptr 8 0)), (9, iv op), (10, .at (.ptr 10 0)), (11, sv k), (13, .at (.ptr 13 0))] [(5, .cells 28 (sc.enc.map .val)), (8, .cells 43 (zeroQV.enc.map .val)), (10, .cells 43 (a.enc.map .val)), (13, .cells 43 (q.enc.map .val))] m h }),
   (16, { A := Int × Int × QV × QV × Sl × Bool × MH × PH, st := fun ⟨d, op, a, q, k, t, m, h⟩ => mkSt 171 175 [(0, pv cb), (2, sv p), (3, iv d), (5, .at (.ptr 5 0)), (8, .at (.ptr 8 0)), (9, iv op), (10, .at (.ptr 10 0)), (11, sv k), (13, .at (.ptr 13 0)), (59, iv op), (84, bv t)] [(5, .cells 28 (sc.enc.map .val)), (8, .cells 43 (zeroQV.enc.map .val)), (10, .cells 43 (a.enc.map .val)), (13, .cells 43 (q.enc.map .val))] m h }),
   (24, { A := Int × QV × QV × Sl × Bool × MH × PH, st := fun ⟨op, a, q, k, t, m, h⟩ => mkSt 171 175 [(0, pv cb), (2, sv p), (5, .at (.ptr 5 0)), (8, .at (.ptr 8 0)), (10, .at (.ptr 10 0)), (11, sv k), (13, .at (.ptr 13 0)), (59, iv op), (122, bv t)] [(5, .cells 28 (sc.enc.map .val)), (8, .cells 43 (zeroQV.enc.map .val)), (10, .cells 43 (a.enc.map .val)), (13, .cells 43 (q.enc.map .val))] m h }),
   (20, { A := QV × QV × QV × Sl × Sl × MH × PH, st := fun ⟨a, b, q, k, l, m, h⟩ => mkSt 171 175 [(0, pv cb), (2, sv p), (5, .at (.ptr 5 0)), (8, .at (.ptr 8 0)), (10, .at (.ptr 10 0)), (11, sv k), (13, .at (.ptr 13 0)), (15, .at (.ptr 15 0)), (16, sv l)] [(5, .cells 28 (sc.enc.map .val)), (8, .cells 43 (zeroQV.enc.map .val)), (10, .cells 43 (a.enc.map .val)), (13, .cells 43 (q.enc.map .val)), (15, .cells 43 (b.enc.map .val))] m h }),
   (30, { A := QV × QV × MH × PH, frz := true, st := fun ⟨a, q, m, h⟩ => mkSt 171 175 [(2, sv p), (5, .at (.ptr 5 0)), (8, .at (.ptr 8 0)), (10, .at (.ptr 10 0)), (13, .at (.ptr 13 0))] [(5, .cells 28 (sc.enc.map .val)), (8, .cells 43 (zeroQV.enc.map .val)), (10, .cells 43 (a.enc.map .val)), (13, .cells 43 (q.enc.map .val))] m h })] [] [23, 1023, 1039] [] false
def f18_nice (N : Nat) (cb : Nat) (sc : SchV) (p : Sl) (deep : Int) (m : MH) (h : PH) (K : CV → MH → PH → Prop) : Prop :=
 ∃ (cb_1 : Nat) (n : Int), [cQp cb 0, cQi 12] = [cQp cb_1 0, cQi n] /\ CaseOk m h cb_1 /\ ∀ (k : Int) (m' : MH), 0 <= k -> k < n ∨ k = 0 -> MOther m m' cb_1 -> CaseOk m' h cb_1 ->
 branch (decide (deep < 1)) (∃ (cb_2 : Nat) (n : Int), [cQp cb 0, cQi (if (↑sc.tables.len : Int) > 1 then (↑sc.tables.len : Int) else 1)] = [cQp cb_2 0, cQi n] /\ CaseOk m' h cb_2
 /\ ∀ (k : Int) (m'_1 : MH), 0 <= k -> k < n ∨ k = 0 -> MOther m' m'_1 cb_2 -> CaseOk m'_1 h cb_2 -> ∃ (t : Int), [cQi k] = [cQi t] /\ K (cQa [vQi 1, vQi t, vQi 0, vQi 0, vQi 0, vQi
 0, vQi 0, vQi 0, vQz, vQi 0, vQi 0, vQi 0, vQi 0, vQz, vQn, vQn, vQn, vQn, vQn, vQi 0, vQn]) m'_1 h) (branch (IntKind.i64.wrap (1 + k) == 1) (∃ (cb_2 : Nat) (n : Int), [cQp cb 0,
 cQi (if (↑sc.tables.len : Int) > 1 then (↑sc.tables.len : Int) else 1)] = [cQp cb_2 0, cQi n] /\ CaseOk m' h cb_2 /\ ∀ (k : Int) (m'_1 : MH), 0 <= k -> k < n ∨ k = 0 -> MOther m'
 m'_1 cb_2 -> CaseOk m'_1 h cb_2 -> ∃ (t : Int), [cQi k] = [cQi t] /\ K (cQa [vQi 1, vQi t, vQi 0, vQi 0, vQi 0, vQi 0, vQi 0, vQi 0, vQz, vQi 0, vQi 0, vQi 0, vQi 0, vQz, vQn, vQn,
 vQn, vQn, vQn, vQi 0, vQn]) m'_1 h) (branch ((↑sc.tables.len : Int) == 0) (∃ (cb_2 : Nat) (n : Int), [cQp cb 0, cQi (if (↑sc.tables.len : Int) > 1 then (↑sc.tables.len : Int) else
 1)] = [cQp cb_2 0, cQi n] /\ CaseOk m' h cb_2 /\ ∀ (k : Int) (m'_1 : MH), 0 <= k -> k < n ∨ k = 0 -> MOther m' m'_1 cb_2 -> CaseOk m'_1 h cb_2 -> ∃ (t : Int), [cQi k] = [cQi t] /\
 K (cQa [vQi 1, vQi t, vQi 0, vQi 0, vQi 0, vQi 0, vQi 0, vQi 0, vQz, vQi 0, vQi 0, vQi 0, vQi 0, vQz, vQn, vQn, vQn, vQn, vQn, vQi 0, vQn]) m'_1 h) (∃ (cb_2 : Nat) (sc_1 : SchV), ∃
 (p_1 : Sl) (s : Sch), ∃ (ps : List Int) (deep_1 : Int), [cQp cb 0, cQa [vQi sc.version, vQs sc.tables], cQs p, cQi (IntKind.i64.wrap (deep - 1))] = [cQp cb_2 0, cQa [vQi
 sc_1.version, vQs sc_1.tables], cQs p_1, cQi deep_1] /\ CaseOk m' h cb_2 /\ RepS h s sc_1 /\ schErr s = 0 /\ (s.tables = [] -> False) /\ Ints h p_1 ps /\ ps.length <= 1000 /\
 ps.all colKind = true /\ Int.negSucc 0 <= deep_1 /\ deep_1 <= 1000 /\ (deep_1 + 1).toNat < N /\ ∀ (w : QV) (q : Query) (m'_1 : MH) (h' : PH), h.le h' -> RepQ h' q w -> QW q ->
 (queryR s ps q).2 = 0 -> MOther m' m'_1 cb_2 -> CaseOk m'_1 h' cb_2 -> ∃ (sc_2 : SchV) (p_2 : Sl), ∃ (v : QV) (s : Sch), ∃ (ps : List Int) (q : Query), [cQa [vQi sc.version, vQs
 sc.tables], cQs p, cQa (QV.enc w)] = [cQa [vQi sc_2.version, vQs sc_2.tables], cQs p_2, cQa (QV.enc v)] /\ RepS h' s sc_2 /\ Ints h' p_2 ps /\ RepQ h' q v /\ ∀ (sl : Sl) (h'_1 :
 PH), h'.le h'_1 -> Ints h'_1 sl (queryR s ps q).1 -> ∃ (I : Int × Int × QV × QV × Sl × MH × PH -> Prop), (∀ (s : Sl) (m' : MH), MNew m'_1 m' h'_1 s 43 21 [(QV.enc w)] -> ∃ (x : Int
 × Int × QV × QV × Sl × MH × PH), I x /\ eQ (sQo cb 0) /\ eQ (sQs p) /\ sQi deep = sQi x.1 /\ eP 5 /\ eP 8 /\ sQi (IntKind.i64.wrap (1 + k)) = sQi x.2.1 /\ eP 10 /\ sQs sl = sQs
 x.2.2.2.2.1 /\ eP 13 /\ eQ (oQ 28 [aQi sc.version, aQs sc.tables]) /\ eQ (oQ 43 zQ) /\ oQ 43 (List.map At.val (QV.enc w)) = oQ 43 (List.map At.val (QV.enc x.2.2.1)) /\ oQ 43 [aQi
 (IntKind.i64.wrap (1 + k)), aQi 0, aQi 0, aQi 0, aQi 0, aQi 0, aQi 0, aQi 0, aQz, aQi 0, aQi 0, aQi 0, aQi 0, aQz, aQn, aQn, aQn, aQn, aQn, aQi 0, aQs s] = oQ 43 (List.map At.val
 (QV.enc x.2.2.2.1)) /\ m' = x.2.2.2.2.2.1 /\ h'_1 = x.2.2.2.2.2.2 /\ True) /\ ∀ (x : Int × Int × QV × QV × Sl × MH × PH), I x -> ∃ (I : QV × QV × MH × PH -> Prop), branch (x.2.1 ==
 3) (∃ (cb_3 : Nat) (n : Int), [cQp cb 0, cQi 3] = [cQp cb_3 0, cQi n] /\ CaseOk x.2.2.2.2.2.1 x.2.2.2.2.2.2 cb_3 /\ ∀ (k : Int) (m' : MH), 0 <= k -> k < n ∨ k = 0 -> MOther
 x.2.2.2.2.2.1 m' cb_3 -> CaseOk m' x.2.2.2.2.2.2 cb_3 -> ∃ (I_1 : QV × QV × Sl × Int × MH × PH -> Prop) (mu : QV × QV × Sl × Int × MH × PH -> Nat), (∃ (x_1 : QV × QV × Sl × Int ×
 MH × PH), I_1 x_1 /\ eQ (sQo cb 0) /\ eQ (sQs p) /\ eP 5 /\ eP 8 /\ eP 10 /\ sQs x.2.2.2.2.1 = sQs x_1.2.2.1 /\ eP 13 /\ sQi k = sQi x_1.2.2.2.1 /\ eQ (oQ 28 [aQi sc.version, aQs
 sc.tables]) /\ eQ (oQ 43 zQ) /\ oQ 43 (List.map At.val (QV.enc x.2.2.1)) = oQ 43 (List.map At.val (QV.enc x_1.1)) /\ oQ 43 (List.map At.val (QV.enc x.2.2.2.1)) = oQ 43 (List.map
 At.val (QV.enc x_1.2.1)) /\ m' = x_1.2.2.2.2.1 /\ x.2.2.2.2.2.2 = x_1.2.2.2.2.2 /\ True) /\ ∀ (x : QV × QV × Sl × Int × MH × PH), I_1 x -> branch (decide (x.2.2.2.1 ≥ 0)) (∃ (cb_4
 : Nat) (n : Int), [cQp cb 0, cQi ↑x.2.2.1.len] = [cQp cb_4 0, cQi n] /\ CaseOk x.2.2.2.2.1 x.2.2.2.2.2 cb_4 /\ ∀ (k : Int) (m' : MH), 0 <= k -> k < n ∨ k = 0 -> MOther x.2.2.2.2.1
 m' cb_4 -> CaseOk m' x.2.2.2.2.2 cb_4 -> ∃ (xs : List (List Value)), MRow m' (Sl.mk x.2.1.columns.a x.2.1.columns.len x.2.1.columns.cap) 3 1 xs /\ (xs.length + 1) * 8 <=
 140737488355328 /\ xs.length < 140737488355328 /\ ∀ (s' : Sl) (m'_2 : MH), MGrown m' m'_2 (Sl.mk x.2.1.columns.a x.2.1.columns.len x.2.1.columns.cap) s' 3 1 (xs ++ [[vQi k]]) -> ∃
 (x_1 : QV × QV × Sl × Int × MH × PH), I_1 x_1 /\ mu x_1 < mu x /\ eQ (sQo cb 0) /\ eQ (sQs p) /\ eP 5 /\ eP 8 /\ eP 10 /\ sQs x.2.2.1 = sQs x_1.2.2.1 /\ eP 13 /\ sQi
 (IntKind.i64.wrap (x.2.2.2.1 - 1)) = sQi x_1.2.2.2.1 /\ eQ (oQ 28 [aQi sc.version, aQs sc.tables]) /\ eQ (oQ 43 zQ) /\ oQ 43 (List.map At.val (QV.enc x.1)) = oQ 43 (List.map At.val
 (QV.enc x_1.1)) /\ oQ 43 (aQi x.2.1.op :: aQi x.2.1.table :: pQ x.2.1.where_ [aQs s', aQs x.2.1.on, aQs x.2.1.group, aQs x.2.1.order, aQi x.2.1.limit, aQs x.2.1.args]) = oQ 43
 (List.map At.val (QV.enc x_1.2.1)) /\ m'_2 = x_1.2.2.2.2.1 /\ x.2.2.2.2.2 = x_1.2.2.2.2.2 /\ True) (Disj x.2.2.2.2.1 x.2.2.2.2.2 -> ∃ (x_1 : QV × QV × MH × PH), I x_1 /\ eQ (sQs p)
 /\ eP 5 /\ eP 8 /\ eP 10 /\ eP 13 /\ eQ (oQ 28 [aQi sc.version, aQs sc.tables]) /\ eQ (oQ 43 zQ) /\ oQ 43 (List.map At.val (QV.enc x.1)) = oQ 43 (List.map At.val (QV.enc x_1.1)) /\
 oQ 43 (List.map At.val (QV.enc x.2.1)) = oQ 43 (List.map At.val (QV.enc x_1.2.1)) /\ Froze x.2.2.2.2.1 x.2.2.2.2.2 x_1.2.2.1 x_1.2.2.2 /\ True)) (∃ (I_1 : Int × Int × QV × QV × Sl
 × Bool × MH × PH -> Prop), branch (x.2.1 == 4) (∃ (x_1 : Int × Int × QV × QV × Sl × Bool × MH × PH), I_1 x_1 /\ eQ (sQo cb 0) /\ eQ (sQs p) /\ sQi x.1 = sQi x_1.1 /\ eP 5 /\ eP 8
 /\ sQi x.2.1 = sQi x_1.2.1 /\ eP 10 /\ sQs x.2.2.2.2.1 = sQs x_1.2.2.2.2.1 /\ eP 13 /\ sQi x.2.1 = sQi x_1.2.1 /\ sQb true = sQb x_1.2.2.2.2.2.1 /\ eQ (oQ 28 [aQi sc.version, aQs
 sc.tables]) /\ eQ (oQ 43 zQ) /\ oQ 43 (List.map At.val (QV.enc x.2.2.1)) = oQ 43 (List.map At.val (QV.enc x_1.2.2.1)) /\ oQ 43 (List.map At.val (QV.enc x.2.2.2.1)) = oQ 43
 (List.map At.val (QV.enc x_1.2.2.2.1)) /\ x.2.2.2.2.2.1 = x_1.2.2.2.2.2.2.1 /\ x.2.2.2.2.2.2 = x_1.2.2.2.2.2.2.2 /\ True) (∃ (x_1 : Int × Int × QV × QV × Sl × Bool × MH × PH), I_1
 x_1 /\ eQ (sQo cb 0) /\ eQ (sQs p) /\ sQi x.1 = sQi x_1.1 /\ eP 5 /\ eP 8 /\ sQi x.2.1 = sQi x_1.2.1 /\ eP 10 /\ sQs x.2.2.2.2.1 = sQs x_1.2.2.2.2.1 /\ eP 13 /\ sQi x.2.1 = sQi
 x_1.2.1 /\ sQb (x.2.1 == 5) = sQb x_1.2.2.2.2.2.1 /\ eQ (oQ 28 [aQi sc.version, aQs sc.tables]) /\ eQ (oQ 43 zQ) /\ oQ 43 (List.map At.val (QV.enc x.2.2.1)) = oQ 43 (List.map
 At.val (QV.enc x_1.2.2.1)) /\ oQ 43 (List.map At.val (QV.enc x.2.2.2.1)) = oQ 43 (List.map At.val (QV.enc x_1.2.2.2.1)) /\ x.2.2.2.2.2.1 = x_1.2.2.2.2.2.2.1 /\ x.2.2.2.2.2.2 =
 x_1.2.2.2.2.2.2.2 /\ True) /\ ∀ (x : Int × Int × QV × QV × Sl × Bool × MH × PH), I_1 x -> branch x.2.2.2.2.2.1 (∃ (cb_3 : Nat) (sc_3 : SchV), ∃ (p_3 : Sl) (s : Sch), ∃ (ps : List
 Int) (deep : Int), [cQp cb 0, cQa [vQi sc.version, vQs sc.tables], cQs p, cQi (IntKind.i64.wrap (x.1 - 2))] = [cQp cb_3 0, cQa [vQi sc_3.version, vQs sc_3.tables], cQs p_3, cQi
 deep] /\ CaseOk x.2.2.2.2.2.2.1 x.2.2.2.2.2.2.2 cb_3 /\ RepS x.2.2.2.2.2.2.2 s sc_3 /\ schErr s = 0 /\ (s.tables = [] -> False) /\ Ints x.2.2.2.2.2.2.2 p_3 ps /\ ps.length <= 1000
 /\ ps.all colKind = true /\ Int.negSucc 0 <= deep /\ deep <= 1000 /\ (deep + 1).toNat < N /\ ∀ (w : QV) (q : Query) (m' : MH) (h' : PH), x.2.2.2.2.2.2.2.le h' -> RepQ h' q w -> QW
 q -> (queryR s ps q).2 = 0 -> MOther x.2.2.2.2.2.2.1 m' cb_3 -> CaseOk m' h' cb_3 -> ∃ (sc_4 : SchV) (p_4 : Sl), ∃ (v : QV) (s : Sch), ∃ (ps : List Int) (q : Query), [cQa [vQi
 sc.version, vQs sc.tables], cQs p, cQa (QV.enc w)] = [cQa [vQi sc_4.version, vQs sc_4.tables], cQs p_4, cQa (QV.enc v)] /\ RepS h' s sc_4 /\ Ints h' p_4 ps /\ RepQ h' q v /\ ∀ (sl
 : Sl) (h'_2 : PH), h'.le h'_2 -> Ints h'_2 sl (queryR s ps q).1 -> ∃ (I_2 : QV × QV × QV × Sl × Sl × MH × PH -> Prop), branch (x.2.1 == 4) (branch (decide (IntKind.i64.wrap
 ((↑x.2.2.2.2.1.len : Int) + (↑sl.len : Int)) > 8)) (∃ (x_1 : QV × QV × QV × Sl × Sl × MH × PH), I_2 x_1 /\ eQ (sQo cb 0) /\ eQ (sQs p) /\ eP 5 /\ eP 8 /\ eP 10 /\ sQs x.2.2.2.2.1 =
 sQs x_1.2.2.2.1 /\ eP 13 /\ eP 15 /\ sQs sl = sQs x_1.2.2.2.2.1 /\ eQ (oQ 28 [aQi sc.version, aQs sc.tables]) /\ eQ (oQ 43 zQ) /\ oQ 43 (List.map At.val (QV.enc x.2.2.1)) = oQ 43
 (List.map At.val (QV.enc x_1.1)) /\ oQ 43 (aQi 5 :: aQi x.2.2.2.1.table :: pQ x.2.2.2.1.where_ [aQs x.2.2.2.1.columns, aQs x.2.2.2.1.on, aQs x.2.2.2.1.group, aQs x.2.2.2.1.order,
 aQi x.2.2.2.1.limit, aQs x.2.2.2.1.args]) = oQ 43 (List.map At.val (QV.enc x_1.2.2.1)) /\ oQ 43 (List.map At.val (QV.enc w)) = oQ 43 (List.map At.val (QV.enc x_1.2.1)) /\ m' =
 x_1.2.2.2.2.2.1 /\ h'_2 = x_1.2.2.2.2.2.2 /\ True) (∃ (x_1 : QV × QV × QV × Sl × Sl × MH × PH), I_2 x_1 /\ eQ (sQo cb 0) /\ eQ (sQs p) /\ eP 5 /\ eP 8 /\ eP 10 /\ sQs x.2.2.2.2.1 =
 sQs x_1.2.2.2.1 /\ eP 13 /\ eP 15 /\ sQs sl = sQs x_1.2.2.2.2.1 /\ eQ (oQ 28 [aQi sc.version, aQs sc.tables]) /\ eQ (oQ 43 zQ) /\ oQ 43 (List.map At.val (QV.enc x.2.2.1)) = oQ 43
 (List.map At.val (QV.enc x_1.1)) /\ oQ 43 (List.map At.val (QV.enc x.2.2.2.1)) = oQ 43 (List.map At.val (QV.enc x_1.2.2.1)) /\ oQ 43 (List.map At.val (QV.enc w)) = oQ 43 (List.map
 At.val (QV.enc x_1.2.1)) /\ m' = x_1.2.2.2.2.2.1 /\ h'_2 = x_1.2.2.2.2.2.2 /\ True)) (∃ (x_1 : QV × QV × QV × Sl × Sl × MH × PH), I_2 x_1 /\ eQ (sQo cb 0) /\ eQ (sQs p) /\ eP 5 /\
 eP 8 /\ eP 10 /\ sQs x.2.2.2.2.1 = sQs x_1.2.2.2.1 /\ eP 13 /\ eP 15 /\ sQs sl = sQs x_1.2.2.2.2.1 /\ eQ (oQ 28 [aQi sc.version, aQs sc.tables]) /\ eQ (oQ 43 zQ) /\ oQ 43 (List.map
 At.val (QV.enc x.2.2.1)) = oQ 43 (List.map At.val (QV.enc x_1.1)) /\ oQ 43 (List.map At.val (QV.enc x.2.2.2.1)) = oQ 43 (List.map At.val (QV.enc x_1.2.2.1)) /\ oQ 43 (List.map
 At.val (QV.enc w)) = oQ 43 (List.map At.val (QV.enc x_1.2.1)) /\ m' = x_1.2.2.2.2.2.1 /\ h'_2 = x_1.2.2.2.2.2.2 /\ True) /\ ∀ (x : QV × QV × QV × Sl × Sl × MH × PH), I_2 x -> (∃
 (cb_4 : Nat), ∃ (s t : Sl), ∃ (a b : List Int), [cQp cb 0, cQs x.2.2.2.1, cQs x.2.2.2.2.1] = [cQp cb_4 0, cQs s, cQs t] /\ CaseOk x.2.2.2.2.2.1 x.2.2.2.2.2.2 cb_4 /\ Ints
 x.2.2.2.2.2.2 s a /\ Ints x.2.2.2.2.2.2 t b /\ a.length <= 1000 /\ b.length <= 1000 /\ ∀ (o : Sl) (on : List (Int × Int)) (m' : MH) (h' : PH), x.2.2.2.2.2.2.le h' -> Pairs h' o on
 -> on.length <= 10 -> MOther x.2.2.2.2.2.1 m' cb_4 -> CaseOk m' h' cb_4 -> ∀ (s : Sl) (m'_2 : MH), MNew m' m'_2 h' s 43 21 [(QV.enc x.2.1)] -> ∃ (xs : List (List Value)), MRow m'_2
 (Sl.mk x.2.2.1.args.a x.2.2.1.args.len x.2.2.1.args.cap) 43 21 xs /\ ∃ (ys : List (List Value)), RowsOk 21 ys /\ SrcIn m'_2 h' (Sl.mk s.a s.len s.cap) 21 ys /\ (xs.length +
 ys.length) * 280 <= 140737488355328 /\ xs.length + ys.length <= 140737488355328 /\ ∀ (s' : Sl) (m' : MH), MGrown m'_2 m' (Sl.mk x.2.2.1.args.a x.2.2.1.args.len x.2.2.1.args.cap) s'
 43 21 (xs ++ ys) -> Disj m' h' -> ∃ (x_1 : QV × QV × MH × PH), I x_1 /\ eQ (sQs p) /\ eP 5 /\ eP 8 /\ eP 10 /\ eP 13 /\ eQ (oQ 28 [aQi sc.version, aQs sc.tables]) /\ eQ (oQ 43 zQ)
 /\ oQ 43 (List.map At.val (QV.enc x.1)) = oQ 43 (List.map At.val (QV.enc x_1.1)) /\ oQ 43 (aQi x.2.2.1.op :: aQi x.2.2.1.table :: pQ x.2.2.1.where_ [aQs x.2.2.1.columns, aQs o, aQs
 x.2.2.1.group, aQs x.2.2.1.order, aQi x.2.2.1.limit, aQs s']) = oQ 43 (List.map At.val (QV.enc x_1.2.1)) /\ Froze m' h' x_1.2.2.1 x_1.2.2.2 /\ True) /\ ∀ (s : Sl) (m' : MH), MNew
 x.2.2.2.2.2.1 m' x.2.2.2.2.2.2 s 43 21 [(QV.enc x.2.1)] -> ∃ (cb_4 : Nat), ∃ (s_1 t : Sl), ∃ (a b : List Int), [cQp cb 0, cQs x.2.2.2.1, cQs x.2.2.2.2.1] = [cQp cb_4 0, cQs s_1,
 cQs t] /\ CaseOk m' x.2.2.2.2.2.2 cb_4 /\ Ints x.2.2.2.2.2.2 s_1 a /\ Ints x.2.2.2.2.2.2 t b /\ a.length <= 1000 /\ b.length <= 1000 /\ ∀ (o : Sl) (on : List (Int × Int)) (m'_2 :
 MH) (h' : PH), x.2.2.2.2.2.2.le h' -> Pairs h' o on -> on.length <= 10 -> MOther m' m'_2 cb_4 -> CaseOk m'_2 h' cb_4 -> ∃ (xs : List (List Value)), MRow m'_2 (Sl.mk x.2.2.1.args.a
 x.2.2.1.args.len x.2.2.1.args.cap) 43 21 xs /\ ∃ (ys : List (List Value)), RowsOk 21 ys /\ SrcIn m'_2 h' (Sl.mk s.a s.len s.cap) 21 ys /\ (xs.length + ys.length) * 280 <=
 140737488355328 /\ xs.length + ys.length <= 140737488355328 /\ ∀ (s' : Sl) (m' : MH), MGrown m'_2 m' (Sl.mk x.2.2.1.args.a x.2.2.1.args.len x.2.2.1.args.cap) s' 43 21 (xs ++ ys) ->
 Disj m' h' -> ∃ (x_1 : QV × QV × MH × PH), I x_1 /\ eQ (sQs p) /\ eP 5 /\ eP 8 /\ eP 10 /\ eP 13 /\ eQ (oQ 28 [aQi sc.version, aQs sc.tables]) /\ eQ (oQ 43 zQ) /\ oQ 43 (List.map
 At.val (QV.enc x.1)) = oQ 43 (List.map At.val (QV.enc x_1.1)) /\ oQ 43 (aQi x.2.2.1.op :: aQi x.2.2.1.table :: pQ x.2.2.1.where_ [aQs x.2.2.1.columns, aQs o, aQs x.2.2.1.group, aQs
 x.2.2.1.order, aQi x.2.2.1.limit, aQs s']) = oQ 43 (List.map At.val (QV.enc x_1.2.1)) /\ Froze m' h' x_1.2.2.1 x_1.2.2.2 /\ True) (∃ (I_2 : Int × QV × QV × Sl × Bool × MH × PH ->
 Prop), branch (x.2.1 == 6) (∃ (x_1 : Int × QV × QV × Sl × Bool × MH × PH), I_2 x_1 /\ eQ (sQo cb 0) /\ eQ (sQs p) /\ eP 5 /\ eP 8 /\ eP 10 /\ sQs x.2.2.2.2.1 = sQs x_1.2.2.2.1 /\
 eP 13 /\ sQi x.2.1 = sQi x_1.1 /\ sQb true = sQb x_1.2.2.2.2.1 /\ eQ (oQ 28 [aQi sc.version, aQs sc.tables]) /\ eQ (oQ 43 zQ) /\ oQ 43 (List.map At.val (QV.enc x.2.2.1)) = oQ 43
 (List.map At.val (QV.enc x_1.2.1)) /\ oQ 43 (List.map At.val (QV.enc x.2.2.2.1)) = oQ 43 (List.map At.val (QV.enc x_1.2.2.1)) /\ x.2.2.2.2.2.2.1 = x_1.2.2.2.2.2.1 /\
 x.2.2.2.2.2.2.2 = x_1.2.2.2.2.2.2 /\ True) (branch (x.2.1 == 7) (∃ (x_1 : Int × QV × QV × Sl × Bool × MH × PH), I_2 x_1 /\ eQ (sQo cb 0) /\ eQ (sQs p) /\ eP 5 /\ eP 8 /\ eP 10 /\
 sQs x.2.2.2.2.1 = sQs x_1.2.2.2.1 /\ eP 13 /\ sQi x.2.1 = sQi x_1.1 /\ sQb true = sQb x_1.2.2.2.2.1 /\ eQ (oQ 28 [aQi sc.version, aQs sc.tables]) /\ eQ (oQ 43 zQ) /\ oQ 43
 (List.map At.val (QV.enc x.2.2.1)) = oQ 43 (List.map At.val (QV.enc x_1.2.1)) /\ oQ 43 (List.map At.val (QV.enc x.2.2.2.1)) = oQ 43 (List.map At.val (QV.enc x_1.2.2.1)) /\
 x.2.2.2.2.2.2.1 = x_1.2.2.2.2.2.1 /\ x.2.2.2.2.2.2.2 = x_1.2.2.2.2.2.2 /\ True) (∃ (x_1 : Int × QV × QV × Sl × Bool × MH × PH), I_2 x_1 /\ eQ (sQo cb 0) /\ eQ (sQs p) /\ eP 5 /\ eP
 8 /\ eP 10 /\ sQs x.2.2.2.2.1 = sQs x_1.2.2.2.1 /\ eP 13 /\ sQi x.2.1 = sQi x_1.1 /\ sQb (x.2.1 == 8) = sQb x_1.2.2.2.2.1 /\ eQ (oQ 28 [aQi sc.version, aQs sc.tables]) /\ eQ (oQ 43
 zQ) /\ oQ 43 (List.map At.val (QV.enc x.2.2.1)) = oQ 43 (List.map At.val (QV.enc x_1.2.1)) /\ oQ 43 (List.map At.val (QV.enc x.2.2.2.1)) = oQ 43 (List.map At.val (QV.enc
 x_1.2.2.1)) /\ x.2.2.2.2.2.2.1 = x_1.2.2.2.2.2.1 /\ x.2.2.2.2.2.2.2 = x_1.2.2.2.2.2.2 /\ True)) /\ ∀ (x : Int × QV × QV × Sl × Bool × MH × PH), I_2 x -> branch x.2.2.2.2.1 (∃ (cb_3
 : Nat) (sc_3 : SchV), ∃ (p_3 k : Sl) (v : QV) (s : Sch), ∃ (ps ks : List Int) (q : Query), [cQp cb 0, cQa [vQi sc.version, vQs sc.tables], cQs p, cQs x.2.2.2.1, cQa (QV.enc x.2.1)]
 = [cQp cb_3 0, cQa [vQi sc_3.version, vQs sc_3.tables], cQs p_3, cQs k, cQa (QV.enc v)] /\ CaseOk x.2.2.2.2.2.1 x.2.2.2.2.2.2 cb_3 /\ RepS x.2.2.2.2.2.2 s sc_3 /\ small8 s /\
 s.tables.length <= 1000 /\ Ints x.2.2.2.2.2.2 p_3 ps /\ ps.length <= 1000 /\ Ints x.2.2.2.2.2.2 k ks /\ ks.length <= 1000 /\ RepQ x.2.2.2.2.2.2 q v /\ QW q /\ ∀ (w : QV) (q :
 Query) (m' : MH) (h' : PH), x.2.2.2.2.2.2.le h' -> RepQ h' q w -> QW q -> MOther x.2.2.2.2.2.1 m' cb_3 -> CaseOk m' h' cb_3 -> ∀ (s : Sl) (m'_2 : MH), MNew m' m'_2 h' s 43 21
 [(QV.enc w)] -> ∃ (xs : List (List Value)), MRow m'_2 (Sl.mk x.2.2.1.args.a x.2.2.1.args.len x.2.2.1.args.cap) 43 21 xs /\ ∃ (ys : List (List Value)), RowsOk 21 ys /\ SrcIn m'_2 h'
 (Sl.mk s.a s.len s.cap) 21 ys /\ (xs.length + ys.length) * 280 <= 140737488355328 /\ xs.length + ys.length <= 140737488355328 /\ ∀ (s' : Sl) (m' : MH), MGrown m'_2 m' (Sl.mk
 x.2.2.1.args.a x.2.2.1.args.len x.2.2.1.args.cap) s' 43 21 (xs ++ ys) -> Disj m' h' -> ∃ (x_1 : QV × QV × MH × PH), I x_1 /\ eQ (sQs p) /\ eP 5 /\ eP 8 /\ eP 10 /\ eP 13 /\ eQ (oQ
 28 [aQi sc.version, aQs sc.tables]) /\ eQ (oQ 43 zQ) /\ oQ 43 (List.map At.val (QV.enc x.2.1)) = oQ 43 (List.map At.val (QV.enc x_1.1)) /\ oQ 43 (qQ x.2.2.1 (aQs s')) = oQ 43
 (List.map At.val (QV.enc x_1.2.1)) /\ Froze m' h' x_1.2.2.1 x_1.2.2.2 /\ True) (branch (x.1 == 9) (∃ (cb_3 : Nat) (v : QV), ∃ (s : Sl) (kinds : List Int), [cQp cb 0, cQa (QV.enc
 x.2.2.1), cQs x.2.2.2.1] = [cQp cb_3 0, cQa [vQi v.op, vQi v.table, vQi v.where_.op, vQi v.where_.cmp, vQi v.where_.left.kind, vQi v.where_.left.index, vQi
 v.where_.left.value.kind, vQi v.where_.left.value.int, Value.string v.where_.left.value.text, vQi v.where_.right.kind, vQi v.where_.right.index, vQi v.where_.right.value.kind, vQi
 v.where_.right.value.int, Value.string v.where_.right.value.text, vQs v.where_.args, vQs v.columns, vQs v.on, vQn, vQn, vQi v.limit, vQs v.args], cQs s] /\ CaseOk x.2.2.2.2.2.1
 x.2.2.2.2.2.2 cb_3 /\ Ints x.2.2.2.2.2.2 s kinds /\ kinds.length <= 1000 /\ ∀ (g o : Sl) (k : Int) (gr : List Int) (od : List (Int × Bool)) (m' : MH) (h' : PH), x.2.2.2.2.2.2.le h'
 -> Ints h' g gr -> Sorts h' o od -> gr.length <= kinds.length -> od.length <= kinds.length -> 0 <= k -> k <= 3 -> MOther x.2.2.2.2.2.1 m' cb_3 -> CaseOk m' h' cb_3 -> Disj m' h' ->
 ∃ (x_1 : QV × QV × MH × PH), I x_1 /\ eQ (sQs p) /\ eP 5 /\ eP 8 /\ eP 10 /\ eP 13 /\ eQ (oQ 28 [aQi sc.version, aQs sc.tables]) /\ eQ (oQ 43 zQ) /\ oQ 43 (List.map At.val (QV.enc
 x.2.1)) = oQ 43 (List.map At.val (QV.enc x_1.1)) /\ oQ 43 (aQi v.op :: aQi v.table :: pQ v.where_ [aQs v.columns, aQs v.on, aQs g, aQs o, aQi k, aQs v.args]) = oQ 43 (List.map
 At.val (QV.enc x_1.2.1)) /\ Froze m' h' x_1.2.2.1 x_1.2.2.2 /\ True) (branch (x.1 == 10) (∃ (cb_3 : Nat) (v : QV), ∃ (s : Sl) (kinds : List Int), [cQp cb 0, cQa (QV.enc x.2.2.1),
 cQs x.2.2.2.1] = [cQp cb_3 0, cQa [vQi v.op, vQi v.table, vQi v.where_.op, vQi v.where_.cmp, vQi v.where_.left.kind, vQi v.where_.left.index, vQi v.where_.left.value.kind, vQi
 v.where_.left.value.int, Value.string v.where_.left.value.text, vQi v.where_.right.kind, vQi v.where_.right.index, vQi v.where_.right.value.kind, vQi v.where_.right.value.int,
 Value.string v.where_.right.value.text, vQs v.where_.args, vQs v.columns, vQs v.on, vQn, vQn, vQi v.limit, vQs v.args], cQs s] /\ CaseOk x.2.2.2.2.2.1 x.2.2.2.2.2.2 cb_3 /\ Ints
 x.2.2.2.2.2.2 s kinds /\ kinds.length <= 1000 /\ ∀ (g o : Sl) (k : Int) (gr : List Int) (od : List (Int × Bool)) (m' : MH) (h' : PH), x.2.2.2.2.2.2.le h' -> Ints h' g gr -> Sorts
 h' o od -> gr.length <= kinds.length -> od.length <= kinds.length -> 0 <= k -> k <= 3 -> MOther x.2.2.2.2.2.1 m' cb_3 -> CaseOk m' h' cb_3 -> ∃ (cb_4 : Nat) (sc_3 : SchV), ∃ (p_3
 k_1 : Sl) (v_1 : QV) (s : Sch), ∃ (ps ks : List Int) (q : Query), [cQp cb 0, cQa [vQi sc.version, vQs sc.tables], cQs p, cQs x.2.2.2.1, cQa (QV.enc x.2.1)] = [cQp cb_4 0, cQa [vQi
 sc_3.version, vQs sc_3.tables], cQs p_3, cQs k_1, cQa (QV.enc v_1)] /\ CaseOk m' h' cb_4 /\ RepS h' s sc_3 /\ small8 s /\ s.tables.length <= 1000 /\ Ints h' p_3 ps /\ ps.length <=
 1000 /\ Ints h' k_1 ks /\ ks.length <= 1000 /\ RepQ h' q v_1 /\ QW q /\ ∀ (w : QV) (q : Query) (m'_2 : MH) (h'_2 : PH), h'.le h'_2 -> RepQ h'_2 q w -> QW q -> MOther m' m'_2 cb_4
 -> CaseOk m'_2 h'_2 cb_4 -> ∀ (s : Sl) (m' : MH), MNew m'_2 m' h'_2 s 43 21 [(QV.enc w)] -> ∃ (xs : List (List Value)), MRow m' (Sl.mk v.args.a v.args.len v.args.cap) 43 21 xs /\ ∃
 (ys : List (List Value)), RowsOk 21 ys /\ SrcIn m' h'_2 (Sl.mk s.a s.len s.cap) 21 ys /\ (xs.length + ys.length) * 280 <= 140737488355328 /\ xs.length + ys.length <=
 140737488355328 /\ ∀ (s' : Sl) (m'_3 : MH), MGrown m' m'_3 (Sl.mk v.args.a v.args.len v.args.cap) s' 43 21 (xs ++ ys) -> Disj m'_3 h'_2 -> ∃ (x_1 : QV × QV × MH × PH), I x_1 /\ eQ
 (sQs p) /\ eP 5 /\ eP 8 /\ eP 10 /\ eP 13 /\ eQ (oQ 28 [aQi sc.version, aQs sc.tables]) /\ eQ (oQ 43 zQ) /\ oQ 43 (List.map At.val (QV.enc x.2.1)) = oQ 43 (List.map At.val (QV.enc
 x_1.1)) /\ oQ 43 (aQi v.op :: aQi v.table :: pQ v.where_ [aQs v.columns, aQs v.on, aQs g, aQs o, aQi k, aQs s']) = oQ 43 (List.map At.val (QV.enc x_1.2.1)) /\ Froze m'_3 h'_2
 x_1.2.2.1 x_1.2.2.2 /\ True) ((∃ (cb_3 : Nat), ∃ (s t : Sl), ∃ (cols params : List Int) (deep : Nat), [cQp cb 0, cQs x.2.2.2.1, cQs p, cQi 2] = [cQp cb_3 0, cQs s, cQs t, cQi
 ↑deep] /\ CaseOk x.2.2.2.2.2.1 x.2.2.2.2.2.2 cb_3 /\ Ints x.2.2.2.2.2.2 s cols /\ Ints x.2.2.2.2.2.2 t params /\ cols.length <= 1000 /\ params.length <= 1000 /\ deep <= 1000 /\ ∀
 (v : PV) (p_3 : Pred) (m' : MH) (h' : PH), x.2.2.2.2.2.2.le h' -> RepP h' p_3 v -> PredW p_3 -> MOther x.2.2.2.2.2.1 m' cb_3 -> CaseOk m' h' cb_3 -> ∀ (s : Sl) (m'_2 : MH), MNew m'
 m'_2 h' s 43 21 [(QV.enc x.2.1)] -> Disj m'_2 h' -> ∃ (x_1 : QV × QV × MH × PH), I x_1 /\ eQ (sQs p) /\ eP 5 /\ eP 8 /\ eP 10 /\ eP 13 /\ eQ (oQ 28 [aQi sc.version, aQs sc.tables])
 /\ eQ (oQ 43 zQ) /\ oQ 43 (List.map At.val (QV.enc x.2.1)) = oQ 43 (List.map At.val (QV.enc x_1.1)) /\ oQ 43 (aQi 2 :: aQi 0 :: pQ v [aQn, aQn, aQn, aQn, aQi 0, aQs s]) = oQ 43
 (List.map At.val (QV.enc x_1.2.1)) /\ Froze m'_2 h' x_1.2.2.1 x_1.2.2.2 /\ True) /\ ∀ (s : Sl) (m' : MH), MNew x.2.2.2.2.2.1 m' x.2.2.2.2.2.2 s 43 21 [(QV.enc x.2.1)] -> ∃ (cb_3 :
 Nat), ∃ (s_1 t : Sl), ∃ (cols params : List Int) (deep : Nat), [cQp cb 0, cQs x.2.2.2.1, cQs p, cQi 2] = [cQp cb_3 0, cQs s_1, cQs t, cQi ↑deep] /\ CaseOk m' x.2.2.2.2.2.2 cb_3 /\
 Ints x.2.2.2.2.2.2 s_1 cols /\ Ints x.2.2.2.2.2.2 t params /\ cols.length <= 1000 /\ params.length <= 1000 /\ deep <= 1000 /\ ∀ (v : PV) (p_3 : Pred) (m'_2 : MH) (h' : PH),
 x.2.2.2.2.2.2.le h' -> RepP h' p_3 v -> PredW p_3 -> MOther m' m'_2 cb_3 -> CaseOk m'_2 h' cb_3 -> Disj m'_2 h' -> ∃ (x_1 : QV × QV × MH × PH), I x_1 /\ eQ (sQs p) /\ eP 5 /\ eP 8
 /\ eP 10 /\ eP 13 /\ eQ (oQ 28 [aQi sc.version, aQs sc.tables]) /\ eQ (oQ 43 zQ) /\ oQ 43 (List.map At.val (QV.enc x.2.1)) = oQ 43 (List.map At.val (QV.enc x_1.1)) /\ oQ 43 (aQi 2
 :: aQi 0 :: pQ v [aQn, aQn, aQn, aQn, aQi 0, aQs s]) = oQ 43 (List.map At.val (QV.enc x_1.2.1)) /\ Froze m'_2 h' x_1.2.2.1 x_1.2.2.2 /\ True))))) /\ ∀ (x : QV × QV × MH × PH), I x
 -> ∃ (sc_3 : SchV) (p_3 : Sl), ∃ (v : QV) (s : Sch), ∃ (ps : List Int) (q : Query), [cQa [vQi sc.version, vQs sc.tables], cQs p, cQa (QV.enc x.2.1)] = [cQa [vQi sc_3.version, vQs
 sc_3.tables], cQs p_3, cQa (QV.enc v)] /\ RepS x.2.2.2 s sc_3 /\ Ints x.2.2.2 p_3 ps /\ RepQ x.2.2.2 q v /\ ∀ (sl : Sl) (h' : PH), x.2.2.2.le h' -> Ints h' sl (queryR s ps q).1 ->
 branch ((queryR s ps q).2 != 0) (K (cQa (QV.enc x.1)) x.2.2.1 h') (K (cQa (QV.enc x.2.1)) x.2.2.1 h'))))
theorem f18_vc (N : Nat) (cb : Nat) (sc : SchV) (p : Sl) (deep : Int) (m : MH) (h : PH) (K : CV → MH → PH → Prop) : f18_nice N cb sc p deep m h K = (fnVC (f18_ctx N cb sc p) Tryz.f18 (bodyOf Tryz.f18) (entry Tryz.f18.ntmps [cP cb, aS sc, cS p, cI deep] m h) K) := by kernel_rfl
structure FRow (m0 m : MH) (s : Sl) (E : TypeId) (sz : Nat) (xs : List (List Value)) : Prop where
 row : MRow m s E sz xs
 fresh : ∀ b i, s.a = some ⟨b, i, none⟩ → m0 b = none
def Kept (m0 m : MH) (cb : Nat) : Prop := ∀ b o, m0 b = some o → b ≠ cb → m b = some o
theorem Kept.of {m0 : MH} (h : MOther m0 m cb) : Kept m0 m cb := fun b o e n => by rw [h.other b n]; exact e
theorem Kept.on {m0 : MH} (k : Kept m0 m cb) (h : MOther m m' cb) : Kept m0 m' cb := fun b o e n => by rw [h.other b n]; exact k b o e n
theorem CaseOk.blk (c : CaseOk m h cb) : ∃ cs, m cb = some (.cells cs 68 (0, 0)) := by
 obtain ⟨r, q, cs, k, q1, _⟩ := c
 exact ⟨_, q1⟩
theorem CaseOk.keep (c : CaseOk m h cb) (e : m' cb = m cb) (le : PH.le h h') : CaseOk m' h' cb := by
 obtain ⟨r, q, cs, k, q1, q2, q3⟩ := c
 exact ⟨r, q, cs, k, by rw [e]; exact q1, q2.mono le, q3⟩
theorem Kept.free {m0 : MH} (k : Kept m0 m cb) (c : CaseOk m h cb) (hb : m b = none) : m0 b = none := by
 cases e : m0 b with
 | none => rfl
 | some o =>
  by_cases hc : b = cb
  · obtain ⟨cs, e2⟩ := c.blk
    rw [hc, e2] at hb; cases hb
  · rw [k b o e hc] at hb; cases hb
theorem MRow.nil (m : MH) (E : TypeId) (sz : Nat) : MRow m nilS E sz [] := ⟨⟨fun _ h => by simp at h, fun _ h => by simp at h⟩, .inl ⟨rfl, rfl⟩⟩
theorem FRow.nil (m0 m : MH) (E : TypeId) (sz : Nat) : FRow m0 m nilS E sz [] := ⟨MRow.nil m E sz, fun b i e => by cases e⟩
theorem FRow.on {m0 : MH} {s : Sl} {E : TypeId} (r : FRow m0 m s E sz xs) (o : MOther m m' cb) (c : CaseOk m h cb) (hE : E ≠ 68) : FRow m0 m' s E sz xs := by
 refine ⟨MRow.keep r.row (fun b i e => o.other b (fun e2 => ?_)), r.fresh⟩
 obtain ⟨cur, h1⟩ := MRow.blk r.row e
 obtain ⟨cs, h2⟩ := c.blk
 rw [e2, h2] at h1
 simp only [Option.some.injEq, Obj.cells.injEq] at h1
 exact hE h1.2.1.symm
theorem FRow.new {m0 : MH} {s t : Sl} {E E' : TypeId} {sz' : Nat} {ys : List (List Value)} (r : FRow m0 m s E sz xs) (x : MNew m m' h t E' sz' ys) : FRow m0 m' s E sz xs := by
 refine ⟨MRow.keep r.row (fun b i e => x.other b (fun j e2 => ?_)), r.fresh⟩
 obtain ⟨cur, h1⟩ := MRow.blk r.row e
 rw [(x.fresh b j e2).m_] at h1; cases h1
theorem MNew.frow {m0 : MH} {s : Sl} {E : TypeId} (x : MNew m m' h s E sz xs) (k : Kept m0 m cb) (c : CaseOk m h cb) : FRow m0 m' s E sz xs := ⟨x.row, fun b i e => k.free c (x.fresh b i e).m_⟩
theorem MNew.at_cb {s : Sl} {E : TypeId} (x : MNew m m' h s E sz xs) (c : CaseOk m h cb) : m' cb = m cb := x.other cb (fun i e => by
 obtain ⟨cs, e2⟩ := c.blk
 rw [(x.fresh cb i e).m_] at e2; cases e2)
theorem Kept.new {m0 : MH} {s : Sl} {E : TypeId} (k : Kept m0 m cb) (x : MNew m m' h s E sz xs) : Kept m0 m' cb := fun b o e n => by
 rw [x.other b (fun i e2 => by have := (x.fresh b i e2).m_; rw [k b o e n] at this; cases this)]; exact k b o e n
theorem FRow.grown {m0 : MH} {s s' : Sl} {E : TypeId} {zs : List (List Value)} (r : FRow m0 m s E sz xs) (x : MGrown m m' s s' E sz zs) (k : Kept m0 m cb) (c : CaseOk m h cb) : FRow m0 m' s' E sz zs :=
 ⟨x.row, fun b i e => by
  rcases x.fresh b i e with h1 | ⟨j, h1⟩
  · exact k.free c h1
  · exact r.fresh b j h1⟩
theorem FRow.apart {m0 : MH} {s t t' : Sl} {E E' : TypeId} {sz' : Nat} {ys zs : List (List Value)} (r : FRow m0 m s E sz xs) (q : FRow m0 m t E' sz' ys) (x : MGrown m m' t t' E' sz' zs) (hE : E ≠ E') : FRow m0 m' s E sz xs := by
 refine ⟨MRow.keep r.row (fun b i e => ?_), r.fresh⟩
 obtain ⟨cur, h1⟩ := MRow.blk r.row e
 rw [h1]
 refine x.other b _ h1 (fun j e2 => ?_)
 obtain ⟨cur2, h2⟩ := MRow.blk q.row e2
 rw [h1] at h2
 simp only [Option.some.injEq, Obj.cells.injEq] at h2
 exact hE h2.2.1
theorem Kept.grown {m0 : MH} {s s' : Sl} {E : TypeId} {zs : List (List Value)} (k : Kept m0 m cb) (r : FRow m0 m s E sz xs) (x : MGrown m m' s s' E sz zs) : Kept m0 m' cb := fun b o e n => x.other b o (k b o e n) (fun i e2 => by rw [r.fresh b i e2] at e; cases e)
theorem MGrown.at_cb {m0 : MH} {s s' : Sl} {E : TypeId} {zs : List (List Value)} (x : MGrown m m' s s' E sz zs) (r : FRow m0 m s E sz xs) (c : CaseOk m h cb) (hE : E ≠ 68) : m' cb = m cb := by
 obtain ⟨cs, e⟩ := c.blk
 rw [e]
 refine x.other cb _ e (fun i e2 => ?_)
 obtain ⟨cur, h1⟩ := MRow.blk r.row e2
 rw [e] at h1
 simp only [Option.some.injEq, Obj.cells.injEq] at h1
 exact hE h1.2.1.symm
theorem rows_len {sz : Nat} : ∀ {xs : List (List Value)}, (∀ e ∈ xs, e.length = sz) → xs.flatten.length = xs.length * sz
 | [], _ => by simp
 | x :: xs, h => by
  simp only [List.flatten_cons, List.length_append, List.length_cons]
  rw [rows_len (fun e he => h e (by simp [he])), h x (by simp), Nat.add_mul]; omega
theorem MRow.src {s : Sl} {E : TypeId} {x : List Value} (r : MRow m s E sz (x :: xs)) : SrcIn m h s sz (x :: xs) := by
 rcases r.ex with ⟨_, e⟩ | ⟨b, cap, cur, rfl, hm, _, _, _, ht⟩
 · cases e
 · exact .lent b 0 cur E (0, 0) rfl rfl hm (by rw [List.drop_zero, rows_len r.rows.len]; exact ht)
def keepM (m0 m : MH) : MH := fun b => match m0 b with | some _ => m b | none => none
def iceH (m0 m : MH) (h : PH) : PH := fun b i => match m0 b, m b with | none, some (.cells cs _ _) => cs[i]? | _, _ => h b i
theorem ice_le {m0 m : MH} {h : PH} (d : Disj m h) : PH.le h (iceH m0 m h) := ⟨fun b i v e => by
 unfold iceH
 split
 · rename_i cs E fz h1 h2
   rw [d.disj b _ h2 i] at e; cases e
 · exact e⟩
theorem ice_froze {m0 : MH} (d : Disj m h) : Froze m h (keepM m0 m) (iceH m0 m h) := by
 refine ⟨fun b o e => ?_, ice_le d, fun b i v e => ?_⟩
 · unfold keepM at e
   split at e
   · exact e
   · cases e
 · unfold iceH at e
   split at e
   · rename_i cs E fz h1 h2
     exact .inr ⟨cs, E, fz, h2, e, by unfold keepM; rw [h1]⟩
   · exact .inl e
theorem FT {p : Prop} (h : p := by repeat' (first | with_reducible rfl | exact trivial | exact ice_froze (by assumption) | refine ⟨?_, ?_⟩ | rfl)) : p := h
theorem FRow.ice {m0 : MH} {s : Sl} {E : TypeId} (r : FRow m0 m s E sz xs) : RowIn (iceH m0 m h) s sz xs := by
 rcases r.row.ex with ⟨rfl, rfl⟩ | ⟨b, cap, cur, rfl, hm, hcp, _, _, ht⟩
 · exact RowIn.nil _ _
 · have h0 := r.fresh b 0 rfl
   refine ⟨rfl, .inr ⟨b, 0, rfl, fun i e hi => ⟨fun j v hj => ?_⟩⟩, hcp⟩
   have h1 := flatten_get r.row.rows.len hi j v hj
   rw [← ht, List.getElem?_take] at h1
   split at h1
   · unfold iceH
     rw [h0, hm]
     simp only [Nat.zero_add]
     rw [← Array.getElem?_toList]; exact h1
   · cases h1
theorem keep_other {m0 : MH} (k : Kept m0 m cb) : MOther m0 (keepM m0 m) cb := ⟨fun b hb => by
 unfold keepM
 cases e : m0 b with
 | none => rfl
 | some o => exact k b o e hb⟩
theorem keep_case {m0 : MH} (c : CaseOk m h cb) (h0 : m0 cb ≠ none) (d : Disj m h) : CaseOk (keepM m0 m) (iceH m0 m h) cb := c.keep (by
 unfold keepM
 cases e : m0 cb with
 | none => exact (h0 e).elim
 | some o => rfl) (ice_le d)
structure QM (m0 m : MH) (h : PH) (v : QV) (vs : List QV) : Prop where
 wher : ∃ w, RepP h w v.where_ ∧ PredW w
 cols : ∃ co : List Int, FRow m0 m v.columns 3 1 (co.map eI) ∧ co.length ≤ 1000
 on_ : ∃ l, Pairs h v.on l
 group_ : ∃ l, Ints h v.group l
 order_ : ∃ l, Sorts h v.order l
 args_ : FRow m0 m v.args 43 21 (vs.map QV.enc)
 len_ : vs.length ≤ 10
 reps : ∀ v ∈ vs, ∃ q, RepQ h q v ∧ QW q
theorem reps_all {h : PH} : ∀ {vs : List QV}, (∀ v ∈ vs, ∃ q, RepQ h q v ∧ QW q) → ∃ qs : List Query, qs.length = vs.length ∧ (∀ q ∈ qs, QW q) ∧ ∀ (i : Nat) q, qs[i]? = some q → ∃ v, vs[i]? = some v ∧ RepQ h q v
 | [], _ => ⟨[], rfl, fun q hq => by simp at hq, fun i q e => by simp at e⟩
 | v :: vs, h1 => by
  obtain ⟨q, hq, hqw⟩ := h1 v (by simp)
  obtain ⟨qs, e1, ew, e2⟩ := reps_all (vs := vs) (fun u hu => h1 u (by simp [hu]))
  refine ⟨q :: qs, by simp [e1], fun x hx => by rcases List.mem_cons.1 hx with rfl | hx; exact hqw; exact ew x hx, fun i x e => ?_⟩
  cases i with
  | zero => simp at e; subst e; exact ⟨v, rfl, hq⟩
  | succ i => simpa using e2 i x (by simpa using e)
theorem QM.ice {m0 : MH} {vs : List QV} (x : QM m0 m h v vs) (d : Disj m h) : ∃ q, RepQ (iceH m0 m h) q v ∧ QW q := by
 obtain ⟨w, hw, hww⟩ := x.wher
 obtain ⟨co, hc, hcl⟩ := x.cols
 obtain ⟨on, ho⟩ := x.on_
 obtain ⟨gr, hg⟩ := x.group_
 obtain ⟨od, hod⟩ := x.order_
 obtain ⟨qs, e1, ew, e2⟩ := reps_all x.reps
 have le := ice_le (m0 := m0) d
 have hl := x.len_
 exact ⟨_, QParts.rep ⟨rfl, rfl, hw.mono le, ⟨hc.ice, by omega⟩, ho.mono le, hg.mono le, hod.mono le, rfl, ⟨⟨vs, x.args_.ice, e1, fun i q e => let ⟨v, k1, k2⟩ := e2 i q e; ⟨v, k1, k2.mono le⟩⟩, by omega⟩⟩, qw_iff.2 ⟨hww, ew⟩⟩
theorem QM.on {m0 : MH} {vs : List QV} (x : QM m0 m h v vs) (o : MOther m m' cb) (c : CaseOk m h cb) (le : PH.le h h') : QM m0 m' h' v vs := by
 obtain ⟨w, hw, hww⟩ := x.wher
 obtain ⟨co, hc, hcl⟩ := x.cols
 obtain ⟨on, ho⟩ := x.on_
 obtain ⟨gr, hg⟩ := x.group_
 obtain ⟨od, hod⟩ := x.order_
 exact ⟨⟨w, hw.mono le, hww⟩, ⟨co, hc.on o c (by decide), hcl⟩, ⟨on, ho.mono le⟩, ⟨gr, hg.mono le⟩, ⟨od, hod.mono le⟩, x.args_.on o c (by decide), x.len_, fun v hv => let ⟨q, e, ew⟩ := x.reps v hv; ⟨q, e.mono le, ew⟩⟩
theorem QM.new {m0 : MH} {vs : List QV} {t : Sl} {E : TypeId} {ys : List (List Value)} (x : QM m0 m h v vs) (n : MNew m m' h' t E sz ys) (le : PH.le h h') : QM m0 m' h' v vs := by
 obtain ⟨w, hw, hww⟩ := x.wher
 obtain ⟨co, hc, hcl⟩ := x.cols
 obtain ⟨on, ho⟩ := x.on_
 obtain ⟨gr, hg⟩ := x.group_
 obtain ⟨od, hod⟩ := x.order_
 exact ⟨⟨w, hw.mono le, hww⟩, ⟨co, hc.new n, hcl⟩, ⟨on, ho.mono le⟩, ⟨gr, hg.mono le⟩, ⟨od, hod.mono le⟩, x.args_.new n, x.len_, fun v hv => let ⟨q, e, ew⟩ := x.reps v hv; ⟨q, e.mono le, ew⟩⟩
theorem QM.grow {m0 : MH} {v' : QV} {vs : List QV} {s' : Sl} {u : QV} (x : QM m0 m h v vs) (g : MGrown m m' v.args s' 43 21 (vs.map QV.enc ++ [u.enc])) (k : Kept m0 m cb) (c : CaseOk m h cb) (hu : ∃ q, RepQ h q u ∧ QW q) (hl : vs.length ≤ 9)
 (ew : v'.where_ = v.where_) (ec : v'.columns = v.columns) (eo : ∃ l, Pairs h v'.on l) (eg : ∃ l, Ints h v'.group l) (ed : ∃ l, Sorts h v'.order l) (ea : v'.args = s') : QM m0 m' h v' (vs ++ [u]) := by
 obtain ⟨co, hc, hcl⟩ := x.cols
 refine ⟨by rw [ew]; exact x.wher, ⟨co, by rw [ec]; exact hc.apart x.args_ g (by decide), hcl⟩, eo, eg, ed, by rw [ea, List.map_append]; exact x.args_.grown g k c, by simp; omega, fun v hv => ?_⟩
 rcases List.mem_append.1 hv with h1 | h1
 · exact x.reps v h1
 · simp at h1; subst h1; exact hu
theorem sch_lim (h : schErr s = 0) : SchLim s := Classical.byContradiction fun hn => by rw [schErr_lim hn] at h; cases h
theorem sch_small8 (h : schErr s = 0) : small8 s := fun t ht => by
 obtain ⟨i, hi⟩ := List.mem_iff_getElem?.1 ht
 have := (sch_lim h).2 i t hi
 exact this.1
theorem sch_tables (h : schErr s = 0) : s.tables.length ≤ 8 := (sch_lim h).1
theorem queryR_len (s : Sch) (ps : List Int) (q : Query) : (queryR s ps q).1.length ≤ 12 := by
 unfold queryR
 split
 · split
   · split
     · exact kindsQ_len s ps q
     · simp [errK]
   · simp [errK]
 · simp [errK]
theorem scan_ok {t : Int} (he : schErr s = 0) (hp : ps.all colKind = true) (h0 : 0 ≤ t) (h1 : t < s.tables.length) : (queryR s ps (.mk 1 t zeroP [] [] [] [] 0 [])).2 = 0 := by
 have h8 := sch_small8 he
 have hk : (kindsT s t).length ≤ 12 := by
  unfold kindsT
  split
  · simp
  · split
    · simp
    · rename_i x hx
      have := h8 x (List.mem_of_getElem? hx)
      simp; omega
 have e1 : kindsQ s ps (.mk 1 t zeroP [] [] [] [] 0 []) = nodeR s ps (.mk 1 t zeroP [] [] [] [] 0 []) [] [] := by simp [kindsQ, kindsQs, arity]
 have e2 : smallQ (.mk 1 t zeroP [] [] [] [] 0 []) = true := by rfl
 unfold queryR
 rw [if_pos he, if_pos hp, if_pos e2, e1]
 unfold nodeR
 rw [if_neg (by simp [arity, UnusedOk])]
 simp only [if_true]
 rw [if_pos ⟨h0, h1⟩]
 unfold limK
 rw [if_pos hk]
structure Mid (m0 : MH) (h3 : PH) (cb : Nat) (a q : QV) (mx : MH) : Prop where
 case_ : CaseOk mx h3 cb
 kept : Kept m0 mx cb
 ex : ∃ o args, q = ⟨o, 0, zeroPV, nilS, nilS, nilS, nilS, 0, args⟩ ∧ FRow m0 mx args 43 21 ([a].map QV.enc)
theorem Mid.qm {m0 mx : MH} {h3 : PH} {a q : QV} (x : Mid m0 h3 cb a q mx) (hr : ∃ qa, RepQ h3 qa a ∧ QW qa) : QM m0 mx h3 q [a] := by
 obtain ⟨o, args, rfl, hf⟩ := x.ex
 exact ⟨⟨_, zeroP_rep h3, predW_zero⟩, ⟨[], FRow.nil _ _ _ _, by simp⟩, ⟨_, pairs_nil _⟩, ⟨_, ints_nil _⟩, ⟨_, sorts_nil _⟩, hf, by simp, fun v hv => by simp at hv; subst hv; exact hr⟩
theorem f18_ok {p : Sl} {deep : Int} (hc : CaseOk m h cb) (hs : RepS h s sc) (he : schErr s = 0) (hne : s.tables ≠ []) (hp : Ints h p ps) (hpl : ps.length ≤ 1000) (hpk : ps.all colKind = true) (d0 : -1 ≤ deep) (d1 : deep ≤ 1000) (hN : (deep + 1).toNat < N + 1)
 (hK : KQ2 K m h cb s ps) : f18_nice N cb sc p deep m h K := by
 have htl := hs.tables.slen
 have h8 := sch_small8 he
 have ht8 := sch_tables he
 have htp : 0 < s.tables.length := List.length_pos_iff.2 hne
 have hif : (if (sc.tables.len : Int) > 1 then (sc.tables.len : Int) else 1) = (sc.tables.len : Int) := by split <;> omega
 have hm0 : m cb ≠ none := by obtain ⟨cs, e⟩ := hc.blk; rw [e]; simp
 unfold f18_nice
 rw [hif]
 refine ⟨cb, 12, rfl, hc, fun k m1 k0 k1 o1 c1 => ?_⟩
 refine branch_dec (fun hd => ?_) (fun hd => branch_intro (fun _ => ?_) (fun _ => branch_intro (fun _ => ?_) (fun _ => ?_)))
 · exact ⟨cb, _, rfl, c1, fun k2 m2 k20 k21 o2 c2 => ⟨k2, rfl, hK _ _ m2 h (.refl _) (scan_rep h k2) (qw_scan k2) (scan_ok he hpk k20 (by omega)) (o1.trans o2) c2⟩⟩
 · exact ⟨cb, _, rfl, c1, fun k2 m2 k20 k21 o2 c2 => ⟨k2, rfl, hK _ _ m2 h (.refl _) (scan_rep h k2) (qw_scan k2) (scan_ok he hpk k20 (by omega)) (o1.trans o2) c2⟩⟩
 · exact ⟨cb, _, rfl, c1, fun k2 m2 k20 k21 o2 c2 => ⟨k2, rfl, hK _ _ m2 h (.refl _) (scan_rep h k2) (qw_scan k2) (scan_ok he hpk k20 (by omega)) (o1.trans o2) c2⟩⟩
 have hw1 : IntKind.i64.wrap (deep - 1) = deep - 1 := wrap_id (by omega) (by omega)
 have hw2 : IntKind.i64.wrap (deep - 2) = deep - 2 := wrap_id (by omega) (by omega)
 rw [hw1]
 refine ⟨cb, sc, p, s, ps, deep - 1, rfl, c1, hs, he, hne, hp, hpl, hpk, by omega, by omega, by omega, fun a qa m2 h2 le2 ra qaw qa0 o2 c2 => ⟨sc, p, a, s, ps, qa, rfl, hs.mono le2, hp.mono le2, ra, fun kk h3 le3 ik => ?_⟩⟩
 have hkl := queryR_len s ps qa
 generalize hks : (queryR s ps qa).fst = ks at ik hkl
 clear hks
 have hle3 : PH.le h h3 := le2.trans le3
 have ra3 : RepQ h3 qa a := ra.mono le3
 refine ⟨fun ⟨d, op, a', q, k', mx, hx⟩ => d = deep ∧ a' = a ∧ k' = kk ∧ hx = h3 ∧ Mid m h3 cb a q mx, fun s1 m3 hnew => ⟨(deep, IntKind.i64.wrap (1 + k), a, ⟨IntKind.i64.wrap (1 + k), 0, zeroPV, nilS, nilS, nilS, nilS, 0, s1⟩, kk, m3, h3), ⟨rfl, rfl, rfl, rfl, ?_⟩, MT⟩, ?_⟩
 · have k2 := (Kept.of o1).on o2
   have c3 := c2.mono le3
   exact ⟨c3.keep (MNew.at_cb hnew c3) (.refl _), k2.new hnew, _, _, rfl, MNew.frow hnew k2 c3⟩
 rintro ⟨deep, op, a', q, k', mx, hx⟩ ⟨rfl, rfl, rfl, rfl, mid⟩
 dsimp only
 have reach : ∀ (q : QV) (vs : List QV) (my : MH) (hy : PH), PH.le hx hy → Kept m my cb → CaseOk my hy cb → QM m my hy q vs → Disj my hy → PH.le hx (iceH m my hy) ∧ MOther m (keepM m my) cb ∧ CaseOk (keepM m my) (iceH m my hy) cb ∧ ∃ qq, RepQ (iceH m my hy) qq q ∧ QW qq := fun q vs my hy l k c x d => ⟨l.trans (ice_le d), keep_other k, keep_case c hm0 d, x.ice d⟩
 have join : ∀ (q : QV) (u : QV) (s1 : Sl) (my : MH) (hy : PH) (Q : Sl → MH → Prop), PH.le hx hy → Kept m my cb → CaseOk my hy cb → QM m my hy q [a'] → FRow m my s1 43 21 [u.enc] → (∃ qu, RepQ hy qu u ∧ QW qu) →
  (∀ s' m', (∀ q' : QV, q'.where_ = q.where_ → q'.columns = q.columns → (∃ l, Pairs hy q'.on l) → (∃ l, Ints hy q'.group l) → (∃ l, Sorts hy q'.order l) → q'.args = s' → QM m m' hy q' [a', u]) → Kept m m' cb → CaseOk m' hy cb → Q s' m') →
  ∃ xs, MRow my ⟨q.args.a, q.args.len, q.args.cap⟩ 43 21 xs ∧ ∃ ys, RowsOk 21 ys ∧ SrcIn my hy ⟨s1.a, s1.len, s1.cap⟩ 21 ys ∧ (xs.length + ys.length) * 280 ≤ 140737488355328 ∧ xs.length + ys.length ≤ 140737488355328 ∧ ∀ (s' : Sl) (m' : MH), MGrown my m' ⟨q.args.a, q.args.len, q.args.cap⟩ s' 43 21 (xs ++ ys) → Q s' m' :=
  fun q u s1 my hy Q l k c x f hu hQ => ⟨_, x.args_.row, [u.enc], rowsOk_q [u], MRow.src f.row, by simp, by simp, fun s' m' g => hQ s' m' (fun q' e1 e2 e3 e4 e5 e6 => x.grow g k c hu (by simp) e1 e2 e3 e4 e5 e6) (k.grown x.args_ g) (c.keep (MGrown.at_cb g x.args_ c (by decide)) (.refl _))⟩
 refine ⟨fun ⟨a2, q, my, hy⟩ => a2 = a' ∧ PH.le hx hy ∧ MOther m my cb ∧ CaseOk my hy cb ∧ ∃ qq, RepQ hy qq q ∧ QW qq, branch_intro (fun _ => ?_) (fun _ => ?_), ?_⟩
 ·
  refine ⟨cb, 3, rfl, mid.case_, fun n m3 n0 n1 o3 c3 => ?_⟩
  refine ⟨fun ⟨a2, q, k2, n, my, hy⟩ => a2 = a' ∧ k2 = k' ∧ hy = hx ∧ -1 ≤ n ∧ n ≤ 2 ∧ CaseOk my hx cb ∧ Kept m my cb ∧ QM m my hx q [a'] ∧ ∃ co : List Int, FRow m my q.columns 3 1 (co.map eI) ∧ (co.length : Int) ≤ 2 - n, fun ⟨_, _, _, n, _, _⟩ => (n + 1).toNat, ⟨(a', q, k', n, m3, hx), ⟨rfl, rfl, rfl, by show -1 ≤ n; omega, by show n ≤ 2; omega, c3, mid.kept.on o3, (mid.qm ⟨qa, ra3, qaw⟩).on o3 mid.case_ (.refl _), [], ?_, by simp; omega⟩, MT⟩, ?_⟩
  · obtain ⟨o, args, rfl, hf⟩ := mid.ex
    exact FRow.nil _ _ _ _
  clear mid q c3 o3 m3 n0 n1 n
  rintro ⟨a2, q, k2, n, my, hy⟩ ⟨rfl, rfl, rfl, n0, n1, cy, ky, qm, co, fco, hcol⟩
  dsimp only
  refine branch_dec (fun hn => ⟨cb, _, rfl, cy, fun c m4 _ _ o4 c4 => ⟨_, (fco.on o4 cy (by decide)).row, by simp; omega, by simp; omega, fun s' m5 g => ?_⟩⟩) (fun hn d => ⟨(a2, q, keepM m my, iceH m my hy), ⟨rfl, reach q _ my hy (.refl _) ky cy qm d⟩, FT⟩)
  have f4 := fco.on o4 cy (by decide)
  have q4 := qm.on o4 cy (.refl _)
  have k4 := ky.on o4
  have f5 : FRow m m5 s' 3 1 ((co ++ [c]).map eI) := by rw [List.map_append]; exact f4.grown g k4 c4
  have hw3 : IntKind.i64.wrap (n - 1) = n - 1 := wrap_id (by omega) (by omega)
  rw [hw3]
  refine ⟨(a2, { q with columns := s' }, k2, n - 1, m5, hy), ⟨rfl, rfl, rfl, by show -1 ≤ n - 1; omega, by show n - 1 ≤ 2; omega, c4.keep (MGrown.at_cb g f4 c4 (by decide)) (.refl _), k4.grown f4 g, ⟨q4.wher, ⟨_, f5, by simp; omega⟩, q4.on_, q4.group_, q4.order_, q4.args_.apart f4 g (by decide), q4.len_, q4.reps⟩, _, f5, by simp; omega⟩, by show (n - 1 + 1).toNat < (n + 1).toNat; omega, MT⟩
 · refine ⟨fun ⟨d, op, a2, q, k2, t, my, hy⟩ => d = deep ∧ a2 = a' ∧ k2 = k' ∧ hy = hx ∧ Mid m hx cb a' q my, branch_intro (fun _ => ⟨(deep, op, a', q, k', true, mx, hx), ⟨rfl, rfl, rfl, rfl, mid⟩, MT⟩) (fun _ => ⟨(deep, op, a', q, k', op == 5, mx, hx), ⟨rfl, rfl, rfl, rfl, mid⟩, MT⟩), ?_⟩
   clear mid q mx
   rintro ⟨deep, op, a', q, k', t, mx, hx⟩ ⟨rfl, rfl, rfl, rfl, mid⟩
   dsimp only
   refine branch_intro (fun _ => ?_) (fun _ => ?_)
   ·
    rw [hw2]
    refine ⟨cb, sc, p, s, ps, deep - 2, rfl, mid.case_, hs.mono hle3, he, hne, hp.mono hle3, hpl, hpk, by show -1 ≤ deep - 2; omega, by omega, by omega, fun b qb m5 h5 le5 rb qbw _ o5 c5 => ⟨sc, p, b, s, ps, qb, rfl, hs.mono (hle3.trans le5), hp.mono (hle3.trans le5), rb, fun l h6 le6 il => ?_⟩⟩
    have hll := queryR_len s ps qb
    generalize hls : (queryR s ps qb).fst = ls at il hll
    have q6 : QM m m5 h6 q [a'] := (mid.qm ⟨qa, ra3, qaw⟩).on o5 mid.case_ (le5.trans le6)
    have k6 := mid.kept.on o5
    have c6 := c5.mono le6
    refine ⟨fun ⟨a2, b2, q, k2, l2, my, hy⟩ => a2 = a' ∧ b2 = b ∧ k2 = k' ∧ l2 = l ∧ hy = h6 ∧ CaseOk my h6 cb ∧ Kept m my cb ∧ QM m my h6 q [a'], branch_intro (fun _ => branch_dec (fun _ => ⟨(a', b, { q with op := 5 }, k', l, m5, h6), ⟨rfl, rfl, rfl, rfl, rfl, c6, k6, ⟨q6.wher, q6.cols, q6.on_, q6.group_, q6.order_, q6.args_, q6.len_, q6.reps⟩⟩, MT⟩) (fun _ => ⟨(a', b, q, k', l, m5, h6), ⟨rfl, rfl, rfl, rfl, rfl, c6, k6, q6⟩, MT⟩)) (fun _ => ⟨(a', b, q, k', l, m5, h6), ⟨rfl, rfl, rfl, rfl, rfl, c6, k6, q6⟩, MT⟩), ?_⟩
    have rb6 := rb.mono le6
    have hx6 : PH.le hx h6 := le5.trans le6
    clear q6 k6 c6 o5 c5 rb le5 mid q
    rintro ⟨a2, b, q, k2, l, my, h6⟩ ⟨rfl, rfl, rfl, rfl, rfl, c6, k6, q6⟩
    dsimp only
    refine ⟨⟨cb, k2, l, ks, ls, rfl, c6, ik.mono hx6, il, by omega, by omega, fun o on m7 h7 le7 hon _ o7 c7 s1 m8 hnew => ?_⟩, fun s1 m7 hnew => ⟨cb, k2, l, ks, ls, rfl, c6.keep (MNew.at_cb hnew c6) (.refl _), ik.mono hx6, il, by omega, by omega, fun o on m8 h7 le7 hon _ o8 c8 => ?_⟩⟩
    · have k7 := k6.on o7
      refine join q b s1 m8 h7 _ (hx6.trans le7) (k7.new hnew) (c7.keep (MNew.at_cb hnew c7) (.refl _)) ((q6.on o7 c6 le7).new hnew (.refl _)) (MNew.frow hnew k7 c7) ⟨qb, rb6.mono le7, qbw⟩ (fun s' m9 hq k9 c9 d => ?_)
      exact ⟨(a2, { q with on := o, args := s' }, keepM m m9, iceH m m9 h7), ⟨rfl, reach _ _ m9 h7 (hx6.trans le7) k9 c9 (hq { q with on := o, args := s' } rfl rfl ⟨on, hon⟩ (let ⟨l, e⟩ := q6.group_; ⟨l, e.mono le7⟩) (let ⟨l, e⟩ := q6.order_; ⟨l, e.mono le7⟩) rfl) d⟩, FT⟩
    · have k7 := k6.new hnew
      have c7 : CaseOk m7 h6 cb := c6.keep (MNew.at_cb hnew c6) (.refl _)
      have k8 := k7.on o8
      refine join q b s1 m8 h7 _ (hx6.trans le7) k8 c8 ((q6.new hnew (.refl _)).on o8 c7 le7) ((MNew.frow hnew k6 c6).on o8 c7 (by decide)) ⟨qb, rb6.mono le7, qbw⟩ (fun s' m9 hq k9 c9 d => ?_)
      exact ⟨(a2, { q with on := o, args := s' }, keepM m m9, iceH m m9 h7), ⟨rfl, reach _ _ m9 h7 (hx6.trans le7) k9 c9 (hq { q with on := o, args := s' } rfl rfl ⟨on, hon⟩ (let ⟨l, e⟩ := q6.group_; ⟨l, e.mono le7⟩) (let ⟨l, e⟩ := q6.order_; ⟨l, e.mono le7⟩) rfl) d⟩, FT⟩
   · refine ⟨fun ⟨op, a2, q, k2, t, my, hy⟩ => a2 = a' ∧ k2 = k' ∧ hy = hx ∧ Mid m hx cb a' q my, branch_intro (fun _ => ⟨(op, a', q, k', true, mx, hx), ⟨rfl, rfl, rfl, mid⟩, MT⟩) (fun _ => branch_intro (fun _ => ⟨(op, a', q, k', true, mx, hx), ⟨rfl, rfl, rfl, mid⟩, MT⟩) (fun _ => ⟨(op, a', q, k', op == 8, mx, hx), ⟨rfl, rfl, rfl, mid⟩, MT⟩)), ?_⟩
     clear mid q mx
     rintro ⟨op, a', q, k', t, mx, hx⟩ ⟨rfl, rfl, rfl, mid⟩
     dsimp only
     have q3 := mid.qm ⟨qa, ra3, qaw⟩
     refine branch_intro (fun _ => ?_) (fun _ => branch_intro (fun _ => ?_) (fun _ => branch_intro (fun _ => ?_) (fun _ => ?_)))
     ·
      refine ⟨cb, sc, p, k', a', s, ps, ks, qa, rfl, mid.case_, hs.mono hle3, h8, by omega, hp.mono hle3, hpl, ik, by omega, ra3, qaw, fun w qw m5 h5 le5 rw5 qww o5 c5 s1 m6 hnew => ?_⟩
      have k5 := mid.kept.on o5
      refine join q w s1 m6 h5 _ le5 (k5.new hnew) (c5.keep (MNew.at_cb hnew c5) (.refl _)) ((q3.on o5 mid.case_ le5).new hnew (.refl _)) (MNew.frow hnew k5 c5) ⟨qw, rw5, qww⟩ (fun s' m9 hq k9 c9 d => ?_)
      have q5 := q3.on o5 mid.case_ le5
      exact ⟨(a', { q with args := s' }, keepM m m9, iceH m m9 h5), ⟨rfl, reach _ _ m9 h5 le5 k9 c9 (hq { q with args := s' } rfl rfl q5.on_ q5.group_ q5.order_ rfl) d⟩, FT⟩
     ·
      obtain ⟨o, args, rfl, hf⟩ := mid.ex
      refine ⟨cb, ⟨o, 0, zeroPV, nilS, nilS, nilS, nilS, 0, args⟩, k', ks, rfl, mid.case_, ik, by omega, fun g od kk gr odl m5 h5 le5 hg hod _ _ _ _ o5 c5 d => ?_⟩
      have q5 := q3.on o5 mid.case_ le5
      exact ⟨(a', ⟨o, 0, zeroPV, nilS, nilS, g, od, kk, args⟩, keepM m m5, iceH m m5 h5), ⟨rfl, reach _ [a'] m5 h5 le5 (mid.kept.on o5) c5 ⟨q5.wher, q5.cols, q5.on_, ⟨gr, hg⟩, ⟨odl, hod⟩, q5.args_, q5.len_, q5.reps⟩ d⟩, FT⟩
     ·
      obtain ⟨o, args, rfl, hf⟩ := mid.ex
      refine ⟨cb, ⟨o, 0, zeroPV, nilS, nilS, nilS, nilS, 0, args⟩, k', ks, rfl, mid.case_, ik, by omega, fun g od kk gr odl m5 h5 le5 hg hod _ _ _ _ o5 c5 => ?_⟩
      have q5 := q3.on o5 mid.case_ le5
      have q5' : QM m m5 h5 ⟨o, 0, zeroPV, nilS, nilS, g, od, kk, args⟩ [a'] := ⟨q5.wher, q5.cols, q5.on_, ⟨gr, hg⟩, ⟨odl, hod⟩, q5.args_, q5.len_, q5.reps⟩
      refine ⟨cb, sc, p, k', a', s, ps, ks, qa, rfl, c5, hs.mono (hle3.trans le5), h8, by omega, hp.mono (hle3.trans le5), hpl, ik.mono le5, by omega, ra3.mono le5, qaw, fun w qw m6 h6 le6 rw6 qww o6 c6 s1 m7 hnew => ?_⟩
      have k6 := (mid.kept.on o5).on o6
      refine join ⟨o, 0, zeroPV, nilS, nilS, g, od, kk, args⟩ w s1 m7 h6 _ (le5.trans le6) (k6.new hnew) (c6.keep (MNew.at_cb hnew c6) (.refl _)) ((q5'.on o6 c5 le6).new hnew (.refl _)) (MNew.frow hnew k6 c6) ⟨qw, rw6, qww⟩ (fun s' m9 hq k9 c9 d => ?_)
      exact ⟨(a', ⟨o, 0, zeroPV, nilS, nilS, g, od, kk, s'⟩, keepM m m9, iceH m m9 h6), ⟨rfl, reach _ _ m9 h6 (le5.trans le6) k9 c9 (hq ⟨o, 0, zeroPV, nilS, nilS, g, od, kk, s'⟩ rfl rfl ⟨_, pairs_nil _⟩ ⟨gr, hg.mono le6⟩ ⟨odl, hod.mono le6⟩ rfl) d⟩, FT⟩
     ·
      refine ⟨⟨cb, k', p, ks, ps, 2, rfl, mid.case_, ik, hp.mono hle3, by omega, hpl, by omega, fun pv pp m5 h5 le5 rp rpw o5 c5 s1 m6 hnew d => ?_⟩, fun s1 m5 hnew => ⟨cb, k', p, ks, ps, 2, rfl, mid.case_.keep (MNew.at_cb hnew mid.case_) (.refl _), ik, hp.mono hle3, by omega, hpl, by omega, fun pv pp m6 h5 le5 rp rpw o6 c6 d => ?_⟩⟩
      · have k5 := mid.kept.on o5
        exact ⟨(a', ⟨2, 0, pv, nilS, nilS, nilS, nilS, 0, s1⟩, keepM m m6, iceH m m6 h5), ⟨rfl, reach _ [a'] m6 h5 le5 (k5.new hnew) (c5.keep (MNew.at_cb hnew c5) (.refl _)) ⟨⟨pp, rp, rpw⟩, ⟨[], FRow.nil _ _ _ _, by simp⟩, ⟨_, pairs_nil _⟩, ⟨_, ints_nil _⟩, ⟨_, sorts_nil _⟩, MNew.frow hnew k5 c5, by simp, fun v hv => by simp at hv; subst hv; exact ⟨qa, ra3.mono le5, qaw⟩⟩ d⟩, FT⟩
      · have k5 := mid.kept.new hnew
        have c5 : CaseOk m5 hx cb := mid.case_.keep (MNew.at_cb hnew mid.case_) (.refl _)
        exact ⟨(a', ⟨2, 0, pv, nilS, nilS, nilS, nilS, 0, s1⟩, keepM m m6, iceH m m6 h5), ⟨rfl, reach _ [a'] m6 h5 le5 (k5.on o6) c6 ⟨⟨pp, rp, rpw⟩, ⟨[], FRow.nil _ _ _ _, by simp⟩, ⟨_, pairs_nil _⟩, ⟨_, ints_nil _⟩, ⟨_, sorts_nil _⟩, (MNew.frow hnew mid.kept mid.case_).on o6 c5 (by decide), by simp, fun v hv => by simp at hv; subst hv; exact ⟨qa, ra3.mono le5, qaw⟩⟩ d⟩, FT⟩
 · rintro ⟨a2, q, my, hy⟩ ⟨rfl, ley, oy, cy, qq, rq, rqw⟩
   dsimp only
   refine ⟨sc, p, q, s, ps, qq, rfl, hs.mono (hle3.trans ley), hp.mono (hle3.trans ley), rq, fun sl h5 le5 _ => branch_intro (fun e => ?_) (fun e => ?_)⟩
   · exact hK a2 qa my h5 ((hle3.trans ley).trans le5) ((ra3.mono ley).mono le5) qaw qa0 oy (cy.mono le5)
   · exact hK q qq my h5 ((hle3.trans ley).trans le5) (rq.mono le5) rqw (by simpa using e) oy (cy.mono le5)
theorem f18_all : ∀ N, Sound Tryz.prog 18 (QueryW N)
 | 0 => by
  refine fn_sound (fn := Tryz.f18) (c := bodyOf Tryz.f18) Tryz.func18 rfl (by decide) ?_
  rintro cvs m h K ⟨cb, sc, p, s, ps, deep, rfl, _, _, _, _, _, _, _, _, _, hN, _⟩
  omega
 | N + 1 => by
  refine fn_sound (fn := Tryz.f18) (c := bodyOf Tryz.f18) Tryz.func18 rfl (by decide) ?_
  rintro cvs m h K ⟨cb, sc, p, s, ps, deep, rfl, hc, hs, he, hne, hp, hpl, hpk, d0, d1, hN, hK⟩
  refine ⟨f18_ctx N cb sc p, rfl, specs_cons intW (specs_cons f37_sound (specs_cons f26_sound (specs_cons f38_sound (specs_cons f39_sound (specs_cons f40_sound (specs_cons f27_sound (specs_cons (f18_all N) specs_nil))))))), ?_⟩
  rw [← f18_vc N cb sc p deep m h K]
  exact f18_ok hc hs he hne hp hpl hpk d0 d1 hN hK
def ArOk (q : Query) : Prop :=
 match q with
 | .mk op _ _ _ _ _ _ _ args => (args.length : Int) = arity op ∧ ∀ a ∈ args, ArOk a
 termination_by SizeOf.sizeOf q
theorem arOk_iff {op : Int} {on : List (Int × Int)} {args : List Query} :
 ArOk (.mk op ta w co on gr od li args) ↔ (args.length : Int) = arity op ∧ ∀ a ∈ args, ArOk a := by rw [ArOk.eq_def]
theorem arity_le (op : Int) : arity op ≤ 2 := by
 unfold arity
 repeat' split
 all_goals omega
theorem key_parts {x : Step} (h : keyOf x = keyOf t) : x.op = t.op ∧ x.left = t.left ∧ x.right = t.right := by
 simp only [keyOf, KV.mk.injEq] at h
 exact ⟨h.1, h.2.2.2.1, h.2.2.2.2.1⟩
theorem addT_nodup {ts' : List Step} (hn : (ts.map keyOf).Nodup) (h : AddT t ts ts' k) : (ts'.map keyOf).Nodup ∧ ts <+: ts' := by
 rcases h with ⟨_, _, _, rfl⟩ | ⟨hno, rfl, _⟩
 · exact ⟨hn, List.prefix_refl _⟩
 · refine ⟨?_, List.prefix_append _ _⟩
   rw [List.map_append, List.nodup_append]
   refine ⟨hn, by simp, fun a ha b hb => ?_⟩
   obtain ⟨x, hx, rfl⟩ := List.mem_map.1 ha
   simp at hb
   rw [hb]; exact hno x hx
theorem addQ_nodup : ∀ (q : Query) {ts ts' : List Step} {k : Nat}, (ts.map keyOf).Nodup → AddQ q ts ts' k → (ts'.map keyOf).Nodup ∧ ts <+: ts'
 | .mk op ta w co on gr od li args, ts, ts', k, hn, h => by
  rw [addQ_iff] at h
  obtain ⟨ts1, l, ts2, r, h1, h2, h3⟩ := h
  match args, h1, h2 with
  | [], h1, h2 =>
   obtain ⟨rfl, rfl⟩ := h1
   obtain ⟨rfl, rfl⟩ := h2
   exact addT_nodup hn h3
  | [a], h1, h2 =>
   obtain ⟨rfl, rfl⟩ := h2
   obtain ⟨n1, p1⟩ := addQ_nodup a hn h1
   obtain ⟨n2, p2⟩ := addT_nodup n1 h3
   exact ⟨n2, p1.trans p2⟩
  | a :: b :: rest, h1, h2 =>
   obtain ⟨n1, p1⟩ := addQ_nodup a hn h1
   obtain ⟨n2, p2⟩ := addQ_nodup b n1 h2
   obtain ⟨n3, p3⟩ := addT_nodup n2 h3
   exact ⟨n3, (p1.trans p2).trans p3⟩
theorem prefix_get {α : Type} {l l' : List α} (h : l <+: l') {x : α} (hx : l[i]? = some x) : l'[i]? = some x := by
 obtain ⟨r, rfl⟩ := h
 rw [List.getElem?_append_left (List.getElem?_eq_some_iff.1 hx).1]; exact hx
theorem nodup_idx (hn : (ts.map keyOf).Nodup) {j : Nat} {x y : Step} (hx : ts[i]? = some x) (hy : ts[j]? = some y) (e : keyOf x = keyOf y) : i = j := by
 have hi := (List.getElem?_eq_some_iff.1 hx)
 have hj := (List.getElem?_eq_some_iff.1 hy)
 obtain ⟨hi, ex⟩ := hi
 obtain ⟨hj, ey⟩ := hj
 have h1 : (ts.map keyOf)[i]'(by simpa using hi) = (ts.map keyOf)[j]'(by simpa using hj) := by simp [ex, ey, e]
 exact (List.getElem_inj hn).1 h1
theorem again : ∀ (q : Query) {ts ts' tt t3 : List Step} {k k3 : Nat}, (ts.map keyOf).Nodup → AddQ q ts ts' k → ts' <+: tt → (tt.map keyOf).Nodup → AddQ q tt t3 k3 → t3 = tt ∧ k3 = k
 | .mk op ta w co on gr od li args, ts, ts', tt, t3, k, k3, hn, h, hp, hnt, g => by
  rw [addQ_iff] at h g
  obtain ⟨ts1, l, ts2, r, h1, h2, h3⟩ := h
  obtain ⟨us1, l', us2, r', g1, g2, g3⟩ := g
  have key : ∀ (ts2 : List Step) (l r : Nat), (ts2.map keyOf).Nodup → AddT ⟨op, ta, w, co, on, gr, od, li, (l : Nat), (r : Nat)⟩ ts2 ts' k → AddT ⟨op, ta, w, co, on, gr, od, li, (l : Nat), (r : Nat)⟩ tt t3 k3 → t3 = tt ∧ k3 = k := by
   intro ts2 l r hn2 h3 g3
   have hx : ∃ x, ts'[k]? = some x ∧ keyOf x = keyOf ⟨op, ta, w, co, on, gr, od, li, (l : Nat), (r : Nat)⟩ := by
    rcases h3 with ⟨x, hx, e, rfl⟩ | ⟨_, rfl, rfl⟩
    · exact ⟨x, hx, e⟩
    · exact ⟨_, by simp, rfl⟩
   obtain ⟨x, hx, e⟩ := hx
   have hx' := prefix_get hp hx
   rcases g3 with ⟨y, hy, e', rfl⟩ | ⟨hno, _, _⟩
   · exact ⟨rfl, nodup_idx hnt hy hx' (e'.trans e.symm)⟩
   · exact (hno x (List.mem_of_getElem? hx') e).elim
  match args, h1, h2, g1, g2 with
  | [], h1, h2, g1, g2 =>
   obtain ⟨rfl, rfl⟩ := h1
   obtain ⟨rfl, rfl⟩ := h2
   obtain ⟨rfl, rfl⟩ := g1
   obtain ⟨rfl, rfl⟩ := g2
   exact key _ _ _ hn h3 g3
  | [a], h1, h2, g1, g2 =>
   obtain ⟨rfl, rfl⟩ := h2
   obtain ⟨rfl, rfl⟩ := g2
   obtain ⟨n1, p1⟩ := addQ_nodup a hn h1
   obtain ⟨n2, p2⟩ := addT_nodup n1 h3
   obtain ⟨rfl, rfl⟩ := again a hn h1 (p2.trans hp) hnt g1
   exact key _ _ _ n1 h3 g3
  | a :: b :: rest, h1, h2, g1, g2 =>
   obtain ⟨n1, p1⟩ := addQ_nodup a hn h1
   obtain ⟨n2, p2⟩ := addQ_nodup b n1 h2
   obtain ⟨n3, p3⟩ := addT_nodup n2 h3
   obtain ⟨rfl, rfl⟩ := again a hn h1 ((p2.trans p3).trans hp) hnt g1
   obtain ⟨rfl, rfl⟩ := again b n1 h2 (p3.trans hp) hnt g2
   exact key _ _ _ n2 h3 g3
theorem nodup_len : ∀ (n : Nat) {l : List Nat}, l.Nodup → (∀ x ∈ l, x < n) → l.length ≤ n
 | 0, l, _, h => by
  cases l with
  | nil => simp
  | cons x l => have := h x (by simp); omega
 | n + 1, l, hn, h => by
  by_cases hm : n ∈ l
  · have h1 := List.length_erase_of_mem hm
    have h2 := nodup_len n (hn.erase n) (fun x hx => by
     have h3 := (hn.mem_erase_iff).1 hx
     have := h x h3.2
     have := h3.1
     omega)
    have := List.length_pos_of_mem hm
    omega
  · have := nodup_len n hn (fun x hx => by
     have h1 := h x hx
     have : x ≠ n := fun e => hm (by rw [← e]; exact hx)
     omega)
    omega
theorem good_len {α : Type} {T : List α → α → Prop} {l : List α} {f : α → Int} {n : Nat} (h : Good T l) (hin : ∀ pre x, T pre x → 0 ≤ f x ∧ f x < n) (hd : ∀ pre x, T pre x → ∀ y ∈ pre, f y ≠ f x) : l.length ≤ n := by
 have h1 : (l.map fun x => (f x).toNat).Nodup := by
  rw [List.nodup_iff_pairwise_ne, List.pairwise_iff_getElem]
  intro i j hi hj hij
  simp only [List.length_map] at hi hj
  simp only [List.getElem_map]
  have ti := h i l[i] (List.getElem?_eq_getElem hi)
  have tj := h j l[j] (List.getElem?_eq_getElem hj)
  have := hd _ _ tj l[i] (List.mem_take_iff_getElem.2 ⟨i, by omega, rfl⟩)
  have := hin _ _ ti
  have := hin _ _ tj
  omega
 have := nodup_len n h1 (fun x hx => by
  obtain ⟨y, hy, rfl⟩ := List.mem_map.1 hx
  obtain ⟨i, hi⟩ := List.mem_iff_getElem?.1 hy
  have := hin _ _ (h i y hi)
  omega)
 simpa using this
mutual
def TextP : Pred → Prop
 | .mk _ _ l r args => l.value.text.size ≤ 64 ∧ r.value.text.size ≤ 64 ∧ TextPs args
def TextPs : List Pred → Prop
 | [] => True
 | p :: ps => TextP p ∧ TextPs ps
end
theorem opdB_max (o : OV) (h : o.value.text.size ≤ 64) : (opdB o).length ≤ 200 := by
 have h1 := numB_len [o.kind, o.index]
 have h2 := numB_len [o.value.kind]
 have h3 := numB_len [(o.value.text.size : Int)]
 have h4 := numB_len [o.value.int]
 have h5 : numB [o.value.int] = itoaB o.value.int ++ [32] := by unfold numB; rw [List.flatMap_cons, List.flatMap_nil, List.append_nil]
 rw [h5] at h4
 have h6 : o.value.text.data.toList.length = o.value.text.size := by rw [Array.length_toList]; rfl
 simp only [opdB, cellB, List.length_append, List.length_cons, List.length_nil] at *
 omega
mutual
theorem predB_len : ∀ p : Pred, TextP p → ((predB p).length : Int) ≤ 1000 * szF p
 | .mk op cmp l r args, h => by
  obtain ⟨h1, h2, h3⟩ := h
  have e1 := opdB_max l h1
  have e2 := opdB_max r h2
  have e3 := predBs_len args h3
  have e4 := numB_len [op, cmp]
  have e5 := numB_len [(args.length : Int)]
  simp only [predB, szF, List.length_append, List.length_cons, List.length_nil] at *
  omega
theorem predBs_len : ∀ ps : List Pred, TextPs ps → ((predBs ps).length : Int) ≤ 1000 * szFs ps
 | [], _ => by simp [predBs, szFs]
 | p :: ps, h => by
  have := predB_len p h.1
  have := predBs_len ps h.2
  simp only [predBs, szFs, List.length_append]
  omega
end
theorem text_nil {t : ByteArray} (h : t.toList = (⟨#[]⟩ : ByteArray).toList) : t.size ≤ 64 := by rw [bytes_ext h]; decide
theorem noText_max {t : ByteArray} (h : noText t = true) : t.size ≤ 64 := text_nil (by simp only [noText, beq_iff_eq] at h; rw [h, ByteArray.toList_eq])
theorem eqV_text {v : VV} (h : eqV v zeroV = true) : v.text.size ≤ 64 := by
 simp only [eqV, Bool.and_eq_true, beq_iff_eq] at h
 exact text_nil h.2.2.1
theorem eqO_text {o : OV} (h : eqO o zeroO = true) : o.value.text.size ≤ 64 := by
 simp only [eqO, Bool.and_eq_true, beq_iff_eq] at h
 exact eqV_text h.2.2.1
theorem validV_text {v : VV} (h : validV v = true) : v.text.size ≤ 64 := by
 unfold validV at h
 split at h
 · simp only [Bool.and_eq_true] at h; exact noText_max h.2
 · split at h
   · simp only [Bool.and_eq_true] at h; exact noText_max h.2
   · split at h
     · exact noText_max h
     · split at h
       · simp at h; omega
       · cases h
theorem atKind_text {o : OV} (h : atKind l o ≠ 0) : o.value.text.size ≤ 64 := by
 unfold atKind at h
 split at h
 · exact (h rfl).elim
 · rename_i h1
   simp only [Bool.or_eq_true, not_or, Bool.not_eq_true', Bool.not_eq_false] at h1
   exact eqV_text h1.2
theorem kindOf_text {cols params : List Int} {o : OV} (h : kindOf cols params o ≠ 0) : o.value.text.size ≤ 64 := by
 unfold kindOf at h
 split at h
 · split at h
   · exact (h rfl).elim
   · rename_i h1
     simp only [Bool.or_eq_true, not_or, Bool.not_eq_true', Bool.not_eq_false, realV, Bool.and_eq_true] at h1
     exact validV_text h1.2.1
 · split at h
   · exact atKind_text h
   · split at h
     · exact atKind_text h
     · exact (h rfl).elim
mutual
theorem validF_text {cols params : List Int} : ∀ p : Pred, validF cols params p = true → TextP p
 | .mk op cmp l r args, h => by
  unfold validF at h
  split at h
  · simp only [Bool.and_eq_true, plainF, beq_iff_eq] at h
    have : args = [] := List.eq_nil_of_length_eq_zero h.2
    subst this
    exact ⟨eqO_text h.1.1.2, eqO_text h.1.2, trivial⟩
  · split at h
    · simp only [Bool.and_eq_true, beq_iff_eq, bne_iff_ne, ne_eq, decide_eq_true_eq] at h
      have : args = [] := List.eq_nil_of_length_eq_zero h.1.1.1.1
      subst this
      exact ⟨kindOf_text h.1.2, kindOf_text (cols := cols) (params := params) (by rw [← h.2]; exact h.1.2), trivial⟩
    · split at h
      · simp only [Bool.and_eq_true, plainF] at h
        exact ⟨eqO_text h.1.1.2, eqO_text h.1.2, validFs_text args h.2⟩
      · cases h
theorem validFs_text {cols params : List Int} : ∀ ps : List Pred, validFs cols params ps = true → TextPs ps
 | [], _ => trivial
 | p :: ps, h => by
  simp only [validFs, Bool.and_eq_true] at h
  exact ⟨validF_text p h.1, validFs_text ps h.2⟩
end
theorem pred_key {cols params : List Int} (h : predErr cols params p = 0) : (predB p).length ≤ 1000000000 := by
 unfold predErr at h
 split at h
 · cases h
 · split at h
   · cases h
   · rename_i h1
     split at h
     · cases h
     · rename_i h2
       have hv : validF cols params p = true := by simpa using h2
       have hl := predB_len p (validF_text p hv)
       simp only [Bool.or_eq_true, not_or, decide_eq_true_eq] at h1
       have h3 := nodesF_eq p 0 (by omega)
       have : szF p ≤ 24 := by
        by_cases h4 : (0 : Int) + szF p ≤ 24
        · omega
        · have := h3.2 (by omega); omega
       omega
theorem zero_key : (predB zeroP).length ≤ 1000000000 := by
 have := predB_len zeroP ⟨by decide, by decide, trivial⟩
 have e : szF zeroP = 1 := rfl
 omega
theorem kindsQs_lens {s : Sch} {ps : List Int} : ∀ (qs : List Query), ∀ k ∈ (kindsQs s ps qs).1, k.length ≤ 12
 | [], k, h => by simp [kindsQs] at h
 | q :: qs, k, h => by
  simp only [kindsQs] at h
  split at h
  · split at h
    · simp only [List.mem_cons] at h
      rcases h with rfl | h
      · exact kindsQ_len s ps q
      · exact kindsQs_lens qs k h
    · simp at h
  · simp at h
theorem getD_len (h : ∀ k ∈ ks, k.length ≤ 12) (j : Nat) : (ks.getD j []).length ≤ 12 := by
 rw [List.getD_eq_getElem?_getD]
 cases e : ks[j]? with
 | none => simp
 | some k => exact h k (List.mem_of_getElem? e)
theorem kindsQs_parts {s : Sch} {ps : List Int} : ∀ {qs : List Query} {ks : List (List Int)}, kindsQs s ps qs = (ks, 0) → ks.length = qs.length ∧ ∀ q ∈ qs, (kindsQ s ps q).2 = 0
 | [], ks, h => by simp [kindsQs] at h; subst h; simp
 | q :: qs, ks, h => by
  simp only [kindsQs] at h
  split at h
  · rename_i h1
    split at h
    · rename_i h2
      have e : kindsQs s ps qs = ((kindsQs s ps qs).1, 0) := Prod.ext rfl h2
      obtain ⟨h3, h4⟩ := kindsQs_parts e
      simp only [Prod.mk.injEq] at h
      rw [← h.1]
      refine ⟨by simp [h3], fun x hx => ?_⟩
      rcases List.mem_cons.1 hx with rfl | hx
      · exact h1
      · exact h4 x hx
    · rename_i h2; simp at h; exact (h2 h.2).elim
  · rename_i h1; simp at h; exact (h1 h.2).elim
theorem kindsQ_parts {op : Int} {on : List (Int × Int)} {args : List Query} (h : (kindsQ s ps (.mk op ta w co on gr od li args)).2 = 0) :
 (∀ a ∈ args, (kindsQ s ps a).2 = 0) ∧ (args.length : Int) = arity op ∧ ∃ a b, a.length ≤ 12 ∧ b.length ≤ 12 ∧ (nodeR s ps (.mk op ta w co on gr od li args) a b).2 = 0 := by
 simp only [kindsQ] at h
 split at h
 · rename_i h1
   have e : kindsQs s ps args = ((kindsQs s ps args).1, 0) := Prod.ext rfl h1
   obtain ⟨h3, h4⟩ := kindsQs_parts e
   split at h
   · rename_i h2
     refine ⟨h4, by rw [← h3]; exact h2, _, _, ?_, ?_, h⟩
     · exact getD_len (kindsQs_lens args) 0
     · exact getD_len (kindsQs_lens args) 1
   · simp [errK] at h
 · rename_i h1; simp [errK] at h; exact (h1 h).elim
theorem node_key {op : Int} {on : List (Int × Int)} {args : List Query} {b : List Int} (ha : a.length ≤ 12) (h : (nodeR s ps (.mk op ta w co on gr od li args) a b).2 = 0) :
 KeyOk ⟨op, ta, w, co, on, gr, od, li, 0, 0⟩ := by
 unfold nodeR at h
 dsimp only at h
 split at h
 · simp [errK] at h
 · rename_i h0
   rw [not_or] at h0
   have hu : UnusedOk (.mk op ta w co on gr od li args) := Classical.not_not.1 h0.2
   obtain ⟨_, u2, u3, u4, u5⟩ := hu
   have lim : ∀ l : List Int, (limK l).2 = 0 → l.length ≤ 12 := fun l e => by
    unfold limK at e
    split at e
    · assumption
    · cases e
   have p1 : (predB w).length ≤ 1000000000 := by
    rcases u2 with rfl | rfl
    · simp only [show ¬ ((2 : Int) = 1) by decide, if_false, if_true] at h
      split at h
      · rename_i e; exact pred_key e
      · rename_i e; simp [errK] at h; exact (e h).elim
    · exact zero_key
   have p2 : co.length ≤ 1000000000 := by
    rcases u3 with rfl | rfl
    · simp only [show ¬ ((3 : Int) = 1) by decide, show ¬ ((3 : Int) = 2) by decide, if_false, if_true] at h
      split at h
      · have := lim _ h; simp at this; omega
      · simp [errK] at h
    · simp
   have p3 : on.length ≤ 1000000000 := by
    have pig : Good (PairT a b) on → on.length ≤ 1000000000 := fun g => by
     have := good_len (f := fun p => p.1) (n := a.length) g (fun pre x t => by have := t.1; rw [inL_iff] at this; exact this) (fun pre x t y hy => (t.2.2.2 y hy).1)
     omega
    rcases u4 with rfl | rfl | rfl
    · simp only [show ¬ ((4 : Int) = 1) by decide, show ¬ ((4 : Int) = 2) by decide, show ¬ ((4 : Int) = 3) by decide, if_false, if_true] at h
      split at h
      · rename_i e; exact pig e
      · simp [errK] at h
    · simp only [show ¬ ((5 : Int) = 1) by decide, show ¬ ((5 : Int) = 2) by decide, show ¬ ((5 : Int) = 3) by decide, show ¬ ((5 : Int) = 4) by decide, if_false, if_true] at h
      split at h
      · rename_i e; exact pig e
      · simp [errK] at h
    · simp
   have p4 : gr.length ≤ 1000000000 ∧ od.length ≤ 1000000000 := by
    have pig : RankOk a gr od li → gr.length ≤ 1000000000 ∧ od.length ≤ 1000000000 := fun r => by
     have := good_len (f := fun p => p) (n := a.length) r.group_ (fun pre x t => by have := t.1; rw [inL_iff] at this; exact this) (fun pre x t y hy e => t.2 (by rw [← e]; exact hy))
     have := r.len_
     omega
    rcases u5 with rfl | rfl | ⟨rfl, rfl, _⟩
    · simp only [show ¬ ((9 : Int) = 1) by decide, show ¬ ((9 : Int) = 2) by decide, show ¬ ((9 : Int) = 3) by decide, show ¬ ((9 : Int) = 4) by decide, show ¬ ((9 : Int) = 5) by decide, if_false, if_true] at h
      split at h
      · rename_i e; exact pig e
      · simp [errK] at h
    · simp only [show ¬ ((10 : Int) = 1) by decide, show ¬ ((10 : Int) = 2) by decide, show ¬ ((10 : Int) = 3) by decide, show ¬ ((10 : Int) = 4) by decide, show ¬ ((10 : Int) = 5) by decide, show ¬ ((10 : Int) = 9) by decide, if_false, if_true] at h
      split at h
      · rename_i e; exact pig e.2
      · simp [errK] at h
    · simp
   exact ⟨p1, p2, p3, p4.1, p4.2⟩
theorem kinds_key {s : Sch} {ps : List Int} : ∀ q : Query, (kindsQ s ps q).2 = 0 → QKeyOk q ∧ ArOk q
 | .mk op ta w co on gr od li args, h => by
  obtain ⟨h1, h2, a, b, ha, _, h3⟩ := kindsQ_parts h
  rw [qkey_iff, arOk_iff]
  exact ⟨⟨node_key ha h3, fun q hq => (kinds_key q (h1 q hq)).1⟩, h2, fun q hq => (kinds_key q (h1 q hq)).2⟩
theorem query_kinds (h : (queryR s ps q).2 = 0) : schErr s = 0 ∧ ps.all colKind = true ∧ smallQ q = true ∧ (kindsQ s ps q).2 = 0 := by
 unfold queryR at h
 split at h
 · rename_i h1
   split at h
   · rename_i h2
     split at h
     · rename_i h3; exact ⟨h1, h2, h3, h⟩
     · simp [errK] at h
   · simp [errK] at h
 · rename_i h1; simp [errK] at h; exact (h1 h).elim
theorem query_key (h : (queryR s ps q).2 = 0) : QKeyOk q := (kinds_key q (query_kinds h).2.2.2).1
theorem dec_mem : ∀ (u : Nat) (b : UInt8), b ∈ Lib.decDigits u → 48 ≤ b.toNat ∧ b.toNat ≤ 57 := by
 intro u
 induction u using Nat.strongRecOn with
 | _ u ih =>
  intro b hb
  rw [Lib.decDigits] at hb
  have one : ∀ k, k < 10 → 48 ≤ (UInt8.ofNat (48 + k)).toNat ∧ (UInt8.ofNat (48 + k)).toNat ≤ 57 := fun k hk => by
   rw [UInt8.toNat_ofNat']; omega
  split at hb
  · rename_i h
    rw [List.mem_singleton] at hb; subst hb; exact one u h
  · rcases List.mem_append.1 hb with h1 | h1
    · exact ih (u / 10) (by omega) b h1
    · rw [List.mem_singleton] at h1; subst h1; exact one (u % 10) (by omega)
theorem dec_inj : ∀ (u v : Nat), Lib.decDigits u = Lib.decDigits v → u = v := by
 intro u
 induction u using Nat.strongRecOn with
 | _ u ih =>
  intro v h
  have hl := congrArg List.length h
  rw [Lib.decDigits_length, Lib.decDigits_length] at hl
  have one : ∀ a b, a < 10 → b < 10 → UInt8.ofNat (48 + a) = UInt8.ofNat (48 + b) → a = b := fun a b ha hb e => by
   have := congrArg UInt8.toNat e
   rw [UInt8.toNat_ofNat', UInt8.toNat_ofNat'] at this
   omega
  by_cases hu : u < 10
  · have hv : v < 10 := by
     apply Classical.byContradiction
     intro hv
     rw [Lib.nDigits_small hu, Lib.nDigits_big hv] at hl
     have := Lib.nDigits_pos (v / 10)
     omega
    rw [Lib.decDigits.eq_def u, Lib.decDigits.eq_def v, dif_pos hu, dif_pos hv] at h
    simp only [List.cons.injEq, and_true] at h
    exact one u v hu hv h
  · have hv : ¬ v < 10 := fun hv => by
     rw [Lib.nDigits_small hv, Lib.nDigits_big hu] at hl
     have := Lib.nDigits_pos (u / 10)
     omega
    rw [Lib.decDigits.eq_def u, Lib.decDigits.eq_def v, dif_neg hu, dif_neg hv] at h
    have h2 := List.append_inj' h rfl
    have h3 := ih (u / 10) (by omega) (v / 10) h2.1
    simp only [List.cons.injEq, and_true] at h2
    have h4 := one (u % 10) (v % 10) (by omega) (by omega) h2.2
    omega
theorem wrapU_pos {n : Int} (h0 : 0 ≤ n) (h1 : n < 18446744073709551616) : IntKind.u64.wrap n = n := by
 rw [IntKind.wrap_u64]; omega
theorem wrapU_neg {n : Int} (h0 : n < 0) (h1 : -9223372036854775808 ≤ n) : IntKind.u64.wrap (0 - IntKind.u64.wrap n) = -n := by
 rw [IntKind.wrap_u64, IntKind.wrap_u64]; omega
theorem itoaB_pos {n : Int} (h : I64 n) (h0 : 0 ≤ n) : itoaB n = Lib.decDigits n.toNat := by
 unfold itoaB
 rw [if_neg (by omega), wrapU_pos h0 (by have := h.2; omega)]
theorem itoaB_neg {n : Int} (h : I64 n) (h0 : n < 0) : itoaB n = 45 :: Lib.decDigits (-n).toNat := by
 unfold itoaB
 rw [if_pos h0, wrapU_neg h0 h.1]
theorem itoaB_mem {n : Int} (h : I64 n) {b : UInt8} (hb : b ∈ itoaB n) : b ≠ 32 := by
 intro e
 subst e
 by_cases h0 : 0 ≤ n
 · rw [itoaB_pos h h0] at hb
   have := dec_mem _ _ hb
   simp at this
 · rw [itoaB_neg h (by omega)] at hb
   rcases List.mem_cons.1 hb with h1 | h1
   · cases h1
   · have := dec_mem _ _ h1
     simp at this
theorem itoaB_inj {m n : Int} (hm : I64 m) (hn : I64 n) (h : itoaB m = itoaB n) : m = n := by
 have no45 : ∀ u r, Lib.decDigits u = 45 :: r → False := fun u r e => by
  have := dec_mem u 45 (by rw [e]; simp)
  simp at this
 by_cases h0 : 0 ≤ m <;> by_cases h1 : 0 ≤ n
 · rw [itoaB_pos hm h0, itoaB_pos hn h1] at h
   have := dec_inj _ _ h
   omega
 · rw [itoaB_pos hm h0, itoaB_neg hn (by omega)] at h
   exact (no45 _ _ h).elim
 · rw [itoaB_neg hm (by omega), itoaB_pos hn h1] at h
   exact (no45 _ _ h.symm).elim
 · rw [itoaB_neg hm (by omega), itoaB_neg hn (by omega)] at h
   have := dec_inj _ _ (List.cons.inj h).2
   omega
theorem split_at {α : Type} {x : α} : ∀ {a b r r' : List α}, x ∉ a → x ∉ b → a ++ x :: r = b ++ x :: r' → a = b ∧ r = r'
 | [], [], r, r', _, _, h => ⟨rfl, (List.cons.inj h).2⟩
 | [], c :: b, r, r', _, hb, h => by
  have := (List.cons.inj h).1
  exact (hb (by rw [this]; simp)).elim
 | c :: a, [], r, r', ha, _, h => by
  have := (List.cons.inj h).1
  exact (ha (by rw [← this]; simp)).elim
 | c :: a, d :: b, r, r', ha, hb, h => by
  have h1 := List.cons.inj h
  obtain ⟨e1, e2⟩ := split_at (fun m => ha (by simp [m])) (fun m => hb (by simp [m])) h1.2
  exact ⟨by rw [h1.1, e1], e2⟩
theorem numB_cons (n : Int) (l : List Int) : numB (n :: l) = itoaB n ++ 32 :: numB l := by unfold numB; rw [List.flatMap_cons, List.append_assoc]; rfl
theorem num_split {m n : Int} {r r' : List UInt8} (hm : I64 m) (hn : I64 n) (h : itoaB m ++ 32 :: r = itoaB n ++ 32 :: r') : m = n ∧ r = r' := by
 obtain ⟨h1, h2⟩ := split_at (fun hb => itoaB_mem hm hb rfl) (fun hb => itoaB_mem hn hb rfl) h
 exact ⟨itoaB_inj hm hn h1, h2⟩
theorem itoa_ne (n : Int) (r : List UInt8) : itoaB n ++ 32 :: r ≠ [] := by simp
theorem numB_inj : ∀ {l l' : List Int}, (∀ n ∈ l, I64 n) → (∀ n ∈ l', I64 n) → numB l = numB l' → l = l'
 | [], [], _, _, _ => rfl
 | [], n :: l', _, _, h => by rw [numB_cons] at h; exact (itoa_ne _ _ h.symm).elim
 | n :: l, [], _, _, h => by rw [numB_cons] at h; exact (itoa_ne _ _ h).elim
 | n :: l, n' :: l', h1, h2, h => by
  rw [numB_cons, numB_cons] at h
  obtain ⟨e1, e2⟩ := num_split (h1 n (by simp)) (h2 n' (by simp)) h
  rw [e1, numB_inj (fun x hx => h1 x (by simp [hx])) (fun x hx => h2 x (by simp [hx])) e2]
theorem pairsB_cons (p : Int × Int) (l : List (Int × Int)) : pairsB (p :: l) = itoaB p.1 ++ 32 :: (itoaB p.2 ++ 32 :: pairsB l) := by
 show numB [p.1, p.2] ++ pairsB l = _
 rw [numB_cons, numB_cons, List.append_assoc, List.cons_append, List.append_assoc]; rfl
theorem sortsB_cons (p : Int × Bool) (l : List (Int × Bool)) : sortsB (p :: l) = itoaB p.1 ++ 32 :: (itoaB (if p.2 then 1 else 0) ++ 32 :: sortsB l) := by
 show numB [p.1, if p.2 then 1 else 0] ++ sortsB l = _
 rw [numB_cons, numB_cons, List.append_assoc, List.cons_append, List.append_assoc]; rfl
theorem pairsB_inj : ∀ {l l' : List (Int × Int)}, (∀ p ∈ l, I64 p.1 ∧ I64 p.2) → (∀ p ∈ l', I64 p.1 ∧ I64 p.2) → pairsB l = pairsB l' → l = l'
 | [], [], _, _, _ => rfl
 | [], p :: l', _, _, h => by rw [pairsB_cons] at h; exact (itoa_ne _ _ h.symm).elim
 | p :: l, [], _, _, h => by rw [pairsB_cons] at h; exact (itoa_ne _ _ h).elim
 | p :: l, p' :: l', h1, h2, h => by
  rw [pairsB_cons, pairsB_cons] at h
  obtain ⟨e1, e2⟩ := num_split (h1 p (by simp)).1 (h2 p' (by simp)).1 h
  obtain ⟨e3, e4⟩ := num_split (h1 p (by simp)).2 (h2 p' (by simp)).2 e2
  rw [Prod.ext e1 e3, pairsB_inj (fun x hx => h1 x (by simp [hx])) (fun x hx => h2 x (by simp [hx])) e4]
theorem sortsB_inj : ∀ {l l' : List (Int × Bool)}, (∀ p ∈ l, I64 p.1) → (∀ p ∈ l', I64 p.1) → sortsB l = sortsB l' → l = l'
 | [], [], _, _, _ => rfl
 | [], p :: l', _, _, h => by rw [sortsB_cons] at h; exact (itoa_ne _ _ h.symm).elim
 | p :: l, [], _, _, h => by rw [sortsB_cons] at h; exact (itoa_ne _ _ h).elim
 | p :: l, p' :: l', h1, h2, h => by
  have ib : ∀ b : Bool, I64 (if b = true then (1 : Int) else 0) := fun b => by cases b <;> exact ⟨by decide, by decide⟩
  rw [sortsB_cons, sortsB_cons] at h
  obtain ⟨e1, e2⟩ := num_split (h1 p (by simp)) (h2 p' (by simp)) h
  obtain ⟨e3, e4⟩ := num_split (ib p.2) (ib p'.2) e2
  have e5 : p.2 = p'.2 := by cases h5 : p.2 <;> cases h6 : p'.2 <;> simp_all
  rw [Prod.ext e1 e5, sortsB_inj (fun x hx => h1 x (by simp [hx])) (fun x hx => h2 x (by simp [hx])) e4]
structure OpdI (o : OV) : Prop where
 kind_ : I64 o.kind
 index_ : I64 o.index
 vkind_ : I64 o.value.kind
 int_ : I64 o.value.int
 text_ : o.value.text.size ≤ 64
mutual
def PredI : Pred → Prop
 | .mk op cmp l r args => I64 op ∧ I64 cmp ∧ OpdI l ∧ OpdI r ∧ args.length ≤ 1000000 ∧ PredIs args
def PredIs : List Pred → Prop
 | [] => True
 | p :: ps => PredI p ∧ PredIs ps
end
theorem i64_nat {n : Nat} (h : n ≤ 1000000) : I64 (n : Int) := ⟨by omega, by omega⟩
theorem opdB_split {o o' : OV} {r r' : List UInt8} (h1 : OpdI o) (h2 : OpdI o') (h : opdB o ++ r = opdB o' ++ r') : o = o' ∧ r = r' := by
 have e0 : numB [] = [] := rfl
 simp only [opdB, cellB, numB_cons, e0, List.append_assoc, List.cons_append, List.nil_append] at h
 obtain ⟨a1, h⟩ := num_split h1.kind_ h2.kind_ h
 obtain ⟨a2, h⟩ := num_split h1.index_ h2.index_ h
 obtain ⟨a3, h⟩ := num_split h1.vkind_ h2.vkind_ h
 obtain ⟨a4, h⟩ := num_split h1.int_ h2.int_ h
 obtain ⟨a5, h⟩ := num_split (i64_nat (by have := h1.text_; omega)) (i64_nat (by have := h2.text_; omega)) h
 have a5 : o.value.text.size = o'.value.text.size := by omega
 obtain ⟨a6, a7⟩ := List.append_inj h (by rw [Array.length_toList, Array.length_toList]; exact a5)
 refine ⟨?_, a7⟩
 obtain ⟨k, i, ⟨vk, vi, vt⟩⟩ := o
 obtain ⟨k', i', ⟨vk', vi', vt'⟩⟩ := o'
 obtain ⟨vt⟩ := vt
 obtain ⟨vt'⟩ := vt'
 simp only at a1 a2 a3 a4 a6
 have a6 : vt = vt' := Array.toList_inj.1 a6
 subst a1 a2 a3 a4 a6
 rfl
mutual
theorem predB_split : ∀ {p p' : Pred} {r r' : List UInt8}, PredI p → PredI p' → predB p ++ r = predB p' ++ r' → p = p' ∧ r = r'
 | .mk op cmp l rr args, .mk op' cmp' l' rr' args', r, r', h1, h2, h => by
  obtain ⟨p1, p2, p3, p4, p5, p6⟩ := h1
  obtain ⟨q1, q2, q3, q4, q5, q6⟩ := h2
  have e0 : numB [] = [] := rfl
  simp only [predB, numB_cons, e0, List.append_assoc, List.cons_append, List.nil_append] at h
  obtain ⟨a1, h⟩ := num_split p1 q1 h
  obtain ⟨a2, h⟩ := num_split p2 q2 h
  obtain ⟨a3, h⟩ := opdB_split p3 q3 h
  obtain ⟨a4, h⟩ := opdB_split p4 q4 h
  obtain ⟨a5, h⟩ := num_split (i64_nat p5) (i64_nat q5) h
  obtain ⟨a6, hr⟩ := predBs_split p6 q6 (by omega) h
  subst a1 a2 a3 a4 a6
  exact ⟨rfl, hr⟩
theorem predBs_split : ∀ {ps ps' : List Pred} {r r' : List UInt8}, PredIs ps → PredIs ps' → ps.length = ps'.length → predBs ps ++ r = predBs ps' ++ r' → ps = ps' ∧ r = r'
 | [], [], r, r', _, _, _, h => ⟨rfl, by simpa [predBs] using h⟩
 | [], _ :: _, _, _, _, _, hl, _ => by simp at hl
 | _ :: _, [], _, _, _, _, hl, _ => by simp at hl
 | p :: ps, p' :: ps', r, r', h1, h2, hl, h => by
  simp only [predBs, List.append_assoc] at h
  obtain ⟨a1, h⟩ := predB_split h1.1 h2.1 h
  obtain ⟨a2, hr⟩ := predBs_split h1.2 h2.2 (by simpa using hl) h
  subst a1 a2
  exact ⟨rfl, hr⟩
end
structure StepI (t : Step) : Prop where
 wher : PredI t.wher
 cols : ∀ n ∈ t.columns, I64 n
 on_ : ∀ p ∈ t.on, I64 p.1 ∧ I64 p.2
 group_ : ∀ n ∈ t.group, I64 n
 order_ : ∀ p ∈ t.order, I64 p.1
theorem key_inj {x : Step} (hx : StepI x) (ht : StepI t) (h : keyOf x = keyOf t) : x = t := by
 obtain ⟨op, ta, w, co, on, gr, od, li, le, ri⟩ := x
 obtain ⟨op', ta', w', co', on', gr', od', li', le', ri'⟩ := t
 simp only [keyOf, KV.mk.injEq, ByteArray.mk.injEq] at h
 obtain ⟨h1, h2, h3, h4, h5, h6, h7, h8, h9, h10⟩ := h
 have tol : ∀ {a b : List UInt8}, a.toArray = b.toArray → a = b := fun e => by simpa using e
 have e6 := (predB_split (r := []) (r' := []) hx.wher ht.wher (by simpa using tol h6)).1
 have e7 := numB_inj hx.cols ht.cols (tol h7)
 have e8 := pairsB_inj hx.on_ ht.on_ (tol h8)
 have e9 := numB_inj hx.group_ ht.group_ (tol h9)
 have e10 := sortsB_inj hx.order_ ht.order_ (tol h10)
 simp only at e6 e7 e8 e9 e10
 subst h1 h2 h3 h4 h5 e6 e7 e8 e9 e10
 rfl
theorem i64_small {n : Int} (h0 : -1000000 ≤ n) (h1 : n ≤ 1000000) : I64 n := ⟨by omega, by omega⟩
theorem i64_0 : I64 0 := ⟨by decide, by decide⟩
theorem opdI_zero : OpdI zeroO := ⟨i64_0, i64_0, i64_0, i64_0, by decide⟩
theorem eqV_zero {v : VV} (h : eqV v zeroV = true) : v = zeroV := eqV_iff.1 h
theorem atKind_I {o : OV} (h : atKind l o ≠ 0) (hl : l.length ≤ 1000000) (hk : I64 o.kind) : OpdI o := by
 unfold atKind at h
 split at h
 · exact (h rfl).elim
 · rename_i h1
   simp only [Bool.or_eq_true, not_or, Bool.not_eq_true', Bool.not_eq_false, decide_eq_true_eq] at h1
   have e := eqV_zero h1.2
   refine ⟨hk, i64_small (by omega) (by omega), ?_, ?_, ?_⟩
   all_goals rw [e]
   · exact opdI_zero.vkind_
   · exact opdI_zero.int_
   · exact opdI_zero.text_
theorem kindOf_I {cols params : List Int} {o : OV} (h : kindOf cols params o ≠ 0) (hc : cols.length ≤ 1000000) (hp : params.length ≤ 1000000) (hv : ValW o.value) : OpdI o := by
 unfold kindOf at h
 split at h
 · rename_i hk
   have hk : o.kind = 3 := by simpa using hk
   split at h
   · exact (h rfl).elim
   · rename_i h1
     simp only [Bool.or_eq_true, not_or, Bool.not_eq_true', Bool.not_eq_false, bne_iff_ne, ne_eq, Classical.not_not, realV, Bool.and_eq_true, decide_eq_true_eq] at h1
     refine ⟨i64_small (by omega) (by omega), i64_small (by omega) (by omega), ?_, hv.int_, hv.text_⟩
     have h2 := h1.2.1
     unfold validV at h2
     split at h2
     · rename_i e; simp at e; exact i64_small (by omega) (by omega)
     · split at h2
       · rename_i e; simp at e; exact i64_small (by omega) (by omega)
       · split at h2
         · rename_i e; simp at e; exact i64_small (by omega) (by omega)
         · split at h2
           · rename_i e; simp at e; exact i64_small (by omega) (by omega)
           · cases h2
 · split at h
   · rename_i hk; simp at hk; exact atKind_I h hp (i64_small (by omega) (by omega))
   · split at h
     · rename_i hk; simp at hk; exact atKind_I h hc (i64_small (by omega) (by omega))
     · exact (h rfl).elim
theorem szFs_len : ∀ ps : List Pred, (ps.length : Int) ≤ szFs ps
 | [] => by simp [szFs]
 | p :: ps => by
  have := szFs_len ps
  have : 1 ≤ szF p := by cases p; rename_i a; have := szFs_len a; simp only [szF]; omega
  simp only [szFs, List.length_cons]; omega
theorem szF_one (p : Pred) : 1 ≤ szF p := by cases p; rename_i a; have := szFs_len a; simp only [szF]; omega
mutual
theorem validF_I {cols params : List Int} (hc : cols.length ≤ 1000000) (hp : params.length ≤ 1000000) : ∀ p : Pred, validF cols params p = true → PredW p → szF p ≤ 1000 → PredI p
 | .mk op cmp l r args, h, w, hs => by
  have hl := szFs_len args
  simp only [szF] at hs
  unfold validF at h
  split at h
  · rename_i e
    simp only [Bool.and_eq_true, plainF, beq_iff_eq] at h
    have : args = [] := List.eq_nil_of_length_eq_zero h.2
    subst this
    have e1 := eqO_iff.1 h.1.1.2
    have e2 := eqO_iff.1 h.1.2
    subst e1 e2
    have ho : op = 1 ∨ op = 2 := by simpa using e
    exact ⟨i64_small (by omega) (by omega), by rw [h.1.1.1]; exact i64_0, opdI_zero, opdI_zero, by simp, trivial⟩
  · split at h
    · rename_i e
      simp only [Bool.and_eq_true, beq_iff_eq, bne_iff_ne, ne_eq, decide_eq_true_eq] at h
      have : args = [] := List.eq_nil_of_length_eq_zero h.1.1.1.1
      subst this
      have ho : op = 3 := by simpa using e
      exact ⟨i64_small (by omega) (by omega), i64_small (by omega) (by omega), kindOf_I h.1.2 hc hp w.1, kindOf_I (cols := cols) (params := params) (by rw [← h.2]; exact h.1.2) hc hp w.2.1, by simp, trivial⟩
    · split at h
      · rename_i e
        simp only [Bool.and_eq_true, plainF, beq_iff_eq] at h
        have e1 := eqO_iff.1 h.1.1.2
        have e2 := eqO_iff.1 h.1.2
        subst e1 e2
        have ho : op = 4 ∨ op = 5 ∨ op = 6 := by
         simp only [Bool.or_eq_true, Bool.and_eq_true, beq_iff_eq] at e
         omega
        exact ⟨i64_small (by omega) (by omega), by rw [h.1.1.1]; exact i64_0, opdI_zero, opdI_zero, by omega, validFs_I hc hp args h.2 w.2.2 (by omega)⟩
      · cases h
theorem validFs_I {cols params : List Int} (hc : cols.length ≤ 1000000) (hp : params.length ≤ 1000000) : ∀ ps : List Pred, validFs cols params ps = true → PredWs ps → szFs ps ≤ 1000 → PredIs ps
 | [], _, _, _ => trivial
 | p :: ps, h, w, hs => by
  simp only [validFs, Bool.and_eq_true] at h
  have h1 := szF_one p
  have h2 := szFs_len ps
  simp only [szFs] at hs
  exact ⟨validF_I hc hp p h.1 w.1 (by omega), validFs_I hc hp ps h.2 w.2 (by omega)⟩
end
theorem pred_I {cols params : List Int} (h : predErr cols params p = 0) (hc : cols.length ≤ 1000000) (hp : params.length ≤ 1000000) (w : PredW p) : PredI p := by
 unfold predErr at h
 split at h
 · cases h
 · split at h
   · cases h
   · rename_i h1
     split at h
     · cases h
     · rename_i h2
       have hv : validF cols params p = true := by simpa using h2
       simp only [Bool.or_eq_true, not_or, decide_eq_true_eq] at h1
       have h3 := nodesF_eq p 0 (by omega)
       have : szF p ≤ 24 := by
        by_cases h4 : (0 : Int) + szF p ≤ 24
        · omega
        · have := h3.2 (by omega); omega
       exact validF_I hc hp p hv w (by omega)
theorem zero_I : PredI zeroP := ⟨i64_0, i64_0, opdI_zero, opdI_zero, by decide, trivial⟩
def NodeI : Query → Prop
 | .mk _ _ w co on gr od _ _ => PredI w ∧ (∀ n ∈ co, I64 n) ∧ (∀ p ∈ on, I64 p.1 ∧ I64 p.2) ∧ (∀ n ∈ gr, I64 n) ∧ ∀ p ∈ od, I64 p.1
def QI (q : Query) : Prop :=
 match q with
 | .mk op ta w co on gr od li args => NodeI (.mk op ta w co on gr od li []) ∧ ∀ a ∈ args, QI a
 termination_by SizeOf.sizeOf q
theorem qi_iff {op : Int} {on : List (Int × Int)} {args : List Query} :
 QI (.mk op ta w co on gr od li args) ↔ NodeI (.mk op ta w co on gr od li []) ∧ ∀ a ∈ args, QI a := by rw [QI.eq_def]
theorem good_mem {α : Type} {T : List α → α → Prop} {l : List α} {P : α → Prop} (h : Good T l) (hT : ∀ pre x, T pre x → P x) : ∀ x ∈ l, P x := fun x hx => by
 obtain ⟨j, hj⟩ := List.mem_iff_getElem?.1 hx
 exact hT _ _ (h j x hj)
theorem inL_I {n : Int} (hl : l.length ≤ 1000) (h : inL l n = true) : I64 n := by
 have := inL_iff.1 h
 exact i64_small (by omega) (by omega)
theorem node_I {op : Int} {on : List (Int × Int)} {args : List Query} {b : List Int} (ha : a.length ≤ 12) (hb : b.length ≤ 12) (hps : ps.length ≤ 1000) (hw : PredW w) (h : (nodeR s ps (.mk op ta w co on gr od li args) a b).2 = 0) :
 NodeI (.mk op ta w co on gr od li []) := by
 unfold nodeR at h
 dsimp only at h
 split at h
 · simp [errK] at h
 · rename_i h0
   rw [not_or] at h0
   have hu : UnusedOk (.mk op ta w co on gr od li args) := Classical.not_not.1 h0.2
   obtain ⟨_, u2, u3, u4, u5⟩ := hu
   have p1 : PredI w := by
    rcases u2 with rfl | rfl
    · simp only [show ¬ ((2 : Int) = 1) by decide, if_false, if_true] at h
      split at h
      · rename_i e; exact pred_I e (by omega) (by omega) hw
      · rename_i e; simp [errK] at h; exact (e h).elim
    · exact zero_I
   have p2 : ∀ n ∈ co, I64 n := by
    rcases u3 with rfl | rfl
    · simp only [show ¬ ((3 : Int) = 1) by decide, show ¬ ((3 : Int) = 2) by decide, if_false, if_true] at h
      split at h
      · rename_i e; exact good_mem e.2 fun pre x t => inL_I (by omega) t
      · simp [errK] at h
    · intro n hn; cases hn
   have p3 : ∀ p ∈ on, I64 p.1 ∧ I64 p.2 := by
    have pig : Good (PairT a b) on → ∀ p ∈ on, I64 p.1 ∧ I64 p.2 := fun g => good_mem g fun pre x t => ⟨inL_I (by omega) t.1, inL_I (by omega) t.2.1⟩
    rcases u4 with rfl | rfl | rfl
    · simp only [show ¬ ((4 : Int) = 1) by decide, show ¬ ((4 : Int) = 2) by decide, show ¬ ((4 : Int) = 3) by decide, if_false, if_true] at h
      split at h
      · rename_i e; exact pig e
      · simp [errK] at h
    · simp only [show ¬ ((5 : Int) = 1) by decide, show ¬ ((5 : Int) = 2) by decide, show ¬ ((5 : Int) = 3) by decide, show ¬ ((5 : Int) = 4) by decide, if_false, if_true] at h
      split at h
      · rename_i e; exact pig e
      · simp [errK] at h
    · intro n hn; cases hn
   have p4 : (∀ n ∈ gr, I64 n) ∧ ∀ p ∈ od, I64 p.1 := by
    have pig : RankOk a gr od li → (∀ n ∈ gr, I64 n) ∧ ∀ p ∈ od, I64 p.1 := fun r => ⟨good_mem r.group_ fun pre x t => inL_I (by omega) t.1, good_mem r.order_ fun pre x t => inL_I (by omega) t⟩
    rcases u5 with rfl | rfl | ⟨rfl, rfl, _⟩
    · simp only [show ¬ ((9 : Int) = 1) by decide, show ¬ ((9 : Int) = 2) by decide, show ¬ ((9 : Int) = 3) by decide, show ¬ ((9 : Int) = 4) by decide, show ¬ ((9 : Int) = 5) by decide, if_false, if_true] at h
      split at h
      · rename_i e; exact pig e
      · simp [errK] at h
    · simp only [show ¬ ((10 : Int) = 1) by decide, show ¬ ((10 : Int) = 2) by decide, show ¬ ((10 : Int) = 3) by decide, show ¬ ((10 : Int) = 4) by decide, show ¬ ((10 : Int) = 5) by decide, show ¬ ((10 : Int) = 9) by decide, if_false, if_true] at h
      split at h
      · rename_i e; exact pig e.2
      · simp [errK] at h
    · exact ⟨fun n hn => (by cases hn), fun n hn => (by cases hn)⟩
   exact ⟨p1, p2, p3, p4.1, p4.2⟩
theorem kinds_I {s : Sch} {ps : List Int} (hps : ps.length ≤ 1000) : ∀ q : Query, (kindsQ s ps q).2 = 0 → QW q → QI q
 | .mk op ta w co on gr od li args, h, hw => by
  obtain ⟨h1, h2, a, b, ha, hb, h3⟩ := kindsQ_parts h
  rw [qw_iff] at hw
  rw [qi_iff]
  exact ⟨node_I ha hb hps hw.1 h3, fun q hq => kinds_I hps q (h1 q hq) (hw.2 q hq)⟩
end
end Go.Ps
