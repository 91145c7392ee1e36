/-
  Part 8 of a proof that a law of the given program returns true: a condition generator that is proved sound, and contracts of functions. No condition of its own. Own work, joined by program (pack.py); the shelf's contracts among it as the kit's tool wrote them.
-/
import Derived.Shelf.Strconv.Itoa0
import Derived.Shelf.Strconv.Itoa1
import Derived.Shelf.LaysM
import Derived.Shelf.Strconv.Itoa2
import Derived.Shelf.Strconv.AppendUint10
import Derived.Shelf.Strconv.AppendInt10
import Derived.Shelf.Strconv.AppendIntPublic10
import Derived.Test.YtogokeienebdfaaGreatDoorProg
import Derived.Lib.ItoaLen
import Derived.Test.YtogokeienebdfaaGreatDoorMg
namespace Go.Proofs
open Go.Shelf
def Tryz.lays129_ren : Go.Shelf.Ren := ⟨fun | 129 => 146 | n => n, fun | 53 => 184 | 3 => 3 | 4 => 4 | 46 => 200 | 5 => 5 | 9 => 9 | n => n, fun | n => n⟩
theorem Tryz.lays129 : Go.Proofs.Lays.n129 Tryz.prog Tryz.lays129_ren := {
  mixed := by kernel_rfl
  f129 := Tryz.func146.trans (congrArg some (by kernel_rfl))
  t3 := Tryz.underlying3
  a3 := Tryz.isAgg3
  z3 := Tryz.sizeOf3
  v3 := Tryz.zeroValue3
  t4 := Tryz.underlying4
  a4 := Tryz.isAgg4
  z4 := Tryz.sizeOf4
  v4 := Tryz.zeroValue4
  t5 := Tryz.underlying5
  a5 := Tryz.isAgg5
  z5 := Tryz.sizeOf5
  v5 := Tryz.zeroValue5
  t9 := Tryz.underlying9
  a9 := Tryz.isAgg9
  z9 := Tryz.sizeOf9
  v9 := Tryz.zeroValue9
  t46 := Tryz.underlying200
  a46 := Tryz.isAgg200
  z46 := Tryz.sizeOf200
  v46 := Tryz.zeroValue200
  t53 := Tryz.underlying184
  a53 := Tryz.isAgg184
  z53 := Tryz.sizeOf184
  v53 := Tryz.zeroValue184 }
theorem Tryz.bits_Len64 (x : Int) (w : World) (h0 : 0 ≤ x) (h1 : x ≤ 18446744073709551615) :
    Calls Tryz.prog 146 #[.int .u64 x] w fun e w' => e = .returned (.int .i64 (Lib.bitLen x.toNat)) ∧ w' = w := Any.bits_Len64 Tryz.lays129 x w h0 h1
def Tryz.lays317_ren : Go.Shelf.Ren := ⟨fun | 317 => 145 | n => n, fun | 3 => 3 | 46 => 200 | n => n, fun | n => n⟩
theorem Tryz.lays317 : Go.Proofs.Lays.n317 Tryz.prog Tryz.lays317_ren := {
  mixed := by kernel_rfl
  f317 := Tryz.func145.trans (congrArg some (by kernel_rfl))
  t3 := Tryz.underlying3
  a3 := Tryz.isAgg3
  z3 := Tryz.sizeOf3
  v3 := Tryz.zeroValue3
  t46 := Tryz.underlying200
  a46 := Tryz.isAgg200
  z46 := Tryz.sizeOf200
  v46 := Tryz.zeroValue200 }
open Go.Lib in
theorem Tryz.internal_strconv_log10Pow2 (x : Nat) (h : x ≤ 64) (w : World) :
    Calls Tryz.prog 145 #[.int .i64 x] w fun e w' => e = .returned (.int .i64 (Lib.l10 x)) ∧ w' = w := Any.internal_strconv_log10Pow2 Tryz.lays317 x h w
def Tryz.lays318_ren : Go.Shelf.Ren := ⟨fun | 318 => 147 | n => n, fun | 3 => 3 | 4 => 4 | n => n, fun | n => n⟩
theorem Tryz.lays318 : Go.Proofs.Lays.n318 Tryz.prog Tryz.lays318_ren := {
  mixed := by kernel_rfl
  f318 := Tryz.func147.trans (congrArg some (by kernel_rfl))
  t3 := Tryz.underlying3
  a3 := Tryz.isAgg3
  z3 := Tryz.sizeOf3
  v3 := Tryz.zeroValue3
  t4 := Tryz.underlying4
  a4 := Tryz.isAgg4
  z4 := Tryz.sizeOf4
  v4 := Tryz.zeroValue4 }
open Go.Lib in
theorem Tryz.internal_strconv_bool2_int (b : Bool) (w : World) :
    Calls Tryz.prog 147 #[.bool b] w fun e w' => e = .returned (.int .i64 (if b then 1 else 0)) ∧ w' = w := Any.internal_strconv_bool2_int Tryz.lays318 b w
def Tryz.lays283_ren : Go.Shelf.Ren := ⟨fun | 283 => 140 | n => n, fun | 3 => 3 | 9 => 9 | 4 => 4 | n => n, fun | n => n⟩
theorem Tryz.lays283 : Go.Proofs.Lays.n283 Tryz.prog Tryz.lays283_ren := {
  mixed := by kernel_rfl
  f283 := Tryz.func140.trans (congrArg some (by kernel_rfl))
  t3 := Tryz.underlying3
  a3 := Tryz.isAgg3
  z3 := Tryz.sizeOf3
  v3 := Tryz.zeroValue3
  t4 := Tryz.underlying4
  a4 := Tryz.isAgg4
  z4 := Tryz.sizeOf4
  v4 := Tryz.zeroValue4
  t9 := Tryz.underlying9
  a9 := Tryz.isAgg9
  z9 := Tryz.sizeOf9
  v9 := Tryz.zeroValue9 }
open Go.Lib in
theorem Tryz.internal_strconv_small (i : Nat) (h : i < 100) (w : World) :
    Calls Tryz.prog 140 #[.int .i64 i] w fun e w' => e = .returned (.string ⟨(Lib.decDigits i).toArray⟩) ∧ w' = w := Any.internal_strconv_small Tryz.lays283 i h w
def Tryz.laysM284_ren : Go.Shelf.Ren := ⟨fun | 284 => 141 | 129 => 146 | 317 => 145 | 318 => 147 | n => n, fun | 53 => 184 | 3 => 3 | 212 => 197 | 0 => 0 | 4 => 4 | 46 => 200 | 5 => 5 | 9 => 9 | n => n, fun | 17 => 0 | n => n⟩
theorem Tryz.laysM284 : Go.Proofs.LaysM.n284 Tryz.prog Tryz.laysM284_ren := {
  mixed := by kernel_rfl
  f129 := Tryz.func146.trans (congrArg some (by kernel_rfl))
  f284 := Tryz.func141.trans (congrArg some (by kernel_rfl))
  f317 := Tryz.func145.trans (congrArg some (by kernel_rfl))
  f318 := Tryz.func147.trans (congrArg some (by kernel_rfl))
  t0 := Tryz.underlying0
  a0 := Tryz.isAgg0
  z0 := Tryz.sizeOf0
  v0 := Tryz.zeroValue0
  t3 := Tryz.underlying3
  a3 := Tryz.isAgg3
  z3 := Tryz.sizeOf3
  v3 := Tryz.zeroValue3
  t4 := Tryz.underlying4
  a4 := Tryz.isAgg4
  z4 := Tryz.sizeOf4
  v4 := Tryz.zeroValue4
  t5 := Tryz.underlying5
  a5 := Tryz.isAgg5
  z5 := Tryz.sizeOf5
  v5 := Tryz.zeroValue5
  t9 := Tryz.underlying9
  a9 := Tryz.isAgg9
  z9 := Tryz.sizeOf9
  v9 := Tryz.zeroValue9
  t46 := Tryz.underlying200
  a46 := Tryz.isAgg200
  z46 := Tryz.sizeOf200
  v46 := Tryz.zeroValue200
  t53 := Tryz.underlying184
  a53 := Tryz.isAgg184
  z53 := Tryz.sizeOf184
  v53 := Tryz.zeroValue184
  t212 := Tryz.underlying197
  a212 := Tryz.isAgg197
  z212 := Tryz.sizeOf197
  v212 := Tryz.zeroValue197
  g17 := by kernel_rfl
  i0 := by kernel_rfl
  i3 := by kernel_rfl
  i4 := by kernel_rfl
  i5 := by kernel_rfl
  i9 := by kernel_rfl
  i46 := by kernel_rfl
  i53 := by kernel_rfl
  i212 := by kernel_rfl
  m17 := by kernel_rfl }
open Go.Lib in
theorem Tryz.internal_strconv_numDigits (u : Nat) (h1 : 1 ≤ u) (h2 : u < 18446744073709551616) (w : World) (htab : Lib.TabIs Tryz.prog w "internal/strconv.uint64pow10" .u64 Lib.pow10Tab) :
    Calls Tryz.prog 141 #[.int .u64 u] w fun e w' => e = .returned (.int .i64 (Lib.nDigits u)) ∧ w' = w := Any.internal_strconv_numDigits Tryz.laysM284 u h1 h2 w htab
def Tryz.lays285_ren : Go.Shelf.Ren := ⟨fun | 285 => 142 | n => n, fun | 37 => 22 | 53 => 184 | 3 => 3 | 4 => 4 | 51 => 198 | 9 => 9 | 5 => 5 | 0 => 0 | n => n, fun | n => n⟩
theorem Tryz.lays285 : Go.Proofs.Lays.n285 Tryz.prog Tryz.lays285_ren := {
  mixed := by kernel_rfl
  f285 := Tryz.func142.trans (congrArg some (by kernel_rfl))
  t0 := Tryz.underlying0
  a0 := Tryz.isAgg0
  z0 := Tryz.sizeOf0
  v0 := Tryz.zeroValue0
  t3 := Tryz.underlying3
  a3 := Tryz.isAgg3
  z3 := Tryz.sizeOf3
  v3 := Tryz.zeroValue3
  t4 := Tryz.underlying4
  a4 := Tryz.isAgg4
  z4 := Tryz.sizeOf4
  v4 := Tryz.zeroValue4
  t5 := Tryz.underlying5
  a5 := Tryz.isAgg5
  z5 := Tryz.sizeOf5
  v5 := Tryz.zeroValue5
  t9 := Tryz.underlying9
  a9 := Tryz.isAgg9
  z9 := Tryz.sizeOf9
  v9 := Tryz.zeroValue9
  t37 := Tryz.underlying22
  a37 := Tryz.isAgg22
  z37 := Tryz.sizeOf22
  v37 := Tryz.zeroValue22
  t51 := Tryz.underlying198
  a51 := Tryz.isAgg198
  z51 := Tryz.sizeOf198
  v51 := Tryz.zeroValue198
  t53 := Tryz.underlying184
  a53 := Tryz.isAgg184
  z53 := Tryz.sizeOf184
  v53 := Tryz.zeroValue184 }
open Go.RowKit Go.Sort Go.Lib in
theorem Tryz.internal_strconv_formatBase10 (blk off cap : Nat) (u : Nat) (d : Array UInt8) (w : World) (hH : Holds (fun (b : UInt8) => Value.int .u8 (b.toNat : Int)) w blk off d) (hu : u < 10 ^ d.size) (hu64 : u < 18446744073709551616) (hsz : d.size < 4611686018427387904) :
    Calls Tryz.prog 142 #[.slice (some ⟨blk, off, none⟩) d.size cap, .int .u64 u] w fun e w' =>
      e = .returned (.tuple #[]) ∧ ∃ (n v' : Nat) (dk : Array UInt8), w' = (putRow (fun (b : UInt8) => Value.int .u8 (b.toNat : Int)) w blk off dk).drewN n ∧ FmtInv d.size u 0 v' dk := Any.internal_strconv_formatBase10 Tryz.lays285 blk off cap u d w hH hu hu64 hsz
def Tryz.laysM288_ren : Go.Shelf.Ren := ⟨fun | 288 => 135 | 283 => 140 | 284 => 141 | 285 => 142 | 286 => 143 | 129 => 146 | 317 => 145 | 318 => 147 | 319 => 148 | 320 => 149 | 337 => 150 | 338 => 151 | n => n, fun | 37 => 22 | 53 => 184 | 3 => 3 | 4 => 4 | 9 => 9 | 171 => 190 | 0 => 0 | 173 => 193 | 212 => 197 | 51 => 198 | 5 => 5 | 20 => 20 | 213 => 199 | 46 => 200 | 232 => 203 | 233 => 204 | n => n, fun | 17 => 0 | 18 => 1 | 19 => 2 | n => n⟩
theorem Tryz.laysM288 : Go.Proofs.LaysM.n288 Tryz.prog Tryz.laysM288_ren := {
  mixed := by kernel_rfl
  f129 := Tryz.func146.trans (congrArg some (by kernel_rfl))
  f283 := Tryz.func140.trans (congrArg some (by kernel_rfl))
  f284 := Tryz.func141.trans (congrArg some (by kernel_rfl))
  f285 := Tryz.func142.trans (congrArg some (by kernel_rfl))
  f286 := Tryz.func143.trans (congrArg some (by kernel_rfl))
  f288 := Tryz.func135.trans (congrArg some (by kernel_rfl))
  f317 := Tryz.func145.trans (congrArg some (by kernel_rfl))
  f318 := Tryz.func147.trans (congrArg some (by kernel_rfl))
  f319 := Tryz.func148.trans (congrArg some (by kernel_rfl))
  f320 := Tryz.func149.trans (congrArg some (by kernel_rfl))
  f337 := Tryz.func150.trans (congrArg some (by kernel_rfl))
  f338 := Tryz.func151.trans (congrArg some (by kernel_rfl))
  t0 := Tryz.underlying0
  a0 := Tryz.isAgg0
  z0 := Tryz.sizeOf0
  v0 := Tryz.zeroValue0
  t3 := Tryz.underlying3
  a3 := Tryz.isAgg3
  z3 := Tryz.sizeOf3
  v3 := Tryz.zeroValue3
  t4 := Tryz.underlying4
  a4 := Tryz.isAgg4
  z4 := Tryz.sizeOf4
  v4 := Tryz.zeroValue4
  t5 := Tryz.underlying5
  a5 := Tryz.isAgg5
  z5 := Tryz.sizeOf5
  v5 := Tryz.zeroValue5
  t9 := Tryz.underlying9
  a9 := Tryz.isAgg9
  z9 := Tryz.sizeOf9
  v9 := Tryz.zeroValue9
  t20 := Tryz.underlying20
  a20 := Tryz.isAgg20
  z20 := Tryz.sizeOf20
  v20 := Tryz.zeroValue20
  t37 := Tryz.underlying22
  a37 := Tryz.isAgg22
  z37 := Tryz.sizeOf22
  v37 := Tryz.zeroValue22
  t46 := Tryz.underlying200
  a46 := Tryz.isAgg200
  z46 := Tryz.sizeOf200
  v46 := Tryz.zeroValue200
  t51 := Tryz.underlying198
  a51 := Tryz.isAgg198
  z51 := Tryz.sizeOf198
  v51 := Tryz.zeroValue198
  t53 := Tryz.underlying184
  a53 := Tryz.isAgg184
  z53 := Tryz.sizeOf184
  v53 := Tryz.zeroValue184
  t171 := Tryz.underlying190
  a171 := Tryz.isAgg190
  z171 := Tryz.sizeOf190
  v171 := Tryz.zeroValue190
  t173 := Tryz.underlying193
  a173 := Tryz.isAgg193
  z173 := Tryz.sizeOf193
  v173 := Tryz.zeroValue193
  t212 := Tryz.underlying197
  a212 := Tryz.isAgg197
  z212 := Tryz.sizeOf197
  v212 := Tryz.zeroValue197
  t213 := Tryz.underlying199
  a213 := Tryz.isAgg199
  z213 := Tryz.sizeOf199
  t232 := Tryz.underlying203
  a232 := Tryz.isAgg203
  z232 := Tryz.sizeOf203
  v232 := Tryz.zeroValue203
  t233 := Tryz.underlying204
  a233 := Tryz.isAgg204
  z233 := Tryz.sizeOf204
  v233 := Tryz.zeroValue204
  g17 := by kernel_rfl
  g18 := by kernel_rfl
  g19 := by kernel_rfl
  i0 := by kernel_rfl
  i3 := by kernel_rfl
  i4 := by kernel_rfl
  i5 := by kernel_rfl
  i9 := by kernel_rfl
  i20 := by kernel_rfl
  i37 := by kernel_rfl
  i46 := by kernel_rfl
  i51 := by kernel_rfl
  i53 := by kernel_rfl
  i171 := by kernel_rfl
  i173 := by kernel_rfl
  i212 := by kernel_rfl
  i232 := by kernel_rfl
  i233 := by kernel_rfl
  m17 := by kernel_rfl
  m18 := by kernel_rfl
  m19 := by kernel_rfl }
open Go.RowKit Go.Sort Go.Lib in
theorem Tryz.internal_strconv_AppendUint_10_small (B n u : Nat) (hu : u < 100) (sv : Value) (xs : List Value) (w : World) (hown : w.ownsRow B 5 1 sv n xs) (hBw : B ≤ w.heap.size) (hlim : n + 20 ≤ 140737488355328) :
    Calls Tryz.prog 135 #[sv, .int .u64 u, .int .i64 10] w fun e w' => ∃ v', e = .returned v' ∧ w'.ownsRow B 5 1 v' (n + (Lib.decDigits u).length) (xs ++ Lib.byteCells (Lib.decDigits u)) ∧ Below B w w' ∧ Lib.OthersKept 5 none w w' := Any.internal_strconv_AppendUint_10_small Tryz.laysM288 B n u hu sv xs w hown hBw hlim
open Go.RowKit Go.Sort Go.Lib in
theorem Tryz.internal_strconv_AppendUint_10_big (B n u : Nat) (hu : 100 ≤ u) (hu64 : u < 18446744073709551616) (sv : Value) (xs : List Value) (w : World) (hown : w.ownsRow B 5 1 sv n xs) (hBw : B ≤ w.heap.size) (hlim : n + 20 ≤ 140737488355328) (htab : Lib.TabIs Tryz.prog w "internal/strconv.uint64pow10" .u64 Lib.pow10Tab) :
    Calls Tryz.prog 135 #[sv, .int .u64 u, .int .i64 10] w fun e w' => ∃ v', e = .returned v' ∧ w'.ownsRow B 5 1 v' (n + (Lib.decDigits u).length) (xs ++ Lib.byteCells (Lib.decDigits u)) ∧ Below B w w' ∧ Lib.OthersKept 5 none w w' := Any.internal_strconv_AppendUint_10_big Tryz.laysM288 B n u hu hu64 sv xs w hown hBw hlim htab
open Go.RowKit Go.Sort Go.Lib in
theorem Tryz.internal_strconv_AppendUint_10 (B n u : Nat) (hu64 : u < 18446744073709551616) (sv : Value) (xs : List Value) (w : World) (hown : w.ownsRow B 5 1 sv n xs) (hBw : B ≤ w.heap.size) (hlim : n + 20 ≤ 140737488355328) (htab : Lib.TabIs Tryz.prog w "internal/strconv.uint64pow10" .u64 Lib.pow10Tab) :
    Calls Tryz.prog 135 #[sv, .int .u64 u, .int .i64 10] w fun e w' => ∃ v', e = .returned v' ∧ w'.ownsRow B 5 1 v' (n + (Lib.decDigits u).length) (xs ++ Lib.byteCells (Lib.decDigits u)) ∧ Below B w w' ∧ Lib.OthersKept 5 none w w' := Any.internal_strconv_AppendUint_10 Tryz.laysM288 B n u hu64 sv xs w hown hBw hlim htab
def Tryz.laysM249_ren : Go.Shelf.Ren := ⟨fun | 249 => 130 | 288 => 135 | 283 => 140 | 284 => 141 | 285 => 142 | 286 => 143 | 129 => 146 | 317 => 145 | 318 => 147 | 319 => 148 | 320 => 149 | 337 => 150 | 338 => 151 | n => n, fun | 37 => 22 | 2 => 2 | 3 => 3 | 53 => 184 | 4 => 4 | 9 => 9 | 171 => 190 | 0 => 0 | 173 => 193 | 212 => 197 | 51 => 198 | 5 => 5 | 20 => 20 | 213 => 199 | 46 => 200 | 232 => 203 | 233 => 204 | n => n, fun | 17 => 0 | 18 => 1 | 19 => 2 | n => n⟩
theorem Tryz.laysM249 : Go.Proofs.LaysM.n249 Tryz.prog Tryz.laysM249_ren := {
  mixed := by kernel_rfl
  f129 := Tryz.func146.trans (congrArg some (by kernel_rfl))
  f249 := Tryz.func130.trans (congrArg some (by kernel_rfl))
  f283 := Tryz.func140.trans (congrArg some (by kernel_rfl))
  f284 := Tryz.func141.trans (congrArg some (by kernel_rfl))
  f285 := Tryz.func142.trans (congrArg some (by kernel_rfl))
  f286 := Tryz.func143.trans (congrArg some (by kernel_rfl))
  f288 := Tryz.func135.trans (congrArg some (by kernel_rfl))
  f317 := Tryz.func145.trans (congrArg some (by kernel_rfl))
  f318 := Tryz.func147.trans (congrArg some (by kernel_rfl))
  f319 := Tryz.func148.trans (congrArg some (by kernel_rfl))
  f320 := Tryz.func149.trans (congrArg some (by kernel_rfl))
  f337 := Tryz.func150.trans (congrArg some (by kernel_rfl))
  f338 := Tryz.func151.trans (congrArg some (by kernel_rfl))
  t0 := Tryz.underlying0
  a0 := Tryz.isAgg0
  z0 := Tryz.sizeOf0
  v0 := Tryz.zeroValue0
  t2 := Tryz.underlying2
  a2 := Tryz.isAgg2
  z2 := Tryz.sizeOf2
  v2 := Tryz.zeroValue2
  t3 := Tryz.underlying3
  a3 := Tryz.isAgg3
  z3 := Tryz.sizeOf3
  v3 := Tryz.zeroValue3
  t4 := Tryz.underlying4
  a4 := Tryz.isAgg4
  z4 := Tryz.sizeOf4
  v4 := Tryz.zeroValue4
  t5 := Tryz.underlying5
  a5 := Tryz.isAgg5
  z5 := Tryz.sizeOf5
  v5 := Tryz.zeroValue5
  t9 := Tryz.underlying9
  a9 := Tryz.isAgg9
  z9 := Tryz.sizeOf9
  v9 := Tryz.zeroValue9
  t20 := Tryz.underlying20
  a20 := Tryz.isAgg20
  z20 := Tryz.sizeOf20
  v20 := Tryz.zeroValue20
  t37 := Tryz.underlying22
  a37 := Tryz.isAgg22
  z37 := Tryz.sizeOf22
  v37 := Tryz.zeroValue22
  t46 := Tryz.underlying200
  a46 := Tryz.isAgg200
  z46 := Tryz.sizeOf200
  v46 := Tryz.zeroValue200
  t51 := Tryz.underlying198
  a51 := Tryz.isAgg198
  z51 := Tryz.sizeOf198
  v51 := Tryz.zeroValue198
  t53 := Tryz.underlying184
  a53 := Tryz.isAgg184
  z53 := Tryz.sizeOf184
  v53 := Tryz.zeroValue184
  t171 := Tryz.underlying190
  a171 := Tryz.isAgg190
  z171 := Tryz.sizeOf190
  v171 := Tryz.zeroValue190
  t173 := Tryz.underlying193
  a173 := Tryz.isAgg193
  z173 := Tryz.sizeOf193
  v173 := Tryz.zeroValue193
  t212 := Tryz.underlying197
  a212 := Tryz.isAgg197
  z212 := Tryz.sizeOf197
  v212 := Tryz.zeroValue197
  t213 := Tryz.underlying199
  a213 := Tryz.isAgg199
  z213 := Tryz.sizeOf199
  t232 := Tryz.underlying203
  a232 := Tryz.isAgg203
  z232 := Tryz.sizeOf203
  v232 := Tryz.zeroValue203
  t233 := Tryz.underlying204
  a233 := Tryz.isAgg204
  z233 := Tryz.sizeOf204
  v233 := Tryz.zeroValue204
  g17 := by kernel_rfl
  g18 := by kernel_rfl
  g19 := by kernel_rfl
  i0 := by kernel_rfl
  i2 := by kernel_rfl
  i3 := by kernel_rfl
  i4 := by kernel_rfl
  i5 := by kernel_rfl
  i9 := by kernel_rfl
  i20 := by kernel_rfl
  i37 := by kernel_rfl
  i46 := by kernel_rfl
  i51 := by kernel_rfl
  i53 := by kernel_rfl
  i171 := by kernel_rfl
  i173 := by kernel_rfl
  i212 := by kernel_rfl
  i232 := by kernel_rfl
  i233 := by kernel_rfl
  m17 := by kernel_rfl
  m18 := by kernel_rfl
  m19 := by kernel_rfl }
open Go.RowKit Go.Sort Go.Lib in
theorem Tryz.internal_strconv_AppendInt_10 (B n : Nat) (i : Int) (h0 : -9223372036854775808 ≤ i) (h1 : i ≤ 9223372036854775807) (sv : Value) (xs : List Value) (w : World) (hown : w.ownsRow B 5 1 sv n xs) (hBw : B ≤ w.heap.size) (hlim : n + 21 ≤ 140737488355328) (htab : Lib.TabBelow Tryz.prog B w "internal/strconv.uint64pow10" .u64 Lib.pow10Tab) :
    Calls Tryz.prog 130 #[sv, .int .i64 i, .int .i64 10] w fun e w' => ∃ v', e = .returned v' ∧ w'.ownsRow B 5 1 v' (n + (Lib.itoa i).length) (xs ++ Lib.byteCells (Lib.itoa i)) ∧ Below B w w' ∧ Lib.OthersKept 5 none w w' := Any.internal_strconv_AppendInt_10 Tryz.laysM249 B n i h0 h1 sv xs w hown hBw hlim htab
def Tryz.laysM176_ren : Go.Shelf.Ren := ⟨fun | 176 => 120 | 249 => 130 | 288 => 135 | 283 => 140 | 284 => 141 | 285 => 142 | 286 => 143 | 129 => 146 | 317 => 145 | 318 => 147 | 319 => 148 | 320 => 149 | 337 => 150 | 338 => 151 | n => n, fun | 37 => 22 | 2 => 2 | 3 => 3 | 53 => 184 | 4 => 4 | 9 => 9 | 171 => 190 | 0 => 0 | 173 => 193 | 212 => 197 | 51 => 198 | 5 => 5 | 20 => 20 | 213 => 199 | 46 => 200 | 232 => 203 | 233 => 204 | n => n, fun | 17 => 0 | 18 => 1 | 19 => 2 | n => n⟩
theorem Tryz.laysM176 : Go.Proofs.LaysM.n176 Tryz.prog Tryz.laysM176_ren := {
  mixed := by kernel_rfl
  f129 := Tryz.func146.trans (congrArg some (by kernel_rfl))
  f176 := Tryz.func120.trans (congrArg some (by kernel_rfl))
  f249 := Tryz.func130.trans (congrArg some (by kernel_rfl))
  f283 := Tryz.func140.trans (congrArg some (by kernel_rfl))
  f284 := Tryz.func141.trans (congrArg some (by kernel_rfl))
  f285 := Tryz.func142.trans (congrArg some (by kernel_rfl))
  f286 := Tryz.func143.trans (congrArg some (by kernel_rfl))
  f288 := Tryz.func135.trans (congrArg some (by kernel_rfl))
  f317 := Tryz.func145.trans (congrArg some (by kernel_rfl))
  f318 := Tryz.func147.trans (congrArg some (by kernel_rfl))
  f319 := Tryz.func148.trans (congrArg some (by kernel_rfl))
  f320 := Tryz.func149.trans (congrArg some (by kernel_rfl))
  f337 := Tryz.func150.trans (congrArg some (by kernel_rfl))
  f338 := Tryz.func151.trans (congrArg some (by kernel_rfl))
  t0 := Tryz.underlying0
  a0 := Tryz.isAgg0
  z0 := Tryz.sizeOf0
  v0 := Tryz.zeroValue0
  t2 := Tryz.underlying2
  a2 := Tryz.isAgg2
  z2 := Tryz.sizeOf2
  v2 := Tryz.zeroValue2
  t3 := Tryz.underlying3
  a3 := Tryz.isAgg3
  z3 := Tryz.sizeOf3
  v3 := Tryz.zeroValue3
  t4 := Tryz.underlying4
  a4 := Tryz.isAgg4
  z4 := Tryz.sizeOf4
  v4 := Tryz.zeroValue4
  t5 := Tryz.underlying5
  a5 := Tryz.isAgg5
  z5 := Tryz.sizeOf5
  v5 := Tryz.zeroValue5
  t9 := Tryz.underlying9
  a9 := Tryz.isAgg9
  z9 := Tryz.sizeOf9
  v9 := Tryz.zeroValue9
  t20 := Tryz.underlying20
  a20 := Tryz.isAgg20
  z20 := Tryz.sizeOf20
  v20 := Tryz.zeroValue20
  t37 := Tryz.underlying22
  a37 := Tryz.isAgg22
  z37 := Tryz.sizeOf22
  v37 := Tryz.zeroValue22
  t46 := Tryz.underlying200
  a46 := Tryz.isAgg200
  z46 := Tryz.sizeOf200
  v46 := Tryz.zeroValue200
  t51 := Tryz.underlying198
  a51 := Tryz.isAgg198
  z51 := Tryz.sizeOf198
  v51 := Tryz.zeroValue198
  t53 := Tryz.underlying184
  a53 := Tryz.isAgg184
  z53 := Tryz.sizeOf184
  v53 := Tryz.zeroValue184
  t171 := Tryz.underlying190
  a171 := Tryz.isAgg190
  z171 := Tryz.sizeOf190
  v171 := Tryz.zeroValue190
  t173 := Tryz.underlying193
  a173 := Tryz.isAgg193
  z173 := Tryz.sizeOf193
  v173 := Tryz.zeroValue193
  t212 := Tryz.underlying197
  a212 := Tryz.isAgg197
  z212 := Tryz.sizeOf197
  v212 := Tryz.zeroValue197
  t213 := Tryz.underlying199
  a213 := Tryz.isAgg199
  z213 := Tryz.sizeOf199
  t232 := Tryz.underlying203
  a232 := Tryz.isAgg203
  z232 := Tryz.sizeOf203
  v232 := Tryz.zeroValue203
  t233 := Tryz.underlying204
  a233 := Tryz.isAgg204
  z233 := Tryz.sizeOf204
  v233 := Tryz.zeroValue204
  g17 := by kernel_rfl
  g18 := by kernel_rfl
  g19 := by kernel_rfl
  i0 := by kernel_rfl
  i2 := by kernel_rfl
  i3 := by kernel_rfl
  i4 := by kernel_rfl
  i5 := by kernel_rfl
  i9 := by kernel_rfl
  i20 := by kernel_rfl
  i37 := by kernel_rfl
  i46 := by kernel_rfl
  i51 := by kernel_rfl
  i53 := by kernel_rfl
  i171 := by kernel_rfl
  i173 := by kernel_rfl
  i212 := by kernel_rfl
  i232 := by kernel_rfl
  i233 := by kernel_rfl
  m17 := by kernel_rfl
  m18 := by kernel_rfl
  m19 := by kernel_rfl }
open Go.RowKit Go.Sort Go.Lib in
theorem Tryz.strconv_AppendInt_10 (B n : Nat) (i : Int) (h0 : -9223372036854775808 ≤ i) (h1 : i ≤ 9223372036854775807) (sv : Value) (xs : List Value) (w : World) (hown : w.ownsRow B 5 1 sv n xs) (hBw : B ≤ w.heap.size) (hlim : n + 21 ≤ 140737488355328) (htab : Lib.TabBelow Tryz.prog B w "internal/strconv.uint64pow10" .u64 Lib.pow10Tab) :
    Calls Tryz.prog 120 #[sv, .int .i64 i, .int .i64 10] w fun e w' => ∃ v', e = .returned v' ∧ w'.ownsRow B 5 1 v' (n + (Lib.itoa i).length) (xs ++ Lib.byteCells (Lib.itoa i)) ∧ Below B w w' ∧ Lib.OthersKept 5 none w w' := Any.strconv_AppendInt_10 Tryz.laysM176 B n i h0 h1 sv xs w hown hBw hlim htab
end Go.Proofs
namespace Go.Ps
open Go Go.Vc Go.Proofs
/-- The table of the powers of ten. -/
def TabM (m : MH) : Prop := ∃ T fz, T ≠ 60 ∧ T ≠ 90 ∧ m 0 = some (.cells (Lib.pow10Tab.map fun z => Value.int .u64 z).toArray T fz)
def cU (u : Nat) : CV := .val (.int .u64 u)
def DigS : Vc.Spec := fun cvs m h K => ∃ i : Nat, cvs = [cI i] ∧ i < 100 ∧ K (cStr ⟨(Lib.decDigits i).toArray⟩) m h
def NumDigS : Vc.Spec := fun cvs m h K => ∃ u : Nat, cvs = [cU u] ∧ 1 ≤ u ∧ u < 18446744073709551616 ∧ TabM m ∧ K (cI (Lib.nDigits u)) m h
def FmtS : Vc.Spec := fun cvs m h K => ∃ b cap u : Nat, ∃ (cs : Array Value) (T : TypeId), cvs = [.val (.slice (some ⟨b, 0, none⟩) (Lib.nDigits u) cap), cU u] ∧ u < 18446744073709551616 ∧ m b = some (.cells cs T (0, 0)) ∧ cs.toList = List.replicate 24 (.int .u8 0) ∧
  ∀ cs' m', cs'.size = cs.size → cs'.toList.take (Lib.nDigits u) = Lib.byteCells (Lib.decDigits u) → MUpd m m' b (.cells cs' T (0, 0)) → K (.tup []) m' h
def AppUS : Vc.Spec := fun cvs m h K => ∃ xs, ∃ u : Nat, cvs = [.lst 5 1 xs, cU u, cI 10] ∧ u < 18446744073709551616 ∧ TabM m ∧ xs.length + 30 ≤ 140737488355328 ∧ K (.lst 5 1 (xs ++ bytesVal (Lib.decDigits u))) m h
/-- The text of a number (of its remainder, where it is no int64). -/
def itoaB (i : Int) : List UInt8 := if i < 0 then 45 :: Lib.decDigits (IntKind.u64.wrap (0 - IntKind.u64.wrap i)).toNat else Lib.decDigits (IntKind.u64.wrap i).toNat
def AppIS : Vc.Spec := fun cvs m h K => ∃ xs i, cvs = [.lst 5 1 xs, cI i, cI 10] ∧ TabM m ∧ xs.length + 40 ≤ 140737488355328 ∧ K (.lst 5 1 (xs ++ bytesVal (itoaB i))) m h
def f135_nice (xs : List (List Value)) (u : Nat) (m : MH) (h : PH) (K : CV → MH → PH → Prop) : Prop :=
    branch (decide ((↑u : Int) < 100)) (∃ (i : Nat), [cQi (IntKind.i64.wrap (↑u : Int))] = [cQi (↑i : Int)] /\ i < 100 /\ (xs.length + (bytesOfStr (ByteArray.mk (Array.mk 
    (Lib.decDigits i)))).length) * 1 <= 140737488355328 /\ xs.length + (bytesOfStr (ByteArray.mk (Array.mk (Lib.decDigits i)))).length <= 140737488355328 /\ K (CV.lst 5 1 (xs ++ 
    bytesOfStr (ByteArray.mk (Array.mk (Lib.decDigits i))))) m h) (∀ (b : Nat) (m' : MH), Unheld m h b -> MUpd m m' b (Obj.cells (Array.mk [Value.int IntKind.u8 0, Value.int IntKind.u8 
    0, Value.int IntKind.u8 0, Value.int IntKind.u8 0, Value.int IntKind.u8 0, Value.int IntKind.u8 0, Value.int IntKind.u8 0, Value.int IntKind.u8 0, Value.int IntKind.u8 0, Value.int 
    IntKind.u8 0, Value.int IntKind.u8 0, Value.int IntKind.u8 0, Value.int IntKind.u8 0, Value.int IntKind.u8 0, Value.int IntKind.u8 0, Value.int IntKind.u8 0, Value.int IntKind.u8 
    0, Value.int IntKind.u8 0, Value.int IntKind.u8 0, Value.int IntKind.u8 0, Value.int IntKind.u8 0, Value.int IntKind.u8 0, Value.int IntKind.u8 0, Value.int IntKind.u8 0]) 190) -> 
    ∃ (u_1 : Nat), [CV.val (Value.int IntKind.u64 (↑u : Int))] = [CV.val (Value.int IntKind.u64 (↑u_1 : Int))] /\ 1 <= u_1 /\ u_1 < 18446744073709551616 /\ TabM m' /\ 0 <= 
    (↑(Lib.nDigits u_1) : Int) /\ (↑(Lib.nDigits u_1) : Int) <= 24 /\ ∃ (b_1 : Nat), ∃ (cap : Nat), ∃ (u_2 : Nat), ∃ (cs : Array Value), ∃ (T : TypeId), [CV.val (Value.slice (some 
    (Addr.mk b 0 none)) (↑(Lib.nDigits u_1) : Int).toNat 24), CV.val (Value.int IntKind.u64 (↑u : Int))] = [CV.val (Value.slice (some (Addr.mk b_1 0 none)) (Lib.nDigits u_2) cap), 
    CV.val (Value.int IntKind.u64 (↑u_2 : Int))] /\ u_2 < 18446744073709551616 /\ m' b_1 = some (Obj.cells cs T) /\ cs.toList = [Value.int IntKind.u8 0, Value.int IntKind.u8 0, 
    Value.int IntKind.u8 0, Value.int IntKind.u8 0, Value.int IntKind.u8 0, Value.int IntKind.u8 0, Value.int IntKind.u8 0, Value.int IntKind.u8 0, Value.int IntKind.u8 0, Value.int 
    IntKind.u8 0, Value.int IntKind.u8 0, Value.int IntKind.u8 0, Value.int IntKind.u8 0, Value.int IntKind.u8 0, Value.int IntKind.u8 0, Value.int IntKind.u8 0, Value.int IntKind.u8 
    0, Value.int IntKind.u8 0, Value.int IntKind.u8 0, Value.int IntKind.u8 0, Value.int IntKind.u8 0, Value.int IntKind.u8 0, Value.int IntKind.u8 0, Value.int IntKind.u8 0] /\ ∀ (cs' 
    : Array Value) (m'_1 : MH), cs'.size = cs.size -> List.take (Lib.nDigits u_2) cs'.toList = Lib.byteCells (Lib.decDigits u_2) -> MUpd m' m'_1 b_1 (Obj.cells cs' T) -> 0 <= 
    (↑(Lib.nDigits u_1) : Int) /\ (↑(Lib.nDigits u_1) : Int) <= 24 /\ ∃ (ys : List (List Value)), RowsOk 1 ys /\ SrcIn m'_1 h (Sl.mk (some (Addr.mk b 0 none)) (↑(Lib.nDigits u_1) : 
    Int).toNat 24) 1 ys /\ (xs.length + ys.length) * 1 <= 140737488355328 /\ xs.length + ys.length <= 140737488355328 /\ K (CV.lst 5 1 (xs ++ ys)) m'_1 h)
theorem f135_vc (xs : List (List Value)) (u : Nat) (m : MH) (h : PH) (K : CV → MH → PH → Prop) : f135_nice xs u m h K = (fnVC (ctx4 [(140, DigS), (141, NumDigS), (142, FmtS)] [] [] [] [190] [] true) Tryz.f135 (bodyOf Tryz.f135) (entry Tryz.f135.ntmps [.lst 5 1 xs, cU u, cI 10] m h) K) := by kernel_rfl
def f130_nice (xs : List (List Value)) (i : Int) (m : MH) (h : PH) (K : CV → MH → PH → Prop) : Prop :=
    branch (decide (i < 0)) ((xs.length + 1) * 1 <= 140737488355328 /\ xs.length < 140737488355328 /\ ∃ (xs_1 : List (List Value)), ∃ (u : Nat), [CV.lst 5 1 (xs ++ [[Value.int 
    IntKind.u8 45]]), CV.val (Value.int IntKind.u64 (IntKind.u64.wrap (0 - IntKind.u64.wrap i))), cQi 10] = [CV.lst 5 1 xs_1, CV.val (Value.int IntKind.u64 (↑u : Int)), cQi 10] /\ u < 
    18446744073709551616 /\ TabM m /\ xs_1.length + 30 <= 140737488355328 /\ K (CV.lst 5 1 (xs_1 ++ bytesVal (Lib.decDigits u))) m h) (∃ (xs_1 : List (List Value)), ∃ (u : Nat), 
    [CV.lst 5 1 xs, CV.val (Value.int IntKind.u64 (IntKind.u64.wrap i)), cQi 10] = [CV.lst 5 1 xs_1, CV.val (Value.int IntKind.u64 (↑u : Int)), cQi 10] /\ u < 18446744073709551616 /\ 
    TabM m /\ xs_1.length + 30 <= 140737488355328 /\ K (CV.lst 5 1 (xs_1 ++ bytesVal (Lib.decDigits u))) m h)
theorem f130_vc (xs : List (List Value)) (i : Int) (m : MH) (h : PH) (K : CV → MH → PH → Prop) : f130_nice xs i m h K = (fnVC (ctx4 [(135, AppUS)] [] [] [] [] [(135, [0])] true) Tryz.f130 (bodyOf Tryz.f130) (entry Tryz.f130.ntmps [.lst 5 1 xs, cI i, cI 10] m h) K) := by kernel_rfl
def f120_nice (xs : List (List Value)) (i : Int) (m : MH) (h : PH) (K : CV → MH → PH → Prop) : Prop :=
    ∃ (xs_1 : List (List Value)), ∃ (i_1 : Int), [CV.lst 5 1 xs, cQi i, cQi 10] = [CV.lst 5 1 xs_1, cQi i_1, cQi 10] /\ TabM m /\ xs_1.length + 40 <= 140737488355328 /\ K (CV.lst 5 1 
    (xs_1 ++ bytesVal (itoaB i_1))) m h
theorem f120_vc (xs : List (List Value)) (i : Int) (m : MH) (h : PH) (K : CV → MH → PH → Prop) : f120_nice xs i m h K = (fnVC (ctx4 [(130, AppIS)] [] [] [] [] [(130, [0])] true) Tryz.f120 (bodyOf Tryz.f120) (entry Tryz.f120.ntmps [.lst 5 1 xs, cI i, cI 10] m h) K) := by kernel_rfl
theorem TabM.sub {m m' : MH} (h : TabM m) (hs : Sub m m') : TabM m' := by
  obtain ⟨T, fz, n1, n2, e⟩ := h
  exact ⟨T, fz, n1, n2, hs 0 _ e⟩
theorem wrel_same {w : World} {m : MH} {h : PH} {cvs : List CV} {vs : List Value} (hp : CallPre w m h cvs vs) : WRel ⟨w, Moved m cvs vs, h, []⟩ m h w :=
  ⟨rfl, rfl, rfl, Nat.le_refl _, fun _ _ _ => rfl, hp.hsat, hp.msat, hp.disj, fun _ _ _ e => e, fun _ _ _ => rfl, fun b o hb => .inr (.inl (by rw [show m b = some o from hb]; simp))⟩
theorem f140_sound : Sound Tryz.prog 140 DigS := by
  refine ⟨⟨Tryz.f140, Tryz.func140, rfl, by decide⟩, ?_⟩
  rintro cvs vs m h w K ⟨i, rfl, hi, hK⟩ hp
  obtain ⟨v, rfl⟩ : ∃ v, vs = [v] := by
    have := (argsOk_get hp.args).1
    match vs, this with
    | [v], _ => exact ⟨v, rfl⟩
  have hv : v = .int .i64 i := hp.args.1
  subst hv
  refine (Tryz.internal_strconv_small i hi w).mono ?_
  rintro e w' ⟨rfl, rfl⟩
  exact ⟨_, _, m, h, rfl, hK, rfl, wrel_same hp, fun b hb => by simp [cStr, cvBlk] at hb⟩
theorem f141_sound : Sound Tryz.prog 141 NumDigS := by
  refine ⟨⟨Tryz.f141, Tryz.func141, rfl, by decide⟩, ?_⟩
  rintro cvs vs m h w K ⟨u, rfl, h1, h2, ⟨T, fz, _, _, ht⟩, hK⟩ hp
  obtain ⟨v, rfl⟩ : ∃ v, vs = [v] := by
    have := (argsOk_get hp.args).1
    match vs, this with
    | [v], _ => exact ⟨v, rfl⟩
  have hv : v = .int .u64 u := hp.args.1
  subst hv
  have hg := hp.msat 0 _ ht
  refine (Tryz.internal_strconv_numDigits u h1 h2 w ?_).mono ?_
  · unfold Lib.TabIs World.var?
    rw [show Tryz.prog.globalNamed _ = some 0 by kernel_rfl]
    simp only [Option.bind_some, hg]
  · rintro e w' ⟨rfl, rfl⟩
    exact ⟨_, _, m, h, rfl, hK, rfl, wrel_same hp, fun b hb => by simp [cI, cvBlk] at hb⟩
theorem f142_sound : Sound Tryz.prog 142 FmtS := by
  refine ⟨⟨Tryz.f142, Tryz.func142, rfl, by decide⟩, ?_⟩
  rintro cvs vs m h w K ⟨b, cap, u, cs, T, rfl, hu, hb, hcs, hK⟩ hp
  obtain ⟨v, v2, rfl⟩ : ∃ v v2, vs = [v, v2] := by
    have := (argsOk_get hp.args).1
    match vs, this with
    | [v, v2], _ => exact ⟨v, v2, rfl⟩
  have hv : v = .slice (some ⟨b, 0, none⟩) (Lib.nDigits u) cap := hp.args.1
  have hv2 : v2 = .int .u64 u := hp.args.2.1
  subst hv hv2
  have hg := hp.msat b _ hb
  have h20 := Lib.nDigits_le20 u hu
  have hsz : cs.size = 24 := by rw [← Array.length_toList, hcs]; simp
  have hH : Sort.Holds (fun (b : UInt8) => Value.int .u8 (b.toNat : Int)) w b 0 (Array.replicate (Lib.nDigits u) (0 : UInt8)) := by
    intro j hj
    simp only [Array.size_replicate] at hj
    refine ⟨?_, ?_⟩
    · rw [cell_of_heap hg, hcs, List.getElem?_replicate, if_pos (by omega)]
      rw [getElem!_pos _ j (by simpa using hj)]
      simp
    · unfold World.frozen?
      rw [hg]
      simp
  have hc := Tryz.internal_strconv_formatBase10 b 0 cap u (Array.replicate (Lib.nDigits u) (0 : UInt8)) w hH (by simpa using Lib.lt_pow_nDigits u) hu (by simp; omega)
  rw [Array.size_replicate] at hc
  refine hc.mono ?_
  rintro e w' ⟨rfl, n, v', dk, rfl, hf⟩
  have hds : dk.size = Lib.nDigits u := hf.size
  obtain ⟨m', hm'⟩ : ∃ m', MUpd m m' b (.cells (Sort.putCells (fun (b : UInt8) => Value.int .u8 (b.toNat : Int)) 0 dk cs) T (0, 0)) := ⟨fun b' => if b' = b then some (.cells (Sort.putCells (fun (b : UInt8) => Value.int .u8 (b.toNat : Int)) 0 dk cs) T (0, 0)) else m b', by simp, fun b' hb' => by simp [hb']⟩
  have hnew : (Sort.putRow (fun (b : UInt8) => Value.int .u8 (b.toNat : Int)) w b 0 dk).heap[b]? = some (.cells (Sort.putCells (fun (b : UInt8) => Value.int .u8 (b.toNat : Int)) 0 dk cs) T (0, 0)) := by
    unfold Sort.putRow Sort.mapBlock
    simp only [Array.getElem?_modify, if_true, hg]
    rfl
  have hold : ∀ b', b' ≠ b → (Sort.putRow (fun (b : UInt8) => Value.int .u8 (b.toNat : Int)) w b 0 dk).heap[b']? = w.heap[b']? := fun b' hb' => by
    unfold Sort.putRow Sort.mapBlock
    simp only [Array.getElem?_modify, if_neg (Ne.symm hb')]
  refine ⟨.tup [], .tuple #[], m', h, rfl, hK _ m' ?_ ?_ hm', ⟨#[], rfl, rfl⟩, ?_, fun b hb => by simp [cvBlk] at hb⟩
  · simp [Sort.putCells]
  · apply List.ext_getElem?
    intro j
    rw [List.getElem?_take]
    have hl : (Lib.byteCells (Lib.decDigits u)).length = Lib.nDigits u := by rw [Lib.byteCells_length, Lib.decDigits_length]
    by_cases hj : j < Lib.nDigits u
    · rw [if_pos hj, Array.getElem?_toList]
      have hj2 : j < (Lib.decDigits u).length := by rw [Lib.decDigits_length]; exact hj
      have hcsj : j < cs.size := by omega
      simp only [Sort.putCells, Array.getElem?_mapIdx, Array.getElem?_eq_getElem hcsj, Option.map_some, Nat.zero_le, Nat.zero_add, Nat.sub_zero, true_and]
      rw [if_pos (by omega), Lib.byteCells, List.getElem?_map, List.getElem?_eq_getElem hj2, Lib.row_is_numeral hf j hj2]
      rfl
    · rw [if_neg hj, List.getElem?_eq_none (by omega)]
  · have hmb : ∀ b' o, m' b' = some o → b' = b ∨ m b' = some o := fun b' o hb' => by
      by_cases e : b' = b
      · exact .inl e
      · rw [hm'.other b' e] at hb'; exact .inr hb'
    have hE : Moved m [.val (.slice (some ⟨b, 0, none⟩) (Lib.nDigits u) cap), cU u] [.slice (some ⟨b, 0, none⟩) (Lib.nDigits u) cap, .int .u64 u] b := .inl (by rw [hb]; simp)
    refine ⟨rfl, rfl, rfl, by simp [Sort.putRow, Sort.mapBlock], ?_, ?_, ?_, ?_, fun _ _ _ e => e, fun _ _ _ => rfl, ?_⟩
    · intro b' _ hn
      exact hold b' (fun e => hn (e ▸ hE))
    · intro b' o x hx
      have hne : b' ≠ b := fun e => by rw [e, hp.disj b _ hb o] at hx; cases hx
      show (Sort.putRow (fun (b : UInt8) => Value.int .u8 (b.toNat : Int)) w b 0 dk).cell? ⟨b', o, none⟩ = some x
      rw [World.cell?_of_block (w := w) (a := ⟨b', o, none⟩) (hold b' hne)]
      exact hp.hsat b' o x hx
    · intro b' o hb'
      by_cases e : b' = b
      · subst e; rw [hm'.at_] at hb'; cases hb'; exact hnew
      · rw [hm'.other b' e] at hb'
        rw [show ((Sort.putRow (fun (b : UInt8) => Value.int .u8 (b.toNat : Int)) w b 0 dk).drewN n).heap[b']? = _ from hold b' e]
        exact hp.msat b' o hb'
    · intro b' o hb' j
      rcases hmb b' o hb' with rfl | h1
      · exact hp.disj b' _ hb j
      · exact hp.disj b' _ h1 j
    · intro b' o hb'
      rcases hmb b' o hb' with rfl | h1
      · exact .inr hE
      · exact .inr (.inl (by rw [h1]; simp))
theorem bytesOf_dig (l : List UInt8) : bytesOfStr ⟨l.toArray⟩ = bytesVal l := by simp [bytesOfStr, bytesVal]
theorem bytesVal_flatten (l : List UInt8) : (bytesVal l).flatten = Lib.byteCells l := by
  unfold bytesVal Lib.byteCells
  induction l with
  | nil => rfl
  | cons b r ih => simp [ih]
theorem bytesVal_length (l : List UInt8) : (bytesVal l).length = l.length := by simp [bytesVal]
theorem f135_ok {xs : List (List Value)} {u : Nat} {m : MH} {h : PH} {K : CV → MH → PH → Prop} (hu : u < 18446744073709551616) (ht : TabM m) (hl : xs.length + 30 ≤ 140737488355328) (hK : K (.lst 5 1 (xs ++ bytesVal (Lib.decDigits u))) m h) : f135_nice xs u m h (Weak h K) := by
  have h20 := Lib.nDigits_le20 u hu
  have hdl := Lib.decDigits_length u
  refine branch_dec (fun h1 => ⟨u, ?_, by omega, ?_, ?_, ?_⟩) (fun h1 b m1 hb hm1 => ?_)
  · rw [wrap_id (by omega) (by omega)]
  · rw [bytesOf_dig, bytesVal_length]; omega
  · rw [bytesOf_dig, bytesVal_length]; omega
  · rw [bytesOf_dig]; exact .here hK
  · have hs1 : Sub m m1 := (Sub.refl m).upd hb.m_ hm1.other
    refine ⟨u, rfl, by omega, hu, ht.sub hs1, by omega, by omega, b, 24, u, _, _, by rw [Int.toNat_natCast], hu, hm1.at_, rfl, fun cs' m2 hsz htake hm2 => ⟨by omega, by omega, bytesVal (Lib.decDigits u), rowsOk_bytes _, ?_, ?_, ?_, ?_⟩⟩
    · refine .lent b 0 cs' 190 (0, 0) rfl ?_ hm2.at_ ?_
      · rw [Int.toNat_natCast, bytesVal_length, hdl]
      · rw [bytesVal_flatten, Lib.byteCells_length, hdl, List.drop_zero]; exact htake
    · rw [bytesVal_length]; omega
    · rw [bytesVal_length]; omega
    · exact .sub (hs1.upd hb.m_ hm2.other) hK
theorem f135_sound : Sound Tryz.prog 135 AppUS := by
  refine fn_sound' (fn := Tryz.f135) (c := bodyOf Tryz.f135) Tryz.func135 rfl (by decide) ?_
  rintro cvs m h K ⟨xs, u, rfl, hu, ht, hl, hK⟩
  refine ⟨ctx4 [(140, DigS), (141, NumDigS), (142, FmtS)] [] [] [] [190] [] true, rfl, specs_cons f140_sound (specs_cons f141_sound (specs_cons f142_sound specs_nil)), ?_⟩
  rw [← f135_vc xs u m h _]
  exact f135_ok hu ht hl hK
theorem wrapU (i : Int) : 0 ≤ IntKind.u64.wrap i ∧ IntKind.u64.wrap i < 18446744073709551616 := by
  simp only [IntKind.wrap, IntKind.bits, IntKind.signed]
  simp
  omega
theorem itoaB_len (i : Int) : (itoaB i).length ≤ 21 := by
  have key : ∀ n : Int, (Lib.decDigits (IntKind.u64.wrap n).toNat).length ≤ 20 := fun n => by
    rw [Lib.decDigits_length]
    exact Lib.nDigits_le20 _ (by have := wrapU n; omega)
  unfold itoaB
  split
  · have := key (0 - IntKind.u64.wrap i); simp only [List.length_cons]; omega
  · have := key i; omega
theorem itoaB_eq {i : Int} (hi : I64 i) : itoaB i = Lib.itoa i := by
  obtain ⟨i0, i1⟩ := hi
  unfold itoaB Lib.itoa
  split
  · have : IntKind.u64.wrap (0 - IntKind.u64.wrap i) = (i.natAbs : Int) := by
      simp only [IntKind.wrap, IntKind.bits, IntKind.signed]
      simp
      omega
    rw [this]; rfl
  · have : IntKind.u64.wrap i = (i.toNat : Int) := by
      simp only [IntKind.wrap, IntKind.bits, IntKind.signed]
      simp
      omega
    rw [this]; rfl
theorem f130_ok {xs : List (List Value)} {i : Int} {m : MH} {h : PH} {K : CV → MH → PH → Prop} (ht : TabM m) (hl : xs.length + 40 ≤ 140737488355328) (hK : K (.lst 5 1 (xs ++ bytesVal (itoaB i))) m h) : f130_nice xs i m h K := by
  have h1 := wrapU i
  have h2 := wrapU (0 - IntKind.u64.wrap i)
  refine branch_dec (fun hn => ⟨by omega, by omega, xs ++ [[.int .u8 45]], (IntKind.u64.wrap (0 - IntKind.u64.wrap i)).toNat, ?_, by omega, ht, by simp; omega, ?_⟩) (fun hn => ⟨xs, (IntKind.u64.wrap i).toNat, ?_, by omega, ht, by omega, ?_⟩)
  · rw [show (((IntKind.u64.wrap (0 - IntKind.u64.wrap i)).toNat : Nat) : Int) = IntKind.u64.wrap (0 - IntKind.u64.wrap i) by omega]
  · have : itoaB i = 45 :: Lib.decDigits (IntKind.u64.wrap (0 - IntKind.u64.wrap i)).toNat := by unfold itoaB; rw [if_pos hn]
    rw [this] at hK
    rw [List.append_assoc]
    exact hK
  · rw [show (((IntKind.u64.wrap i).toNat : Nat) : Int) = IntKind.u64.wrap i by omega]
  · have : itoaB i = Lib.decDigits (IntKind.u64.wrap i).toNat := by unfold itoaB; rw [if_neg hn]
    rw [this] at hK
    exact hK
theorem f130_sound : Sound Tryz.prog 130 AppIS := by
  refine fn_sound (fn := Tryz.f130) (c := bodyOf Tryz.f130) Tryz.func130 rfl (by decide) ?_
  rintro cvs m h K ⟨xs, i, rfl, ht, hl, hK⟩
  refine ⟨ctx4 [(135, AppUS)] [] [] [] [] [(135, [0])] true, rfl, specs_cons f135_sound specs_nil, ?_⟩
  rw [← f130_vc xs i m h K]
  exact f130_ok ht hl hK
theorem f120_sound : Sound Tryz.prog 120 AppIS := by
  refine fn_sound (fn := Tryz.f120) (c := bodyOf Tryz.f120) Tryz.func120 rfl (by decide) ?_
  rintro cvs m h K ⟨xs, i, rfl, ht, hl, hK⟩
  refine ⟨ctx4 [(130, AppIS)] [] [] [] [] [(130, [0])] true, rfl, specs_cons f130_sound specs_nil, ?_⟩
  rw [← f120_vc xs i m h K]
  exact ⟨xs, i, rfl, ht, hl, hK⟩
end Go.Ps
namespace Go.Ps
open Go Go.Vc Go.Proofs
def numB (l : List Int) : List UInt8 := l.flatMap fun n => itoaB n ++ [32]
def cellB (v : VV) : List UInt8 := numB [v.kind] ++ (itoaB v.int ++ [32]) ++ numB [(v.text.size : Int)] ++ v.text.data.toList
def opdB (o : OV) : List UInt8 := numB [o.kind, o.index] ++ cellB o.value
mutual
def predB : Pred → List UInt8
  | .mk op cmp l r args => numB [op, cmp] ++ opdB l ++ opdB r ++ numB [(args.length : Int)] ++ predBs args
def predBs : List Pred → List UInt8
  | [] => []
  | p :: ps => predB p ++ predBs ps
end
theorem numB_len : ∀ l : List Int, (numB l).length ≤ 22 * l.length
  | [] => by simp [numB]
  | n :: l => by
    have := numB_len l
    have h2 := itoaB_len n
    unfold numB at this ⊢
    simp only [List.flatMap_cons, List.length_append, List.length_cons, List.length_nil]
    omega
def AppNS : Vc.Spec := fun cvs m h K => ∃ xs s l, cvs = [.lst 5 1 xs, cS s] ∧ Ints h s l ∧ TabM m ∧ xs.length + 22 * l.length + 100 ≤ 140737488355328 ∧ K (.lst 5 1 (xs ++ bytesVal (numB l))) m h
def AppCS : Vc.Spec := fun cvs m h K => ∃ xs v, cvs = [.lst 5 1 xs, aV v] ∧ TabM m ∧ xs.length + v.text.size + 500 ≤ 140737488355328 ∧ K (.lst 5 1 (xs ++ bytesVal (cellB v))) m h
def AppOS : Vc.Spec := fun cvs m h K => ∃ xs o, cvs = [.lst 5 1 xs, aO o] ∧ TabM m ∧ xs.length + o.value.text.size + 1000 ≤ 140737488355328 ∧ K (.lst 5 1 (xs ++ bytesVal (opdB o))) m h
def AppPS (N : Nat) : Vc.Spec := fun cvs m h K => ∃ xs v p, cvs = [.lst 5 1 xs, aP v] ∧ RepP h p v ∧ SizeOf.sizeOf p < N ∧ TabM m ∧ xs.length + (predB p).length + 5000 ≤ 140737488355328 ∧ K (.lst 5 1 (xs ++ bytesVal (predB p))) m h
def AppPA : Vc.Spec := fun cvs m h K => ∃ xs v p, cvs = [.lst 5 1 xs, aP v] ∧ RepP h p v ∧ TabM m ∧ xs.length + (predB p).length + 5000 ≤ 140737488355328 ∧ K (.lst 5 1 (xs ++ bytesVal (predB p))) m h
noncomputable def f93_ctx (s : Sl) (m : MH) (h : PH) : Ctx :=
  ctx2 [(120, AppIS)] [(2, { A := Nat × List (List Value), st := fun ⟨i, xs⟩ => mkSt 21 23 [(0, .at (.lst 21)), (7, sv s), (8, iv s.len), (9, iv i)] [(21, .lst 5 1 xs)] m h })] [] [(120, [0])] true
noncomputable def f94_ctx (N : Nat) (v : PV) (m : MH) : Ctx :=
  ctx2 [(93, AppNS), (121, AppOS), (94, AppPS N)] [(6, { A := Nat × List (List Value) × PH, st := fun ⟨i, xs, h⟩ => mkSt 40 42 [(0, .at (.lst 40)), (29, sv v.args), (30, iv v.args.len), (31, iv i)] [(40, .lst 5 1 xs)] m h })] [] [(93, [0]), (121, [0]), (94, [0])] true
def f93_nice (xs : List (List Value)) (s : Sl) (m : MH) (h : PH) (K : CV → MH → PH → Prop) : Prop :=
    ∃ (I : Nat × List (List Value) -> Prop), ∃ (mu : Nat × List (List Value) -> Nat), (∃ (x : Nat × List (List Value)), I x /\ eQ (sQl 21) /\ eQ (sQs s) /\ eQ (sQi (↑s.len : Int)) /\ 
    sQi 0 = sQi (↑x.1 : Int) /\ some (Own.lst 5 1 xs) = some (Own.lst 5 1 x.2) /\ m = m /\ h = h /\ True) /\ ∀ (x : Nat × List (List Value)), I x -> branch (decide ((↑x.1 : Int) < 
    (↑s.len : Int))) (∃ (b : Nat), ∃ (off : Nat), s.a = some (Addr.mk b off none) /\ 0 <= (↑x.1 : Int) /\ (↑x.1 : Int) < (↑s.len : Int) /\ ∃ (y : Int), RdAt m h b (off + (↑x.1 : 
    Int).toNat * 1) [vQi y] /\ ∃ (xs : List (List Value)), ∃ (i : Int), [CV.lst 5 1 x.2, cQi y, cQi 10] = [CV.lst 5 1 xs, cQi i, cQi 10] /\ TabM m /\ xs.length + 40 <= 140737488355328 
    /\ ((xs ++ bytesVal (itoaB i)).length + 1) * 1 <= 140737488355328 /\ (xs ++ bytesVal (itoaB i)).length < 140737488355328 /\ ∃ (y : Nat × List (List Value)), I y /\ mu y < mu x /\ 
    eQ (sQl 21) /\ eQ (sQs s) /\ eQ (sQi (↑s.len : Int)) /\ sQi (IntKind.i64.wrap ((↑x.1 : Int) + 1)) = sQi (↑y.1 : Int) /\ some (Own.lst 5 1 (xs ++ bytesVal (itoaB i) ++ [[Value.int 
    IntKind.u8 32]])) = some (Own.lst 5 1 y.2) /\ m = m /\ h = h /\ True) (K (CV.lst 5 1 x.2) m h)
theorem f93_vc (xs : List (List Value)) (s : Sl) (m : MH) (h : PH) (K : CV → MH → PH → Prop) : f93_nice xs s m h K = (fnVC (f93_ctx s m h) Tryz.f93 (bodyOf Tryz.f93) (entry Tryz.f93.ntmps [.lst 5 1 xs, cS s] m h) K) := by kernel_rfl
def f131_nice (xs : List (List Value)) (v : VV) (m : MH) (h : PH) (K : CV → MH → PH → Prop) : Prop :=
    ∀ (s : Sl) (h' : PH), h.le h' -> RowIn h' s 1 [[vQi v.kind]] -> ∃ (xs_1 : List (List Value)), ∃ (s_1 : Sl), ∃ (l : List Int), [CV.lst 5 1 xs, cQs s] = [CV.lst 5 1 xs_1, cQs s_1] /\ 
    Ints h' s_1 l /\ TabM m /\ xs_1.length + 22 * l.length + 100 <= 140737488355328 /\ ∃ (xs : List (List Value)), ∃ (i : Int), [CV.lst 5 1 (xs_1 ++ bytesVal (numB l)), cQi v.int, cQi 
    10] = [CV.lst 5 1 xs, cQi i, cQi 10] /\ TabM m /\ xs.length + 40 <= 140737488355328 /\ ((xs ++ bytesVal (itoaB i)).length + 1) * 1 <= 140737488355328 /\ (xs ++ bytesVal (itoaB 
    i)).length < 140737488355328 /\ ∀ (s : Sl) (h'_1 : PH), h'.le h'_1 -> RowIn h'_1 s 1 [[vQi (↑v.text.size : Int)]] -> ∃ (xs_2 : List (List Value)), ∃ (s_2 : Sl), ∃ (l : List Int), 
    [CV.lst 5 1 (xs ++ bytesVal (itoaB i) ++ [[Value.int IntKind.u8 32]]), cQs s] = [CV.lst 5 1 xs_2, cQs s_2] /\ Ints h'_1 s_2 l /\ TabM m /\ xs_2.length + 22 * l.length + 100 <= 
    140737488355328 /\ ((xs_2 ++ bytesVal (numB l)).length + (bytesOfStr v.text).length) * 1 <= 140737488355328 /\ (xs_2 ++ bytesVal (numB l)).length + (bytesOfStr v.text).length <= 
    140737488355328 /\ K (CV.lst 5 1 (xs_2 ++ bytesVal (numB l) ++ bytesOfStr v.text)) m h'_1
theorem f131_vc (xs : List (List Value)) (v : VV) (m : MH) (h : PH) (K : CV → MH → PH → Prop) : f131_nice xs v m h K = (fnVC (ctx2 [(93, AppNS), (120, AppIS)] [] [] [(93, [0]), (120, [0])] true) Tryz.f131 (bodyOf Tryz.f131) (entry Tryz.f131.ntmps [.lst 5 1 xs, aV v] m h) K) := by kernel_rfl
def f121_nice (xs : List (List Value)) (o : OV) (m : MH) (h : PH) (K : CV → MH → PH → Prop) : Prop :=
    ∀ (s : Sl) (h' : PH), h.le h' -> RowIn h' s 1 [[vQi o.kind], [vQi o.index]] -> ∃ (xs_1 : List (List Value)), ∃ (s_1 : Sl), ∃ (l : List Int), [CV.lst 5 1 xs, cQs s] = [CV.lst 5 1 
    xs_1, cQs s_1] /\ Ints h' s_1 l /\ TabM m /\ xs_1.length + 22 * l.length + 100 <= 140737488355328 /\ ∃ (xs : List (List Value)), ∃ (v : VV), [CV.lst 5 1 (xs_1 ++ bytesVal (numB 
    l)), cQa (VV.enc o.value)] = [CV.lst 5 1 xs, cQa (VV.enc v)] /\ TabM m /\ xs.length + v.text.size + 500 <= 140737488355328 /\ K (CV.lst 5 1 (xs ++ bytesVal (cellB v))) m h'
theorem f121_vc (xs : List (List Value)) (o : OV) (m : MH) (h : PH) (K : CV → MH → PH → Prop) : f121_nice xs o m h K = (fnVC (ctx2 [(93, AppNS), (131, AppCS)] [] [] [(93, [0]), (131, [0])] true) Tryz.f121 (bodyOf Tryz.f121) (entry Tryz.f121.ntmps [.lst 5 1 xs, aO o] m h) K) := by kernel_rfl
def f94_nice (N : Nat) (xs : List (List Value)) (v : PV) (m : MH) (h : PH) (K : CV → MH → PH → Prop) : Prop :=
    ∀ (s : Sl) (h' : PH), h.le h' -> RowIn h' s 1 [[vQi v.op], [vQi v.cmp]] -> ∃ (xs_1 : List (List Value)), ∃ (s_1 : Sl), ∃ (l : List Int), [CV.lst 5 1 xs, cQs s] = [CV.lst 5 1 xs_1, 
    cQs s_1] /\ Ints h' s_1 l /\ TabM m /\ xs_1.length + 22 * l.length + 100 <= 140737488355328 /\ ∃ (xs : List (List Value)), ∃ (o : OV), [CV.lst 5 1 (xs_1 ++ bytesVal (numB l)), cQa 
    (OV.enc v.left)] = [CV.lst 5 1 xs, cQa (OV.enc o)] /\ TabM m /\ xs.length + o.value.text.size + 1000 <= 140737488355328 /\ ∃ (xs_2 : List (List Value)), ∃ (o_1 : OV), [CV.lst 5 1 
    (xs ++ bytesVal (opdB o)), cQa (OV.enc v.right)] = [CV.lst 5 1 xs_2, cQa (OV.enc o_1)] /\ TabM m /\ xs_2.length + o_1.value.text.size + 1000 <= 140737488355328 /\ ∀ (s : Sl) (h'_1 
    : PH), h'.le h'_1 -> RowIn h'_1 s 1 [[vQi (↑v.args.len : Int)]] -> ∃ (xs : List (List Value)), ∃ (s_2 : Sl), ∃ (l : List Int), [CV.lst 5 1 (xs_2 ++ bytesVal (opdB o_1)), cQs s] = 
    [CV.lst 5 1 xs, cQs s_2] /\ Ints h'_1 s_2 l /\ TabM m /\ xs.length + 22 * l.length + 100 <= 140737488355328 /\ ∃ (I : Nat × List (List Value) × PH -> Prop), ∃ (mu : Nat × List 
    (List Value) × PH -> Nat), (∃ (x : Nat × List (List Value) × PH), I x /\ eQ (sQl 40) /\ eQ (sQs v.args) /\ eQ (sQi (↑v.args.len : Int)) /\ sQi 0 = sQi (↑x.1 : Int) /\ some (Own.lst 
    5 1 (xs ++ bytesVal (numB l))) = some (Own.lst 5 1 x.2.1) /\ m = m /\ h'_1 = x.2.2 /\ True) /\ ∀ (x : Nat × List (List Value) × PH), I x -> branch (decide ((↑x.1 : Int) < 
    (↑v.args.len : Int))) (∃ (b : Nat), ∃ (off : Nat), v.args.a = some (Addr.mk b off none) /\ 0 <= (↑x.1 : Int) /\ (↑x.1 : Int) < (↑v.args.len : Int) /\ ∃ (y : PV), RdAt m x.2.2 b 
    (off + (↑x.1 : Int).toNat * 13) (PV.enc y) /\ ∃ (xs : List (List Value)), ∃ (v_1 : PV), ∃ (p : Pred), [CV.lst 5 1 x.2.1, cQa (PV.enc y)] = [CV.lst 5 1 xs, cQa (PV.enc v_1)] /\ RepP 
    x.2.2 p v_1 /\ SizeOf.sizeOf p < N /\ TabM m /\ xs.length + (predB p).length + 5000 <= 140737488355328 /\ ∃ (y : Nat × List (List Value) × PH), I y /\ mu y < mu x /\ eQ (sQl 40) /\ 
    eQ (sQs v.args) /\ eQ (sQi (↑v.args.len : Int)) /\ sQi (IntKind.i64.wrap ((↑x.1 : Int) + 1)) = sQi (↑y.1 : Int) /\ some (Own.lst 5 1 (xs ++ bytesVal (predB p))) = some (Own.lst 5 1 
    y.2.1) /\ m = m /\ x.2.2 = y.2.2 /\ True) (K (CV.lst 5 1 x.2.1) m x.2.2)
theorem f94_vc (N : Nat) (xs : List (List Value)) (v : PV) (m : MH) (h : PH) (K : CV → MH → PH → Prop) : f94_nice N xs v m h K = (fnVC (f94_ctx N v m) Tryz.f94 (bodyOf Tryz.f94) (entry Tryz.f94.ntmps [.lst 5 1 xs, aP v] m h) K) := by kernel_rfl
theorem bytesVal_append (a b : List UInt8) : bytesVal (a ++ b) = bytesVal a ++ bytesVal b := by simp [bytesVal]
theorem bytesOfStr_eq (s : ByteArray) : bytesOfStr s = bytesVal s.data.toList := rfl
theorem Ints.ofRow {h : PH} {s : Sl} {l : List Int} (r : RowIn h s 1 (l.map eI)) (hl : l.length ≤ 17592186044416) : Ints h s l := ⟨r, hl⟩
theorem numB_snoc {l : List Int} {i : Nat} {x : Int} (hx : l[i]? = some x) : numB (l.take (i + 1)) = numB (l.take i) ++ itoaB x ++ [32] := by
  rw [List.take_add_one, hx]
  simp [numB]
theorem f93_ok {xs : List (List Value)} {s : Sl} {l : List Int} {m : MH} {h : PH} {K : CV → MH → PH → Prop} (hs : Ints h s l) (ht : TabM m) (hl : xs.length + 22 * l.length + 100 ≤ 140737488355328) (hK : K (.lst 5 1 (xs ++ bytesVal (numB l))) m h) : f93_nice xs s m h K := by
  have hsl := hs.slen
  refine ⟨fun ⟨i, ys⟩ => i ≤ l.length ∧ ys = xs ++ bytesVal (numB (l.take i)), fun ⟨i, _⟩ => l.length - i, ⟨(0, xs), ⟨by omega, by simp [numB, bytesVal]⟩, MT⟩, ?_⟩
  rintro ⟨i, ys⟩ ⟨hi, rfl⟩
  dsimp only
  refine branch_dec (fun hlt => ?_) (fun hge => ?_)
  · obtain ⟨x, hx⟩ := getx hsl hlt
    obtain ⟨b, o, e, r⟩ := hs.at' hx
    have h1 := numB_len (l.take i)
    have h2 := itoaB_len x
    have h3 : (l.take i).length = i := by simp; omega
    refine ⟨b, o, e, by omega, hlt, x, .imm r, _, x, rfl, ht, ?_, ?_, ?_, (i + 1, xs ++ bytesVal (numB (l.take (i + 1)))), ⟨by omega, rfl⟩, by show l.length - (i + 1) < l.length - i; omega, ?_⟩
    · rw [List.length_append, bytesVal_length]; omega
    · rw [List.length_append, List.length_append, bytesVal_length, bytesVal_length]; omega
    · rw [List.length_append, List.length_append, bytesVal_length, bytesVal_length]; omega
    · rw [numB_snoc hx, bytesVal_append, bytesVal_append, ← List.append_assoc, ← List.append_assoc]
      exact MT
  · rw [List.take_of_length_le (by omega)]; exact hK
theorem f93_sound : Sound Tryz.prog 93 AppNS := by
  refine fn_sound (fn := Tryz.f93) (c := bodyOf Tryz.f93) Tryz.func93 rfl (by decide) ?_
  rintro cvs m h K ⟨xs, s, l, rfl, hs, ht, hl, hK⟩
  refine ⟨f93_ctx s m h, rfl, specs_cons f120_sound specs_nil, ?_⟩
  rw [← f93_vc xs s m h K]
  exact f93_ok hs ht hl hK
theorem f131_ok {xs : List (List Value)} {v : VV} {m : MH} {h : PH} {K : CV → MH → PH → Prop} (ht : TabM m) (hl : xs.length + v.text.size + 500 ≤ 140737488355328) (hK : K (.lst 5 1 (xs ++ bytesVal (cellB v))) m h) : f131_nice xs v m h (Weak h K) := by
  intro s1 h1 le1 r1
  have n1 := numB_len [v.kind]
  have n2 := itoaB_len v.int
  have n3 := numB_len [(v.text.size : Int)]
  have n4 : (bytesOfStr v.text).length = v.text.size := by simp [bytesOfStr]
  simp only [List.length_cons, List.length_nil] at n1 n3
  refine ⟨_, s1, [v.kind], rfl, .ofRow r1 (by simp), ht, by simp; omega, _, v.int, rfl, ht, ?_, ?_, ?_, fun s2 h2 le2 r2 => ⟨_, s2, [(v.text.size : Int)], rfl, .ofRow r2 (by simp), ht, ?_, ?_, ?_, ?_⟩⟩
  · rw [List.length_append, bytesVal_length]; omega
  · simp only [List.length_append, bytesVal_length]; omega
  · simp only [List.length_append, bytesVal_length]; omega
  · simp only [List.length_append, bytesVal_length, List.length_cons, List.length_nil]; omega
  · simp only [List.length_append, bytesVal_length, List.length_cons, List.length_nil]; omega
  · simp only [List.length_append, bytesVal_length, List.length_cons, List.length_nil]; omega
  · refine .out (Sub.refl m) (le1.trans le2) ?_
    rw [cellB, bytesVal_append, bytesVal_append, bytesVal_append, bytesVal_append] at hK
    simp only [List.append_assoc] at hK ⊢
    exact hK
theorem f131_sound : Sound Tryz.prog 131 AppCS := by
  refine fn_sound' (fn := Tryz.f131) (c := bodyOf Tryz.f131) Tryz.func131 rfl (by decide) ?_
  rintro cvs m h K ⟨xs, v, rfl, ht, hl, hK⟩
  refine ⟨ctx2 [(93, AppNS), (120, AppIS)] [] [] [(93, [0]), (120, [0])] true, rfl, specs_cons f93_sound (specs_cons f120_sound specs_nil), ?_⟩
  rw [← f131_vc xs v m h _]
  exact f131_ok ht hl hK
theorem f121_ok {xs : List (List Value)} {o : OV} {m : MH} {h : PH} {K : CV → MH → PH → Prop} (ht : TabM m) (hl : xs.length + o.value.text.size + 1000 ≤ 140737488355328) (hK : K (.lst 5 1 (xs ++ bytesVal (opdB o))) m h) : f121_nice xs o m h (Weak h K) := by
  intro s1 h1 le1 r1
  have n1 := numB_len [o.kind, o.index]
  simp only [List.length_cons, List.length_nil] at n1
  refine ⟨_, s1, [o.kind, o.index], rfl, .ofRow r1 (by simp), ht, by simp; omega, _, o.value, rfl, ht, ?_, ?_⟩
  · rw [List.length_append, bytesVal_length]; omega
  · refine .out (Sub.refl m) le1 ?_
    rw [opdB, bytesVal_append, ← List.append_assoc] at hK
    exact hK
theorem f121_sound : Sound Tryz.prog 121 AppOS := by
  refine fn_sound' (fn := Tryz.f121) (c := bodyOf Tryz.f121) Tryz.func121 rfl (by decide) ?_
  rintro cvs m h K ⟨xs, o, rfl, ht, hl, hK⟩
  refine ⟨ctx2 [(93, AppNS), (131, AppCS)] [] [] [(93, [0]), (131, [0])] true, rfl, specs_cons f93_sound (specs_cons f131_sound specs_nil), ?_⟩
  rw [← f121_vc xs o m h _]
  exact f121_ok ht hl hK
theorem cellB_len (v : VV) : v.text.size ≤ (cellB v).length := by
  have : v.text.data.toList.length = v.text.size := by simp
  simp only [cellB, List.length_append]; omega
theorem opdB_len (o : OV) : o.value.text.size ≤ (opdB o).length := by
  have := cellB_len o.value
  simp only [opdB, List.length_append]; omega
theorem predBs_snoc {l : List Pred} {i : Nat} {x : Pred} (hx : l[i]? = some x) : predBs (l.take (i + 1)) = predBs (l.take i) ++ predB x := by
  have key : ∀ (a : List Pred), predBs (a ++ [x]) = predBs a ++ predB x := by
    intro a
    induction a with
    | nil => simp [predBs]
    | cons y a ih => simp [predBs, ih]
  rw [List.take_add_one, hx]
  exact key _
theorem predBs_take {l : List Pred} : ∀ (i : Nat), (predBs (l.take i)).length ≤ (predBs l).length := by
  induction l with
  | nil => intro i; simp
  | cons y a ih =>
    intro i
    cases i with
    | zero => simp [predBs]
    | succ i => have := ih i; simp only [List.take_succ_cons, predBs, List.length_append]; omega
theorem f94_ok {N : Nat} {xs : List (List Value)} {v : PV} {p : Pred} {m : MH} {h : PH} {K : CV → MH → PH → Prop} (hp : RepP h p v) (hN : SizeOf.sizeOf p < N + 1) (ht : TabM m) (hl : xs.length + (predB p).length + 5000 ≤ 140737488355328) (hK : K (.lst 5 1 (xs ++ bytesVal (predB p))) m h) : f94_nice N xs v m h (Weak h K) := by
  have hargs := @args_lt p
  obtain ⟨op, cmp, l, r, qs⟩ := p
  obtain ⟨rfl, rfl, rfl, rfl, ha⟩ := hp.parts
  have hal := ha.slen
  have halen := ha.len
  simp only [Pred.args] at hargs
  have b1 := opdB_len v.left
  have b2 := opdB_len v.right
  have n1 := numB_len [v.op, v.cmp]
  have n2 := numB_len [(qs.length : Int)]
  simp only [List.length_cons, List.length_nil] at n1 n2
  simp only [predB, List.length_append] at hl
  intro s1 h1 le1 r1
  refine ⟨_, s1, [v.op, v.cmp], rfl, .ofRow r1 (by simp), ht, by simp; omega, _, v.left, rfl, ht, ?_, _, v.right, rfl, ht, ?_, fun s2 h2 le2 r2 => ⟨_, s2, [(v.args.len : Int)], rfl, .ofRow r2 (by simp), ht, ?_, ?_⟩⟩
  · simp only [List.length_append, bytesVal_length]; omega
  · simp only [List.length_append, bytesVal_length]; omega
  · simp only [List.length_append, bytesVal_length, List.length_cons, List.length_nil]; omega
  rw [hal]
  refine ⟨fun ⟨i, ys, hx⟩ => i ≤ qs.length ∧ PH.le h hx ∧ ys = xs ++ bytesVal (numB [v.op, v.cmp]) ++ bytesVal (opdB v.left) ++ bytesVal (opdB v.right) ++ bytesVal (numB [(qs.length : Int)]) ++ bytesVal (predBs (qs.take i)), fun ⟨i, _, _⟩ => qs.length - i, ⟨(0, _, h2), ⟨by omega, le1.trans le2, rfl⟩, ?_⟩, ?_⟩
  · simp only [List.take_zero, predBs, bytesVal, List.map_nil, List.append_nil]; exact MT
  rintro ⟨i, ys, hx⟩ ⟨hi, hle, rfl⟩
  dsimp only
  refine branch_dec (fun hlt => ?_) (fun hge => ?_)
  · obtain ⟨q, hq⟩ := getx rfl hlt
    obtain ⟨bb, o, u, e, rr, hru⟩ := (ha.mono hle).at hq
    have b3 := predBs_take (l := qs) (i + 1)
    rw [predBs_snoc hq, List.length_append] at b3
    refine ⟨bb, o, e, by omega, by omega, u, .imm rr, _, u, q, rfl, hru, ?_, ht, ?_, (i + 1, xs ++ bytesVal (numB [v.op, v.cmp]) ++ bytesVal (opdB v.left) ++ bytesVal (opdB v.right) ++ bytesVal (numB [(qs.length : Int)]) ++ bytesVal (predBs (qs.take (i + 1))), hx), ⟨by omega, hle, rfl⟩, by show qs.length - (i + 1) < qs.length - i; omega, ?_⟩
    · have := hargs (List.mem_of_getElem? hq); omega
    · simp only [List.length_append, bytesVal_length]; omega
    · rw [predBs_snoc hq, bytesVal_append, ← List.append_assoc]; exact MT
  · rw [List.take_of_length_le (by omega)]
    refine .out (Sub.refl m) hle ?_
    simp only [predB, bytesVal_append, ← List.append_assoc] at hK
    exact hK
theorem f94_all : ∀ N, Sound Tryz.prog 94 (AppPS N)
  | 0 => by
    refine fn_sound' (fn := Tryz.f94) (c := bodyOf Tryz.f94) Tryz.func94 rfl (by decide) ?_
    rintro cvs m h K ⟨xs, v, p, rfl, _, hN, _, _, _⟩
    omega
  | N + 1 => by
    refine fn_sound' (fn := Tryz.f94) (c := bodyOf Tryz.f94) Tryz.func94 rfl (by decide) ?_
    rintro cvs m h K ⟨xs, v, p, rfl, hp, hN, ht, hl, hK⟩
    refine ⟨f94_ctx N v m, rfl, specs_cons f93_sound (specs_cons f121_sound (specs_cons (f94_all N) specs_nil)), ?_⟩
    rw [← f94_vc N xs v m h _]
    exact f94_ok hp hN ht hl hK
theorem f94_sound : Sound Tryz.prog 94 AppPA := sound_of_all f94_all fun _ _ _ _ ⟨xs, v, p, e, h1, h2, h3, h4⟩ => ⟨SizeOf.sizeOf p + 1, xs, v, p, e, h1, by omega, h2, h3, h4⟩
end Go.Ps
namespace Go.Ps
open Go Go.Vc Go.Proofs
def pairsB (l : List (Int × Int)) : List UInt8 := l.flatMap fun p => numB [p.1, p.2]
def sortsB (l : List (Int × Bool)) : List UInt8 := l.flatMap fun p => numB [p.1, if p.2 then 1 else 0]
def strV (b : List UInt8) : Value := .string ⟨b.toArray⟩
def keyV (t : Step) : List Value := [.int .i64 t.op, .int .i64 t.table, .int .i64 t.limit, .int .i64 t.left, .int .i64 t.right, strV (predB t.wher), strV (numB t.columns), strV (pairsB t.on), strV (numB t.group), strV (sortsB t.order)]
/-- The key can be written down. -/
structure KeyOk (t : Step) : Prop where
  wher : (predB t.wher).length ≤ 1000000000
  columns : t.columns.length ≤ 1000000000
  on : t.on.length ≤ 1000000000
  group : t.group.length ≤ 1000000000
  order : t.order.length ≤ 1000000000
def KeyS : Vc.Spec := fun cvs m h K => ∃ v t, cvs = [aT v] ∧ RepSt h t v ∧ KeyOk t ∧ TabM m ∧ K (.val (.agg ⟨keyV t⟩)) m h
def zero129 : List At := [.val (.int .i64 0), .val (.int .i64 0), .val (.int .i64 0), .val (.int .i64 0), .val (.int .i64 0), .val (.string ⟨#[]⟩), .val (.string ⟨#[]⟩), .val (.string ⟨#[]⟩), .val (.string ⟨#[]⟩), .val (.string ⟨#[]⟩)]
noncomputable def f70_ctx (v : SV2) (m : MH) : Ctx :=
  ctx2 [(93, AppNS), (94, AppPA)] [(3, { A := Nat × List (List Value) × PH, st := fun ⟨i, xs, h⟩ => mkSt 68 69 [(1, .at (.ptr 1 0)), (2, .at (.ptr 2 0)), (3, .at (.lst 23)), (4, .at (.val (.slice none 0 0))), (11, sv v.on), (12, iv v.on.len), (13, iv i)] [(1, .cells 60 (v.enc.map .val)), (2, .cells 129 zero129), (23, .lst 5 1 xs)] m h }),
    (8, { A := Nat × List (List Value) × List (List Value) × PH, st := fun ⟨i, xs, ys, h⟩ => mkSt 68 69 [(1, .at (.ptr 1 0)), (2, .at (.ptr 2 0)), (3, .at (.lst 23)), (4, .at (.lst 39)), (26, sv v.order), (27, iv v.order.len), (28, iv i)] [(1, .cells 60 (v.enc.map .val)), (2, .cells 129 zero129), (23, .lst 5 1 xs), (39, .lst 5 1 ys)] m h })] [] [(93, [0]), (94, [0])] false
def f70_nice (v : SV2) (m : MH) (h : PH) (K : CV → MH → PH → Prop) : Prop :=
    ∃ (I : Nat × List (List Value) × PH -> Prop), ∃ (mu : Nat × List (List Value) × PH -> Nat), (∃ (x : Nat × List (List Value) × PH), I x /\ eQ (sQp 1 0) /\ eQ (sQp 2 0) /\ eQ (sQl 
    23) /\ eQ (sQn) /\ eQ (sQs v.on) /\ eQ (sQi (↑v.on.len : Int)) /\ sQi 0 = sQi (↑x.1 : Int) /\ eQ (oQ 60 (List.map At.val (SV2.enc v))) /\ eQ (oQ 129 [aQi 0, aQi 0, aQi 0, aQi 0, 
    aQi 0, aQz, aQz, aQz, aQz, aQz]) /\ some (Own.lst 5 1 []) = some (Own.lst 5 1 x.2.1) /\ m = m /\ h = x.2.2 /\ True) /\ ∀ (x : Nat × List (List Value) × PH), I x -> branch (decide 
    ((↑x.1 : Int) < (↑v.on.len : Int))) (∃ (b : Nat), ∃ (off : Nat), v.on.a = some (Addr.mk b off none) /\ 0 <= (↑x.1 : Int) /\ (↑x.1 : Int) < (↑v.on.len : Int) /\ ∃ (y : Int × Int), 
    RdAt m x.2.2 b (off + (↑x.1 : Int).toNat * 2) [vQi y.1, vQi y.2] /\ (0 : Int) <= 0 /\ (0 : Int) < 2 /\ (0 : Int) <= 1 /\ (1 : Int) < 2 /\ ∀ (s : Sl) (h' : PH), x.2.2.le h' -> RowIn 
    h' s 1 [[vQi y.1], [vQi y.2]] -> ∃ (xs : List (List Value)), ∃ (s_1 : Sl), ∃ (l : List Int), [CV.lst 5 1 x.2.1, cQs s] = [CV.lst 5 1 xs, cQs s_1] /\ Ints h' s_1 l /\ TabM m /\ 
    xs.length + 22 * l.length + 100 <= 140737488355328 /\ ∃ (y : Nat × List (List Value) × PH), I y /\ mu y < mu x /\ eQ (sQp 1 0) /\ eQ (sQp 2 0) /\ eQ (sQl 23) /\ eQ (sQn) /\ eQ (sQs 
    v.on) /\ eQ (sQi (↑v.on.len : Int)) /\ sQi (IntKind.i64.wrap ((↑x.1 : Int) + 1)) = sQi (↑y.1 : Int) /\ eQ (oQ 60 (List.map At.val (SV2.enc v))) /\ eQ (oQ 129 [aQi 0, aQi 0, aQi 0, 
    aQi 0, aQi 0, aQz, aQz, aQz, aQz, aQz]) /\ some (Own.lst 5 1 (xs ++ bytesVal (numB l))) = some (Own.lst 5 1 y.2.1) /\ m = m /\ h' = y.2.2 /\ True) (∃ (I : Nat × List (List Value) × 
    List (List Value) × PH -> Prop), ∃ (mu : Nat × List (List Value) × List (List Value) × PH -> Nat), (∃ (x_1 : Nat × List (List Value) × List (List Value) × PH), I x_1 /\ eQ (sQp 1 
    0) /\ eQ (sQp 2 0) /\ eQ (sQl 23) /\ eQ (sQl 39) /\ eQ (sQs v.order) /\ eQ (sQi (↑v.order.len : Int)) /\ sQi 0 = sQi (↑x_1.1 : Int) /\ eQ (oQ 60 (List.map At.val (SV2.enc v))) /\ 
    eQ (oQ 129 [aQi 0, aQi 0, aQi 0, aQi 0, aQi 0, aQz, aQz, aQz, aQz, aQz]) /\ some (Own.lst 5 1 x.2.1) = some (Own.lst 5 1 x_1.2.1) /\ some (Own.lst 5 1 []) = some (Own.lst 5 1 
    x_1.2.2.1) /\ m = m /\ x.2.2 = x_1.2.2.2 /\ True) /\ ∀ (x : Nat × List (List Value) × List (List Value) × PH), I x -> branch (decide ((↑x.1 : Int) < (↑v.order.len : Int))) (∃ (b : 
    Nat), ∃ (off : Nat), v.order.a = some (Addr.mk b off none) /\ 0 <= (↑x.1 : Int) /\ (↑x.1 : Int) < (↑v.order.len : Int) /\ ∃ (y : Int × Bool), RdAt m x.2.2.2 b (off + (↑x.1 : 
    Int).toNat * 2) [vQi y.1, Value.bool y.2] /\ branch y.2 (∀ (s : Sl) (h' : PH), x.2.2.2.le h' -> RowIn h' s 1 [[vQi y.1], [vQi 1]] -> ∃ (xs : List (List Value)), ∃ (s_1 : Sl), ∃ (l 
    : List Int), [CV.lst 5 1 x.2.2.1, cQs s] = [CV.lst 5 1 xs, cQs s_1] /\ Ints h' s_1 l /\ TabM m /\ xs.length + 22 * l.length + 100 <= 140737488355328 /\ ∃ (y : Nat × List (List 
    Value) × List (List Value) × PH), I y /\ mu y < mu x /\ eQ (sQp 1 0) /\ eQ (sQp 2 0) /\ eQ (sQl 23) /\ eQ (sQl 39) /\ eQ (sQs v.order) /\ eQ (sQi (↑v.order.len : Int)) /\ sQi 
    (IntKind.i64.wrap ((↑x.1 : Int) + 1)) = sQi (↑y.1 : Int) /\ eQ (oQ 60 (List.map At.val (SV2.enc v))) /\ eQ (oQ 129 [aQi 0, aQi 0, aQi 0, aQi 0, aQi 0, aQz, aQz, aQz, aQz, aQz]) /\ 
    some (Own.lst 5 1 x.2.1) = some (Own.lst 5 1 y.2.1) /\ some (Own.lst 5 1 (xs ++ bytesVal (numB l))) = some (Own.lst 5 1 y.2.2.1) /\ m = m /\ h' = y.2.2.2 /\ True) (∀ (s : Sl) (h' : 
    PH), x.2.2.2.le h' -> RowIn h' s 1 [[vQi y.1], [vQi 0]] -> ∃ (xs : List (List Value)), ∃ (s_1 : Sl), ∃ (l : List Int), [CV.lst 5 1 x.2.2.1, cQs s] = [CV.lst 5 1 xs, cQs s_1] /\ 
    Ints h' s_1 l /\ TabM m /\ xs.length + 22 * l.length + 100 <= 140737488355328 /\ ∃ (y : Nat × List (List Value) × List (List Value) × PH), I y /\ mu y < mu x /\ eQ (sQp 1 0) /\ eQ 
    (sQp 2 0) /\ eQ (sQl 23) /\ eQ (sQl 39) /\ eQ (sQs v.order) /\ eQ (sQi (↑v.order.len : Int)) /\ sQi (IntKind.i64.wrap ((↑x.1 : Int) + 1)) = sQi (↑y.1 : Int) /\ eQ (oQ 60 (List.map 
    At.val (SV2.enc v))) /\ eQ (oQ 129 [aQi 0, aQi 0, aQi 0, aQi 0, aQi 0, aQz, aQz, aQz, aQz, aQz]) /\ some (Own.lst 5 1 x.2.1) = some (Own.lst 5 1 y.2.1) /\ some (Own.lst 5 1 (xs ++ 
    bytesVal (numB l))) = some (Own.lst 5 1 y.2.2.1) /\ m = m /\ h' = y.2.2.2 /\ True)) (∃ (bs : List UInt8), x.2.1 = bytesVal bs /\ ∃ (bs_1 : List UInt8), x.2.2.1 = bytesVal bs_1 /\ 
    x.2.1 = bytesOfStr (ByteArray.mk (Array.mk bs)) /\ x.2.2.1 = bytesOfStr (ByteArray.mk (Array.mk bs_1)) /\ ∃ (xs : List (List Value)), ∃ (v_1 : PV), ∃ (p : Pred), [CV.lst 5 1 [], 
    cQa (PV.enc v.where_)] = [CV.lst 5 1 xs, cQa (PV.enc v_1)] /\ RepP x.2.2.2 p v_1 /\ TabM m /\ xs.length + (predB p).length + 5000 <= 140737488355328 /\ ∃ (bs_2 : List UInt8), xs ++ 
    bytesVal (predB p) = bytesVal bs_2 /\ xs ++ bytesVal (predB p) = bytesOfStr (ByteArray.mk (Array.mk bs_2)) /\ x.2.1 = bytesOfStr (ByteArray.mk (Array.mk bs)) /\ x.2.2.1 = 
    bytesOfStr (ByteArray.mk (Array.mk bs_1)) /\ ∃ (xs_1 : List (List Value)), ∃ (s : Sl), ∃ (l : List Int), [CV.lst 5 1 [], cQs v.columns] = [CV.lst 5 1 xs_1, cQs s] /\ Ints x.2.2.2 s 
    l /\ TabM m /\ xs_1.length + 22 * l.length + 100 <= 140737488355328 /\ ∃ (bs_3 : List UInt8), xs_1 ++ bytesVal (numB l) = bytesVal bs_3 /\ xs ++ bytesVal (predB p) = bytesOfStr 
    (ByteArray.mk (Array.mk bs_2)) /\ xs_1 ++ bytesVal (numB l) = bytesOfStr (ByteArray.mk (Array.mk bs_3)) /\ x.2.1 = bytesOfStr (ByteArray.mk (Array.mk bs)) /\ x.2.2.1 = bytesOfStr 
    (ByteArray.mk (Array.mk bs_1)) /\ ∃ (xs : List (List Value)), ∃ (s : Sl), ∃ (l : List Int), [CV.lst 5 1 [], cQs v.group] = [CV.lst 5 1 xs, cQs s] /\ Ints x.2.2.2 s l /\ TabM m /\ 
    xs.length + 22 * l.length + 100 <= 140737488355328 /\ ∃ (bs_4 : List UInt8), xs ++ bytesVal (numB l) = bytesVal bs_4 /\ K (cQa [vQi v.op, vQi v.table, vQi v.limit, vQi v.left, vQi 
    v.right, Value.string (ByteArray.mk (Array.mk bs_2)), Value.string (ByteArray.mk (Array.mk bs_3)), Value.string (ByteArray.mk (Array.mk bs)), Value.string (ByteArray.mk (Array.mk 
    bs_4)), Value.string (ByteArray.mk (Array.mk bs_1))]) m x.2.2.2))
theorem f70_vc (v : SV2) (m : MH) (h : PH) (K : CV → MH → PH → Prop) : f70_nice v m h K = (fnVC (f70_ctx v m) Tryz.f70 (bodyOf Tryz.f70) (entry Tryz.f70.ntmps [aT v] m h) K) := by kernel_rfl
theorem pairsB_snoc {l : List (Int × Int)} {i : Nat} {x : Int × Int} (hx : l[i]? = some x) : pairsB (l.take (i + 1)) = pairsB (l.take i) ++ numB [x.1, x.2] := by
  rw [List.take_add_one, hx]
  simp [pairsB]
theorem sortsB_snoc {l : List (Int × Bool)} {i : Nat} {x : Int × Bool} (hx : l[i]? = some x) : sortsB (l.take (i + 1)) = sortsB (l.take i) ++ numB [x.1, if x.2 then 1 else 0] := by
  rw [List.take_add_one, hx]
  simp [sortsB]
theorem pairsB_len : ∀ l : List (Int × Int), (pairsB l).length ≤ 44 * l.length
  | [] => by simp [pairsB]
  | n :: l => by
    have := pairsB_len l
    have h2 := numB_len [n.1, n.2]
    unfold pairsB at this ⊢
    simp only [List.flatMap_cons, List.length_append, List.length_cons, List.length_nil] at *
    omega
theorem sortsB_len : ∀ l : List (Int × Bool), (sortsB l).length ≤ 44 * l.length
  | [] => by simp [sortsB]
  | n :: l => by
    have := sortsB_len l
    have h2 := numB_len [n.1, if n.2 then 1 else 0]
    unfold sortsB at this ⊢
    simp only [List.flatMap_cons, List.length_append, List.length_cons, List.length_nil] at *
    omega
theorem f70_ok {v : SV2} {t : Step} {m : MH} {h : PH} {K : CV → MH → PH → Prop} (hv : RepSt h t v) (hk : KeyOk t) (ht : TabM m) (hK : K (.val (.agg ⟨keyV t⟩)) m h) : f70_nice v m h (Weak h K) := by
  have hon := hv.on_.slen
  have hod := hv.order_.slen
  have k1 := hk.wher
  have k2 := hk.columns
  have k3 := hk.on
  have k4 := hk.group
  have k5 := hk.order
  refine ⟨fun ⟨i, xs, hx⟩ => i ≤ t.on.length ∧ PH.le h hx ∧ xs = bytesVal (pairsB (t.on.take i)), fun ⟨i, _, _⟩ => t.on.length - i, ⟨(0, [], h), ⟨by omega, .refl _, by simp [pairsB, bytesVal]⟩, MT⟩, ?_⟩
  rintro ⟨i, xs, hx⟩ ⟨hi, hle, rfl⟩
  dsimp only
  refine branch_dec (fun hlt => ?_) (fun hge => ?_)
  · obtain ⟨x, hxx⟩ := getx hon hlt
    obtain ⟨b, o, e, r⟩ := (hv.on_.mono hle).at hxx
    have n1 := pairsB_len (t.on.take i)
    have n2 : (t.on.take i).length = i := by simp; omega
    refine ⟨b, o, e, by omega, hlt, x, .imm r, by omega, by omega, by omega, by omega, fun s1 h1 le1 r1 => ⟨_, s1, [x.1, x.2], rfl, .ofRow r1 (by simp), ht, ?_, (i + 1, bytesVal (pairsB (t.on.take (i + 1))), h1), ⟨by omega, hle.trans le1, rfl⟩, by show t.on.length - (i + 1) < t.on.length - i; omega, ?_⟩⟩
    · rw [bytesVal_length]; simp only [List.length_cons, List.length_nil]; omega
    · rw [pairsB_snoc hxx, bytesVal_append]; exact MT
  rw [List.take_of_length_le (by omega)]
  refine ⟨fun ⟨i, xs, ys, hx⟩ => i ≤ t.order.length ∧ PH.le h hx ∧ xs = bytesVal (pairsB t.on) ∧ ys = bytesVal (sortsB (t.order.take i)), fun ⟨i, _, _, _⟩ => t.order.length - i, ⟨(0, bytesVal (pairsB t.on), [], hx), ⟨by omega, hle, rfl, by simp [sortsB, bytesVal]⟩, MT⟩, ?_⟩
  clear hle hge hi
  clear i hx
  rintro ⟨i, xs, ys, hx⟩ ⟨hi, hle, rfl, rfl⟩
  dsimp only
  refine branch_dec (fun hlt => ?_) (fun hge => ?_)
  · obtain ⟨x, hxx⟩ := getx hod hlt
    obtain ⟨b, o, e, r⟩ := (hv.order_.mono hle).at hxx
    have n1 := sortsB_len (t.order.take i)
    have n2 : (t.order.take i).length = i := by simp; omega
    refine ⟨b, o, e, by omega, hlt, x, .imm r, branch_intro (fun hd s1 h1 le1 r1 => ⟨_, s1, [x.1, 1], rfl, .ofRow r1 (by simp), ht, ?_, (i + 1, bytesVal (pairsB t.on), bytesVal (sortsB (t.order.take (i + 1))), h1), ⟨by omega, hle.trans le1, rfl, rfl⟩, by show t.order.length - (i + 1) < t.order.length - i; omega, ?_⟩) (fun hd s1 h1 le1 r1 => ⟨_, s1, [x.1, 0], rfl, .ofRow r1 (by simp), ht, ?_, (i + 1, bytesVal (pairsB t.on), bytesVal (sortsB (t.order.take (i + 1))), h1), ⟨by omega, hle.trans le1, rfl, rfl⟩, by show t.order.length - (i + 1) < t.order.length - i; omega, ?_⟩)⟩
    · rw [bytesVal_length]; simp only [List.length_cons, List.length_nil]; omega
    · rw [sortsB_snoc hxx, bytesVal_append, hd]; exact MT
    · rw [bytesVal_length]; simp only [List.length_cons, List.length_nil]; omega
    · rw [sortsB_snoc hxx, bytesVal_append, hd]; exact MT
  rw [List.take_of_length_le (by omega)]
  refine ⟨_, rfl, _, rfl, bytesOf_dig _, bytesOf_dig _, [], v.where_, t.wher, rfl, hv.where_.mono hle, ht, by simp; omega, _, rfl, bytesOf_dig _, bytesOf_dig _, bytesOf_dig _, [], v.columns, t.columns, rfl, hv.columns_.mono hle, ht, by simp; omega, _, rfl, bytesOf_dig _, bytesOf_dig _, bytesOf_dig _, bytesOf_dig _, [], v.group, t.group, rfl, hv.group_.mono hle, ht, by simp; omega, _, rfl, .out (Sub.refl m) hle ?_⟩
  rw [hv.op_, hv.table_, hv.limit_, hv.left_, hv.right_]
  exact hK
theorem f70_sound : Sound Tryz.prog 70 KeyS := by
  refine fn_sound' (fn := Tryz.f70) (c := bodyOf Tryz.f70) Tryz.func70 rfl (by decide) ?_
  rintro cvs m h K ⟨v, t, rfl, hv, hk, ht, hK⟩
  refine ⟨f70_ctx v m, rfl, specs_cons f93_sound (specs_cons f94_sound specs_nil), ?_⟩
  rw [← f70_vc v m h _]
  exact f70_ok hv hk ht hK
end Go.Ps
namespace Go.Ps
open Go Go.Vc Go.Proofs
structure KV where
  i0 : Int
  i1 : Int
  i2 : Int
  i3 : Int
  i4 : Int
  s0 : ByteArray
  s1 : ByteArray
  s2 : ByteArray
  s3 : ByteArray
  s4 : ByteArray
def KV.val (a : KV) : Value := .agg #[.int .i64 a.i0, .int .i64 a.i1, .int .i64 a.i2, .int .i64 a.i3, .int .i64 a.i4, .string a.s0, .string a.s1, .string a.s2, .string a.s3, .string a.s4]
def eqKV (a b : KV) : Bool := a.i0 == b.i0 && (a.i1 == b.i1 && (a.i2 == b.i2 && (a.i3 == b.i3 && (a.i4 == b.i4 && (a.s0.toList == b.s0.toList && (a.s1.toList == b.s1.toList && (a.s2.toList == b.s2.toList && (a.s3.toList == b.s3.toList && (a.s4.toList == b.s4.toList && (true))))))))))
theorem eqKV_run (a b : KV) (d : Nat) (w : World) : (Op.equalIn (d + 2) 129 a.val b.val).run Tryz.prog w = .ok (eqKV a b) w := by
  unfold KV.val
  rw [run_equalIn_struct w (d + 1) 129 _ _ (by kernel_rfl) (by kernel_rfl), show (Tryz.prog.fieldsOf 129).toList = [fld 129 0, fld 129 1, fld 129 2, fld 129 3, fld 129 4, fld 129 5, fld 129 6, fld 129 7, fld 129 8, fld 129 9] by kernel_rfl]
  refine eqFields_cons (x := .int .i64 a.i0) (y := .int .i64 b.i0) (by kernel_rfl) (by kernel_rfl) (by kernel_rfl) (run_equalIn_int w d _ .i64 .i64 _ _ (by kernel_rfl)) ?_
  refine eqFields_cons (x := .int .i64 a.i1) (y := .int .i64 b.i1) (by kernel_rfl) (by kernel_rfl) (by kernel_rfl) (run_equalIn_int w d _ .i64 .i64 _ _ (by kernel_rfl)) ?_
  refine eqFields_cons (x := .int .i64 a.i2) (y := .int .i64 b.i2) (by kernel_rfl) (by kernel_rfl) (by kernel_rfl) (run_equalIn_int w d _ .i64 .i64 _ _ (by kernel_rfl)) ?_
  refine eqFields_cons (x := .int .i64 a.i3) (y := .int .i64 b.i3) (by kernel_rfl) (by kernel_rfl) (by kernel_rfl) (run_equalIn_int w d _ .i64 .i64 _ _ (by kernel_rfl)) ?_
  refine eqFields_cons (x := .int .i64 a.i4) (y := .int .i64 b.i4) (by kernel_rfl) (by kernel_rfl) (by kernel_rfl) (run_equalIn_int w d _ .i64 .i64 _ _ (by kernel_rfl)) ?_
  refine eqFields_cons (x := .string a.s0) (y := .string b.s0) (by kernel_rfl) (by kernel_rfl) (by kernel_rfl) (run_equalIn_string w d _ _ _ (by kernel_rfl)) ?_
  refine eqFields_cons (x := .string a.s1) (y := .string b.s1) (by kernel_rfl) (by kernel_rfl) (by kernel_rfl) (run_equalIn_string w d _ _ _ (by kernel_rfl)) ?_
  refine eqFields_cons (x := .string a.s2) (y := .string b.s2) (by kernel_rfl) (by kernel_rfl) (by kernel_rfl) (run_equalIn_string w d _ _ _ (by kernel_rfl)) ?_
  refine eqFields_cons (x := .string a.s3) (y := .string b.s3) (by kernel_rfl) (by kernel_rfl) (by kernel_rfl) (run_equalIn_string w d _ _ _ (by kernel_rfl)) ?_
  refine eqFields_cons (x := .string a.s4) (y := .string b.s4) (by kernel_rfl) (by kernel_rfl) (by kernel_rfl) (run_equalIn_string w d _ _ _ (by kernel_rfl)) ?_
  simp [Op.eqFields]
theorem eqKV_iff {a b : KV} : eqKV a b = true ↔ a = b := by
  obtain ⟨i0, i1, i2, i3, i4, s0, s1, s2, s3, s4⟩ := a
  obtain ⟨i0', i1', i2', i3', i4', s0', s1', s2', s3', s4'⟩ := b
  simp only [eqKV, Bool.and_true, Bool.and_eq_true, beq_iff_eq, KV.mk.injEq]
  constructor
  · rintro ⟨h1, h2, h3, h4, h5, h6, h7, h8, h9, h10⟩
    exact ⟨h1, h2, h3, h4, h5, bytes_ext h6, bytes_ext h7, bytes_ext h8, bytes_ext h9, bytes_ext h10⟩
  · rintro ⟨h1, h2, h3, h4, h5, h6, h7, h8, h9, h10⟩
    exact ⟨h1, h2, h3, h4, h5, by rw [h6], by rw [h7], by rw [h8], by rw [h9], by rw [h10]⟩
theorem KV.val_inj {a b : KV} : a.val = b.val ↔ a = b := by
  obtain ⟨i0, i1, i2, i3, i4, s0, s1, s2, s3, s4⟩ := a
  obtain ⟨i0', i1', i2', i3', i4', s0', s1', s2', s3', s4'⟩ := b
  simp [KV.val]
theorem under129 : ∃ fs, Tryz.prog.underlying 129 = some (.struct fs) := by
  have : (match Tryz.prog.underlying 129 with | some (.struct _) => true | _ => false) = true := by kernel_rfl
  split at this
  · rename_i fs h; exact ⟨fs, h⟩
  · cases this
theorem keyLaw129 : KeyLaw Tryz.prog 129 (fun v => ∃ a : KV, v = a.val) := by
  obtain ⟨fs, hfs⟩ := under129
  refine ⟨⟨_, hfs⟩, ?_, ?_, ?_⟩
  · rintro _ w b ⟨a, rfl⟩
    exact semVal_run _ _ _ (show semVal Tryz.prog (Instr.checkKey b 10000 129 a.val) = some () by kernel_rfl) w
  · rintro _ _ w ⟨a, rfl⟩ ⟨b, rfl⟩
    refine ⟨_, eqKV_run a b 9998 w, ?_⟩
    rw [eqKV_iff, KV.val_inj]
  · rintro d _ _ r hd ⟨a, rfl⟩ ⟨b, rfl⟩ h
    rw [hfs] at hd
    cases hd
    simp [KV.val, Instr.sameNow] at h
def keyOf (t : Step) : KV := ⟨t.op, t.table, t.limit, t.left, t.right, ⟨(predB t.wher).toArray⟩, ⟨(numB t.columns).toArray⟩, ⟨(pairsB t.on).toArray⟩, ⟨(numB t.group).toArray⟩, ⟨(sortsB t.order).toArray⟩⟩
theorem keyOf_val (t : Step) : (keyOf t).val = .agg ⟨keyV t⟩ := rfl
end Go.Ps
namespace Go.Ps
open Go Go.Vc Go.Proofs
/-- A step is found, or added. -/
def AddT (t : Step) (ts ts' : List Step) (k : Nat) : Prop := (∃ x, ts[k]? = some x ∧ keyOf x = keyOf t ∧ ts' = ts) ∨ ((∀ x ∈ ts, keyOf x ≠ keyOf t) ∧ ts' = ts ++ [t] ∧ k = ts.length)
def stepOf : Query → Int → Int → Step
  | .mk op ta w co on gr od li _, l, r => ⟨op, ta, w, co, on, gr, od, li, l, r⟩
def AddQ (q : Query) (ts ts' : List Step) (k : Nat) : Prop :=
  match q with
  | .mk op ta w co on gr od li [] => AddT ⟨op, ta, w, co, on, gr, od, li, 0, 0⟩ ts ts' k
  | .mk op ta w co on gr od li [a] => ∃ ts1 l, AddQ a ts ts1 l ∧ AddT ⟨op, ta, w, co, on, gr, od, li, l, 0⟩ ts1 ts' k
  | .mk op ta w co on gr od li (a :: b :: _) => ∃ ts1 l ts2 r, AddQ a ts ts1 l ∧ AddQ b ts1 ts2 r ∧ AddT ⟨op, ta, w, co, on, gr, od, li, l, r⟩ ts2 ts' k
  termination_by SizeOf.sizeOf q
/-- The keys of all nodes can be written down. -/
def QKeyOk (q : Query) : Prop :=
  match q with
  | .mk op ta w co on gr od li args => KeyOk ⟨op, ta, w, co, on, gr, od, li, 0, 0⟩ ∧ ∀ a ∈ args, QKeyOk a
  termination_by SizeOf.sizeOf q
def Steps (h : PH) (vs : List SV2) (ts : List Step) : Prop := vs.length = ts.length ∧ ∀ (i : Nat) t, ts[i]? = some t → ∃ v, vs[i]? = some v ∧ RepSt h t v
structure CompAt (m : MH) (h : PH) (cb mb : Nat) (s : Sl) (ts : List Step) : Prop where
  at_ : m cb = some (.cells #[.slice s.a s.len s.cap, .map (some mb)] 90 (0, 0))
  row : ∃ vs, MRow m s 60 22 (vs.map SV2.enc) ∧ Steps h vs ts
  map_ : MapAt m mb (ts.mapIdx fun i t => ((keyOf t).val, .int .i64 i))
  nodup : (ts.map keyOf).Nodup
structure Grew (m m' : MH) (cb mb : Nat) (s s' : Sl) : Prop where
  other : ∀ b o, m b = some o → b ≠ cb → b ≠ mb → (∀ i, s.a ≠ some ⟨b, i, none⟩) → m' b = some o
  fresh : ∀ b i, s'.a = some ⟨b, i, none⟩ → m b = none ∨ ∃ i, s.a = some ⟨b, i, none⟩
def AddSp (N : Nat) : Vc.Spec := fun cvs m h K => ∃ v q cb mb s ts, cvs = [cP cb, aQ v] ∧ RepQ h q v ∧ SizeOf.sizeOf q < N ∧ QKeyOk q ∧ CompAt m h cb mb s ts ∧ TabM m ∧ (ts.length : Int) + szQ q ≤ 1000000 ∧
  ∀ ts' (k : Nat) s' m' h', PH.le h h' → AddQ q ts ts' k → CompAt m' h' cb mb s' ts' → Grew m m' cb mb s s' → K (cI k) m' h'
noncomputable def f33_ctx (N : Nat) (cb : Nat) (v : QV) : Ctx :=
  ctx4 [(66, CopyPA), (67, CloneIS), (68, ClonePS), (69, CloneSS), (70, KeyS), (33, AddSp N)] []
   [(2, { A := SV2 × MH × PH, st := fun ⟨t, m, h⟩ => mkSt 89 91 [(0, pv cb), (3, .at (.ptr 3 0)), (5, .at (.ptr 5 0))] [(3, .cells 43 (v.enc.map .val)), (5, .cells 60 (t.enc.map .val))] m h }),
    (4, { A := SV2 × MH × PH, st := fun ⟨t, m, h⟩ => mkSt 89 91 [(0, pv cb), (3, .at (.ptr 3 0)), (5, .at (.ptr 5 0))] [(3, .cells 43 (v.enc.map .val)), (5, .cells 60 (t.enc.map .val))] m h }),
    (6, { A := SV2 × MH × PH, st := fun ⟨t, m, h⟩ => mkSt 89 91 [(0, pv cb), (5, .at (.ptr 5 0))] [(5, .cells 60 (t.enc.map .val))] m h })] [] [1047] [] false
def f33_nice (N : Nat) (cb : Nat) (v : QV) (m : MH) (h : PH) (K : CV → MH → PH → Prop) : Prop :=
    ∃ (I : SV2 × MH × PH -> Prop), ((∃ (v_1 : PV), ∃ (p : Pred), [cQa (PV.enc v.where_)] = [cQa (PV.enc v_1)] /\ RepP h p v_1 /\ ∀ (v' : PV) (h' : PH), h.le h' -> RepP h' p v' -> (∃ (s 
    : Sl), ∃ (l : List Int), [cQs v.columns] = [cQs s] /\ Ints h' s l /\ ∀ (s' : Sl) (h'_1 : PH), h'.le h'_1 -> Ints h'_1 s' l -> (∃ (s : Sl), ∃ (l : List (Int × Int)), [cQs v.on] = 
    [cQs s] /\ Pairs h'_1 s l /\ ∀ (s'_1 : Sl) (h' : PH), h'_1.le h' -> Pairs h' s'_1 l -> (∃ (s : Sl), ∃ (l : List Int), [cQs v.group] = [cQs s] /\ Ints h' s l /\ ∀ (s'_2 : Sl) (h'_2 
    : PH), h'.le h'_2 -> Ints h'_2 s'_2 l -> (∃ (s : Sl), ∃ (l : List (Int × Bool)), [cQs v.order] = [cQs s] /\ Sorts h'_2 s l /\ ∀ (s'_3 : Sl) (h' : PH), h'_2.le h' -> Sorts h' s'_3 l 
    -> ∃ (x : SV2 × MH × PH), I x /\ eQ (sQo cb 0) /\ eQ (sQp 3 0) /\ eQ (sQp 5 0) /\ eQ (oQ 43 (List.map At.val (QV.enc v))) /\ oQ 60 [aQi v.op, aQi v.table, At.val (vQi v'.op), 
    At.val (vQi v'.cmp), At.val (vQi v'.left.kind), At.val (vQi v'.left.index), At.val (vQi v'.left.value.kind), At.val (vQi v'.left.value.int), At.val (Value.string 
    v'.left.value.text), At.val (vQi v'.right.kind), At.val (vQi v'.right.index), At.val (vQi v'.right.value.kind), At.val (vQi v'.right.value.int), At.val (Value.string 
    v'.right.value.text), At.val (Value.slice v'.args.a v'.args.len v'.args.cap), At.val (Value.slice s'.a s'.len s'.cap), At.val (Value.slice s'_1.a s'_1.len s'_1.cap), At.val 
    (Value.slice s'_2.a s'_2.len s'_2.cap), At.val (Value.slice s'_3.a s'_3.len s'_3.cap), aQi v.limit, aQi 0, aQi 0] = oQ 60 (List.map At.val (SV2.enc x.1)) /\ m = x.2.1 /\ h' = x.2.2 
    /\ True) /\ ∃ (s : Sl), ∃ (l : List (Int × Bool)), [cQs v.order] = [cQs s] /\ Sorts h'_2 s l /\ ∀ (s'_3 : Sl) (h' : PH), h'_2.le h' -> Sorts h' s'_3 l -> ∃ (x : SV2 × MH × PH), I x 
    /\ eQ (sQo cb 0) /\ eQ (sQp 3 0) /\ eQ (sQp 5 0) /\ eQ (oQ 43 (List.map At.val (QV.enc v))) /\ oQ 60 [aQi v.op, aQi v.table, At.val (vQi v'.op), At.val (vQi v'.cmp), At.val (vQi 
    v'.left.kind), At.val (vQi v'.left.index), At.val (vQi v'.left.value.kind), At.val (vQi v'.left.value.int), At.val (Value.string v'.left.value.text), At.val (vQi v'.right.kind), 
    At.val (vQi v'.right.index), At.val (vQi v'.right.value.kind), At.val (vQi v'.right.value.int), At.val (Value.string v'.right.value.text), At.val (Value.slice v'.args.a v'.args.len 
    v'.args.cap), At.val (Value.slice s'.a s'.len s'.cap), At.val (Value.slice s'_1.a s'_1.len s'_1.cap), At.val (Value.slice s'_2.a s'_2.len s'_2.cap), At.val (Value.slice s'_3.a 
    s'_3.len s'_3.cap), aQi v.limit, aQi 0, aQi 0] = oQ 60 (List.map At.val (SV2.enc x.1)) /\ m = x.2.1 /\ h' = x.2.2 /\ True) /\ ∃ (s : Sl), ∃ (l : List Int), [cQs v.group] = [cQs s] 
    /\ Ints h' s l /\ ∀ (s'_2 : Sl) (h'_2 : PH), h'.le h'_2 -> Ints h'_2 s'_2 l -> ∃ (s : Sl), ∃ (l : List (Int × Bool)), [cQs v.order] = [cQs s] /\ Sorts h'_2 s l /\ ∀ (s'_3 : Sl) (h' 
    : PH), h'_2.le h' -> Sorts h' s'_3 l -> ∃ (x : SV2 × MH × PH), I x /\ eQ (sQo cb 0) /\ eQ (sQp 3 0) /\ eQ (sQp 5 0) /\ eQ (oQ 43 (List.map At.val (QV.enc v))) /\ oQ 60 [aQi v.op, 
    aQi v.table, At.val (vQi v'.op), At.val (vQi v'.cmp), At.val (vQi v'.left.kind), At.val (vQi v'.left.index), At.val (vQi v'.left.value.kind), At.val (vQi v'.left.value.int), At.val 
    (Value.string v'.left.value.text), At.val (vQi v'.right.kind), At.val (vQi v'.right.index), At.val (vQi v'.right.value.kind), At.val (vQi v'.right.value.int), At.val (Value.string 
    v'.right.value.text), At.val (Value.slice v'.args.a v'.args.len v'.args.cap), At.val (Value.slice s'.a s'.len s'.cap), At.val (Value.slice s'_1.a s'_1.len s'_1.cap), At.val 
    (Value.slice s'_2.a s'_2.len s'_2.cap), At.val (Value.slice s'_3.a s'_3.len s'_3.cap), aQi v.limit, aQi 0, aQi 0] = oQ 60 (List.map At.val (SV2.enc x.1)) /\ m = x.2.1 /\ h' = x.2.2 
    /\ True) /\ ∃ (s : Sl), ∃ (l : List (Int × Int)), [cQs v.on] = [cQs s] /\ Pairs h'_1 s l /\ ∀ (s'_1 : Sl) (h' : PH), h'_1.le h' -> Pairs h' s'_1 l -> ∃ (s : Sl), ∃ (l : List Int), 
    [cQs v.group] = [cQs s] /\ Ints h' s l /\ ∀ (s'_2 : Sl) (h'_2 : PH), h'.le h'_2 -> Ints h'_2 s'_2 l -> ∃ (s : Sl), ∃ (l : List (Int × Bool)), [cQs v.order] = [cQs s] /\ Sorts h'_2 
    s l /\ ∀ (s'_3 : Sl) (h' : PH), h'_2.le h' -> Sorts h' s'_3 l -> ∃ (x : SV2 × MH × PH), I x /\ eQ (sQo cb 0) /\ eQ (sQp 3 0) /\ eQ (sQp 5 0) /\ eQ (oQ 43 (List.map At.val (QV.enc 
    v))) /\ oQ 60 [aQi v.op, aQi v.table, At.val (vQi v'.op), At.val (vQi v'.cmp), At.val (vQi v'.left.kind), At.val (vQi v'.left.index), At.val (vQi v'.left.value.kind), At.val (vQi 
    v'.left.value.int), At.val (Value.string v'.left.value.text), At.val (vQi v'.right.kind), At.val (vQi v'.right.index), At.val (vQi v'.right.value.kind), At.val (vQi 
    v'.right.value.int), At.val (Value.string v'.right.value.text), At.val (Value.slice v'.args.a v'.args.len v'.args.cap), At.val (Value.slice s'.a s'.len s'.cap), At.val (Value.slice 
    s'_1.a s'_1.len s'_1.cap), At.val (Value.slice s'_2.a s'_2.len s'_2.cap), At.val (Value.slice s'_3.a s'_3.len s'_3.cap), aQi v.limit, aQi 0, aQi 0] = oQ 60 (List.map At.val 
    (SV2.enc x.1)) /\ m = x.2.1 /\ h' = x.2.2 /\ True) /\ ∃ (s : Sl), ∃ (l : List Int), [cQs v.columns] = [cQs s] /\ Ints h' s l /\ ∀ (s' : Sl) (h'_1 : PH), h'.le h'_1 -> Ints h'_1 s' 
    l -> ∃ (s : Sl), ∃ (l : List (Int × Int)), [cQs v.on] = [cQs s] /\ Pairs h'_1 s l /\ ∀ (s'_1 : Sl) (h' : PH), h'_1.le h' -> Pairs h' s'_1 l -> ∃ (s : Sl), ∃ (l : List Int), [cQs 
    v.group] = [cQs s] /\ Ints h' s l /\ ∀ (s'_2 : Sl) (h'_2 : PH), h'.le h'_2 -> Ints h'_2 s'_2 l -> ∃ (s : Sl), ∃ (l : List (Int × Bool)), [cQs v.order] = [cQs s] /\ Sorts h'_2 s l 
    /\ ∀ (s'_3 : Sl) (h' : PH), h'_2.le h' -> Sorts h' s'_3 l -> ∃ (x : SV2 × MH × PH), I x /\ eQ (sQo cb 0) /\ eQ (sQp 3 0) /\ eQ (sQp 5 0) /\ eQ (oQ 43 (List.map At.val (QV.enc v))) 
    /\ oQ 60 [aQi v.op, aQi v.table, At.val (vQi v'.op), At.val (vQi v'.cmp), At.val (vQi v'.left.kind), At.val (vQi v'.left.index), At.val (vQi v'.left.value.kind), At.val (vQi 
    v'.left.value.int), At.val (Value.string v'.left.value.text), At.val (vQi v'.right.kind), At.val (vQi v'.right.index), At.val (vQi v'.right.value.kind), At.val (vQi 
    v'.right.value.int), At.val (Value.string v'.right.value.text), At.val (Value.slice v'.args.a v'.args.len v'.args.cap), At.val (Value.slice s'.a s'.len s'.cap), At.val (Value.slice 
    s'_1.a s'_1.len s'_1.cap), At.val (Value.slice s'_2.a s'_2.len s'_2.cap), At.val (Value.slice s'_3.a s'_3.len s'_3.cap), aQi v.limit, aQi 0, aQi 0] = oQ 60 (List.map At.val 
    (SV2.enc x.1)) /\ m = x.2.1 /\ h' = x.2.2 /\ True) /\ ∃ (v_1 : PV), ∃ (p : Pred), [cQa (PV.enc v.where_)] = [cQa (PV.enc v_1)] /\ RepP h p v_1 /\ ∀ (v' : PV) (h' : PH), h.le h' -> 
    RepP h' p v' -> ∃ (s : Sl), ∃ (l : List Int), [cQs v.columns] = [cQs s] /\ Ints h' s l /\ ∀ (s' : Sl) (h'_1 : PH), h'.le h'_1 -> Ints h'_1 s' l -> ∃ (s : Sl), ∃ (l : List (Int × 
    Int)), [cQs v.on] = [cQs s] /\ Pairs h'_1 s l /\ ∀ (s'_1 : Sl) (h' : PH), h'_1.le h' -> Pairs h' s'_1 l -> ∃ (s : Sl), ∃ (l : List Int), [cQs v.group] = [cQs s] /\ Ints h' s l /\ ∀ 
    (s'_2 : Sl) (h'_2 : PH), h'.le h'_2 -> Ints h'_2 s'_2 l -> ∃ (s : Sl), ∃ (l : List (Int × Bool)), [cQs v.order] = [cQs s] /\ Sorts h'_2 s l /\ ∀ (s'_3 : Sl) (h' : PH), h'_2.le h' 
    -> Sorts h' s'_3 l -> ∃ (x : SV2 × MH × PH), I x /\ eQ (sQo cb 0) /\ eQ (sQp 3 0) /\ eQ (sQp 5 0) /\ eQ (oQ 43 (List.map At.val (QV.enc v))) /\ oQ 60 [aQi v.op, aQi v.table, At.val 
    (vQi v'.op), At.val (vQi v'.cmp), At.val (vQi v'.left.kind), At.val (vQi v'.left.index), At.val (vQi v'.left.value.kind), At.val (vQi v'.left.value.int), At.val (Value.string 
    v'.left.value.text), At.val (vQi v'.right.kind), At.val (vQi v'.right.index), At.val (vQi v'.right.value.kind), At.val (vQi v'.right.value.int), At.val (Value.string 
    v'.right.value.text), At.val (Value.slice v'.args.a v'.args.len v'.args.cap), At.val (Value.slice s'.a s'.len s'.cap), At.val (Value.slice s'_1.a s'_1.len s'_1.cap), At.val 
    (Value.slice s'_2.a s'_2.len s'_2.cap), At.val (Value.slice s'_3.a s'_3.len s'_3.cap), aQi v.limit, aQi 0, aQi 0] = oQ 60 (List.map At.val (SV2.enc x.1)) /\ m = x.2.1 /\ h' = x.2.2 
    /\ True) /\ ∀ (x : SV2 × MH × PH), I x -> ∃ (I : SV2 × MH × PH -> Prop), branch (decide ((↑v.args.len : Int) > 0)) (∃ (b : Nat), ∃ (off : Nat), v.args.a = some (Addr.mk b off none) 
    /\ (0 : Int) <= 0 /\ 0 < (↑v.args.len : Int) /\ ∃ (y : QV), RdAt x.2.1 x.2.2 b (off + 0) (QV.enc y) /\ ∃ (v_1 : QV), ∃ (q : Query), ∃ (cb_1 : Nat), ∃ (mb : Nat), ∃ (s : Sl), ∃ (ts 
    : List Step), [cQp cb 0, cQa (QV.enc y)] = [cQp cb_1 0, cQa (QV.enc v_1)] /\ RepQ x.2.2 q v_1 /\ SizeOf.sizeOf q < N /\ QKeyOk q /\ CompAt x.2.1 x.2.2 cb_1 mb s ts /\ TabM x.2.1 /\ 
    (↑ts.length : Int) + szQ q <= 1000000 /\ ∀ (ts' : List Step) (k : Nat) (s' : Sl) (m' : MH) (h' : PH), x.2.2.le h' -> AddQ q ts ts' k -> CompAt m' h' cb_1 mb s' ts' -> Grew x.2.1 m' 
    cb_1 mb s s' -> ∃ (x_1 : SV2 × MH × PH), I x_1 /\ eQ (sQo cb 0) /\ eQ (sQp 3 0) /\ eQ (sQp 5 0) /\ eQ (oQ 43 (List.map At.val (QV.enc v))) /\ oQ 60 [aQi x.1.op, aQi x.1.table, aQi 
    x.1.where_.op, aQi x.1.where_.cmp, aQi x.1.where_.left.kind, aQi x.1.where_.left.index, aQi x.1.where_.left.value.kind, aQi x.1.where_.left.value.int, At.val (Value.string 
    x.1.where_.left.value.text), aQi x.1.where_.right.kind, aQi x.1.where_.right.index, aQi x.1.where_.right.value.kind, aQi x.1.where_.right.value.int, At.val (Value.string 
    x.1.where_.right.value.text), aQs x.1.where_.args, aQs x.1.columns, aQs x.1.on, aQs x.1.group, aQs x.1.order, aQi x.1.limit, aQi (↑k : Int), aQi x.1.right] = oQ 60 (List.map At.val 
    (SV2.enc x_1.1)) /\ m' = x_1.2.1 /\ h' = x_1.2.2 /\ True) (∃ (x_1 : SV2 × MH × PH), I x_1 /\ eQ (sQo cb 0) /\ eQ (sQp 3 0) /\ eQ (sQp 5 0) /\ eQ (oQ 43 (List.map At.val (QV.enc 
    v))) /\ oQ 60 (List.map At.val (SV2.enc x.1)) = oQ 60 (List.map At.val (SV2.enc x_1.1)) /\ x.2.1 = x_1.2.1 /\ x.2.2 = x_1.2.2 /\ True) /\ ∀ (x : SV2 × MH × PH), I x -> ∃ (I : SV2 × 
    MH × PH -> Prop), branch (decide ((↑v.args.len : Int) > 1)) (∃ (b : Nat), ∃ (off : Nat), v.args.a = some (Addr.mk b off none) /\ (0 : Int) <= 1 /\ 1 < (↑v.args.len : Int) /\ ∃ (y : 
    QV), RdAt x.2.1 x.2.2 b (off + 21) (QV.enc y) /\ ∃ (v : QV), ∃ (q : Query), ∃ (cb_1 : Nat), ∃ (mb : Nat), ∃ (s : Sl), ∃ (ts : List Step), [cQp cb 0, cQa (QV.enc y)] = [cQp cb_1 0, 
    cQa (QV.enc v)] /\ RepQ x.2.2 q v /\ SizeOf.sizeOf q < N /\ QKeyOk q /\ CompAt x.2.1 x.2.2 cb_1 mb s ts /\ TabM x.2.1 /\ (↑ts.length : Int) + szQ q <= 1000000 /\ ∀ (ts' : List 
    Step) (k : Nat) (s' : Sl) (m' : MH) (h' : PH), x.2.2.le h' -> AddQ q ts ts' k -> CompAt m' h' cb_1 mb s' ts' -> Grew x.2.1 m' cb_1 mb s s' -> ∃ (x_1 : SV2 × MH × PH), I x_1 /\ eQ 
    (sQo cb 0) /\ eQ (sQp 5 0) /\ oQ 60 [aQi x.1.op, aQi x.1.table, aQi x.1.where_.op, aQi x.1.where_.cmp, aQi x.1.where_.left.kind, aQi x.1.where_.left.index, aQi 
    x.1.where_.left.value.kind, aQi x.1.where_.left.value.int, At.val (Value.string x.1.where_.left.value.text), aQi x.1.where_.right.kind, aQi x.1.where_.right.index, aQi 
    x.1.where_.right.value.kind, aQi x.1.where_.right.value.int, At.val (Value.string x.1.where_.right.value.text), aQs x.1.where_.args, aQs x.1.columns, aQs x.1.on, aQs x.1.group, aQs 
    x.1.order, aQi x.1.limit, aQi x.1.left, aQi (↑k : Int)] = oQ 60 (List.map At.val (SV2.enc x_1.1)) /\ m' = x_1.2.1 /\ h' = x_1.2.2 /\ True) (∃ (x_1 : SV2 × MH × PH), I x_1 /\ eQ 
    (sQo cb 0) /\ eQ (sQp 5 0) /\ oQ 60 (List.map At.val (SV2.enc x.1)) = oQ 60 (List.map At.val (SV2.enc x_1.1)) /\ x.2.1 = x_1.2.1 /\ x.2.2 = x_1.2.2 /\ True) /\ ∀ (x : SV2 × MH × 
    PH), I x -> ∃ (v_1 : SV2), ∃ (t : Step), [cQa (SV2.enc x.1)] = [cQa (SV2.enc v_1)] /\ RepSt x.2.2 t v_1 /\ KeyOk t /\ TabM x.2.1 /\ ∃ (y : Nat), RdAt x.2.1 x.2.2 cb 1 [Value.map 
    (some y)] /\ ∃ (kvs : List (Value × ((f33_ctx N cb v).dec 3).X)), ∃ (Ok : Value -> Prop), MapAt x.2.1 y (List.map (fun (p : Value × ((f33_ctx N cb v).dec 3).X) => (p.1, vQi p.2)) 
    kvs) /\ KeyLaw Tryz.prog 129 Ok /\ Ok (Value.agg (Array.mk [vQi t.op, vQi t.table, vQi t.limit, vQi t.left, vQi t.right, Value.string (ByteArray.mk (Array.mk (predB t.wher))), 
    Value.string (ByteArray.mk (Array.mk (numB t.columns))), Value.string (ByteArray.mk (Array.mk (pairsB t.on))), Value.string (ByteArray.mk (Array.mk (numB t.group))), Value.string 
    (ByteArray.mk (Array.mk (sortsB t.order)))])) /\ (∀ (e : Value × ((f33_ctx N cb v).dec 3).X), List.Mem e kvs -> Ok e.1) /\ ((∀ (e : Value × ((f33_ctx N cb v).dec 3).X), List.Mem e 
    kvs -> e.1 = Value.agg (Array.mk [vQi t.op, vQi t.table, vQi t.limit, vQi t.left, vQi t.right, Value.string (ByteArray.mk (Array.mk (predB t.wher))), Value.string (ByteArray.mk 
    (Array.mk (numB t.columns))), Value.string (ByteArray.mk (Array.mk (pairsB t.on))), Value.string (ByteArray.mk (Array.mk (numB t.group))), Value.string (ByteArray.mk (Array.mk 
    (sortsB t.order)))]) -> False) -> ∃ (y : Sl), RdAt x.2.1 x.2.2 cb 0 [vQs y] /\ ∃ (y_1 : Sl), RdAt x.2.1 x.2.2 cb 0 [vQs y_1] /\ RdAt x.2.1 x.2.2 cb 0 [vQs y_1] /\ ∃ (xs : List 
    (List Value)), MRow x.2.1 (Sl.mk y_1.a y_1.len y_1.cap) 60 22 xs /\ (xs.length + 1) * 272 <= 140737488355328 /\ xs.length < 140737488355328 /\ ∀ (s' : Sl) (m' : MH), MGrown x.2.1 
    m' (Sl.mk y_1.a y_1.len y_1.cap) s' 60 22 (xs ++ [(SV2.enc x.1)]) -> ∃ (cs : Array Value), ∃ (E : TypeId), MAt m' cb (Obj.cells cs E) /\ 0 < cs.size /\ ∀ (m'_1 : MH), MUpd m' m'_1 
    cb (Obj.cells (Array.mk (Value.slice s'.a s'.len s'.cap :: List.append._f [] PUnit.unit (List.drop 1 cs.toList))) E) -> ∃ (y_2 : Nat), RdAt m'_1 x.2.2 cb 1 [Value.map (some y_2)] 
    /\ ∃ (kvs : List (Value × Value)), ∃ (Ok : Value -> Prop), MapAt m'_1 y_2 kvs /\ KeyLaw Tryz.prog 129 Ok /\ Ok (Value.agg (Array.mk [vQi t.op, vQi t.table, vQi t.limit, vQi t.left, 
    vQi t.right, Value.string (ByteArray.mk (Array.mk (predB t.wher))), Value.string (ByteArray.mk (Array.mk (numB t.columns))), Value.string (ByteArray.mk (Array.mk (pairsB t.on))), 
    Value.string (ByteArray.mk (Array.mk (numB t.group))), Value.string (ByteArray.mk (Array.mk (sortsB t.order)))])) /\ (∀ (e : Value × Value), List.Mem e kvs -> Ok e.1) /\ (∀ (e : 
    Value × Value), List.Mem e kvs -> e.1 = Value.agg (Array.mk [vQi t.op, vQi t.table, vQi t.limit, vQi t.left, vQi t.right, Value.string (ByteArray.mk (Array.mk (predB t.wher))), 
    Value.string (ByteArray.mk (Array.mk (numB t.columns))), Value.string (ByteArray.mk (Array.mk (pairsB t.on))), Value.string (ByteArray.mk (Array.mk (numB t.group))), Value.string 
    (ByteArray.mk (Array.mk (sortsB t.order)))]) -> False) /\ ∀ (m' : MH), MSame m'_1 m' y_2 -> MapAt m' y_2 (kvs ++ [(Value.agg (Array.mk [vQi t.op, vQi t.table, vQi t.limit, vQi 
    t.left, vQi t.right, Value.string (ByteArray.mk (Array.mk (predB t.wher))), Value.string (ByteArray.mk (Array.mk (numB t.columns))), Value.string (ByteArray.mk (Array.mk (pairsB 
    t.on))), Value.string (ByteArray.mk (Array.mk (numB t.group))), Value.string (ByteArray.mk (Array.mk (sortsB t.order)))]), vQi (↑y.len : Int))]) -> K (cQi (↑y.len : Int)) m' x.2.2) 
    /\ ∀ (y : Int), List.Mem (Value.agg (Array.mk [vQi t.op, vQi t.table, vQi t.limit, vQi t.left, vQi t.right, Value.string (ByteArray.mk (Array.mk (predB t.wher))), Value.string 
    (ByteArray.mk (Array.mk (numB t.columns))), Value.string (ByteArray.mk (Array.mk (pairsB t.on))), Value.string (ByteArray.mk (Array.mk (numB t.group))), Value.string (ByteArray.mk 
    (Array.mk (sortsB t.order)))]), y) kvs -> K (cQi y) x.2.1 x.2.2
theorem f33_vc (N : Nat) (cb : Nat) (v : QV) (m : MH) (h : PH) (K : CV → MH → PH → Prop) : f33_nice N cb v m h K = (fnVC (f33_ctx N cb v) Tryz.f33 (bodyOf Tryz.f33) (entry Tryz.f33.ntmps [cP cb, aQ v] m h) K) := by kernel_rfl
def First (args : List Query) (ts ts1 : List Step) (l : Nat) : Prop := match args with
  | [] => ts1 = ts ∧ l = 0
  | a :: _ => AddQ a ts ts1 l
def Second (args : List Query) (ts ts1 : List Step) (r : Nat) : Prop := match args with
  | _ :: b :: _ => AddQ b ts ts1 r
  | _ => ts1 = ts ∧ r = 0
theorem addQ_iff {op ta : Int} {w : Pred} {co : List Int} {on : List (Int × Int)} {gr : List Int} {od : List (Int × Bool)} {li : Int} {args : List Query} {ts ts' : List Step} {k : Nat} :
    AddQ (.mk op ta w co on gr od li args) ts ts' k ↔ ∃ ts1 l ts2 r, First args ts ts1 l ∧ Second args ts1 ts2 r ∧ AddT ⟨op, ta, w, co, on, gr, od, li, (l : Nat), (r : Nat)⟩ ts2 ts' k := by
  rw [AddQ.eq_def]
  cases args with
  | nil =>
    simp only [First, Second]
    constructor
    · intro h; exact ⟨ts, 0, ts, 0, ⟨rfl, rfl⟩, ⟨rfl, rfl⟩, h⟩
    · rintro ⟨_, _, _, _, ⟨rfl, rfl⟩, ⟨rfl, rfl⟩, h⟩; exact h
  | cons a args =>
    cases args with
    | nil =>
      simp only [First, Second]
      constructor
      · rintro ⟨ts1, l, h1, h2⟩; exact ⟨ts1, l, ts1, 0, h1, ⟨rfl, rfl⟩, h2⟩
      · rintro ⟨ts1, l, _, _, h1, ⟨rfl, rfl⟩, h2⟩; exact ⟨_, l, h1, h2⟩
    | cons b args =>
      simp only [First, Second]
theorem addT_len {t : Step} {ts ts' : List Step} {k : Nat} (h : AddT t ts ts' k) : ts'.length ≤ ts.length + 1 := by
  rcases h with ⟨_, _, _, rfl⟩ | ⟨_, rfl, _⟩
  · omega
  · simp
theorem addQ_len : ∀ (q : Query) {ts ts' : List Step} {k : Nat}, AddQ q ts ts' k → (ts'.length : Int) ≤ ts.length + szQ q
  | .mk op ta w co on gr od li args, ts, ts', k, h => by
    rw [addQ_iff] at h
    obtain ⟨ts1, l, ts2, r, h1, h2, h3⟩ := h
    have := addT_len h3
    simp only [szQ]
    match args, h1, h2 with
    | [], h1, h2 =>
      obtain ⟨rfl, _⟩ := h1
      obtain ⟨rfl, _⟩ := h2
      simp only [szQs]; omega
    | [a], h1, h2 =>
      obtain ⟨rfl, _⟩ := h2
      have := addQ_len a h1
      simp only [szQs]; omega
    | a :: b :: r, h1, h2 =>
      have := addQ_len a h1
      have := addQ_len b h2
      have := szQs_pos r
      simp only [szQs]; omega
theorem qkey_iff {op ta : Int} {w : Pred} {co : List Int} {on : List (Int × Int)} {gr : List Int} {od : List (Int × Bool)} {li : Int} {args : List Query} :
    QKeyOk (.mk op ta w co on gr od li args) ↔ KeyOk ⟨op, ta, w, co, on, gr, od, li, 0, 0⟩ ∧ ∀ a ∈ args, QKeyOk a := by rw [QKeyOk.eq_def]
theorem MRow.blk {m : MH} {s : Sl} {E sz : Nat} {xs : List (List Value)} (h : MRow m s E sz xs) {b i : Nat} (e : s.a = some ⟨b, i, none⟩) : ∃ cur, m b = some (.cells cur E (0, 0)) := by
  rcases h.ex with ⟨rfl, _⟩ | ⟨b', cap, cur, rfl, hm, _⟩
  · cases e
  · simp only [Option.some.injEq, Addr.mk.injEq] at e
    rw [← e.1]; exact ⟨cur, hm⟩
theorem MRow.slen {m : MH} {s : Sl} {E sz : Nat} {xs : List (List Value)} (h : MRow m s E sz xs) : s.len = xs.length := by
  rcases h.ex with ⟨rfl, rfl⟩ | ⟨b', cap, cur, rfl, hm, _⟩ <;> rfl
theorem MRow.keep {m m' : MH} {s : Sl} {E sz : Nat} {xs : List (List Value)} (h : MRow m s E sz xs) (hk : ∀ b i, s.a = some ⟨b, i, none⟩ → m' b = m b) : MRow m' s E sz xs := by
  refine ⟨h.rows, ?_⟩
  rcases h.ex with h1 | ⟨b, cap, cur, rfl, hm, h2⟩
  · exact .inl h1
  · exact .inr ⟨b, cap, cur, rfl, by rw [hk b 0 rfl]; exact hm, h2⟩
theorem MapAt.keep {m m' : MH} {b : Nat} {kvs : List (Value × Value)} (h : MapAt m b kvs) (hk : m' b = m b) : MapAt m' b kvs := by
  obtain ⟨es, c, h1, h2⟩ := h.ex
  exact ⟨es, c, by rw [hk]; exact h1, h2⟩
theorem Grew.refl (m : MH) (cb mb : Nat) (s : Sl) : Grew m m cb mb s s := ⟨fun _ _ h _ _ _ => h, fun b i h => .inr ⟨i, h⟩⟩
theorem Grew.trans {m m1 m2 : MH} {h1 : PH} {cb mb : Nat} {s s1 s2 : Sl} {ts1 : List Step} (a : Grew m m1 cb mb s s1) (c : CompAt m1 h1 cb mb s1 ts1) (b : Grew m1 m2 cb mb s1 s2) : Grew m m2 cb mb s s2 := by
  refine ⟨fun x o h n1 n2 n3 => b.other x o (a.other x o h n1 n2 n3) n1 n2 (fun i e => ?_), fun x i e => ?_⟩
  · rcases a.fresh x i e with h1 | ⟨j, h1⟩
    · rw [h1] at h; cases h
    · exact n3 j h1
  · rcases b.fresh x i e with h2 | ⟨j, h2⟩
    · by_cases hs : ∃ i, s.a = some ⟨x, i, none⟩
      · exact .inr hs
      · left
        cases hm : m x with
        | none => rfl
        | some o =>
          have n1 : x ≠ cb := fun e => by rw [e, c.at_] at h2; cases h2
          have n2 : x ≠ mb := fun e => by
            obtain ⟨es, cl, h3, _⟩ := c.map_.ex
            rw [e, h3] at h2; cases h2
          rw [a.other x o hm n1 n2 (fun i e => hs ⟨i, e⟩)] at h2
          cases h2
    · exact a.fresh x j h2
theorem CompAt.tab {m m' : MH} {h : PH} {cb mb : Nat} {s s' : Sl} {ts : List Step} (c : CompAt m h cb mb s ts) (g : Grew m m' cb mb s s') (ht : TabM m) : TabM m' := by
  obtain ⟨T, fz, n1, n2, e⟩ := ht
  refine ⟨T, fz, n1, n2, g.other 0 _ e (fun x => ?_) (fun x => ?_) (fun i x => ?_)⟩
  · rw [x, c.at_] at e
    simp only [Option.some.injEq, Obj.cells.injEq] at e
    exact n2 e.2.1.symm
  · obtain ⟨es, cl, h3, _⟩ := c.map_.ex
    rw [x, h3] at e; cases e
  · obtain ⟨vs, hr, _⟩ := c.row
    obtain ⟨cur, h3⟩ := MRow.blk hr x
    rw [h3] at e
    simp only [Option.some.injEq, Obj.cells.injEq] at e
    exact n1 e.2.1.symm
theorem CompAt.mono {m : MH} {h h' : PH} {cb mb : Nat} {s : Sl} {ts : List Step} (c : CompAt m h cb mb s ts) (le : PH.le h h') : CompAt m h' cb mb s ts := by
  obtain ⟨vs, h1, h2, h3⟩ := c.row
  exact ⟨c.at_, ⟨vs, h1, h2, fun i t e => let ⟨v, e1, e2⟩ := h3 i t e; ⟨v, e1, e2.mono le⟩⟩, c.map_, c.nodup⟩
theorem mem_kvs {ts : List Step} {k : Value} {y : Int} (h : (k, y) ∈ ts.mapIdx fun i t => ((keyOf t).val, (i : Int))) : ∃ (i : Nat) (t : Step), ts[i]? = some t ∧ k = (keyOf t).val ∧ y = i := by
  obtain ⟨i, hi, e⟩ := List.mem_mapIdx.1 h
  simp only [Prod.mk.injEq] at e
  exact ⟨i, ts[i], List.getElem?_eq_getElem hi, e.1.symm, e.2.symm⟩
/-- The step at the end is found, or added. -/
theorem add_step {m : MH} {h : PH} {cb mb : Nat} {s : Sl} {ts : List Step} {t : Step} {v : SV2} {N : Nat} {w : QV} {K : CV → MH → PH → Prop} (c : CompAt m h cb mb s ts) (ht : TabM m) (hk : KeyOk t) (hv : RepSt h t v) (hl : ts.length + 1 ≤ 1000001)
    (hK : ∀ ts' (k : Nat) s' m', AddT t ts ts' k → CompAt m' h cb mb s' ts' → Grew m m' cb mb s s' → K (cI k) m' h) :
    ∃ (v_2 : SV2) (t : Step), [CV.val (.agg ⟨v.enc⟩)] = [CV.val (.agg ⟨v_2.enc⟩)] ∧ RepSt h t v_2 ∧ KeyOk t ∧ TabM m ∧ ∃ y : Nat, RdAt m h cb 1 [Value.map (some y)] ∧ ∃ (kvs : List (Value × Int)) (Ok : Value → Prop), MapAt m y (kvs.map fun p => (p.1, .int .i64 p.2)) ∧ KeyLaw Tryz.prog 129 Ok ∧ Ok (.agg ⟨keyV t⟩) ∧ (∀ e : Value × Int, List.Mem e kvs → Ok e.1) ∧
      ((∀ e : Value × Int, List.Mem e kvs → e.1 = .agg ⟨keyV t⟩ → False) → ∃ y : Sl, RdAt m h cb 0 [.slice y.a y.len y.cap] ∧ ∃ y_1 : Sl, RdAt m h cb 0 [.slice y_1.a y_1.len y_1.cap] ∧ RdAt m h cb 0 [.slice y_1.a y_1.len y_1.cap] ∧ ∃ xs, MRow m ⟨y_1.a, y_1.len, y_1.cap⟩ 60 22 xs ∧ (xs.length + 1) * 272 ≤ 140737488355328 ∧ xs.length < 140737488355328 ∧
        ∀ (s' : Sl) (m' : MH), MGrown m m' ⟨y_1.a, y_1.len, y_1.cap⟩ s' 60 22 (xs ++ [v.enc]) → ∃ (cs : Array Value) (E : TypeId), MAt m' cb (.cells cs E (0, 0)) ∧ 0 < cs.size ∧ ∀ m'_1 : MH, MUpd m' m'_1 cb (.cells ⟨.slice s'.a s'.len s'.cap :: ([] ++ cs.toList.drop 1)⟩ E (0, 0)) →
          ∃ y_2 : Nat, RdAt m'_1 h cb 1 [Value.map (some y_2)] ∧ ∃ (kvs : List (Value × Value)) (Ok : Value → Prop), MapAt m'_1 y_2 kvs ∧ KeyLaw Tryz.prog 129 Ok ∧ Ok (.agg ⟨keyV t⟩) ∧ (∀ e : Value × Value, List.Mem e kvs → Ok e.1) ∧ (∀ e : Value × Value, List.Mem e kvs → e.1 = .agg ⟨keyV t⟩ → False) ∧
            ∀ m' : MH, MSame m'_1 m' y_2 → MapAt m' y_2 (kvs ++ [(.agg ⟨keyV t⟩, .int .i64 y.len)]) → K (.val (.int .i64 y.len)) m' h) ∧
      ∀ y : Int, List.Mem (Value.agg ⟨keyV t⟩, y) kvs → K (.val (.int .i64 y)) m h := by
  obtain ⟨vs, hr, hsl, hst⟩ := c.row
  have hlen := MRow.slen hr
  rw [List.length_map, hsl] at hlen
  have hmap : (ts.mapIdx fun i t => ((keyOf t).val, (i : Int))).map (fun p => (p.1, Value.int .i64 p.2)) = ts.mapIdx fun i t => ((keyOf t).val, .int .i64 i) := by
    apply List.ext_getElem?
    intro i
    simp only [List.getElem?_map, List.getElem?_mapIdx, Option.map_map]
    rfl
  have rd1 : RdAt m h cb 1 [Value.map (some mb)] := .of_m c.at_ rfl
  have rd0 : RdAt m h cb 0 [.slice s.a s.len s.cap] := .of_m c.at_ rfl
  have ncb : ∀ b i, s.a = some ⟨b, i, none⟩ → b ≠ cb := fun b i e e2 => by
    obtain ⟨cur, h3⟩ := MRow.blk hr e
    rw [e2, c.at_] at h3; cases h3
  have cbmb : cb ≠ mb := fun e => by
    obtain ⟨es, cl, h3, _⟩ := c.map_.ex
    rw [← e, c.at_] at h3; cases h3
  refine ⟨v, t, rfl, hv, hk, ht, mb, rd1, ts.mapIdx fun i t => ((keyOf t).val, (i : Int)), _, by rw [hmap]; exact c.map_, keyLaw129, ⟨keyOf t, rfl⟩, fun e he => ?_, fun hno => ?_, fun y hy => ?_⟩
  · obtain ⟨i, t', _, e1, _⟩ := mem_kvs (k := e.1) (y := e.2) he
    exact ⟨keyOf t', e1⟩
  · have hno' : ∀ x ∈ ts, keyOf x ≠ keyOf t := by
      intro x hx e
      obtain ⟨i, hi⟩ := List.mem_iff_getElem?.1 hx
      have hil := (List.getElem?_eq_some_iff.1 hi).1
      refine hno ((keyOf x).val, (i : Int)) ?_ (by rw [e]; rfl)
      refine List.mem_mapIdx.2 ⟨i, hil, ?_⟩
      rw [List.getElem?_eq_getElem hil] at hi
      cases hi; rfl
    refine ⟨s, rd0, s, rd0, rd0, vs.map SV2.enc, hr, by rw [List.length_map]; omega, by rw [List.length_map]; omega, fun s' m1 hg => ?_⟩
    have m1cb : m1 cb = some (.cells #[.slice s.a s.len s.cap, .map (some mb)] 90 (0, 0)) := hg.other cb _ c.at_ (fun i e => ncb cb i e rfl)
    refine ⟨_, _, ⟨m1cb⟩, by simp, fun m2 hu => ?_⟩
    have hu : MUpd m1 m2 cb (.cells #[.slice s'.a s'.len s'.cap, .map (some mb)] 90 (0, 0)) := hu
    obtain ⟨es, cl, hes, hkv⟩ := c.map_.ex
    have m1mb : m1 mb = some (.map es cl) := hg.other mb _ hes (fun i e => by
      obtain ⟨cur, h3⟩ := MRow.blk hr e
      rw [hes] at h3; cases h3)
    have m2mb : m2 mb = some (.map es cl) := by rw [hu.other mb (Ne.symm cbmb)]; exact m1mb
    refine ⟨mb, .of_m hu.at_ rfl, ts.mapIdx fun i t => ((keyOf t).val, .int .i64 i), _, ⟨es, cl, m2mb, hkv⟩, keyLaw129, ⟨keyOf t, rfl⟩, fun e he => ?_, fun e he e2 => ?_, fun m3 hs3 hm3 => ?_⟩
    · obtain ⟨i, hi, e1⟩ := List.mem_mapIdx.1 he
      exact ⟨keyOf ts[i], by rw [← e1]⟩
    · obtain ⟨i, hi, e1⟩ := List.mem_mapIdx.1 he
      rw [← e1] at e2
      exact hno' ts[i] (List.getElem_mem hi) (KV.val_inj.1 e2)
    · rw [hlen] at hm3 ⊢
      have s'cb : ∀ b i, s'.a = some ⟨b, i, none⟩ → b ≠ cb := fun b i e e2 => by
        obtain ⟨cur, h3⟩ := MRow.blk hg.row e
        rw [e2, m1cb] at h3; cases h3
      have s'mb : ∀ b i, s'.a = some ⟨b, i, none⟩ → b ≠ mb := fun b i e e2 => by
        obtain ⟨cur, h3⟩ := MRow.blk hg.row e
        rw [e2, m1mb] at h3; cases h3
      refine hK (ts ++ [t]) ts.length s' m3 (.inr ⟨hno', rfl, rfl⟩) ⟨?_, ⟨vs ++ [v], ?_, ?_⟩, ?_, ?_⟩ ⟨?_, ?_⟩
      · rw [hs3.other cb cbmb]; exact hu.at_
      · rw [List.map_append]
        refine MRow.keep hg.row (fun b i e => ?_)
        rw [hs3.other b (s'mb b i e), hu.other b (s'cb b i e)]
      · refine ⟨by simp [hsl], fun i x hx => ?_⟩
        by_cases hi : i < ts.length
        · rw [List.getElem?_append_left hi] at hx
          obtain ⟨u, e1, e2⟩ := hst i x hx
          exact ⟨u, by rw [List.getElem?_append_left (by omega)]; exact e1, e2⟩
        · rw [List.getElem?_append_right (by omega)] at hx
          have hil := (List.getElem?_eq_some_iff.1 hx).1
          simp at hil
          have : i = ts.length := by omega
          subst this
          simp at hx
          subst hx
          exact ⟨v, by rw [List.getElem?_append_right (by omega), hsl]; simp, hv⟩
      · rw [List.mapIdx_append]
        rw [← keyOf_val] at hm3
        simpa using hm3
      · rw [List.map_append, List.nodup_append]
        refine ⟨c.nodup, by simp, fun a ha b hb => ?_⟩
        obtain ⟨x, hx, rfl⟩ := List.mem_map.1 ha
        simp at hb
        rw [hb]; exact hno' x hx
      · intro b o e n1 n2 n3
        rw [hs3.other b n2, hu.other b n1]
        exact hg.other b o e n3
      · exact hg.fresh
  · obtain ⟨i, t', hi, e1, rfl⟩ := mem_kvs hy
    refine hK ts i s m (.inl ⟨t', hi, ?_, rfl⟩) c (.refl _ _ _ _)
    exact (KV.val_inj.1 (e1.symm.trans rfl : (keyOf t').val = (keyOf t).val))
theorem f33_ok {N cb : Nat} {v : QV} {q : Query} {mb : Nat} {s : Sl} {ts : List Step} {m : MH} {h : PH} {K : CV → MH → PH → Prop} (hq : RepQ h q v) (hN : SizeOf.sizeOf q < N + 1) (hk : QKeyOk q) (c : CompAt m h cb mb s ts) (ht : TabM m) (hl : (ts.length : Int) + szQ q ≤ 1000000)
    (hK : ∀ ts' (k : Nat) s' m' h', PH.le h h' → AddQ q ts ts' k → CompAt m' h' cb mb s' ts' → Grew m m' cb mb s s' → K (cI k) m' h') : f33_nice N cb v m h K := by
  have hargs := @qargs_lt q
  obtain ⟨op, ta, w, co, on, gr, od, li, args⟩ := q
  have x := hq.parts
  have hal := x.args_.slen
  rw [qkey_iff] at hk
  obtain ⟨hk, hka⟩ := hk
  simp only [szQ] at hl
  simp only [Query.args] at hargs
  refine ⟨fun ⟨t, mx, hx⟩ => mx = m ∧ PH.le h hx ∧ RepSt hx ⟨op, ta, w, co, on, gr, od, li, 0, 0⟩ t, ?_, ?_⟩
  · repeat' (first
      | (refine ⟨v.where_, w, rfl, x.where_, fun v1 h1 le1 r1 => ?_⟩)
      | (refine ⟨v.columns, co, rfl, x.columns_.mono le1, fun s2 h2 le2 r2 => ?_⟩)
      | (refine ⟨v.on, on, rfl, x.on_.mono (le1.trans le2), fun s3 h3 le3 r3 => ?_⟩)
      | (refine ⟨v.group, gr, rfl, x.group_.mono ((le1.trans le2).trans le3), fun s4 h4 le4 r4 => ?_⟩)
      | (refine ⟨v.order, od, rfl, x.order_.mono (((le1.trans le2).trans le3).trans le4), fun s5 h5 le5 r5 => ?_⟩)
      | (exact ⟨(⟨v.op, v.table, v1, s2, s3, s4, s5, v.limit, 0, 0⟩, m, h5), ⟨rfl, (((le1.trans le2).trans le3).trans le4).trans le5, ⟨x.op_, x.table_, r1.mono (((le2.trans le3).trans le4).trans le5), r2.mono ((le3.trans le4).trans le5), r3.mono (le4.trans le5), r4.mono le5, r5, x.limit_, rfl, rfl⟩⟩, MT⟩)
      | apply And.intro)
  rintro ⟨t, m0, hx⟩ ⟨rfl, hle, hr⟩
  dsimp only
  refine ⟨fun ⟨t, mx, hy⟩ => ∃ ts1 l s1, First args ts ts1 l ∧ (ts1.length : Int) + szQs (args.drop 1) + 1 ≤ 1000000 ∧ CompAt mx hy cb mb s1 ts1 ∧ Grew m0 mx cb mb s s1 ∧ PH.le h hy ∧ RepSt hy ⟨op, ta, w, co, on, gr, od, li, (l : Nat), 0⟩ t, branch_dec (fun hpos => ?_) (fun hneg => ?_), ?_⟩
  · obtain ⟨a, rs, rfl⟩ : ∃ a rs, args = a :: rs := by
      cases args with
      | nil => simp at hal; omega
      | cons a rs => exact ⟨a, rs, rfl⟩
    simp only [szQs] at hl
    have hsa := szQs_pos rs
    obtain ⟨b1, o1, u, e1, r1, hru⟩ := (x.args_.mono hle).at (i := 0) (x := a) rfl
    refine ⟨b1, o1, e1, by omega, by omega, u, .imm (by simpa using r1), u, a, cb, mb, s, ts, rfl, hru, ?_, hka a (by simp), c.mono hle, ht, by omega, fun ts' k s' m' h' le' ha hc hg => ⟨(⟨t.op, t.table, t.where_, t.columns, t.on, t.group, t.order, t.limit, k, t.right⟩, m', h'), ⟨ts', k, s', ha, ?_, hc, hg, hle.trans le', ?_⟩, ?_⟩⟩
    · have := hargs (q := a) (by simp); omega
    · have := addQ_len a ha; simp only [List.drop_succ_cons, List.drop_zero]; omega
    · have r := hr.mono le'; exact ⟨r.op_, r.table_, r.where_, r.columns_, r.on_, r.group_, r.order_, r.limit_, rfl, r.right_⟩
    · rw [hr.right_]; exact MT
  · obtain rfl : args = [] := by
      cases args with
      | nil => rfl
      | cons a rs => simp at hal; omega
    exact ⟨(t, m0, hx), ⟨ts, 0, s, ⟨rfl, rfl⟩, by simp [szQs] at hl ⊢; omega, c.mono hle, .refl _ _ _ _, hle, hr⟩, MT⟩
  clear hr hle
  rintro ⟨t, m1, hy⟩ ⟨ts1, l, s1, hf, hl1, c1, g1, hle, hr⟩
  dsimp only
  have ht1 := c.tab g1 ht
  refine ⟨fun ⟨t, mx, hz⟩ => ∃ ts2 r s2, Second args ts1 ts2 r ∧ ts2.length + 1 ≤ 1000000 ∧ CompAt mx hz cb mb s2 ts2 ∧ Grew m0 mx cb mb s s2 ∧ PH.le h hz ∧ RepSt hz ⟨op, ta, w, co, on, gr, od, li, (l : Nat), (r : Nat)⟩ t, branch_dec (fun hpos => ?_) (fun hneg => ?_), ?_⟩
  · obtain ⟨a0, a, rs, rfl⟩ : ∃ a0 a rs, args = a0 :: a :: rs := by
      cases args with
      | nil => simp at hal; omega
      | cons a rs => cases rs with
        | nil => simp at hal; omega
        | cons b rs => exact ⟨a, b, rs, rfl⟩
    simp only [szQs, List.drop_succ_cons, List.drop_zero] at hl1
    have hsa := szQs_pos rs
    obtain ⟨b1, o1, u, e1, r1, hru⟩ := (x.args_.mono hle).at (i := 1) (x := a) rfl
    refine ⟨b1, o1, e1, by omega, by omega, u, .imm (by simpa using r1), u, a, cb, mb, s1, ts1, rfl, hru, ?_, hka a (by simp), c1, ht1, by omega, fun ts' k s' m' h' le' ha hc hg => ⟨(⟨t.op, t.table, t.where_, t.columns, t.on, t.group, t.order, t.limit, t.left, k⟩, m', h'), ⟨ts', k, s', ha, ?_, hc, g1.trans c1 hg, hle.trans le', ?_⟩, ?_⟩⟩
    · have := hargs (q := a) (by simp); omega
    · have := addQ_len a ha; omega
    · have r := hr.mono le'; exact ⟨r.op_, r.table_, r.where_, r.columns_, r.on_, r.group_, r.order_, r.limit_, r.left_, rfl⟩
    · exact MT
  · cases args with
    | nil => exact ⟨(t, m1, hy), ⟨ts1, 0, s1, ⟨rfl, rfl⟩, by simp [szQs] at hl1; omega, c1, g1, hle, hr⟩, MT⟩
    | cons a rs => cases rs with
      | nil => exact ⟨(t, m1, hy), ⟨ts1, 0, s1, ⟨rfl, rfl⟩, by simp [szQs] at hl1; omega, c1, g1, hle, hr⟩, MT⟩
      | cons b rs => simp at hal; omega
  clear hr
  rintro ⟨t, m2, hz⟩ ⟨ts2, r, s2, hf2, hl2, c2, g2, hle2, hr⟩
  dsimp only
  exact add_step (N := N) (w := v) (t := ⟨op, ta, w, co, on, gr, od, li, (l : Nat), (r : Nat)⟩) c2 (c.tab g2 ht) ⟨hk.wher, hk.columns, hk.on, hk.group, hk.order⟩ hr (by omega) (fun ts' k s' m' ha hc hg => hK ts' k s' m' hz hle2 (addQ_iff.2 ⟨ts1, l, ts2, r, hf, hf2, ha⟩) hc (g2.trans c2 hg))
theorem f33_all : ∀ N, Sound Tryz.prog 33 (AddSp N)
  | 0 => by
    refine fn_sound (fn := Tryz.f33) (c := bodyOf Tryz.f33) Tryz.func33 rfl (by decide) ?_
    rintro cvs m h K ⟨v, q, cb, mb, s, ts, rfl, _, hN, _⟩
    omega
  | N + 1 => by
    refine fn_sound (fn := Tryz.f33) (c := bodyOf Tryz.f33) Tryz.func33 rfl (by decide) ?_
    rintro cvs m h K ⟨v, q, cb, mb, s, ts, rfl, hq, hN, hk, c, ht, hl, hK⟩
    refine ⟨f33_ctx N cb v, rfl, specs_cons f66_sound (specs_cons f67_sound (specs_cons f68_sound (specs_cons f69_sound (specs_cons f70_sound (specs_cons (f33_all N) specs_nil))))), ?_⟩
    rw [← f33_vc N cb v m h K]
    exact f33_ok hq hN hk c ht hl hK
end Go.Ps
namespace Go.Ps
open Go Go.Vc Go.Proofs
def AddAll : List Query → List Step → List Step → List Nat → Prop
  | [], ts, ts', ks => ts' = ts ∧ ks = []
  | q :: qs, ts, ts', ks => ∃ ts1 k ks', AddQ q ts ts1 k ∧ AddAll qs ts1 ts' ks' ∧ ks = k :: ks'
noncomputable def compErr (s : Sch) (qs : List Query) : Int := if 32 < qs.length then 2 else if schErr s ≠ 0 then schErr s else firstErr (qs.map fun q => (queryR s [] q).2)
def aPl (p r : Sl) : CV := .val (.agg ⟨[.slice p.a p.len p.cap, .slice r.a r.len r.cap]⟩)
structure PlanAt (h : PH) (p r : Sl) (ts : List Step) (ks : List Nat) : Prop where
  steps : ∃ vs, RowIn h p 22 (vs.map SV2.enc) ∧ Steps h vs ts
  roots : Ints h r (ks.map fun (k : Nat) => (k : Int))
  nodup : (ts.map keyOf).Nodup
def CompileS : Vc.Spec := fun cvs m h K => ∃ sc sl s qs, cvs = [aS sc, cS sl] ∧ RepS h s sc ∧ RepQl h sl qs ∧ TabM m ∧ (∀ q ∈ qs, (queryR s [] q).2 = 0 → QKeyOk q) ∧
  (compErr s qs ≠ 0 → K (.tup [aPl nilS nilS, cI (compErr s qs)]) m h) ∧ (compErr s qs = 0 → ∀ p r ts ks h', PH.le h h' → AddAll qs [] ts ks → PlanAt h' p r ts ks → K (.tup [aPl p r, cI 0]) m h')
def AddA : Vc.Spec := fun cvs m h K => ∃ v q cb mb s ts, cvs = [cP cb, aQ v] ∧ RepQ h q v ∧ QKeyOk q ∧ CompAt m h cb mb s ts ∧ TabM m ∧ (ts.length : Int) + szQ q ≤ 1000000 ∧
  ∀ ts' (k : Nat) s' m' h', PH.le h h' → AddQ q ts ts' k → CompAt m' h' cb mb s' ts' → Grew m m' cb mb s s' → K (cI k) m' h'
noncomputable def f14_ctx (sc : SchV) (sl : Sl) (m0 : MH) : Ctx :=
  ctx4 [(31, SchCheckS), (32, QueryCheckS), (33, AddA)]
   [(7, { A := Nat × PH, st := fun ⟨i, h⟩ => mkSt 64 66 [(1, sv sl), (2, .at (.ptr 2 0)), (4, .at (.ptr 4 0)), (25, sv sl), (26, iv sl.len), (27, iv i)] [(2, .cells 28 (sc.enc.map .val)), (4, .cells 49 [.val (.slice none 0 0), .val (.slice none 0 0)])] m0 h }),
    (16, { A := Nat × Nat × List Int × MH × PH, st := fun ⟨i, cb, ks, m, h⟩ => mkSt 64 66 [(4, .at (.ptr 4 0)), (11, pv cb), (12, .at (.lst 46)), (47, sv sl), (48, iv sl.len), (49, iv i)] [(4, .cells 49 [.val (.slice none 0 0), .val (.slice none 0 0)]), (46, .lst 3 1 (ks.map eI))] m h })] [] [] [90] [] false
def f14_nice (sc : SchV) (sl : Sl) (m : MH) (h : PH) (K : CV → MH → PH → Prop) : Prop :=
    branch (decide ((↑sl.len : Int) > 32)) (K (CV.tup [cQa [vQn, vQn], cQi 2]) m h) (∃ (v : SchV), ∃ (s : Sch), [cQa [vQi sc.version, vQs sc.tables]] = [cQa [vQi v.version, vQs 
    v.tables]] /\ RepS h s v /\ branch (schErr s != 0) (K (CV.tup [cQa [vQn, vQn], cQi (schErr s)]) m h) (∃ (I : Nat × PH -> Prop), ∃ (mu : Nat × PH -> Nat), (∃ (x : Nat × PH), I x /\ 
    eQ (sQs sl) /\ eQ (sQp 2 0) /\ eQ (sQp 4 0) /\ eQ (sQs sl) /\ eQ (sQi (↑sl.len : Int)) /\ sQi 0 = sQi (↑x.1 : Int) /\ eQ (oQ 28 [aQi sc.version, aQs sc.tables]) /\ eQ (oQ 49 [aQn, 
    aQn]) /\ m = m /\ h = x.2 /\ True) /\ ∀ (x : Nat × PH), I x -> branch (decide ((↑x.1 : Int) < (↑sl.len : Int))) (∃ (b : Nat), ∃ (off : Nat), sl.a = some (Addr.mk b off none) /\ 0 
    <= (↑x.1 : Int) /\ (↑x.1 : Int) < (↑sl.len : Int) /\ ∃ (y : QV), RdAt m x.2 b (off + (↑x.1 : Int).toNat * 21) (QV.enc y) /\ ∃ (sc_1 : SchV), ∃ (p : Sl), ∃ (v : QV), ∃ (s : Sch), ∃ 
    (ps : List Int), ∃ (q : Query), [cQa [vQi sc.version, vQs sc.tables], cQn, cQa (QV.enc y)] = [cQa [vQi sc_1.version, vQs sc_1.tables], cQs p, cQa (QV.enc v)] /\ RepS x.2 s sc_1 /\ 
    Ints x.2 p ps /\ RepQ x.2 q v /\ ∀ (sl_1 : Sl) (h' : PH), x.2.le h' -> Ints h' sl_1 (queryR s ps q).1 -> branch ((queryR s ps q).2 != 0) (K (CV.tup [cQa [vQn, vQn], CV.val (vQi 
    (queryR s ps q).2)]) m h') (∃ (y : Nat × PH), I y /\ mu y < mu x /\ eQ (sQs sl) /\ eQ (sQp 2 0) /\ eQ (sQp 4 0) /\ eQ (sQs sl) /\ eQ (sQi (↑sl.len : Int)) /\ sQi (IntKind.i64.wrap 
    ((↑x.1 : Int) + 1)) = sQi (↑y.1 : Int) /\ eQ (oQ 28 [aQi sc.version, aQs sc.tables]) /\ eQ (oQ 49 [aQn, aQn]) /\ m = m /\ h' = y.2 /\ True)) (∀ (b : Nat) (m' : MH), Unheld m x.2 b 
    -> MUpd m m' b (Obj.map (Array.mk []) 0) -> ∀ (b_1 : Nat) (m'_1 : MH), Unheld m' x.2 b_1 -> MUpd m' m'_1 b_1 (Obj.cells (Array.mk [vQn, Value.map none]) 90) -> ∃ (cs : Array 
    Value), ∃ (E : TypeId), MAt m'_1 b_1 (Obj.cells cs E) /\ 2 <= cs.size /\ ∀ (m' : MH), MUpd m'_1 m' b_1 (Obj.cells (Array.mk (vQn :: Value.map (some b) :: List.append._f [] 
    PUnit.unit (List.drop 2 cs.toList))) E) -> 0 <= (↑sl.len : Int) /\ (↑sl.len : Int) <= (↑sl.len : Int) /\ (↑sl.len : Int) * 8 <= 281474976710656 /\ (↑sl.len : Int) <= 
    281474976710656 /\ ∃ (I : Nat × Nat × List Int × MH × PH -> Prop), ∃ (mu : Nat × Nat × List Int × MH × PH -> Nat), (∃ (x_1 : Nat × Nat × List Int × MH × PH), I x_1 /\ eQ (sQp 4 0) 
    /\ sQo b_1 0 = sQo x_1.2.1 0 /\ eQ (sQl 46) /\ eQ (sQs sl) /\ eQ (sQi (↑sl.len : Int)) /\ sQi 0 = sQi (↑x_1.1 : Int) /\ eQ (oQ 49 [aQn, aQn]) /\ some (Own.lst 3 1 (List.replicate 
    (↑sl.len : Int).toNat [vQi 0])) = some (Own.lst 3 1 (List.map eI x_1.2.2.1)) /\ m' = x_1.2.2.2.1 /\ x.2 = x_1.2.2.2.2 /\ True) /\ ∀ (x : Nat × Nat × List Int × MH × PH), I x -> 
    branch (decide ((↑x.1 : Int) < (↑sl.len : Int))) (∃ (b : Nat), ∃ (off : Nat), sl.a = some (Addr.mk b off none) /\ 0 <= (↑x.1 : Int) /\ (↑x.1 : Int) < (↑sl.len : Int) /\ ∃ (y : QV), 
    RdAt x.2.2.2.1 x.2.2.2.2 b (off + (↑x.1 : Int).toNat * 21) (QV.enc y) /\ ∃ (v : QV), ∃ (q : Query), ∃ (cb : Nat), ∃ (mb : Nat), ∃ (s : Sl), ∃ (ts : List Step), [cQp x.2.1 0, cQa 
    (QV.enc y)] = [cQp cb 0, cQa (QV.enc v)] /\ RepQ x.2.2.2.2 q v /\ QKeyOk q /\ CompAt x.2.2.2.1 x.2.2.2.2 cb mb s ts /\ TabM x.2.2.2.1 /\ (↑ts.length : Int) + szQ q <= 1000000 /\ ∀ 
    (ts' : List Step) (k : Nat) (s' : Sl) (m' : MH) (h' : PH), x.2.2.2.2.le h' -> AddQ q ts ts' k -> CompAt m' h' cb mb s' ts' -> Grew x.2.2.2.1 m' cb mb s s' -> 0 <= (↑x.1 : Int) /\ 
    (↑x.1 : Int) < (↑(List.map eI x.2.2.1).length : Int) /\ ∃ (e : List Value), (List.map eI x.2.2.1)[(↑x.1 : Int).toNat]? = some e /\ 0 < e.length /\ ∃ (y : Nat × Nat × List Int × MH 
    × PH), I y /\ mu y < mu x /\ eQ (sQp 4 0) /\ sQo x.2.1 0 = sQo y.2.1 0 /\ eQ (sQl 46) /\ eQ (sQs sl) /\ eQ (sQi (↑sl.len : Int)) /\ sQi (IntKind.i64.wrap ((↑x.1 : Int) + 1)) = sQi 
    (↑y.1 : Int) /\ eQ (oQ 49 [aQn, aQn]) /\ some (Own.lst 3 1 ((List.map eI x.2.2.1).set (↑x.1 : Int).toNat (vQi (↑k : Int) :: List.append._f [] PUnit.unit (List.drop 1 e)))) = some 
    (Own.lst 3 1 (List.map eI y.2.2.1)) /\ m' = y.2.2.2.1 /\ h' = y.2.2.2.2 /\ True) (∃ (y : Sl), RdAt x.2.2.2.1 x.2.2.2.2 x.2.1 0 [vQs y] /\ ∀ (s : Sl) (h' : PH), x.2.2.2.2.le h' -> 
    RowIn h' s 1 (List.map eI x.2.2.1) -> K (CV.tup [cQa [vQs y, vQs s], cQi 0]) x.2.2.2.1 h'))))
theorem f14_vc (sc : SchV) (sl : Sl) (m : MH) (h : PH) (K : CV → MH → PH → Prop) : f14_nice sc sl m h K = (fnVC (f14_ctx sc sl m) Tryz.f14 (bodyOf Tryz.f14) (entry Tryz.f14.ntmps [aS sc, cS sl] m h) K) := by kernel_rfl
theorem f33_sound : Sound Tryz.prog 33 AddA := sound_of_all f33_all fun _ _ _ _ ⟨v, q, cb, mb, s, ts, e, h1, h2, h3, h4, h5, h6⟩ => ⟨SizeOf.sizeOf q + 1, v, q, cb, mb, s, ts, e, h1, by omega, h2, h3, h4, h5, h6⟩
theorem addAll_snoc : ∀ {qs : List Query} {q : Query} {ts ts' ts'' : List Step} {ks : List Nat} {k : Nat}, AddAll qs ts ts' ks → AddQ q ts' ts'' k → AddAll (qs ++ [q]) ts ts'' (ks ++ [k])
  | [], q, ts, ts', ts'', ks, k, h, h2 => by
    obtain ⟨rfl, rfl⟩ := h
    exact ⟨ts'', k, [], h2, ⟨rfl, rfl⟩, rfl⟩
  | p :: qs, q, ts, ts', ts'', ks, k, h, h2 => by
    obtain ⟨ts1, k1, ks1, h1, h3, rfl⟩ := h
    exact ⟨ts1, k1, _, h1, addAll_snoc h3 h2, rfl⟩
theorem Strong.keep {h h' : PH} {K : CV → MH → PH → Prop} {r : CV} {m m' : MH} (hm : Sub m m') (le : PH.le h h') (hK : K r m h) : Strong h K r m' h' :=
  fun _ => ⟨m, h, hm, .refl _, fun b i v e => .inl (le.le b i v e), hK⟩
theorem firstErr_get : ∀ {l : List Int} {i : Nat} {e : Int}, l[i]? = some e → e ≠ 0 → (∀ j x, j < i → l[j]? = some x → x = 0) → firstErr l = e
  | [], _, _, h, _, _ => by simp at h
  | x :: r, 0, e, h, he, _ => by simp at h; subst h; simp [firstErr, he]
  | x :: r, i + 1, e, h, he, h0 => by
    have : x = 0 := h0 0 x (by omega) rfl
    subst this
    simp only [firstErr, if_true]
    exact firstErr_get (i := i) (by simpa using h) he (fun j y hj hy => h0 (j + 1) y (by omega) (by simpa using hy))
theorem szQ_small {q : Query} (h : smallQ q = true) : szQ q ≤ 24 := by
  rw [← vis_small, (visQ_eq q 8 0 (by omega)).1] at h
  have := h.1
  omega
theorem query_small {s : Sch} {ps : List Int} {q : Query} (h : (queryR s ps q).2 = 0) : smallQ q = true := by
  unfold queryR at h
  split at h
  · split at h
    · split at h
      · assumption
      · simp [errK] at h
    · simp [errK] at h
  · rename_i h1; simp [errK] at h; exact (h1 h).elim
theorem nil_mrow (m : MH) : MRow m nilS 60 22 (([] : List SV2).map SV2.enc) := ⟨⟨fun _ h => by simp at h, fun _ h => by simp at h⟩, .inl ⟨rfl, rfl⟩⟩
theorem set_next {kk : List Nat} {n k : Nat} (hn : kk.length < n) : ((kk.map fun (k : Nat) => (k : Int)) ++ List.replicate (n - kk.length) (0 : Int)).set kk.length (k : Int) = ((kk ++ [k]).map fun (k : Nat) => (k : Int)) ++ List.replicate (n - (kk.length + 1)) (0 : Int) := by
  have e : n - kk.length = (n - (kk.length + 1)) + 1 := by omega
  rw [e, List.replicate_succ]
  have h2 : kk.length = (kk.map fun (k : Nat) => (k : Int)).length := by simp
  rw [List.set_append, if_neg (by simp)]
  simp
theorem f14_ok {sc : SchV} {sl : Sl} {s : Sch} {qs : List Query} {m : MH} {h : PH} {K : CV → MH → PH → Prop} (hs : RepS h s sc) (hq : RepQl h sl qs) (ht : TabM m) (hkey : ∀ q ∈ qs, (queryR s [] q).2 = 0 → QKeyOk q)
    (hE : compErr s qs ≠ 0 → K (.tup [aPl nilS nilS, cI (compErr s qs)]) m h) (hK : compErr s qs = 0 → ∀ p r ts ks h', PH.le h h' → AddAll qs [] ts ks → PlanAt h' p r ts ks → K (.tup [aPl p r, cI 0]) m h') : f14_nice sc sl m h (Strong h K) := by
  have hl := hq.slen
  unfold compErr at hE hK
  refine branch_dec (fun h1 => ?_) (fun h1 => ⟨sc, s, rfl, hs, branch_intro (fun h2 => ?_) (fun h2 => ?_)⟩)
  · rw [if_pos (by omega)] at hE; exact Strong.keep (Sub.refl m) (.refl _) (hE (by decide))
  · have h2 : schErr s ≠ 0 := by simpa using h2
    rw [if_neg (by omega), if_pos h2] at hE
    exact Strong.keep (Sub.refl m) (.refl _) (hE h2)
  have h2 : schErr s = 0 := by simpa using h2
  rw [if_neg (by omega), if_neg (by simpa using h2)] at hE hK
  refine ⟨fun ⟨i, hx⟩ => i ≤ qs.length ∧ PH.le h hx ∧ ∀ j q, j < i → qs[j]? = some q → (queryR s [] q).2 = 0, fun ⟨i, _⟩ => qs.length - i, ⟨(0, h), ⟨by omega, .refl _, fun j q hj => by omega⟩, MT⟩, ?_⟩
  rintro ⟨i, hx⟩ ⟨hi, hle, hall⟩
  dsimp only
  refine branch_dec (fun hlt => ?_) (fun hge b m1 hb hu1 cb m2 hcb hu2 => ?_)
  · obtain ⟨q, hqi⟩ := getx hl hlt
    obtain ⟨b1, o1, u, e1, r1, hru⟩ := (hq.mono hle).at hqi
    refine ⟨b1, o1, e1, by omega, hlt, u, .imm r1, sc, nilS, u, s, [], q, rfl, hs.mono hle, ⟨RowIn.nil _ _, by simp⟩, hru, fun s1 h1 le1 ri => branch_intro (fun he => ?_) (fun he => ?_)⟩
    · have he : (queryR s [] q).2 ≠ 0 := by simpa using he
      have hfe : firstErr (qs.map fun q => (queryR s [] q).2) = (queryR s [] q).2 := firstErr_get (i := i) (by simp [hqi]) he (fun j x hj hx => by
        rw [List.getElem?_map, Option.map_eq_some_iff] at hx
        obtain ⟨q', hq', rfl⟩ := hx
        exact hall j q' hj hq')
      rw [hfe] at hE
      exact Strong.keep (Sub.refl m) (hle.trans le1) (hE he)
    · have he : (queryR s [] q).2 = 0 := by simpa using he
      refine ⟨(i + 1, h1), ⟨by show i + 1 ≤ qs.length; omega, hle.trans le1, fun j q' hj hq' => ?_⟩, by show qs.length - (i + 1) < qs.length - i; omega, MT⟩
      by_cases hji : j = i
      · subst hji; rw [hqi] at hq'; cases hq'; exact he
      · exact hall j q' (by omega) hq'
  have hall' : ∀ q ∈ qs, (queryR s [] q).2 = 0 := fun q hq' => by
    obtain ⟨j, hj⟩ := List.mem_iff_getElem?.1 hq'
    exact hall j q (by have := (List.getElem?_eq_some_iff.1 hj).1; omega) hj
  have hfe : firstErr (qs.map fun q => (queryR s [] q).2) = 0 := firstErr_zero _ (fun x hx => by
    obtain ⟨q, hq', rfl⟩ := List.mem_map.1 hx
    exact hall' q hq')
  have hK := hK hfe
  have cbb : cb ≠ b := fun e => by have := hcb.m_; rw [e, hu1.at_] at this; cases this
  refine ⟨_, _, ⟨hu2.at_⟩, by simp, fun m3 hu3 => ?_⟩
  have hu3 : MUpd m2 m3 cb (.cells #[.slice none 0 0, .map (some b)] 90 (0, 0)) := hu3
  have sub3 : Sub m m3 := fun x o e => by
    have n1 : x ≠ b := fun e' => by rw [e', hb.m_] at e; cases e
    have n2 : x ≠ cb := fun e' => by
      have := hcb.m_
      rw [← e', hu1.other x n1, e] at this; cases this
    rw [hu3.other x n2, hu2.other x n2, hu1.other x n1]; exact e
  have c0 : CompAt m3 hx cb b nilS [] := ⟨hu3.at_, ⟨[], nil_mrow m3, rfl, fun i t e => by simp at e⟩, ⟨#[], 0, by rw [hu3.other b (Ne.symm cbb), hu2.other b (Ne.symm cbb)]; exact hu1.at_, rfl⟩, by simp⟩
  refine ⟨by omega, by omega, by omega, by omega, ?_⟩
  refine ⟨fun ⟨i, cb', ks, mx, hy⟩ => cb' = cb ∧ i ≤ qs.length ∧ PH.le hx hy ∧ ∃ ts s1 kk, kk.length = i ∧ ks = (kk.map fun (k : Nat) => (k : Int)) ++ List.replicate (qs.length - i) 0 ∧ AddAll (qs.take i) [] ts kk ∧ CompAt mx hy cb b s1 ts ∧ Grew m3 mx cb b nilS s1 ∧ ts.length ≤ 24 * i, fun ⟨i, _, _, _, _⟩ => qs.length - i, ⟨(0, cb, List.replicate qs.length 0, m3, hx), ⟨rfl, by omega, .refl _, [], nilS, [], rfl, by simp, ⟨rfl, rfl⟩, c0, .refl _ _ _ _, by simp⟩, ?_⟩, ?_⟩
  · have : List.map eI (List.replicate qs.length (0 : Int)) = List.replicate (Int.toNat (sl.len : Int)) [Value.int .i64 0] := by rw [List.map_replicate, Int.toNat_natCast, hl]; rfl
    rw [this]; exact MT
  clear hi hge hall i
  rintro ⟨i, cb', ks, mx, hy⟩ ⟨rfl, hi, hle2, ts, s1, kk, hkk, rfl, hadd, hc, hg, htl⟩
  dsimp only
  have htab : TabM mx := c0.tab hg (ht.sub sub3)
  refine branch_dec (fun hlt => ?_) (fun hge => ?_)
  · obtain ⟨q, hqi⟩ := getx hl hlt
    obtain ⟨b1, o1, u, e1, r1, hru⟩ := (hq.mono (hle.trans hle2)).at hqi
    have hq0 := hall' q (List.mem_of_getElem? hqi)
    have hsz := szQ_small (query_small hq0)
    refine ⟨b1, o1, e1, by omega, hlt, u, .imm r1, u, q, cb', b, s1, ts, rfl, hru, hkey q (List.mem_of_getElem? hqi) hq0, hc, htab, by omega, fun ts' k s' m' h' le' ha hc' hg' => ⟨by omega, ?_, eI 0, ?_, by simp [eI], (i + 1, cb', ((kk ++ [k]).map fun (k : Nat) => (k : Int)) ++ List.replicate (qs.length - (i + 1)) 0, m', h'), ⟨rfl, by omega, hle2.trans le', ts', s', kk ++ [k], by simp [hkk], rfl, ?_, hc', hg.trans hc hg', ?_⟩, by show qs.length - (i + 1) < qs.length - i; omega, ?_⟩⟩
    · simp [hkk]; omega
    · rw [List.getElem?_map, Int.toNat_natCast, List.getElem?_append_right (by simp [hkk]), List.getElem?_replicate, if_pos (by simp [hkk]; omega)]
      rfl
    · rw [List.take_add_one, hqi]; exact addAll_snoc hadd ha
    · have := addQ_len q ha; omega
    · have e2 : (List.map eI ((kk.map fun (k : Nat) => (k : Int)) ++ List.replicate (qs.length - i) 0)).set (Int.toNat (i : Int)) (Value.int .i64 (k : Int) :: ([] ++ List.drop 1 (eI 0))) = List.map eI (((kk ++ [k]).map fun (k : Nat) => (k : Int)) ++ List.replicate (qs.length - (i + 1)) 0) := by
        subst hkk
        rw [← set_next (by omega), List.map_set, Int.toNat_natCast]; rfl
      rw [← e2]
      exact MT
  · rw [List.take_of_length_le (by omega)] at hadd
    refine ⟨s1, .of_m hc.at_ rfl, fun r h' le' hr => ?_⟩
    have hz : qs.length - i = 0 := by omega
    rw [hz, List.replicate_zero, List.append_nil] at hr
    obtain ⟨vs, hrow, hst⟩ := hc.row
    intro hdis
    have subx : Sub m mx := fun x o e => hg.other x o (sub3 x o e) (fun e' => by
      have n1 : x ≠ b := fun e' => by rw [e', hb.m_] at e; cases e
      have := hcb.m_
      rw [← e', hu1.other x n1, e] at this; cases this) (fun e' => by rw [e', hb.m_] at e; cases e) (fun i e' => by cases e')
    have hroots : Ints h' r (kk.map fun (k : Nat) => (k : Int)) := ⟨hr, by simp; omega⟩
    rcases hrow.ex with ⟨e1, e2⟩ | ⟨g, cap, cur, e1, hm, hcap, _, hcs, htake⟩
    · refine ⟨m, h', subx, hle.trans (hle2.trans le'), fun b i v e => .inl e, hK s1 r ts kk h' (hle.trans (hle2.trans le')) hadd ⟨⟨vs, ?_, ?_⟩, hroots, hc.nodup⟩⟩
      · rw [e1, e2]; exact RowIn.nil _ _
      · exact ⟨hst.1, fun i t e => let ⟨v, k1, k2⟩ := hst.2 i t e; ⟨v, k1, k2.mono le'⟩⟩
    · have mg : m g = none := by
        cases e : m g with
        | none => rfl
        | some o =>
          rcases hg.fresh g 0 (by rw [e1]) with e' | ⟨_, e'⟩
          · rw [sub3 g o e] at e'; cases e'
          · cases e'
      have hg0 : ∀ i, h' g i = none := hdis g _ hm
      have hle3 : PH.le h' (fun x i => if x = g then cur[i]? else h' x i) := ⟨fun x i v e => by
        have : x ≠ g := fun e' => by rw [e', hg0 i] at e; cases e
        simp [this, e]⟩
      refine ⟨m, fun x i => if x = g then cur[i]? else h' x i, subx, (hle.trans (hle2.trans le')).trans hle3, fun x i v e => ?_, hK s1 r ts kk _ ((hle.trans (hle2.trans le')).trans hle3) hadd ⟨⟨vs, ?_, ?_⟩, hroots.mono hle3, hc.nodup⟩⟩
      · by_cases e' : x = g
        · subst e'
          simp at e
          exact .inr ⟨cur, 60, (0, 0), hm, e, mg⟩
        · simp [e'] at e; exact .inl e
      · refine ⟨by rw [e1], .inr ⟨g, 0, by rw [e1], fun i e hi => ⟨fun j v hj => ?_⟩⟩⟩
        have h1 := flatten_get (xs := vs.map SV2.enc) (sz := 22) (fun e he => by obtain ⟨x, _, rfl⟩ := List.mem_map.1 he; rfl) hi j v hj
        rw [← htake, List.getElem?_take] at h1
        split at h1
        · simp only [if_true, Nat.zero_add]
          rw [← Array.getElem?_toList]; exact h1
        · cases h1
      · exact ⟨hst.1, fun i t e => let ⟨v, k1, k2⟩ := hst.2 i t e; ⟨v, k1, k2.mono (le'.trans hle3)⟩⟩
theorem f14_sound : Sound Tryz.prog 14 CompileS := by
  refine fn_sound2 (fn := Tryz.f14) (c := bodyOf Tryz.f14) Tryz.func14 rfl (by decide) ?_
  rintro cvs m h K ⟨sc, sl, s, qs, rfl, hs, hq, ht, hkey, hE, hK⟩
  refine ⟨f14_ctx sc sl m, rfl, specs_cons f31_sound (specs_cons f32_sound (specs_cons f33_sound specs_nil)), ?_⟩
  rw [← f14_vc sc sl m h _]
  exact f14_ok hs hq ht hkey hE hK
end Go.Ps
namespace Go.Ps
open Go Go.Vc Go.Proofs
/-- Each node has as many arguments as its operator wants. -/
def ArOk (q : Query) : Prop :=
  match q with
  | .mk op _ _ _ _ _ _ _ args => (args.length : Int) = arity op ∧ ∀ a ∈ args, ArOk a
  termination_by SizeOf.sizeOf q
theorem arOk_iff {op ta : Int} {w : Pred} {co : List Int} {on : List (Int × Int)} {gr : List Int} {od : List (Int × Bool)} {li : Int} {args : List Query} :
    ArOk (.mk op ta w co on gr od li args) ↔ (args.length : Int) = arity op ∧ ∀ a ∈ args, ArOk a := by rw [ArOk.eq_def]
theorem arity_le (op : Int) : arity op ≤ 2 := by
  unfold arity
  repeat' split
  all_goals omega
/-- The arguments of each step stand before it. -/
def StepsWf (ts : List Step) : Prop := ∀ (i : Nat) t, ts[i]? = some t → (1 ≤ arity t.op → 0 ≤ t.left ∧ t.left < i) ∧ (2 ≤ arity t.op → 0 ≤ t.right ∧ t.right < i)
theorem key_parts {x t : Step} (h : keyOf x = keyOf t) : x.op = t.op ∧ x.left = t.left ∧ x.right = t.right := by
  simp only [keyOf, KV.mk.injEq] at h
  exact ⟨h.1, h.2.2.2.1, h.2.2.2.2.1⟩
theorem addT_wf {t : Step} {ts ts' : List Step} {k : Nat} (hw : StepsWf ts) (h : AddT t ts ts' k) (h1 : 1 ≤ arity t.op → 0 ≤ t.left ∧ t.left < ts.length) (h2 : 2 ≤ arity t.op → 0 ≤ t.right ∧ t.right < ts.length) : StepsWf ts' ∧ k < ts'.length ∧ ∃ x, ts'[k]? = some x ∧ keyOf x = keyOf t := by
  rcases h with ⟨x, hx, e, rfl⟩ | ⟨_, rfl, rfl⟩
  · exact ⟨hw, (List.getElem?_eq_some_iff.1 hx).1, x, hx, e⟩
  · refine ⟨fun i u hu => ?_, by simp, t, by simp, rfl⟩
    by_cases hi : i < ts.length
    · rw [List.getElem?_append_left hi] at hu; exact hw i u hu
    · rw [List.getElem?_append_right (by omega)] at hu
      have hil := (List.getElem?_eq_some_iff.1 hu).1
      simp at hil
      have : i = ts.length := by omega
      subst this
      simp at hu
      subst hu
      exact ⟨h1, h2⟩
/-- Where the root of a query lies. -/
theorem root_at : ∀ (q : Query) {ts ts' : List Step} {k : Nat}, ArOk q → StepsWf ts → AddQ q ts ts' k → StepsWf ts' ∧ ((k < ts.length ∧ ts' = ts) ∨ (k + 1 = ts'.length ∧ ts.length ≤ k))
  | .mk op ta w co on gr od li args, ts, ts', k, ha, hw, h => by
    rw [addQ_iff] at h
    rw [arOk_iff] at ha
    obtain ⟨ts1, l, ts2, r, h1, h2, h3⟩ := h
    obtain ⟨ha, hargs⟩ := ha
    have h2le := arity_le op
    match args, h1, h2, ha, hargs with
    | [], h1, h2, ha, _ =>
      obtain ⟨rfl, rfl⟩ := h1
      obtain ⟨rfl, rfl⟩ := h2
      simp at ha
      refine ⟨(addT_wf hw h3 (fun e => ?_) (fun e => ?_)).1, ?_⟩
      · have e : 1 ≤ arity op := e; omega
      · have e : 2 ≤ arity op := e; omega
      · rcases h3 with ⟨x, hx, _, rfl⟩ | ⟨_, rfl, rfl⟩
        · exact .inl ⟨(List.getElem?_eq_some_iff.1 hx).1, rfl⟩
        · exact .inr ⟨by simp, by omega⟩
    | [a], h1, h2, ha, hargs =>
      obtain ⟨rfl, rfl⟩ := h2
      simp at ha
      obtain ⟨w1, c1⟩ := root_at a (hargs a (by simp)) hw h1
      have hl : l < ts2.length := by rcases c1 with ⟨c, rfl⟩ | ⟨c, _⟩ <;> omega
      refine ⟨(addT_wf w1 h3 (fun _ => ⟨by simp, by simpa using hl⟩) (fun e => ?_)).1, ?_⟩
      · have e : 2 ≤ arity op := e; omega
      rcases c1 with ⟨c, rfl⟩ | ⟨c, c'⟩
      · rcases h3 with ⟨x, hx, _, rfl⟩ | ⟨_, rfl, rfl⟩
        · exact .inl ⟨(List.getElem?_eq_some_iff.1 hx).1, rfl⟩
        · exact .inr ⟨by simp, by omega⟩
      · rcases h3 with ⟨x, hx, e, rfl⟩ | ⟨_, rfl, rfl⟩
        · exfalso
          obtain ⟨e1, e2, _⟩ := key_parts e
          have hk := (List.getElem?_eq_some_iff.1 hx).1
          have := ((w1 k x hx).1 (by rw [e1]; show 1 ≤ arity op; omega)).2
          rw [e2] at this
          simp at this
          omega
        · exact .inr ⟨by simp, by omega⟩
    | [a, b], h1, h2, ha, hargs =>
      simp at ha
      obtain ⟨w1, c1⟩ := root_at a (hargs a (by simp)) hw h1
      obtain ⟨w2, c2⟩ := root_at b (hargs b (by simp)) w1 h2
      have hl : l < ts1.length := by rcases c1 with ⟨c, rfl⟩ | ⟨c, _⟩ <;> omega
      have hr : r < ts2.length := by rcases c2 with ⟨c, rfl⟩ | ⟨c, _⟩ <;> omega
      have h12 : ts1.length ≤ ts2.length := by rcases c2 with ⟨c, rfl⟩ | ⟨c, _⟩ <;> omega
      refine ⟨(addT_wf w2 h3 (fun _ => ⟨by simp, by simp; omega⟩) (fun _ => ⟨by simp, by simpa using hr⟩)).1, ?_⟩
      rcases h3 with ⟨x, hx, e, rfl⟩ | ⟨_, rfl, rfl⟩
      · obtain ⟨e1, e2, e3⟩ := key_parts e
        have hk := (List.getElem?_eq_some_iff.1 hx).1
        have q1 := ((w2 k x hx).1 (by rw [e1]; show 1 ≤ arity op; omega)).2
        have q2 := ((w2 k x hx).2 (by rw [e1]; show 2 ≤ arity op; omega)).2
        rw [e2] at q1
        rw [e3] at q2
        simp at q1 q2
        rcases c2 with ⟨c, rfl⟩ | ⟨c, c'⟩
        · rcases c1 with ⟨c1, rfl⟩ | ⟨c1, c1'⟩
          · exact .inl ⟨hk, rfl⟩
          · exfalso; omega
        · exfalso; omega
      · right
        refine ⟨by simp, ?_⟩
        rcases c1 with ⟨c1, rfl⟩ | ⟨c1, c1'⟩ <;> rcases c2 with ⟨c2, rfl⟩ | ⟨c2, c2'⟩ <;> omega
    | a :: b :: c :: rest, _, _, ha, _ => simp at ha; omega
theorem addT_nodup {t : Step} {ts ts' : List Step} {k : Nat} (hn : (ts.map keyOf).Nodup) (h : AddT t ts ts' k) : (ts'.map keyOf).Nodup ∧ ts <+: ts' := by
  rcases h with ⟨_, _, _, rfl⟩ | ⟨hno, rfl, _⟩
  · exact ⟨hn, List.prefix_refl _⟩
  · refine ⟨?_, List.prefix_append _ _⟩
    rw [List.map_append, List.nodup_append]
    refine ⟨hn, by simp, fun a ha b hb => ?_⟩
    obtain ⟨x, hx, rfl⟩ := List.mem_map.1 ha
    simp at hb
    rw [hb]; exact hno x hx
theorem addQ_nodup : ∀ (q : Query) {ts ts' : List Step} {k : Nat}, (ts.map keyOf).Nodup → AddQ q ts ts' k → (ts'.map keyOf).Nodup ∧ ts <+: ts'
  | .mk op ta w co on gr od li args, ts, ts', k, hn, h => by
    rw [addQ_iff] at h
    obtain ⟨ts1, l, ts2, r, h1, h2, h3⟩ := h
    match args, h1, h2 with
    | [], h1, h2 =>
      obtain ⟨rfl, rfl⟩ := h1
      obtain ⟨rfl, rfl⟩ := h2
      exact addT_nodup hn h3
    | [a], h1, h2 =>
      obtain ⟨rfl, rfl⟩ := h2
      obtain ⟨n1, p1⟩ := addQ_nodup a hn h1
      obtain ⟨n2, p2⟩ := addT_nodup n1 h3
      exact ⟨n2, p1.trans p2⟩
    | a :: b :: rest, h1, h2 =>
      obtain ⟨n1, p1⟩ := addQ_nodup a hn h1
      obtain ⟨n2, p2⟩ := addQ_nodup b n1 h2
      obtain ⟨n3, p3⟩ := addT_nodup n2 h3
      exact ⟨n3, (p1.trans p2).trans p3⟩
theorem prefix_get {α : Type} {l l' : List α} (h : l <+: l') {i : Nat} {x : α} (hx : l[i]? = some x) : l'[i]? = some x := by
  obtain ⟨r, rfl⟩ := h
  rw [List.getElem?_append_left (List.getElem?_eq_some_iff.1 hx).1]; exact hx
theorem nodup_idx {ts : List Step} (hn : (ts.map keyOf).Nodup) {i j : Nat} {x y : Step} (hx : ts[i]? = some x) (hy : ts[j]? = some y) (e : keyOf x = keyOf y) : i = j := by
  have hi := (List.getElem?_eq_some_iff.1 hx)
  have hj := (List.getElem?_eq_some_iff.1 hy)
  obtain ⟨hi, ex⟩ := hi
  obtain ⟨hj, ey⟩ := hj
  have h1 : (ts.map keyOf)[i]'(by simpa using hi) = (ts.map keyOf)[j]'(by simpa using hj) := by simp [ex, ey, e]
  exact (List.getElem_inj hn).1 h1
/-- What is there is found again. -/
theorem again : ∀ (q : Query) {ts ts' tt t3 : List Step} {k k3 : Nat}, (ts.map keyOf).Nodup → AddQ q ts ts' k → ts' <+: tt → (tt.map keyOf).Nodup → AddQ q tt t3 k3 → t3 = tt ∧ k3 = k
  | .mk op ta w co on gr od li args, ts, ts', tt, t3, k, k3, hn, h, hp, hnt, g => by
    rw [addQ_iff] at h g
    obtain ⟨ts1, l, ts2, r, h1, h2, h3⟩ := h
    obtain ⟨us1, l', us2, r', g1, g2, g3⟩ := g
    have key : ∀ (ts2 : List Step) (l r : Nat), (ts2.map keyOf).Nodup → AddT ⟨op, ta, w, co, on, gr, od, li, (l : Nat), (r : Nat)⟩ ts2 ts' k → AddT ⟨op, ta, w, co, on, gr, od, li, (l : Nat), (r : Nat)⟩ tt t3 k3 → t3 = tt ∧ k3 = k := by
      intro ts2 l r hn2 h3 g3
      have hx : ∃ x, ts'[k]? = some x ∧ keyOf x = keyOf ⟨op, ta, w, co, on, gr, od, li, (l : Nat), (r : Nat)⟩ := by
        rcases h3 with ⟨x, hx, e, rfl⟩ | ⟨_, rfl, rfl⟩
        · exact ⟨x, hx, e⟩
        · exact ⟨_, by simp, rfl⟩
      obtain ⟨x, hx, e⟩ := hx
      have hx' := prefix_get hp hx
      rcases g3 with ⟨y, hy, e', rfl⟩ | ⟨hno, _, _⟩
      · exact ⟨rfl, nodup_idx hnt hy hx' (e'.trans e.symm)⟩
      · exact (hno x (List.mem_of_getElem? hx') e).elim
    match args, h1, h2, g1, g2 with
    | [], h1, h2, g1, g2 =>
      obtain ⟨rfl, rfl⟩ := h1
      obtain ⟨rfl, rfl⟩ := h2
      obtain ⟨rfl, rfl⟩ := g1
      obtain ⟨rfl, rfl⟩ := g2
      exact key _ _ _ hn h3 g3
    | [a], h1, h2, g1, g2 =>
      obtain ⟨rfl, rfl⟩ := h2
      obtain ⟨rfl, rfl⟩ := g2
      obtain ⟨n1, p1⟩ := addQ_nodup a hn h1
      obtain ⟨n2, p2⟩ := addT_nodup n1 h3
      obtain ⟨rfl, rfl⟩ := again a hn h1 (p2.trans hp) hnt g1
      exact key _ _ _ n1 h3 g3
    | a :: b :: rest, h1, h2, g1, g2 =>
      obtain ⟨n1, p1⟩ := addQ_nodup a hn h1
      obtain ⟨n2, p2⟩ := addQ_nodup b n1 h2
      obtain ⟨n3, p3⟩ := addT_nodup n2 h3
      obtain ⟨rfl, rfl⟩ := again a hn h1 ((p2.trans p3).trans hp) hnt g1
      obtain ⟨rfl, rfl⟩ := again b n1 h2 (p3.trans hp) hnt g2
      exact key _ _ _ n2 h3 g3
/-- THE LAW OF PlanShares. -/
theorem shares {q : Query} {ts : List Step} {ks : List Nat} (ha : ArOk q) (h : AddAll [q, q, .mk 8 0 zeroP [] [] [] [] 0 [q, q]] [] ts ks) :
    ∃ k, ks = [k, k, k + 1] ∧ ts.length = k + 2 ∧ (ts.map keyOf).Nodup := by
  obtain ⟨t1, k1, _, h1, ⟨t2, k2, _, h2, ⟨t3, k3, _, h3, ⟨rfl, rfl⟩, rfl⟩, rfl⟩, rfl⟩ := h
  have n0 : (([] : List Step).map keyOf).Nodup := by simp
  have w0 : StepsWf [] := fun i t e => by simp at e
  obtain ⟨n1, _⟩ := addQ_nodup q n0 h1
  obtain ⟨w1, c1⟩ := root_at q ha w0 h1
  obtain ⟨rfl, rfl⟩ := again q n0 h1 (List.prefix_refl _) n1 h2
  have hk : k2 + 1 = t2.length := by
    rcases c1 with ⟨c, _⟩ | ⟨c, _⟩
    · simp at c
    · exact c
  rw [addQ_iff] at h3
  obtain ⟨u1, l, u2, r, g1, g2, g3⟩ := h3
  obtain ⟨rfl, rfl⟩ := again q n0 h1 (List.prefix_refl _) n1 g1
  obtain ⟨rfl, rfl⟩ := again q n0 h1 (List.prefix_refl _) n1 g2
  have n3 := (addT_nodup n1 g3).1
  rcases g3 with ⟨x, hx, e, rfl⟩ | ⟨_, rfl, rfl⟩
  · exfalso
    obtain ⟨e1, e2, _⟩ := key_parts e
    have hlt := (List.getElem?_eq_some_iff.1 hx).1
    have := ((w1 k3 x hx).1 (by rw [e1]; show 1 ≤ arity 8; decide)).2
    rw [e2] at this
    simp at this
    omega
  · exact ⟨r, by rw [← hk], by simp; omega, n3⟩
end Go.Ps
namespace Go.Ps
open Go Go.Vc Go.Proofs
/-- The rows ws begin the block tb. -/
structure TabRow (m : MH) (tb : Nat) (ws : List TabV) : Prop where
  ex : ∃ cur : Array Value, m tb = some (.cells cur 72 (0, 0)) ∧ cur.toList.take (ws.length * 5) = (ws.map TabV.enc).flatten
/-- The kinds of a table that lies in m. -/
def KindsMS : Vc.Spec := fun cvs m h K => ∃ ver tb n cap ws w cols, ∃ t : Nat, cvs = [aS ⟨ver, ⟨some ⟨tb, 0, none⟩, n, cap⟩⟩, cI t] ∧ t < n ∧ TabRow m tb ws ∧ ws[t]? = some w ∧ Cols h w.columns cols ∧ cols.length ≤ 8 ∧
  ∀ sl h', PH.le h h' → Ints h' sl (cols.map ColV.kind) → K (cS sl) m h'
noncomputable def f25_ctx (cb : Nat) : Ctx :=
  ctx4 [(12, IntW), (10, BoolW), (51, ColumnS), (52, KindsMS), (27, PredicateW)] []
   [(5, { A := Int × Int × MH × PH, st := fun ⟨n, id, m, h⟩ => mkSt 86 87 [(0, pv cb), (2, .at (.ptr 2 0)), (3, iv n), (4, iv id)] [(2, .cells 28 [.val (.int .i64 0), .val (.slice none 0 0)])] m h }),
    (9, { A := Int × SchV × MH × PH, st := fun ⟨n, s, m, h⟩ => mkSt 86 87 [(0, pv cb), (2, .at (.ptr 2 0)), (3, iv n), (5, .at (.ptr 5 0))] [(2, .cells 28 [.val (.int .i64 0), .val (.slice none 0 0)]), (5, .cells 28 (s.enc.map .val))] m h }),
    (11, { A := Int × SchV × MH × PH, st := fun ⟨n, s, m, h⟩ => mkSt 86 87 [(0, pv cb), (2, .at (.ptr 2 0)), (3, iv n), (5, .at (.ptr 5 0))] [(2, .cells 28 [.val (.int .i64 0), .val (.slice none 0 0)]), (5, .cells 28 (s.enc.map .val))] m h }),
    (13, { A := SchV × MH × PH, st := fun ⟨s, m, h⟩ => mkSt 86 87 [(0, pv cb), (2, .at (.ptr 2 0)), (5, .at (.ptr 5 0))] [(2, .cells 28 [.val (.int .i64 0), .val (.slice none 0 0)]), (5, .cells 28 (s.enc.map .val))] m h }),
    (15, { A := SchV × MH × PH, st := fun ⟨s, m, h⟩ => mkSt 86 87 [(2, .at (.ptr 2 0)), (5, .at (.ptr 5 0))] [(2, .cells 28 [.val (.int .i64 0), .val (.slice none 0 0)]), (5, .cells 28 (s.enc.map .val))] m h })] [] [26] [] false
/-- The tables of the case, without references and checks. -/
def plainTabs (id : Int) : List Tab :=
  [⟨⟨⟨[112, 114, 111, 106, 101, 99, 116, 115]⟩⟩, [⟨⟨⟨[105, 100]⟩⟩, 4⟩, ⟨⟨⟨[111, 119, 110, 101, 114]⟩⟩, 4⟩], 1, [], []⟩,
   ⟨⟨⟨[116, 97, 115, 107, 115]⟩⟩, [⟨⟨⟨[105, 100]⟩⟩, id⟩, ⟨⟨⟨[112, 114, 111, 106, 101, 99, 116]⟩⟩, 4⟩, ⟨⟨⟨[116, 105, 116, 108, 101]⟩⟩, 5⟩, ⟨⟨⟨[100, 111, 110, 101]⟩⟩, 3⟩], 1, [], []⟩,
   ⟨⟨⟨[109, 101, 109, 98, 101, 114, 115]⟩⟩, [⟨⟨⟨[112, 114, 111, 106, 101, 99, 116]⟩⟩, 4⟩, ⟨⟨⟨[112, 101, 114, 115, 111, 110]⟩⟩, 4⟩], 2, [], []⟩,
   ⟨⟨⟨[97, 114, 99, 104, 105, 118, 101, 100]⟩⟩, [⟨⟨⟨[116, 97, 115, 107]⟩⟩, id⟩], 1, [], []⟩]
/-- The tables without their references and checks are those of the case. -/
structure TabHalf (h : PH) (t : Tab) (w : TabV) : Prop where
  name_ : w.name = t.name
  key_ : w.key = t.key
  cols_ : Cols h w.columns t.columns
def WsOk (h : PH) (id : Int) (ws : List TabV) : Prop := ws.length = 4 ∧ ∀ (i : Nat) t, (plainTabs id)[i]? = some t → ∃ w, ws[i]? = some w ∧ TabHalf h t w
structure SchAt (m0 : MH) (h0 : PH) (cb : Nat) (tb n : Nat) (id : Int) (ws : List TabV) (s : SchV) (m : MH) (h : PH) : Prop where
  le_ : PH.le h0 h
  ver0 : 0 ≤ s.version
  ver1 : s.version ≤ 2
  case_ : CaseOk m h cb
  n2 : 2 ≤ n
  n4 : n ≤ 4
  sl_ : ∃ cap, s.tables = ⟨some ⟨tb, 0, none⟩, n, cap⟩
  id_ : id = 4 ∨ id = 5
  new_ : m0 tb = none
  ne_ : tb ≠ cb
  row_ : TabRow m tb ws
  ws_ : WsOk h id ws
  other_ : ∀ b, b ≠ cb → b ≠ tb → m b = m0 b
def SchemaW : Vc.Spec := fun cvs m h K => ∃ cb, cvs = [cP cb] ∧ CaseOk m h cb ∧ ∀ tb n id ws s m' h', SchAt m h cb tb n id ws s m' h' → K (aS s) m' h'
noncomputable def f8_ctx : Ctx :=
  ctx4 [(25, SchemaW)] [(3, { A := Nat × SchV × MH × PH, st := fun ⟨i, s, m, h⟩ => mkSt 25 26 [(2, .at (.ptr 2 0)), (3, .at (.ptr 3 0)), (9, iv s.tables.len), (10, iv i)] [(2, .cells 28 [.val (.int .i64 0), .val (.slice none 0 0)]), (3, .cells 28 (s.enc.map .val))] m h })] [] [] [26] [] false
def f52m_nice (v : SchV) (t : Int) (m : MH) (h : PH) (K : CV → MH → PH → Prop) : Prop :=
    branch (decide (t < 0)) (K (cQn) m h) (branch (decide (t ≥ (↑v.tables.len : Int))) (K (cQn) m h) (∃ (b : Nat), ∃ (off : Nat), v.tables.a = some (Addr.mk b off none) /\ 0 <= t /\ t 
    < (↑v.tables.len : Int) /\ ∃ (y : Sl), RdAt m h b (off + t.toNat * 5 + 1) [vQs y] /\ ∃ (I : Nat × Sl × List Int -> Prop), ∃ (mu : Nat × Sl × List Int -> Nat), (∃ (x : Nat × Sl × 
    List Int), I x /\ eQ (sQl 32) /\ sQs y = sQs x.2.1 /\ sQi (↑y.len : Int) = sQi (↑x.2.1.len : Int) /\ sQi 0 = sQi (↑x.1 : Int) /\ some (Own.lst 3 1 []) = some (Own.lst 3 1 (List.map 
    eI x.2.2)) /\ m = m /\ h = h /\ True) /\ ∀ (x : Nat × Sl × List Int), I x -> branch (decide ((↑x.1 : Int) < (↑x.2.1.len : Int))) (∃ (b : Nat), ∃ (off : Nat), x.2.1.a = some 
    (Addr.mk b off none) /\ 0 <= (↑x.1 : Int) /\ (↑x.1 : Int) < (↑x.2.1.len : Int) /\ ∃ (y : ColV), RdAt m h b (off + (↑x.1 : Int).toNat * 2) [Value.string y.name, vQi y.kind] /\ 
    ((List.map eI x.2.2).length + 1) * 8 <= 140737488355328 /\ (List.map eI x.2.2).length < 140737488355328 /\ ∃ (y_1 : Nat × Sl × List Int), I y_1 /\ mu y_1 < mu x /\ eQ (sQl 32) /\ 
    sQs x.2.1 = sQs y_1.2.1 /\ sQi (↑x.2.1.len : Int) = sQi (↑y_1.2.1.len : Int) /\ sQi (IntKind.i64.wrap ((↑x.1 : Int) + 1)) = sQi (↑y_1.1 : Int) /\ some (Own.lst 3 1 (List.map eI 
    x.2.2 ++ [[vQi y.kind]])) = some (Own.lst 3 1 (List.map eI y_1.2.2)) /\ m = m /\ h = h /\ True) (∀ (s : Sl) (h' : PH), h.le h' -> RowIn h' s 1 (List.map eI x.2.2) -> K (cQs s) m 
    h')))
theorem f52m_vc (v : SchV) (t : Int) (m : MH) (h : PH) (K : CV → MH → PH → Prop) : f52m_nice v t m h K = (fnVC (f52_ctx m h) Tryz.f52 (bodyOf Tryz.f52) (entry Tryz.f52.ntmps [aS v, cI t] m h) K) := by kernel_rfl
def f25_nice (cb : Nat) (m : MH) (h : PH) (K : CV → MH → PH → Prop) : Prop :=
    ∃ (cb_1 : Nat), ∃ (n : Int), [cQp cb 0, cQi 3] = [cQp cb_1 0, cQi n] /\ CaseOk m h cb_1 /\ ∀ (k : Int) (m' : MH), 0 <= k -> k < n ∨ k = 0 -> MOther m m' cb_1 -> CaseOk m' h cb_1 -> 
    ∃ (I : Int × Int × MH × PH -> Prop), (∃ (cb_2 : Nat), ∃ (n : Int), [cQp cb 0, cQi 5] = [cQp cb_2 0, cQi n] /\ 0 <= n /\ n <= 1000 /\ CaseOk m' h cb_2 /\ ∀ (r : Bool) (m'_1 : MH), 
    MOther m' m'_1 cb_2 -> CaseOk m'_1 h cb_2 -> branch r (∃ (x : Int × Int × MH × PH), I x /\ eQ (sQo cb 0) /\ eQ (sQp 2 0) /\ sQi (IntKind.i64.wrap (2 + k)) = sQi x.1 /\ sQi 5 = sQi 
    x.2.1 /\ eQ (oQ 28 [aQi 0, aQn]) /\ m'_1 = x.2.2.1 /\ h = x.2.2.2 /\ True) (∃ (x : Int × Int × MH × PH), I x /\ eQ (sQo cb 0) /\ eQ (sQp 2 0) /\ sQi (IntKind.i64.wrap (2 + k)) = 
    sQi x.1 /\ sQi 4 = sQi x.2.1 /\ eQ (oQ 28 [aQi 0, aQn]) /\ m'_1 = x.2.2.1 /\ h = x.2.2.2 /\ True)) /\ ∀ (x : Int × Int × MH × PH), I x -> ∃ (cb_2 : Nat), ∃ (n : Int), [cQp cb 0, 
    cQi 3] = [cQp cb_2 0, cQi n] /\ CaseOk x.2.2.1 x.2.2.2 cb_2 /\ ∀ (k : Int) (m' : MH), 0 <= k -> k < n ∨ k = 0 -> MOther x.2.2.1 m' cb_2 -> CaseOk m' x.2.2.2 cb_2 -> ∃ (n : 
    ByteArray), ∃ (k_1 : Int), [CV.val (Value.string (ByteArray.mk (Array.mk [OfNat.ofNat 105, OfNat.ofNat 100]))), cQi 4] = [CV.val (Value.string n), cQi k_1] /\ ∃ (n_1 : ByteArray), 
    ∃ (k_2 : Int), [CV.val (Value.string (ByteArray.mk (Array.mk [OfNat.ofNat 111, OfNat.ofNat 119, OfNat.ofNat 110, OfNat.ofNat 101, OfNat.ofNat 114]))), cQi 4] = [CV.val 
    (Value.string n_1), cQi k_2] /\ ∃ (n_2 : ByteArray), ∃ (k_3 : Int), [CV.val (Value.string (ByteArray.mk (Array.mk [OfNat.ofNat 105, OfNat.ofNat 100]))), cQi x.2.1] = [CV.val 
    (Value.string n_2), cQi k_3] /\ ∃ (n_3 : ByteArray), ∃ (k_4 : Int), [CV.val (Value.string (ByteArray.mk (Array.mk [OfNat.ofNat 112, OfNat.ofNat 114, OfNat.ofNat 111, OfNat.ofNat 
    106, OfNat.ofNat 101, OfNat.ofNat 99, OfNat.ofNat 116]))), cQi 4] = [CV.val (Value.string n_3), cQi k_4] /\ ∃ (n_4 : ByteArray), ∃ (k_5 : Int), [CV.val (Value.string (ByteArray.mk 
    (Array.mk [OfNat.ofNat 116, OfNat.ofNat 105, OfNat.ofNat 116, OfNat.ofNat 108, OfNat.ofNat 101]))), cQi 5] = [CV.val (Value.string n_4), cQi k_5] /\ ∃ (n_5 : ByteArray), ∃ (k_6 : 
    Int), [CV.val (Value.string (ByteArray.mk (Array.mk [OfNat.ofNat 100, OfNat.ofNat 111, OfNat.ofNat 110, OfNat.ofNat 101]))), cQi 3] = [CV.val (Value.string n_5), cQi k_6] /\ ∃ (n_6 
    : ByteArray), ∃ (k_7 : Int), [CV.val (Value.string (ByteArray.mk (Array.mk [OfNat.ofNat 112, OfNat.ofNat 114, OfNat.ofNat 111, OfNat.ofNat 106, OfNat.ofNat 101, OfNat.ofNat 99, 
    OfNat.ofNat 116]))), cQi 4] = [CV.val (Value.string n_6), cQi k_7] /\ ∃ (n_7 : ByteArray), ∃ (k_8 : Int), [CV.val (Value.string (ByteArray.mk (Array.mk [OfNat.ofNat 112, 
    OfNat.ofNat 101, OfNat.ofNat 114, OfNat.ofNat 115, OfNat.ofNat 111, OfNat.ofNat 110]))), cQi 4] = [CV.val (Value.string n_7), cQi k_8] /\ ∃ (n_8 : ByteArray), ∃ (k_9 : Int), 
    [CV.val (Value.string (ByteArray.mk (Array.mk [OfNat.ofNat 116, OfNat.ofNat 97, OfNat.ofNat 115, OfNat.ofNat 107]))), cQi x.2.1] = [CV.val (Value.string n_8), cQi k_9] /\ ∀ (s : 
    Sl) (h' : PH), x.2.2.2.le h' -> RowIn h' s 2 [[Value.string n, vQi k_1], [Value.string n_1, vQi k_2]] -> ∀ (s_1 : Sl) (h'_1 : PH), h'.le h'_1 -> RowIn h'_1 s_1 2 [[Value.string 
    n_2, vQi k_3], [Value.string n_3, vQi k_4], [Value.string n_4, vQi k_5], [Value.string n_5, vQi k_6]] -> ∀ (s_2 : Sl) (h' : PH), h'_1.le h' -> RowIn h' s_2 2 [[Value.string n_6, 
    vQi k_7], [Value.string n_7, vQi k_8]] -> ∀ (s_3 : Sl) (h'_2 : PH), h'.le h'_2 -> RowIn h'_2 s_3 2 [[Value.string n_8, vQi k_9]] -> ∀ (s_4 : Sl) (m'_1 : MH), MNew m' m'_1 h'_2 s_4 
    72 5 [[Value.string (ByteArray.mk (Array.mk [OfNat.ofNat 112, OfNat.ofNat 114, OfNat.ofNat 111, OfNat.ofNat 106, OfNat.ofNat 101, OfNat.ofNat 99, OfNat.ofNat 116, OfNat.ofNat 
    115])), vQs s, vQi 1, vQn, vQn], [Value.string (ByteArray.mk (Array.mk [OfNat.ofNat 116, OfNat.ofNat 97, OfNat.ofNat 115, OfNat.ofNat 107, OfNat.ofNat 115])), vQs s_1, vQi 1, vQn, 
    vQn], [Value.string (ByteArray.mk (Array.mk [OfNat.ofNat 109, OfNat.ofNat 101, OfNat.ofNat 109, OfNat.ofNat 98, OfNat.ofNat 101, OfNat.ofNat 114, OfNat.ofNat 115])), vQs s_2, vQi 
    2, vQn, vQn], [Value.string (ByteArray.mk (Array.mk [OfNat.ofNat 97, OfNat.ofNat 114, OfNat.ofNat 99, OfNat.ofNat 104, OfNat.ofNat 105, OfNat.ofNat 118, OfNat.ofNat 101, 
    OfNat.ofNat 100])), vQs s_3, vQi 1, vQn, vQn]] -> 0 <= x.1 /\ x.1 <= (↑s_4.cap : Int) /\ ∃ (I : Int × SchV × MH × PH -> Prop), (∃ (cb_3 : Nat), ∃ (n : Int), [cQp cb 0, cQi 2] = 
    [cQp cb_3 0, cQi n] /\ 0 <= n /\ n <= 1000 /\ CaseOk m'_1 h'_2 cb_3 /\ ∀ (r : Bool) (m' : MH), MOther m'_1 m' cb_3 -> CaseOk m' h'_2 cb_3 -> branch r (∀ (s : Sl) (h' : PH), h'_2.le 
    h' -> RowIn h' s 1 [[vQi 1]] -> ∃ (b : Nat), ∃ (off : Nat), s_4.a = some (Addr.mk b off none) /\ (0 : Int) <= 1 /\ 1 < (↑x.1.toNat : Int) /\ ∀ (s_5 : Sl) (h'_3 : PH), h'.le h'_3 -> 
    RowIn h'_3 s_5 2 [[vQs s, vQi 0]] -> ∃ (cs : Array Value), ∃ (E : TypeId), MAt m' b (Obj.cells cs E) /\ off + 5 + 3 < cs.size /\ ∀ (m'_2 : MH), MUpd m' m'_2 b (Obj.cells (Array.mk 
    (splice cs.toList (off + 5 + 3) [vQs s_5])) E) -> ∃ (x_1 : Int × SchV × MH × PH), I x_1 /\ eQ (sQo cb 0) /\ eQ (sQp 2 0) /\ sQi x.1 = sQi x_1.1 /\ eQ (sQp 5 0) /\ eQ (oQ 28 [aQi 0, 
    aQn]) /\ oQ 28 [aQi k, At.val (Value.slice s_4.a x.1.toNat s_4.cap)] = oQ 28 [aQi x_1.2.1.version, aQs x_1.2.1.tables] /\ m'_2 = x_1.2.2.1 /\ h'_3 = x_1.2.2.2 /\ True) (∃ (x_1 : 
    Int × SchV × MH × PH), I x_1 /\ eQ (sQo cb 0) /\ eQ (sQp 2 0) /\ sQi x.1 = sQi x_1.1 /\ eQ (sQp 5 0) /\ eQ (oQ 28 [aQi 0, aQn]) /\ oQ 28 [aQi k, At.val (Value.slice s_4.a x.1.toNat 
    s_4.cap)] = oQ 28 [aQi x_1.2.1.version, aQs x_1.2.1.tables] /\ m' = x_1.2.2.1 /\ h'_2 = x_1.2.2.2 /\ True)) /\ ∀ (x : Int × SchV × MH × PH), I x -> ∃ (I : Int × SchV × MH × PH -> 
    Prop), branch (decide (x.1 > 2)) (∃ (cb_3 : Nat), ∃ (n : Int), [cQp cb 0, cQi 3] = [cQp cb_3 0, cQi n] /\ 0 <= n /\ n <= 1000 /\ CaseOk x.2.2.1 x.2.2.2 cb_3 /\ ∀ (r : Bool) (m' : 
    MH), MOther x.2.2.1 m' cb_3 -> CaseOk m' x.2.2.2 cb_3 -> branch r (∀ (s : Sl) (h' : PH), x.2.2.2.le h' -> RowIn h' s 1 [[vQi 0]] -> ∃ (b : Nat), ∃ (off : Nat), x.2.1.tables.a = 
    some (Addr.mk b off none) /\ (0 : Int) <= 2 /\ 2 < (↑x.2.1.tables.len : Int) /\ ∀ (s_5 : Sl) (h'_3 : PH), h'.le h'_3 -> RowIn h'_3 s_5 2 [[vQs s, vQi 0]] -> ∃ (cs : Array Value), ∃ 
    (E : TypeId), MAt m' b (Obj.cells cs E) /\ off + 10 + 3 < cs.size /\ ∀ (m'_2 : MH), MUpd m' m'_2 b (Obj.cells (Array.mk (splice cs.toList (off + 10 + 3) [vQs s_5])) E) -> ∃ (x_1 : 
    Int × SchV × MH × PH), I x_1 /\ eQ (sQo cb 0) /\ eQ (sQp 2 0) /\ sQi x.1 = sQi x_1.1 /\ eQ (sQp 5 0) /\ eQ (oQ 28 [aQi 0, aQn]) /\ oQ 28 [aQi x.2.1.version, aQs x.2.1.tables] = oQ 
    28 [aQi x_1.2.1.version, aQs x_1.2.1.tables] /\ m'_2 = x_1.2.2.1 /\ h'_3 = x_1.2.2.2 /\ True) (∃ (x_1 : Int × SchV × MH × PH), I x_1 /\ eQ (sQo cb 0) /\ eQ (sQp 2 0) /\ sQi x.1 = 
    sQi x_1.1 /\ eQ (sQp 5 0) /\ eQ (oQ 28 [aQi 0, aQn]) /\ oQ 28 [aQi x.2.1.version, aQs x.2.1.tables] = oQ 28 [aQi x_1.2.1.version, aQs x_1.2.1.tables] /\ m' = x_1.2.2.1 /\ x.2.2.2 = 
    x_1.2.2.2 /\ True)) (∃ (x_1 : Int × SchV × MH × PH), I x_1 /\ eQ (sQo cb 0) /\ eQ (sQp 2 0) /\ sQi x.1 = sQi x_1.1 /\ eQ (sQp 5 0) /\ eQ (oQ 28 [aQi 0, aQn]) /\ oQ 28 [aQi 
    x.2.1.version, aQs x.2.1.tables] = oQ 28 [aQi x_1.2.1.version, aQs x_1.2.1.tables] /\ x.2.2.1 = x_1.2.2.1 /\ x.2.2.2 = x_1.2.2.2 /\ True) /\ ∀ (x : Int × SchV × MH × PH), I x -> ∃ 
    (I : SchV × MH × PH -> Prop), branch (decide (x.1 > 3)) (∃ (cb_3 : Nat), ∃ (n : Int), [cQp cb 0, cQi 3] = [cQp cb_3 0, cQi n] /\ 0 <= n /\ n <= 1000 /\ CaseOk x.2.2.1 x.2.2.2 cb_3 
    /\ ∀ (r : Bool) (m' : MH), MOther x.2.2.1 m' cb_3 -> CaseOk m' x.2.2.2 cb_3 -> branch r (∀ (s : Sl) (h' : PH), x.2.2.2.le h' -> RowIn h' s 1 [[vQi 0]] -> ∃ (b : Nat), ∃ (off : 
    Nat), x.2.1.tables.a = some (Addr.mk b off none) /\ (0 : Int) <= 3 /\ 3 < (↑x.2.1.tables.len : Int) /\ ∀ (s_5 : Sl) (h'_3 : PH), h'.le h'_3 -> RowIn h'_3 s_5 2 [[vQs s, vQi 1]] -> 
    ∃ (cs : Array Value), ∃ (E : TypeId), MAt m' b (Obj.cells cs E) /\ off + 15 + 3 < cs.size /\ ∀ (m'_2 : MH), MUpd m' m'_2 b (Obj.cells (Array.mk (splice cs.toList (off + 15 + 3) 
    [vQs s_5])) E) -> ∃ (x_1 : SchV × MH × PH), I x_1 /\ eQ (sQo cb 0) /\ eQ (sQp 2 0) /\ eQ (sQp 5 0) /\ eQ (oQ 28 [aQi 0, aQn]) /\ oQ 28 [aQi x.2.1.version, aQs x.2.1.tables] = oQ 28 
    [aQi x_1.1.version, aQs x_1.1.tables] /\ m'_2 = x_1.2.1 /\ h'_3 = x_1.2.2 /\ True) (∃ (x_1 : SchV × MH × PH), I x_1 /\ eQ (sQo cb 0) /\ eQ (sQp 2 0) /\ eQ (sQp 5 0) /\ eQ (oQ 28 
    [aQi 0, aQn]) /\ oQ 28 [aQi x.2.1.version, aQs x.2.1.tables] = oQ 28 [aQi x_1.1.version, aQs x_1.1.tables] /\ m' = x_1.2.1 /\ x.2.2.2 = x_1.2.2 /\ True)) (∃ (x_1 : SchV × MH × PH), 
    I x_1 /\ eQ (sQo cb 0) /\ eQ (sQp 2 0) /\ eQ (sQp 5 0) /\ eQ (oQ 28 [aQi 0, aQn]) /\ oQ 28 [aQi x.2.1.version, aQs x.2.1.tables] = oQ 28 [aQi x_1.1.version, aQs x_1.1.tables] /\ 
    x.2.2.1 = x_1.2.1 /\ x.2.2.2 = x_1.2.2 /\ True) /\ ∀ (x : SchV × MH × PH), I x -> ∃ (I : SchV × MH × PH -> Prop), (∃ (cb_3 : Nat), ∃ (n : Int), [cQp cb 0, cQi 3] = [cQp cb_3 0, cQi 
    n] /\ 0 <= n /\ n <= 1000 /\ CaseOk x.2.1 x.2.2 cb_3 /\ ∀ (r : Bool) (m' : MH), MOther x.2.1 m' cb_3 -> CaseOk m' x.2.2 cb_3 -> branch r (∃ (ver : Int), ∃ (tb : Nat), ∃ (n : Nat), 
    ∃ (cap : Nat), ∃ (ws : List TabV), ∃ (w : TabV), ∃ (cols : List ColV), ∃ (t : Nat), [cQa [vQi x.1.version, vQs x.1.tables], cQi 1] = [cQa [vQi ver, Value.slice (some (Addr.mk tb 0 
    none)) n cap], cQi (↑t : Int)] /\ t < n /\ TabRow m' tb ws /\ ws[t]? = some w /\ Cols x.2.2 w.columns cols /\ cols.length <= 8 /\ ∀ (sl : Sl) (h' : PH), x.2.2.le h' -> Ints h' sl 
    (List.map ColV.kind cols) -> ∃ (cb_4 : Nat), ∃ (s : Sl), ∃ (t : Sl), ∃ (cols : List Int), ∃ (params : List Int), ∃ (deep : Nat), [cQp cb 0, cQs sl, cQn, cQi 1] = [cQp cb_4 0, cQs 
    s, cQs t, cQi (↑deep : Int)] /\ CaseOk m' h' cb_4 /\ Ints h' s cols /\ Ints h' t params /\ cols.length <= 1000 /\ params.length <= 1000 /\ deep <= 1000 /\ ∀ (v : PV) (p : Pred) 
    (m'_2 : MH) (h'_3 : PH), h'.le h'_3 -> RepP h'_3 p v -> PredW p -> MOther m' m'_2 cb_4 -> CaseOk m'_2 h'_3 cb_4 -> ∃ (b : Nat), ∃ (off : Nat), x.1.tables.a = some (Addr.mk b off 
    none) /\ (0 : Int) <= 1 /\ 1 < (↑x.1.tables.len : Int) /\ ∀ (s : Sl) (h' : PH), h'_3.le h' -> RowIn h' s 13 [(PV.enc v)] -> ∃ (cs : Array Value), ∃ (E : TypeId), MAt m'_2 b 
    (Obj.cells cs E) /\ off + 5 + 4 < cs.size /\ ∀ (m' : MH), MUpd m'_2 m' b (Obj.cells (Array.mk (splice cs.toList (off + 5 + 4) [vQs s])) E) -> ∃ (x_1 : SchV × MH × PH), I x_1 /\ eQ 
    (sQp 2 0) /\ eQ (sQp 5 0) /\ eQ (oQ 28 [aQi 0, aQn]) /\ oQ 28 [aQi x.1.version, aQs x.1.tables] = oQ 28 [aQi x_1.1.version, aQs x_1.1.tables] /\ m' = x_1.2.1 /\ h' = x_1.2.2 /\ 
    True) (∃ (x_1 : SchV × MH × PH), I x_1 /\ eQ (sQp 2 0) /\ eQ (sQp 5 0) /\ eQ (oQ 28 [aQi 0, aQn]) /\ oQ 28 [aQi x.1.version, aQs x.1.tables] = oQ 28 [aQi x_1.1.version, aQs 
    x_1.1.tables] /\ m' = x_1.2.1 /\ x.2.2 = x_1.2.2 /\ True)) /\ ∀ (x : SchV × MH × PH), I x -> K (cQa [vQi x.1.version, vQs x.1.tables]) x.2.1 x.2.2
theorem f25_vc (cb : Nat) (m : MH) (h : PH) (K : CV → MH → PH → Prop) : f25_nice cb m h K = (fnVC (f25_ctx cb) Tryz.f25 (bodyOf Tryz.f25) (entry Tryz.f25.ntmps [cP cb] m h) K) := by kernel_rfl
def f8_nice (cb : Nat) (m : MH) (h : PH) (K : CV → MH → PH → Prop) : Prop :=
    ∃ (cb_1 : Nat), [cQp cb 0] = [cQp cb_1 0] /\ CaseOk m h cb_1 /\ ∀ (tb n : Nat) (id : Int) (ws : List TabV) (s : SchV) (m' : MH) (h' : PH), SchAt m h cb_1 tb n id ws s m' h' -> ∃ (I 
    : Nat × SchV × MH × PH -> Prop), ∃ (mu : Nat × SchV × MH × PH -> Nat), (∃ (x : Nat × SchV × MH × PH), I x /\ eQ (sQp 2 0) /\ eQ (sQp 3 0) /\ sQi (↑s.tables.len : Int) = sQi 
    (↑x.2.1.tables.len : Int) /\ sQi 0 = sQi (↑x.1 : Int) /\ eQ (oQ 28 [aQi 0, aQn]) /\ oQ 28 [aQi s.version, aQs s.tables] = oQ 28 [aQi x.2.1.version, aQs x.2.1.tables] /\ m' = 
    x.2.2.1 /\ h' = x.2.2.2 /\ True) /\ ∀ (x : Nat × SchV × MH × PH), I x -> branch (decide ((↑x.1 : Int) < (↑x.2.1.tables.len : Int))) (∃ (b : Nat), ∃ (off : Nat), x.2.1.tables.a = 
    some (Addr.mk b off none) /\ 0 <= (↑x.1 : Int) /\ (↑x.1 : Int) < (↑x.2.1.tables.len : Int) /\ ∃ (cs : Array Value), ∃ (E : TypeId), MAt x.2.2.1 b (Obj.cells cs E) /\ off + (↑x.1 : 
    Int).toNat * 5 + 3 < cs.size /\ ∀ (m' : MH), MUpd x.2.2.1 m' b (Obj.cells (Array.mk (splice cs.toList (off + (↑x.1 : Int).toNat * 5 + 3) [vQn])) E) -> ∃ (b : Nat), ∃ (off : Nat), 
    x.2.1.tables.a = some (Addr.mk b off none) /\ 0 <= (↑x.1 : Int) /\ (↑x.1 : Int) < (↑x.2.1.tables.len : Int) /\ ∃ (cs : Array Value), ∃ (E : TypeId), MAt m' b (Obj.cells cs E) /\ 
    off + (↑x.1 : Int).toNat * 5 + 4 < cs.size /\ ∀ (m'_1 : MH), MUpd m' m'_1 b (Obj.cells (Array.mk (splice cs.toList (off + (↑x.1 : Int).toNat * 5 + 4) [vQn])) E) -> ∃ (y : Nat × 
    SchV × MH × PH), I y /\ mu y < mu x /\ eQ (sQp 2 0) /\ eQ (sQp 3 0) /\ sQi (↑x.2.1.tables.len : Int) = sQi (↑y.2.1.tables.len : Int) /\ sQi (IntKind.i64.wrap ((↑x.1 : Int) + 1)) = 
    sQi (↑y.1 : Int) /\ eQ (oQ 28 [aQi 0, aQn]) /\ oQ 28 [aQi x.2.1.version, aQs x.2.1.tables] = oQ 28 [aQi y.2.1.version, aQs y.2.1.tables] /\ m'_1 = y.2.2.1 /\ x.2.2.2 = y.2.2.2 /\ 
    True) (K (cQa [vQi x.2.1.version, vQs x.2.1.tables]) x.2.2.1 x.2.2.2)
theorem f8_vc (cb : Nat) (m : MH) (h : PH) (K : CV → MH → PH → Prop) : f8_nice cb m h K = (fnVC f8_ctx Tryz.f8 (bodyOf Tryz.f8) (entry Tryz.f8.ntmps [cP cb] m h) K) := by kernel_rfl
theorem splice_one {α : Type} (l : List α) (o : Nat) (x : α) (h : o < l.length) : splice l o [x] = l.set o x := by
  rw [List.set_eq_take_append_cons_drop, if_pos h]; simp [splice]
theorem flatten_set : ∀ (ws : List TabV) {i k : Nat} {w w' : TabV} {x : Value}, ws[i]? = some w → k < 5 → w'.enc = w.enc.set k x → ((ws.map TabV.enc).flatten).set (i * 5 + k) x = ((ws.set i w').map TabV.enc).flatten
  | [], i, k, w, w', x, h, _, _ => by simp at h
  | u :: ws, 0, k, w, w', x, h, hk, e => by
    simp at h; subst h
    simp only [List.map_cons, List.flatten_cons, List.set_cons_zero, Nat.zero_mul, Nat.zero_add, e]
    rw [List.set_append_left _ _ (by simpa [TabV.enc] using hk)]
  | u :: ws, i + 1, k, w, w', x, h, hk, e => by
    simp only [List.map_cons, List.flatten_cons, List.set_cons_succ]
    have hl : u.enc.length = 5 := rfl
    rw [List.set_append_right _ _ (by rw [hl]; omega), hl, show (i + 1) * 5 + k - 5 = i * 5 + k by omega, flatten_set ws (by simpa using h) hk e]
theorem flat_len (ws : List TabV) : ((ws.map TabV.enc).flatten).length = ws.length * 5 := by
  induction ws with
  | nil => rfl
  | cons w ws ih => simp only [List.map_cons, List.flatten_cons, List.length_append, ih, List.length_cons]; show 5 + _ = _; omega
theorem TabRow.big {m : MH} {tb : Nat} {ws : List TabV} {cs : Array Value} {E : TypeId} {fz : Nat × Nat} (h : TabRow m tb ws) (hm : m tb = some (.cells cs E fz)) : ws.length * 5 ≤ cs.size := by
  obtain ⟨cur, h1, h2⟩ := h.ex
  rw [h1] at hm
  simp only [Option.some.injEq, Obj.cells.injEq] at hm
  obtain ⟨rfl, _, _⟩ := hm
  have := congrArg List.length h2
  rw [flat_len] at this
  simp at this
  omega
theorem TabRow.store {m m' : MH} {tb : Nat} {ws : List TabV} {i k : Nat} {w w' : TabV} {x : Value} (h : TabRow m tb ws) (hi : ws[i]? = some w) (hk : k < 5) (e : w'.enc = w.enc.set k x) {cs : Array Value} {E : TypeId} {fz : Nat × Nat} (hm : m tb = some (.cells cs E fz))
    (hu : m' tb = some (.cells (splice cs.toList (i * 5 + k) [x]).toArray E (0, 0))) : TabRow m' tb (ws.set i w') := by
  have hb := h.big hm
  have hil := (List.getElem?_eq_some_iff.1 hi).1
  obtain ⟨cur, h1, h2⟩ := h.ex
  rw [h1] at hm
  simp only [Option.some.injEq, Obj.cells.injEq] at hm
  obtain ⟨rfl, rfl, _⟩ := hm
  refine ⟨_, hu, ?_⟩
  rw [splice_one _ _ _ (by simp; omega), List.length_set, List.toList_toArray, List.take_set, h2]
  exact flatten_set ws hi hk e
theorem TabRow.rd {m : MH} {h : PH} {tb : Nat} {ws : List TabV} (r : TabRow m tb ws) {i j : Nat} {w : TabV} {x : Value} (hi : ws[i]? = some w) (hj : w.enc[j]? = some x) : RdAt m h tb (i * 5 + j) [x] := by
  obtain ⟨cur, h1, h2⟩ := r.ex
  refine .of_m h1 ?_
  have h3 := flatten_get (xs := ws.map TabV.enc) (sz := 5) (fun e he => by obtain ⟨x, _, rfl⟩ := List.mem_map.1 he; rfl) (by rw [List.getElem?_map, hi]; rfl) j x hj
  rw [← h2, List.getElem?_take] at h3
  split at h3
  · rw [drop_cons h3]; rfl
  · cases h3
theorem f52m_ok {ver : Int} {tb n cap : Nat} {ws : List TabV} {w : TabV} {cols : List ColV} {t : Nat} {m : MH} {h : PH} {K : CV → MH → PH → Prop} (ht : t < n) (hr : TabRow m tb ws) (hw : ws[t]? = some w) (hc : Cols h w.columns cols) (h8 : cols.length ≤ 8)
    (hK : ∀ sl h', PH.le h h' → Ints h' sl (cols.map ColV.kind) → K (cS sl) m h') : f52m_nice ⟨ver, ⟨some ⟨tb, 0, none⟩, n, cap⟩⟩ t m h K := by
  have hcl := RepL.slen hc
  refine branch_dec (fun h1 => by omega) (fun h1 => branch_dec (fun h2 => by have h2 : (t : Int) ≥ (n : Int) := h2; omega) (fun h2 => ?_))
  refine ⟨tb, 0, rfl, by omega, by show (t : Int) < (n : Int); omega, w.columns, ?_, fun ⟨i, sl, l⟩ => sl = w.columns ∧ i ≤ cols.length ∧ l = (cols.take i).map ColV.kind, fun ⟨i, _, _⟩ => cols.length - i, ⟨(0, w.columns, []), ⟨rfl, by simp, by simp⟩, MT⟩, ?_⟩
  · rw [Nat.zero_add, Int.toNat_natCast]; exact hr.rd hw rfl
  rintro ⟨i, _, _⟩ ⟨rfl, hi, rfl⟩
  dsimp only
  refine branch_dec (fun hlt => ?_) (fun hge sl h' hle hrow => ?_)
  · obtain ⟨c, hx⟩ := getx hcl hlt
    obtain ⟨b, o, e, r⟩ := Cols.at hc hx
    refine ⟨b, o, e, by omega, hlt, c, .imm r, ?_, ?_, (i + 1, w.columns, (cols.take (i + 1)).map ColV.kind), ⟨rfl, by omega, rfl⟩, by show cols.length - (i + 1) < cols.length - i; omega, ?_⟩
    · simp; omega
    · simp; omega
    · rw [map_take_succ hx, List.map_append]
      exact MT
  · rw [List.take_of_length_le (by omega)] at hrow
    exact hK sl h' hle ⟨hrow, by simp; omega⟩
theorem f52m_sound : Sound Tryz.prog 52 KindsMS := by
  refine fn_sound (fn := Tryz.f52) (c := bodyOf Tryz.f52) Tryz.func52 rfl (by decide) ?_
  rintro cvs m h K ⟨ver, tb, n, cap, ws, w, cols, t, rfl, h1, h2, h3, h4, h5, h6⟩
  refine ⟨f52_ctx m h, rfl, specs_nil, ?_⟩
  rw [← f52m_vc]
  exact f52m_ok h1 h2 h3 h4 h5 h6
theorem TabHalf.mono {h h' : PH} {t : Tab} {w : TabV} (x : TabHalf h t w) (le : PH.le h h') : TabHalf h' t w := ⟨x.name_, x.key_, RepL.mono x.cols_ le fun _ _ e => e⟩
theorem WsOk.mono {h h' : PH} {id : Int} {ws : List TabV} (x : WsOk h id ws) (le : PH.le h h') : WsOk h' id ws := ⟨x.1, fun i t e => let ⟨w, e1, e2⟩ := x.2 i t e; ⟨w, e1, e2.mono le⟩⟩
theorem WsOk.set {h : PH} {id : Int} {ws : List TabV} {i : Nat} {w w' : TabV} (x : WsOk h id ws) (hi : ws[i]? = some w) (e1 : w'.name = w.name) (e2 : w'.key = w.key) (e3 : w'.columns = w.columns) : WsOk h id (ws.set i w') := by
  refine ⟨by rw [List.length_set]; exact x.1, fun j t e => ?_⟩
  obtain ⟨u, h1, h2⟩ := x.2 j t e
  by_cases hj : i = j
  · subst hj
    rw [hi] at h1; cases h1
    exact ⟨w', by rw [List.getElem?_set_self (List.getElem?_eq_some_iff.1 hi).1], ⟨by rw [e1]; exact h2.name_, by rw [e2]; exact h2.key_, by rw [e3]; exact h2.cols_⟩⟩
  · exact ⟨u, by rw [List.getElem?_set_ne hj]; exact h1, h2⟩
theorem SchAt.on {m0 m m1 : MH} {h0 h h1 : PH} {cb tb n : Nat} {id : Int} {ws : List TabV} {s : SchV} (x : SchAt m0 h0 cb tb n id ws s m h) (le : PH.le h h1) (ho : MOther m m1 cb) (hc : CaseOk m1 h1 cb) : SchAt m0 h0 cb tb n id ws s m1 h1 := by
  refine ⟨x.le_.trans le, x.ver0, x.ver1, hc, x.n2, x.n4, x.sl_, x.id_, x.new_, x.ne_, ?_, x.ws_.mono le, fun b n1 n2 => by rw [ho.other b n1]; exact x.other_ b n1 n2⟩
  obtain ⟨cur, e1, e2⟩ := x.row_.ex
  exact ⟨cur, by rw [ho.other tb x.ne_]; exact e1, e2⟩
/-- A list is stored into a table. -/
theorem SchAt.store {m0 m : MH} {h0 h : PH} {cb tb n : Nat} {id : Int} {ws : List TabV} {s : SchV} (x : SchAt m0 h0 cb tb n id ws s m h) {i k o : Nat} {w w' : TabV} {y : Value} (hi : ws[i]? = some w) (hk : k < 5) (ho : o = i * 5 + k) (e : w'.enc = w.enc.set k y) (e1 : w'.name = w.name) (e2 : w'.key = w.key) (e3 : w'.columns = w.columns) {Q : MH → Prop}
    (hQ : ∀ m2, SchAt m0 h0 cb tb n id (ws.set i w') s m2 h → Q m2) : ∃ (cs : Array Value) (E : TypeId), MAt m tb (.cells cs E (0, 0)) ∧ o < cs.size ∧ ∀ m2 : MH, MUpd m m2 tb (.cells (splice cs.toList o [y]).toArray E (0, 0)) → Q m2 := by
  obtain ⟨cur, h1, h2⟩ := x.row_.ex
  have hil := (List.getElem?_eq_some_iff.1 hi).1
  refine ⟨cur, 72, ⟨h1⟩, by have := x.row_.big h1; omega, fun m2 hu => hQ m2 ?_⟩
  subst ho
  refine ⟨x.le_, x.ver0, x.ver1, ?_, x.n2, x.n4, x.sl_, x.id_, x.new_, x.ne_, x.row_.store hi hk e h1 hu.at_, x.ws_.set hi e1 e2 e3, fun b n1 n2 => by rw [hu.other b n2]; exact x.other_ b n1 n2⟩
  obtain ⟨r, q, cs, k, q1, q2⟩ := x.case_
  exact ⟨r, q, cs, k, by rw [hu.other cb x.ne_.symm]; exact q1, q2⟩
theorem cols_of {h : PH} {s : Sl} {l : List ColV} (r : RowIn h s 2 (l.map ColV.enc)) (hl : l.length ≤ 8) : Cols h s l := ⟨⟨l, r, rfl, fun i x e => ⟨x, e, rfl⟩⟩, by omega⟩
theorem MNew.tabs {m m' : MH} {h : PH} {s : Sl} {w : TabV} {ws : List TabV} (x : MNew m m' h s 72 5 ((w :: ws).map TabV.enc)) : ∃ tb cap, s = ⟨some ⟨tb, 0, none⟩, ws.length + 1, cap⟩ ∧ ws.length + 1 ≤ cap ∧ TabRow m' tb (w :: ws) ∧ Unheld m h tb ∧ ∀ b, b ≠ tb → m' b = m b := by
  rcases x.row.ex with ⟨_, e⟩ | ⟨b, cap, cur, e, hm, h1, _, h3, h4⟩
  · cases e
  · subst e
    refine ⟨b, cap, by simp, by simpa using h1, ⟨cur, hm, by simpa using h4⟩, x.fresh b 0 rfl, fun c hc => x.other c (fun i e => by simp only [Option.some.injEq, Addr.mk.injEq] at e; exact hc e.1.symm)⟩
theorem f25_ok {cb : Nat} {m : MH} {h : PH} {K : CV → MH → PH → Prop} (hc : CaseOk m h cb) (hK : ∀ tb n id ws s m' h', SchAt m h cb tb n id ws s m' h' → K (aS s) m' h') : f25_nice cb m h K := by
  refine ⟨cb, 3, rfl, hc, fun k m1 k0 k1 o1 c1 => ?_⟩
  have hk2 : IntKind.i64.wrap (2 + k) = 2 + k := wrap_id (by omega) (by omega)
  rw [hk2]
  refine ⟨fun ⟨n, id, mx, hx⟩ => 2 ≤ n ∧ n ≤ 4 ∧ (id = 4 ∨ id = 5) ∧ hx = h ∧ MOther m mx cb ∧ CaseOk mx h cb, ⟨cb, 5, rfl, by omega, by omega, c1, fun r m2 o2 c2 => branch_intro (fun _ => ⟨(2 + k, 5, m2, h), ⟨by show 2 ≤ 2 + k; omega, by show 2 + k ≤ 4; omega, .inr rfl, rfl, o1.trans o2, c2⟩, MT⟩) (fun _ => ⟨(2 + k, 4, m2, h), ⟨by show 2 ≤ 2 + k; omega, by show 2 + k ≤ 4; omega, .inl rfl, rfl, o1.trans o2, c2⟩, MT⟩)⟩, ?_⟩
  clear o1 c1 m1 hk2 k0 k1 k
  rintro ⟨n, id, m1, hx⟩ ⟨n2, n4, hid, rfl, o1, c1⟩
  dsimp only
  refine ⟨cb, 3, rfl, c1, fun k m2 k0 k1 o2 c2 => ?_⟩
  refine ⟨_, _, rfl, _, _, rfl, _, _, rfl, _, _, rfl, _, _, rfl, _, _, rfl, _, _, rfl, _, _, rfl, _, _, rfl, fun s1 h1 le1 r1 s2 h2 le2 r2 s3 h3 le3 r3 s4 h4 le4 r4 tl m3 hnew => ?_⟩
  obtain ⟨tb, cap, rfl, hcap, hrow, hun, hoth⟩ := MNew.tabs (w := ⟨_, s1, 1, nilS, nilS⟩) (ws := [⟨_, s2, 1, nilS, nilS⟩, ⟨_, s3, 2, nilS, nilS⟩, ⟨_, s4, 1, nilS, nilS⟩]) hnew
  simp only [List.length_cons, List.length_nil] at hcap
  have hle : PH.le hx h4 := ((le1.trans le2).trans le3).trans le4
  have tbcb : tb ≠ cb := fun e => by
    obtain ⟨r, q, cs, j, q1, _⟩ := c2
    have := hun.m_
    rw [e, q1] at this; cases this
  have hm0 : m tb = none := by rw [← o1.other tb tbcb, ← o2.other tb tbcb]; exact hun.m_
  have c3 : CaseOk m3 h4 cb := by
    obtain ⟨r, q, cs, j, q1, q2, q3⟩ := c2
    exact ⟨r, q, cs, j, by rw [hoth cb tbcb.symm]; exact q1, q2.mono hle, q3⟩
  have S0 : SchAt m hx cb tb n.toNat id _ ⟨k, ⟨some ⟨tb, 0, none⟩, n.toNat, cap⟩⟩ m3 h4 := ⟨hle, k0, by show k ≤ 2; omega, c3, by omega, by omega, ⟨cap, rfl⟩, hid, hm0, tbcb, hrow, ⟨rfl, fun i t e => ?_⟩, fun b n1 n2 => by rw [hoth b n2, o2.other b n1, o1.other b n1]⟩
  rotate_left
  · match i, e with
    | 0, e => cases e; exact ⟨_, rfl, ⟨rfl, rfl, cols_of (l := [⟨_, _⟩, ⟨_, _⟩]) (r1.mono ((le2.trans le3).trans le4)) (by decide)⟩⟩
    | 1, e => cases e; exact ⟨_, rfl, ⟨rfl, rfl, cols_of (l := [⟨_, _⟩, ⟨_, _⟩, ⟨_, _⟩, ⟨_, _⟩]) (r2.mono (le3.trans le4)) (by simp)⟩⟩
    | 2, e => cases e; exact ⟨_, rfl, ⟨rfl, rfl, cols_of (l := [⟨_, _⟩, ⟨_, _⟩]) (r3.mono le4) (by decide)⟩⟩
    | 3, e => cases e; exact ⟨_, rfl, ⟨rfl, rfl, cols_of (l := [⟨_, _⟩]) r4 (by simp)⟩⟩
    | i + 4, e => simp [plainTabs] at e
  generalize hws : (TabV.mk _ s1 1 nilS nilS :: _) = ws0 at S0
  clear hws hrow hnew r1 r2 r3 r4
  have getw : ∀ {ws : List TabV} {i : Nat}, ws.length = 4 → i < 4 → ∃ w, ws[i]? = some w := fun hl hi => ⟨_, List.getElem?_eq_getElem (by omega)⟩
  refine ⟨by omega, by show n ≤ (cap : Int); omega, fun ⟨n', s, mx, hy⟩ => n' = n ∧ ∃ ws, SchAt m hx cb tb n.toNat id ws s mx hy, ⟨cb, 2, rfl, by omega, by omega, c3, fun r m4 o4 c4 => branch_intro (fun _ s5 h5 le5 r5 => ⟨tb, 0, rfl, by omega, by omega, fun s6 h6 le6 r6 => ?_⟩) (fun _ => ⟨(n, ⟨k, ⟨some ⟨tb, 0, none⟩, n.toNat, cap⟩⟩, m4, h4), ⟨rfl, _, S0.on (.refl _) o4 c4⟩, MT⟩)⟩, ?_⟩
  · obtain ⟨w, hw⟩ := getw (i := 1) S0.ws_.1 (by omega)
    exact (S0.on (le5.trans le6) o4 (c4.mono (le5.trans le6))).store (k := 3) (w' := { w with references := s6 }) hw (by omega) rfl rfl rfl rfl rfl fun m5 x5 => ⟨(n, ⟨k, ⟨some ⟨tb, 0, none⟩, n.toNat, cap⟩⟩, m5, h6), ⟨rfl, _, x5⟩, MT⟩
  clear S0 c3 hoth hun hm0 hcap hle le1 le2 le3 le4 o1 o2 c1 c2
  rintro ⟨n', s, m4, h5⟩ ⟨rfl, ws, S0⟩
  dsimp only
  obtain ⟨cap, hsl⟩ := S0.sl_
  have hsa : s.tables.a = some ⟨tb, 0, none⟩ := by rw [hsl]
  have hsn : s.tables.len = n'.toNat := by rw [hsl]
  refine ⟨fun ⟨n, s, mx, hy⟩ => n = n' ∧ ∃ ws, SchAt m hx cb tb n.toNat id ws s mx hy, branch_dec (fun hn => ⟨cb, 3, rfl, by omega, by omega, S0.case_, fun r m5 o5 c5 => branch_intro (fun _ s7 h7 le7 r7 => ⟨tb, 0, hsa, by omega, by omega, fun s8 h8 le8 r8 => ?_⟩) (fun _ => ⟨(n', s, m5, h5), ⟨rfl, _, S0.on (.refl _) o5 c5⟩, MT⟩)⟩) (fun _ => ⟨(n', s, m4, h5), ⟨rfl, _, S0⟩, MT⟩), ?_⟩
  · obtain ⟨w, hw⟩ := getw (i := 2) S0.ws_.1 (by omega)
    exact (S0.on (le7.trans le8) o5 (c5.mono (le7.trans le8))).store (k := 3) (w' := { w with references := s8 }) hw (by omega) rfl rfl rfl rfl rfl fun m5 x5 => ⟨(n', s, m5, h8), ⟨rfl, _, x5⟩, MT⟩
  clear S0 hsa hsn hsl
  rintro ⟨n'', s, m4, h5⟩ ⟨rfl, ws, S0⟩
  dsimp only
  obtain ⟨cap, hsl⟩ := S0.sl_
  have hsa : s.tables.a = some ⟨tb, 0, none⟩ := by rw [hsl]
  have hsn : s.tables.len = n''.toNat := by rw [hsl]
  refine ⟨fun ⟨s, mx, hy⟩ => ∃ ws, SchAt m hx cb tb n''.toNat id ws s mx hy, branch_dec (fun hn => ⟨cb, 3, rfl, by omega, by omega, S0.case_, fun r m5 o5 c5 => branch_intro (fun _ s7 h7 le7 r7 => ⟨tb, 0, hsa, by omega, by omega, fun s8 h8 le8 r8 => ?_⟩) (fun _ => ⟨(s, m5, h5), ⟨_, S0.on (.refl _) o5 c5⟩, MT⟩)⟩) (fun _ => ⟨(s, m4, h5), ⟨_, S0⟩, MT⟩), ?_⟩
  · obtain ⟨w, hw⟩ := getw (i := 3) S0.ws_.1 (by omega)
    exact (S0.on (le7.trans le8) o5 (c5.mono (le7.trans le8))).store (k := 3) (w' := { w with references := s8 }) hw (by omega) rfl rfl rfl rfl rfl fun m5 x5 => ⟨(s, m5, h8), ⟨_, x5⟩, MT⟩
  clear S0 hsa hsn hsl
  rintro ⟨s, m4, h5⟩ ⟨ws, S0⟩
  dsimp only
  obtain ⟨cap, hsl⟩ := S0.sl_
  have hsa : s.tables.a = some ⟨tb, 0, none⟩ := by rw [hsl]
  have hsn : s.tables.len = n''.toNat := by rw [hsl]
  refine ⟨fun ⟨s, mx, hy⟩ => ∃ ws, SchAt m hx cb tb n''.toNat id ws s mx hy, ⟨cb, 3, rfl, by omega, by omega, S0.case_, fun r m5 o5 c5 => branch_intro (fun _ => ?_) (fun _ => ⟨(s, m5, h5), ⟨_, S0.on (.refl _) o5 c5⟩, MT⟩)⟩, fun ⟨s, m4, h5⟩ ⟨ws, S0⟩ => hK _ _ _ _ _ _ _ S0⟩
  have S1 := S0.on (.refl _) o5 c5
  obtain ⟨w, hw, hhalf⟩ := S1.ws_.2 1 _ rfl
  refine ⟨s.version, tb, n''.toNat, cap, ws, w, _, 1, by rw [hsl]; rfl, by omega, S1.row_, hw, hhalf.cols_, by simp, fun sl h6 le6 hi6 => ?_⟩
  refine ⟨cb, sl, nilS, _, [], 1, rfl, c5.mono le6, hi6, ⟨RowIn.nil _ _, by simp⟩, by simp, by simp, by omega, fun pvv p m6 h7 le7 hp hpw o6 c6 => ⟨tb, 0, hsa, by omega, by omega, fun s8 h8 le8 r8 => ?_⟩⟩
  exact (S1.on ((le6.trans le7).trans le8) o6 (c6.mono le8)).store (k := 4) (w' := { w with checks := s8 }) hw (by omega) rfl rfl rfl rfl rfl fun m5 x5 => ⟨(s, m5, h8), ⟨_, x5⟩, MT⟩
theorem f25_sound : Sound Tryz.prog 25 SchemaW := by
  refine fn_sound (fn := Tryz.f25) (c := bodyOf Tryz.f25) Tryz.func25 rfl (by decide) ?_
  rintro cvs m h K ⟨cb, rfl, hc, hK⟩
  refine ⟨f25_ctx cb, rfl, specs_cons intW (specs_cons f10_sound (specs_cons f51_sound (specs_cons f52m_sound (specs_cons f27_sound specs_nil)))), ?_⟩
  rw [← f25_vc cb m h K]
  exact f25_ok hc hK
/-- A schema of the case. -/
structure PlainSch (s : Sch) : Prop where
  ex : ∃ ver n id, 0 ≤ ver ∧ ver ≤ 2 ∧ 2 ≤ n ∧ n ≤ 4 ∧ (id = 4 ∨ id = 5) ∧ s = ⟨ver, (plainTabs id).take n⟩
def PlainW : Vc.Spec := fun cvs m h K => ∃ cb, cvs = [cP cb] ∧ CaseOk m h cb ∧ ∀ s v m' h', PlainSch s → RepS h' s v → PH.le h h' → MOther m m' cb → CaseOk m' h' cb → K (aS v) m' h'
theorem f8_ok {cb : Nat} {m : MH} {h : PH} {K : CV → MH → PH → Prop} (hc : CaseOk m h cb) (hK : ∀ s v m' h', PlainSch s → RepS h' s v → PH.le h h' → MOther m m' cb → CaseOk m' h' cb → K (aS v) m' h') : f8_nice cb m h (Strong h K) := by
  refine ⟨cb, rfl, hc, fun tb n id ws s m1 h1 S1 => ?_⟩
  refine ⟨fun ⟨i, s', mx, hx⟩ => s' = s ∧ hx = h1 ∧ i ≤ n ∧ ∃ ws, SchAt m h cb tb n id ws s mx h1 ∧ ∀ j w, j < i → ws[j]? = some w → w.references = nilS ∧ w.checks = nilS, fun ⟨i, _, _, _⟩ => n - i, ⟨(0, s, m1, h1), ⟨rfl, rfl, by omega, ws, S1, fun j w hj => by omega⟩, MT⟩, ?_⟩
  clear S1 ws m1
  rintro ⟨i, s', m1, hx⟩ ⟨rfl, rfl, hi, ws, S1, hnil⟩
  dsimp only
  obtain ⟨cap, hsl⟩ := S1.sl_
  have hsa : s'.tables.a = some ⟨tb, 0, none⟩ := by rw [hsl]
  have hsn : s'.tables.len = n := by rw [hsl]
  have hn4 := S1.n4
  refine branch_dec (fun hlt => ⟨tb, 0, hsa, by omega, hlt, ?_⟩) (fun hge hdis => ?_)
  · obtain ⟨w, hw⟩ : ∃ w, ws[i]? = some w := ⟨_, List.getElem?_eq_getElem (by have := S1.ws_.1; have := S1.n4; omega)⟩
    refine S1.store (i := i) (k := 3) (w' := { w with references := nilS }) hw (by omega) (by omega) rfl rfl rfl rfl fun m2 S2 => ⟨tb, 0, hsa, by omega, hlt, ?_⟩
    have hil := (List.getElem?_eq_some_iff.1 hw).1
    have hw2 : (ws.set i { w with references := nilS })[i]? = some { w with references := nilS } := List.getElem?_set_self hil
    refine S2.store (i := i) (k := 4) (w' := { w with references := nilS, checks := nilS }) hw2 (by omega) (by omega) rfl rfl rfl rfl fun m3 S3 => ⟨(i + 1, s', m3, hx), ⟨rfl, rfl, by show i + 1 ≤ n; omega, _, S3, fun j u hj hu => ?_⟩, by show n - (i + 1) < n - i; omega, MT⟩
    by_cases e : i = j
    · subst e
      rw [List.getElem?_set_self (by rw [List.length_set]; exact hil)] at hu
      cases hu; exact ⟨rfl, rfl⟩
    · rw [List.getElem?_set_ne e, List.getElem?_set_ne e] at hu
      exact hnil j u (by omega) hu
  · have hdis := hdis
    obtain ⟨cur, hcur, htake⟩ := S1.row_.ex
    have hg0 : ∀ i, hx tb i = none := hdis tb _ hcur
    have hle3 : PH.le hx (fun x i => if x = tb then cur[i]? else hx x i) := ⟨fun x i v e => by
      have : x ≠ tb := fun e' => by rw [e', hg0 i] at e; cases e
      simp [this, e]⟩
    refine ⟨fun b => if b = tb then none else m1 b, fun x i => if x = tb then cur[i]? else hx x i, fun b o e => ?_, S1.le_.trans hle3, fun x i v e => ?_, hK ⟨s'.version, (plainTabs id).take n⟩ s' _ _ ⟨⟨_, _, _, S1.ver0, S1.ver1, S1.n2, S1.n4, S1.id_, rfl⟩⟩ ⟨rfl, ?_⟩ (S1.le_.trans hle3) ⟨fun b hb => ?_⟩ ?_⟩
    · by_cases e' : b = tb
      · simp [e'] at e
      · simpa [e'] using e
    · by_cases e' : x = tb
      · subst e'
        simp at e
        exact .inr ⟨cur, 72, (0, 0), hcur, e, by simp⟩
      · simp [e'] at e; exact .inl e
    · have hws4 := S1.ws_.1
      have hn4 := S1.n4
      refine ⟨⟨ws.take n, ⟨by rw [hsn]; simp; omega, .inr ⟨tb, 0, hsa, fun i e hi => ⟨fun j v hj => ?_⟩⟩⟩, by simp [plainTabs]; omega, fun i t e => ?_⟩, by simp [plainTabs]; omega⟩
      · rw [List.map_take, List.getElem?_take] at hi
        split at hi
        · have h1 := flatten_get (xs := ws.map TabV.enc) (sz := 5) (fun e he => by obtain ⟨x, _, rfl⟩ := List.mem_map.1 he; rfl) hi j v hj
          rw [← htake, List.getElem?_take] at h1
          split at h1
          · simp only [if_true, Nat.zero_add]
            rw [← Array.getElem?_toList]; exact h1
          · cases h1
        · cases hi
      · rw [List.getElem?_take] at e
        split at e
        · rename_i hin
          obtain ⟨w, e1, e2⟩ := S1.ws_.2 i t e
          obtain ⟨z1, z2⟩ := hnil i w (by omega) e1
          have hh := e2.mono hle3
          have hnorc : t.refs = [] ∧ t.checks = [] := by
            match i, e with
            | 0, e => cases e; exact ⟨rfl, rfl⟩
            | 1, e => cases e; exact ⟨rfl, rfl⟩
            | 2, e => cases e; exact ⟨rfl, rfl⟩
            | 3, e => cases e; exact ⟨rfl, rfl⟩
            | i + 4, e => simp [plainTabs] at e
          refine ⟨w, by rw [List.getElem?_take, if_pos hin]; exact e1, ⟨hh.name_, hh.cols_, hh.key_, by rw [z1, hnorc.1]; exact RepL.nil _ _ _ _, by rw [z2, hnorc.2]; exact RepL.nil _ _ _ _⟩⟩
        · cases e
    · by_cases e' : b = tb
      · subst e'; simp [S1.new_]
      · simp [e']; exact S1.other_ b hb e'
    · obtain ⟨r, q, cs, k, q1, q2, q3⟩ := S1.case_
      exact ⟨r, q, cs, k, by simp [S1.ne_.symm]; exact q1, q2.mono hle3, q3⟩
theorem f8_sound : Sound Tryz.prog 8 PlainW := by
  refine fn_sound2 (fn := Tryz.f8) (c := bodyOf Tryz.f8) Tryz.func8 rfl (by decide) ?_
  rintro cvs m h K ⟨cb, rfl, hc, hK⟩
  refine ⟨f8_ctx, rfl, specs_cons f25_sound specs_nil, ?_⟩
  rw [← f8_vc cb m h _]
  exact f8_ok hc hK
end Go.Ps
