/-
  Part 6 of a proof that a law of the given program returns true: a condition generator that is proved sound, and contracts of functions. No condition of its own. Own work, joined by a program (pack2.py); the shelf's contracts among it as the kit's tool wrote them.
-/
import Derived.Shelf.SlSorted.Search
import Derived.Shelf.SlSortCmp.NoneTotal
import Derived.Shelf.Small.Strs
import Derived.Shelf.Strconv.Itoa0
import Derived.Shelf.Strconv.Itoa1
import Derived.Shelf.LaysM
import Derived.Shelf.Strconv.Itoa2
import Derived.Shelf.Strconv.AppendUint10
import Derived.Shelf.Strconv.AppendInt10
import Derived.Shelf.Strconv.AppendIntPublic10
import Derived.Test.YtileehgdfcknkaaGreatDoorProg
import Derived.Lib.ItoaLen
import Derived.RangeFuncWrites
import Derived.OrdersIn
import Derived.Test.YtileehgdfcknkaaGreatDoorMe
namespace Go.Proofs
open Go.Shelf
def Tryz.lays213_ren : Go.Shelf.Ren := ⟨λ | 213 => 132 | 265 => 165 | n => n, λ | 9 => 9 | 3 => 3 | n => n, λ | n => n⟩
def Tryz.lays106_ren : Go.Shelf.Ren := ⟨λ | 106 => 102 | 213 => 132 | 265 => 165 | n => n, λ | 9 => 9 | 3 => 3 | n => n, λ | n => n⟩
theorem Tryz.lays106 : Go.Proofs.Lays.n106 Tryz.prog Tryz.lays106_ren := {
 mixed := by kernel_rfl
 f106 := Tryz.func102.trans (congrArg some (by kernel_rfl))
 f213 := Tryz.func132.trans (congrArg some (by kernel_rfl))
 f265 := Tryz.func165.trans (congrArg some (by kernel_rfl))
 t3 := Tryz.underlying3
 a3 := Tryz.isAgg3
 z3 := Tryz.sizeOf3
 v3 := Tryz.zeroValue3
 t9 := Tryz.underlying9
 a9 := Tryz.isAgg9
 z9 := Tryz.sizeOf9
 v9 := Tryz.zeroValue9 }
open Go.RowKit in
theorem Tryz.strings_Compare (a b : ByteArray) (w : World) :
 Calls Tryz.prog 102 #[.string a, .string b] w λ e w' => e = .returned (.int .i64 (Lib.compareBytes a.data.toList b.data.toList)) /\ w' = w := Any.strings_Compare Tryz.lays106 a b w
def Tryz.lays283_ren : Go.Shelf.Ren := ⟨λ | 283 => 227 | n => n, λ | 3 => 3 | 9 => 9 | 4 => 4 | n => n, λ | n => n⟩
theorem Tryz.lays283 : Go.Proofs.Lays.n283 Tryz.prog Tryz.lays283_ren := {
 mixed := by kernel_rfl
 f283 := Tryz.func227.trans (congrArg some (by kernel_rfl))
 t3 := Tryz.underlying3
 a3 := Tryz.isAgg3
 z3 := Tryz.sizeOf3
 v3 := Tryz.zeroValue3
 t4 := Tryz.underlying4
 a4 := Tryz.isAgg4
 z4 := Tryz.sizeOf4
 v4 := Tryz.zeroValue4
 t9 := Tryz.underlying9
 a9 := Tryz.isAgg9
 z9 := Tryz.sizeOf9
 v9 := Tryz.zeroValue9 }
open Go.Lib in
theorem Tryz.internal_strconv_small (i : Nat) (h : i < 100) (w : World) :
 Calls Tryz.prog 227 #[.int .i64 i] w λ e w' => e = .returned (.string ⟨(Lib.decDigits i).toArray⟩) /\ w' = w := Any.internal_strconv_small Tryz.lays283 i h w
def Tryz.laysM284_ren : Go.Shelf.Ren := ⟨λ | 284 => 228 | 129 => 175 | 317 => 231 | 318 => 232 | n => n, λ | 53 => 201 | 3 => 3 | 212 => 251 | 0 => 0 | 4 => 4 | 46 => 176 | 5 => 5 | 9 => 9 | n => n, λ | 17 => 1 | n => n⟩
theorem Tryz.laysM284 : Go.Proofs.LaysM.n284 Tryz.prog Tryz.laysM284_ren := {
 mixed := by kernel_rfl
 f129 := Tryz.func175.trans (congrArg some (by kernel_rfl))
 f284 := Tryz.func228.trans (congrArg some (by kernel_rfl))
 f317 := Tryz.func231.trans (congrArg some (by kernel_rfl))
 f318 := Tryz.func232.trans (congrArg some (by kernel_rfl))
 t0 := Tryz.underlying0
 a0 := Tryz.isAgg0
 z0 := Tryz.sizeOf0
 v0 := Tryz.zeroValue0
 t3 := Tryz.underlying3
 a3 := Tryz.isAgg3
 z3 := Tryz.sizeOf3
 v3 := Tryz.zeroValue3
 t4 := Tryz.underlying4
 a4 := Tryz.isAgg4
 z4 := Tryz.sizeOf4
 v4 := Tryz.zeroValue4
 t5 := Tryz.underlying5
 a5 := Tryz.isAgg5
 z5 := Tryz.sizeOf5
 v5 := Tryz.zeroValue5
 t9 := Tryz.underlying9
 a9 := Tryz.isAgg9
 z9 := Tryz.sizeOf9
 v9 := Tryz.zeroValue9
 t46 := Tryz.underlying176
 a46 := Tryz.isAgg176
 z46 := Tryz.sizeOf176
 v46 := Tryz.zeroValue176
 t53 := Tryz.underlying201
 a53 := Tryz.isAgg201
 z53 := Tryz.sizeOf201
 v53 := Tryz.zeroValue201
 t212 := Tryz.underlying251
 a212 := Tryz.isAgg251
 z212 := Tryz.sizeOf251
 v212 := Tryz.zeroValue251
 g17 := by kernel_rfl
 i0 := by kernel_rfl
 i3 := by kernel_rfl
 i4 := by kernel_rfl
 i5 := by kernel_rfl
 i9 := by kernel_rfl
 i46 := by kernel_rfl
 i53 := by kernel_rfl
 i212 := by kernel_rfl
 m17 := by kernel_rfl }
open Go.Lib in
theorem Tryz.internal_strconv_numDigits (u : Nat) (h1 : 1 <= u) (h2 : u < 18446744073709551616) (w : World) (htab : Lib.TabIs Tryz.prog w "internal/strconv.uint64pow10" .u64 Lib.pow10Tab) :
 Calls Tryz.prog 228 #[.int .u64 u] w λ e w' => e = .returned (.int .i64 (Lib.nDigits u)) /\ w' = w := Any.internal_strconv_numDigits Tryz.laysM284 u h1 h2 w htab
def Tryz.lays285_ren : Go.Shelf.Ren := ⟨λ | 285 => 229 | n => n, λ | 37 => 22 | 53 => 201 | 3 => 3 | 4 => 4 | 51 => 199 | 9 => 9 | 5 => 5 | 0 => 0 | n => n, λ | n => n⟩
theorem Tryz.lays285 : Go.Proofs.Lays.n285 Tryz.prog Tryz.lays285_ren := {
 mixed := by kernel_rfl
 f285 := Tryz.func229.trans (congrArg some (by kernel_rfl))
 t0 := Tryz.underlying0
 a0 := Tryz.isAgg0
 z0 := Tryz.sizeOf0
 v0 := Tryz.zeroValue0
 t3 := Tryz.underlying3
 a3 := Tryz.isAgg3
 z3 := Tryz.sizeOf3
 v3 := Tryz.zeroValue3
 t4 := Tryz.underlying4
 a4 := Tryz.isAgg4
 z4 := Tryz.sizeOf4
 v4 := Tryz.zeroValue4
 t5 := Tryz.underlying5
 a5 := Tryz.isAgg5
 z5 := Tryz.sizeOf5
 v5 := Tryz.zeroValue5
 t9 := Tryz.underlying9
 a9 := Tryz.isAgg9
 z9 := Tryz.sizeOf9
 v9 := Tryz.zeroValue9
 t37 := Tryz.underlying22
 a37 := Tryz.isAgg22
 z37 := Tryz.sizeOf22
 v37 := Tryz.zeroValue22
 t51 := Tryz.underlying199
 a51 := Tryz.isAgg199
 z51 := Tryz.sizeOf199
 v51 := Tryz.zeroValue199
 t53 := Tryz.underlying201
 a53 := Tryz.isAgg201
 z53 := Tryz.sizeOf201
 v53 := Tryz.zeroValue201 }
open Go.RowKit Go.Sort Go.Lib in
theorem Tryz.internal_strconv_formatBase10 (blk off cap : Nat) (u : Nat) (d : Array UInt8) (w : World) (hH : Holds (fun (b : UInt8) => Value.int .u8 (b.toNat : Int)) w blk off d) (hu : u < 10 ^ d.size) (hu64 : u < 18446744073709551616) (hsz : d.size < 4611686018427387904) :
 Calls Tryz.prog 229 #[.slice (some ⟨blk, off, none⟩) d.size cap, .int .u64 u] w λ e w' =>
  e = .returned (.tuple #[]) /\ ∃ (n v' : Nat) (dk : Array UInt8), w' = (putRow (fun (b : UInt8) => Value.int .u8 (b.toNat : Int)) w blk off dk).drewN n /\ FmtInv d.size u 0 v' dk := Any.internal_strconv_formatBase10 Tryz.lays285 blk off cap u d w hH hu hu64 hsz
def Tryz.sortF_ren : Go.Shelf.Ren := ⟨λ | 6 => 107 | 15 => 134 | 14 => 133 | 28 => 174 | 29 => 175 | 20 => 166 | 21 => 167 | 22 => 168 | 23 => 169 | 24 => 170 | 25 => 171 | 26 => 172 | 27 => 173 | 46 => 198 | 47 => 199 | 48 => 200 | 49 => 201 | 50 => 202 | 57 => 212 | n => n, λ | 22 => 53 | 24 => 74 | 25 => 107 | 3 => 3 | 39 => 176 | 0 => 0 | 53 => 199 | 55 => 201 | 4 => 4 | 46 => 192 | 45 => 191 | 50 => 196 | 5 => 5 | 9 => 9 | 66 => 220 | 70 => 179 | 76 => 235 | 77 => 236 | n => n, λ | n => n⟩
theorem Tryz.sortF : Go.Proofs.SlLaysF.n6 Tryz.prog Tryz.sortF_ren := {
 mixed := by kernel_rfl
 f6 := ⟨Tryz.f107.name, by decide, Tryz.func107.trans (congrArg some (by kernel_rfl))⟩
 f14 := ⟨Tryz.f133.name, by decide, Tryz.func133.trans (congrArg some (by kernel_rfl))⟩
 f15 := Tryz.func134.trans (congrArg some (by kernel_rfl))
 f20 := ⟨Tryz.f166.name, by decide, Tryz.func166.trans (congrArg some (by kernel_rfl))⟩
 f21 := ⟨Tryz.f167.name, by decide, Tryz.func167.trans (congrArg some (by kernel_rfl))⟩
 f22 := ⟨Tryz.f168.name, by decide, Tryz.func168.trans (congrArg some (by kernel_rfl))⟩
 f23 := ⟨Tryz.f169.name, by decide, Tryz.func169.trans (congrArg some (by kernel_rfl))⟩
 f24 := ⟨Tryz.f170.name, by decide, Tryz.func170.trans (congrArg some (by kernel_rfl))⟩
 f25 := ⟨Tryz.f171.name, by decide, Tryz.func171.trans (congrArg some (by kernel_rfl))⟩
 f26 := ⟨Tryz.f172.name, by decide, Tryz.func172.trans (congrArg some (by kernel_rfl))⟩
 f27 := ⟨Tryz.f173.name, by decide, Tryz.func173.trans (congrArg some (by kernel_rfl))⟩
 f28 := Tryz.func174.trans (congrArg some (by kernel_rfl))
 f29 := Tryz.func175.trans (congrArg some (by kernel_rfl))
 f46 := ⟨Tryz.f198.name, by decide, Tryz.func198.trans (congrArg some (by kernel_rfl))⟩
 f47 := Tryz.func199.trans (congrArg some (by kernel_rfl))
 f48 := Tryz.func200.trans (congrArg some (by kernel_rfl))
 f49 := ⟨Tryz.f201.name, by decide, Tryz.func201.trans (congrArg some (by kernel_rfl))⟩
 f50 := ⟨Tryz.f202.name, by decide, Tryz.func202.trans (congrArg some (by kernel_rfl))⟩
 f57 := ⟨Tryz.f212.name, by decide, Tryz.func212.trans (congrArg some (by kernel_rfl))⟩
 t0 := Tryz.underlying0
 a0 := Tryz.isAgg0
 z0 := Tryz.sizeOf0
 v0 := Tryz.zeroValue0
 t3 := Tryz.underlying3
 a3 := Tryz.isAgg3
 z3 := Tryz.sizeOf3
 v3 := Tryz.zeroValue3
 t4 := Tryz.underlying4
 a4 := Tryz.isAgg4
 z4 := Tryz.sizeOf4
 v4 := Tryz.zeroValue4
 t5 := Tryz.underlying5
 a5 := Tryz.isAgg5
 z5 := Tryz.sizeOf5
 v5 := Tryz.zeroValue5
 t9 := Tryz.underlying9
 a9 := Tryz.isAgg9
 z9 := Tryz.sizeOf9
 v9 := Tryz.zeroValue9
 t22 := Tryz.underlying53
 a22 := Tryz.isAgg53
 z22 := Tryz.sizeOf53
 v22 := Tryz.zeroValue53
 a24 := Tryz.isAgg74
 z24 := Tryz.sizeOf74
 t25 := Tryz.underlying107
 a25 := Tryz.isAgg107
 z25 := Tryz.sizeOf107
 v25 := Tryz.zeroValue107
 t39 := Tryz.underlying176
 a39 := Tryz.isAgg176
 z39 := Tryz.sizeOf176
 v39 := Tryz.zeroValue176
 t45 := Tryz.underlying191
 a45 := Tryz.isAgg191
 z45 := Tryz.sizeOf191
 v45 := Tryz.zeroValue191
 t46 := Tryz.underlying192
 a46 := Tryz.isAgg192
 z46 := Tryz.sizeOf192
 v46 := Tryz.zeroValue192
 t50 := Tryz.underlying196
 a50 := Tryz.isAgg196
 z50 := Tryz.sizeOf196
 v50 := Tryz.zeroValue196
 t53 := Tryz.underlying199
 a53 := Tryz.isAgg199
 z53 := Tryz.sizeOf199
 v53 := Tryz.zeroValue199
 t55 := Tryz.underlying201
 a55 := Tryz.isAgg201
 z55 := Tryz.sizeOf201
 v55 := Tryz.zeroValue201
 t66 := Tryz.underlying220
 a66 := Tryz.isAgg220
 z66 := Tryz.sizeOf220
 v66 := Tryz.zeroValue220
 t70 := Tryz.underlying179
 a70 := Tryz.isAgg179
 z70 := Tryz.sizeOf179
 v70 := Tryz.zeroValue179
 t76 := Tryz.underlying235
 a76 := Tryz.isAgg235
 z76 := Tryz.sizeOf235
 v76 := Tryz.zeroValue235
 t77 := Tryz.underlying236
 a77 := Tryz.isAgg236
 z77 := Tryz.sizeOf236
 v77 := Tryz.zeroValue236 }
def Tryz.sortN_ren : Go.Shelf.Ren := ⟨λ | 6 => 107 | 15 => 134 | 14 => 133 | 28 => 174 | 29 => 175 | 20 => 166 | 21 => 167 | 22 => 168 | 23 => 169 | 24 => 170 | 25 => 171 | 26 => 172 | 27 => 173 | 46 => 198 | 47 => 199 | 48 => 200 | 49 => 201 | 50 => 202 | 57 => 212 | n => n, λ | 22 => 53 | 24 => 74 | 25 => 107 | 3 => 3 | 39 => 176 | 0 => 0 | 53 => 199 | 55 => 201 | 4 => 4 | 46 => 192 | 45 => 191 | 50 => 196 | 5 => 5 | 9 => 9 | 66 => 220 | 70 => 179 | 76 => 235 | 77 => 236 | n => n, λ | n => n⟩
theorem Tryz.sortN : Go.Proofs.SlLaysF0.n6 Tryz.prog Tryz.sortN_ren := {
 mixed := by kernel_rfl
 f6 := ⟨Tryz.f107.name, by decide, Tryz.func107.trans (congrArg some (by kernel_rfl))⟩
 f14 := ⟨Tryz.f133.name, by decide, Tryz.func133.trans (congrArg some (by kernel_rfl))⟩
 f15 := Tryz.func134.trans (congrArg some (by kernel_rfl))
 f20 := ⟨Tryz.f166.name, by decide, Tryz.func166.trans (congrArg some (by kernel_rfl))⟩
 f21 := ⟨Tryz.f167.name, by decide, Tryz.func167.trans (congrArg some (by kernel_rfl))⟩
 f22 := ⟨Tryz.f168.name, by decide, Tryz.func168.trans (congrArg some (by kernel_rfl))⟩
 f23 := ⟨Tryz.f169.name, by decide, Tryz.func169.trans (congrArg some (by kernel_rfl))⟩
 f24 := ⟨Tryz.f170.name, by decide, Tryz.func170.trans (congrArg some (by kernel_rfl))⟩
 f25 := ⟨Tryz.f171.name, by decide, Tryz.func171.trans (congrArg some (by kernel_rfl))⟩
 f26 := ⟨Tryz.f172.name, by decide, Tryz.func172.trans (congrArg some (by kernel_rfl))⟩
 f27 := ⟨Tryz.f173.name, by decide, Tryz.func173.trans (congrArg some (by kernel_rfl))⟩
 f28 := Tryz.func174.trans (congrArg some (by kernel_rfl))
 f29 := Tryz.func175.trans (congrArg some (by kernel_rfl))
 f46 := ⟨Tryz.f198.name, by decide, Tryz.func198.trans (congrArg some (by kernel_rfl))⟩
 f47 := Tryz.func199.trans (congrArg some (by kernel_rfl))
 f48 := Tryz.func200.trans (congrArg some (by kernel_rfl))
 f49 := ⟨Tryz.f201.name, by decide, Tryz.func201.trans (congrArg some (by kernel_rfl))⟩
 f50 := ⟨Tryz.f202.name, by decide, Tryz.func202.trans (congrArg some (by kernel_rfl))⟩
 f57 := ⟨Tryz.f212.name, by decide, Tryz.func212.trans (congrArg some (by kernel_rfl))⟩
 t0 := Tryz.underlying0
 a0 := Tryz.isAgg0
 z0 := Tryz.sizeOf0
 v0 := Tryz.zeroValue0
 t3 := Tryz.underlying3
 a3 := Tryz.isAgg3
 z3 := Tryz.sizeOf3
 v3 := Tryz.zeroValue3
 t4 := Tryz.underlying4
 a4 := Tryz.isAgg4
 z4 := Tryz.sizeOf4
 v4 := Tryz.zeroValue4
 t5 := Tryz.underlying5
 a5 := Tryz.isAgg5
 z5 := Tryz.sizeOf5
 v5 := Tryz.zeroValue5
 t9 := Tryz.underlying9
 a9 := Tryz.isAgg9
 z9 := Tryz.sizeOf9
 v9 := Tryz.zeroValue9
 t22 := Tryz.underlying53
 a22 := Tryz.isAgg53
 z22 := Tryz.sizeOf53
 v22 := Tryz.zeroValue53
 t25 := Tryz.underlying107
 a25 := Tryz.isAgg107
 z25 := Tryz.sizeOf107
 v25 := Tryz.zeroValue107
 t39 := Tryz.underlying176
 a39 := Tryz.isAgg176
 z39 := Tryz.sizeOf176
 v39 := Tryz.zeroValue176
 t45 := Tryz.underlying191
 a45 := Tryz.isAgg191
 z45 := Tryz.sizeOf191
 v45 := Tryz.zeroValue191
 t46 := Tryz.underlying192
 a46 := Tryz.isAgg192
 z46 := Tryz.sizeOf192
 v46 := Tryz.zeroValue192
 t50 := Tryz.underlying196
 a50 := Tryz.isAgg196
 z50 := Tryz.sizeOf196
 v50 := Tryz.zeroValue196
 t53 := Tryz.underlying199
 a53 := Tryz.isAgg199
 z53 := Tryz.sizeOf199
 v53 := Tryz.zeroValue199
 t55 := Tryz.underlying201
 a55 := Tryz.isAgg201
 z55 := Tryz.sizeOf201
 v55 := Tryz.zeroValue201
 t66 := Tryz.underlying220
 a66 := Tryz.isAgg220
 z66 := Tryz.sizeOf220
 v66 := Tryz.zeroValue220
 t70 := Tryz.underlying179
 a70 := Tryz.isAgg179
 z70 := Tryz.sizeOf179
 v70 := Tryz.zeroValue179
 t76 := Tryz.underlying235
 a76 := Tryz.isAgg235
 z76 := Tryz.sizeOf235
 v76 := Tryz.zeroValue235
 t77 := Tryz.underlying236
 a77 := Tryz.isAgg236
 z77 := Tryz.sizeOf236
 v77 := Tryz.zeroValue236 }
def Tryz.searchO_ren : Go.Shelf.Ren := ⟨λ | 16 => 192 | n => n, λ | 3 => 3 | 35 => 48 | 4 => 4 | 38 => 176 | n => n, λ | n => n⟩
theorem Tryz.searchO : Go.Proofs.SlLaysO.n16 Tryz.prog Tryz.searchO_ren := {
 mixed := by kernel_rfl
 f16 := Tryz.func192.trans (congrArg some (by kernel_rfl))
 t3 := Tryz.underlying3
 a3 := Tryz.isAgg3
 z3 := Tryz.sizeOf3
 v3 := Tryz.zeroValue3
 t4 := Tryz.underlying4
 a4 := Tryz.isAgg4
 z4 := Tryz.sizeOf4
 v4 := Tryz.zeroValue4
 t35 := Tryz.underlying48
 a35 := Tryz.isAgg48
 z35 := Tryz.sizeOf48
 v35 := Tryz.zeroValue48
 t38 := Tryz.underlying176
 a38 := Tryz.isAgg176
 z38 := Tryz.sizeOf176
 v38 := Tryz.zeroValue176 }
end Go.Proofs
namespace Go.Ps
open Go Go.Vc Go.Proofs
variable {K : CV -> MH -> PH -> Prop} {m : MH} {h : PH} {s : nX} {ps : List Int} {cb : Nat} {sc : bL} {v : QV} {q : Query} {p : Pred} {l : List Int} {i : Nat} {N : Nat} {m' : MH} {h' : PH} {co : List Int} {gr : List Int} {od : List (Int × Bool)} {w : Pred} {ta : Int} {li : Int} {xs : List (List Value)} {sz : Nat} {k : Nat} {ks : List (List Int)} {rs : List Int} {r : Sl} {a : List Int} {b : Nat}
def jY (m : MH) : Prop := ∃ T fz, m 1 = some (.cells (Lib.pow10Tab.map λ z => Value.int .u64 z).toArray T fz)
def cU (u : Nat) : CV := .val (.int .u64 u)
def ahZ : Vc.Spec := λ cvs m h K => ∃ i : Nat, cvs = [cI i] /\ i < 100 /\ K (N6 ⟨(Lib.decDigits i).toArray⟩) m h
def Uk : Vc.Spec := λ cvs m h K => ∃ u : Nat, cvs = [cU u] /\ 1 <= u /\ u < 18446744073709551616 /\ jY m /\ K (cI (Lib.nDigits u)) m h
def agJ : Vc.Spec := λ cvs m h K => ∃ b cap u : Nat, ∃ (cs : Array Value) (T : TypeId), cvs = [.val (.slice (some ⟨b, 0, none⟩) (Lib.nDigits u) cap), cU u] /\ u < 18446744073709551616 /\ m b = some (.cells cs T (0, 0)) /\ cs.toList = List.replicate 24 (.int .u8 0) /\
 ∀ cs' m', cs'.size = cs.size -> cs'.toList.take (Lib.nDigits u) = Lib.byteCells (Lib.decDigits u) -> jH m m' b (.cells cs' T (0, 0)) -> K (.tup []) m' h
def ZX : Vc.Spec := λ cvs m h K => ∃ xs, ∃ u : Nat, cvs = [.lst 5 1 xs, cU u, cI 10] /\ u < 18446744073709551616 /\ jY m /\ xs.length + 30 <= 140737488355328 /\ K (.lst 5 1 (xs ++ bF (Lib.decDigits u))) m h
def kD (i : Int) : List UInt8 := if i < 0 then 45 :: Lib.decDigits (IntKind.u64.wrap (0 - IntKind.u64.wrap i)).toNat else Lib.decDigits (IntKind.u64.wrap i).toNat
def Uy : Vc.Spec := λ cvs m h K => ∃ xs i, cvs = [.lst 5 1 xs, cI i, cI 10] /\ jY m /\ xs.length + 40 <= 140737488355328 /\ K (.lst 5 1 (xs ++ bF (kD i))) m h
noncomputable abbrev IF (a : Nat) : List (List Value) := gQ (ByteArray.mk (Array.mk (Lib.decDigits a)))
noncomputable abbrev Bk (a : List Value) : List Value := aJ (BK 0) (BK 0) (aJ (BK 0) (BK 0) (aJ (BK 0) (BK 0) (aJ (BK 0) (BK 0) a)))
noncomputable abbrev AW (a : Int) : Value := Value.int IntKind.u64 a
abbrev JS (a : Nat) : Prop := a < 18446744073709551616
noncomputable abbrev uM (a : Nat) : Option Addr := Option.some (Addr.mk a 0 Option.none)
attribute [push_cast] IF Bk AW JS uM
def GY (xs : List (List Value)) (u : Nat) (m : MH) (h : PH) (K : CV -> MH -> PH -> Prop) : Prop :=
  bA (↑u : Int) 100 (∃ (i : Nat), aA (mR (dH (dZ (↑u : Int))) = mR (dH (↑i : Int))) (i < 100) (aA (rJ xs (IF i) 1) (rK xs (IF i)) (K (CV.lst 5 1 (xs ++ IF i)) m h))) (∀ (b : Nat) (m1 : MH), bK (cD m h b) (bG m m1 b (Bk (Bk (Bk []))) 246) (∃ (u1 : Nat), aA (mR (CV.val (AW (↑u : Int))) = mR (CV.val (AW (↑u1 : Int)))) (1 <= u1) (aA (JS u1) (jY m1) (aA (cA (↑(Lib.nDigits u1) : Int)) ((↑(Lib.nDigits u1) : Int) <= 24) (aT (λ b1 c => ∃ (u2 : Nat), gG (λ c1 T => aA (aX (CV.val (Value.slice (uM b) (rF (Lib.nDigits u1)) 24)) (CV.val (AW (↑u : Int))) = aX (CV.val (Value.slice (uM b1) (Lib.nDigits u2) c)) (CV.val (AW (↑u2 : Int)))) (JS u2) (aA (m1 b1 = Option.some (eV c1 T 0)) (c1.toList = Bk (Bk (Bk []))) (∀ (c2 : Array Value) (m2 : MH), bK
 (c2.size = c1.size) (List.take (Lib.nDigits u2) c2.toList = Lib.byteCells (Lib.decDigits u2)) (jH m1 m2 b1 (eV c2 T 0) -> zX (cA (↑(Lib.nDigits u1) : Int)) ((↑(Lib.nDigits u1) : Int) <= 24) (λ y => aA (dY 1 y) (nW m2 h (Sl.mk (uM b) (rF (Lib.nDigits u1)) 24) 1 y) (aA (rJ xs y 1) (rK xs y) (K (CV.lst 5 1 (xs ++ y)) m2 h)))))))))))))
noncomputable abbrev IS (a : Int) : Int := IntKind.wrap IntKind.u64 a
noncomputable abbrev tE (a : List (List Value)) (b : List UInt8) : List (List Value) := a ++ bF b
attribute [push_cast] IS tE
def LZ (xs : List (List Value)) (i : Int) (m : MH) (h : PH) (K : CV -> MH -> PH -> Prop) : Prop :=
  bA i 0 (zX (gH ((xs.length + 1) * 1)) (iA xs) (λ x => ∃ (u : Nat), aA (CV.lst 5 1 (xs ++ cT (iK (BK 45))) :: bB (CV.val (AW (IS (0 - IS i)))) 10 = CV.lst 5 1 x :: bB (CV.val (AW (↑u : Int))) 10) (JS u) (aA (jY m) (xO x 30) (K (CV.lst 5 1 (tE x (Lib.decDigits u))) m h)))) (∃ (x : List (List Value)) (u : Nat), aA (CV.lst 5 1 xs :: bB (CV.val (AW (IS i))) 10 = CV.lst 5 1 x :: bB (CV.val (AW (↑u : Int))) 10) (JS u) (aA (jY m) (xO x 30) (K (CV.lst 5 1 (tE x (Lib.decDigits u))) m h)))
noncomputable abbrev wA (a : List (List Value)) (b : Int) : List CV := CV.lst 5 1 a :: bB (dH b) 10
attribute [push_cast] wA
def Vo (xs : List (List Value)) (i : Int) (m : MH) (h : PH) (K : CV -> MH -> PH -> Prop) : Prop :=
  ∃ (x : List (List Value)) (i1 : Int), aA (wA xs i = wA x i1) (jY m) (xO x 40 /\ K (CV.lst 5 1 (tE x (kD i1))) m h)
theorem jY.sub (h : jY m) (hs : Sub m m') : jY m' := by
 obtain ⟨T, fz, e⟩ := h
 exact ⟨T, fz, hs 1 _ e⟩
theorem Gj {w : World} {cvs : List CV} {vs : List Value} (hp : wZ w m h cvs vs) : Ab ⟨w, sQ m cvs vs, h, []⟩ m h w :=
 ⟨rfl, rfl, rfl, BH _, BH _, λ _ _ _ => rfl, hp.hsat, hp.msat, hp.disj, λ _ _ _ e => e, λ _ _ _ => rfl, λ b o hb => .inr (.inl (by rw [show m b = some o from hb]; simp))⟩
theorem Rz : Sound Tryz.prog 227 ahZ := by
 refine ⟨⟨Tryz.f227, Tryz.func227, rfl, by decide⟩, ?_⟩
 rintro cvs vs m h w K ⟨i, rfl, hi, hK⟩ hp
 obtain ⟨v, rfl⟩ : ∃ v, vs = [v] := by
  have := (mY hp.args).1
  match vs, this with
  | [v], _ => exact ⟨v, rfl⟩
 have hv : v = .int .i64 i := hp.args.1
 subst hv
 refine (Tryz.internal_strconv_small i hi w).mono ?_
 rintro e w' ⟨rfl, rfl⟩
 exact ⟨_, _, m, h, rfl, hK, rfl, Gj hp, λ b hb => by simp [N6, fN] at hb⟩
theorem Ry : Sound Tryz.prog 228 Uk := by
 refine ⟨⟨Tryz.f228, Tryz.func228, rfl, by decide⟩, ?_⟩
 rintro cvs vs m h w K ⟨u, rfl, h1, h2, ⟨T, fz, ht⟩, hK⟩ hp
 obtain ⟨v, rfl⟩ : ∃ v, vs = [v] := by
  have := (mY hp.args).1
  match vs, this with
  | [v], _ => exact ⟨v, rfl⟩
 have hv : v = .int .u64 u := hp.args.1
 subst hv
 have hg := hp.msat 1 _ ht
 refine (Tryz.internal_strconv_numDigits u h1 h2 w ?_).mono ?_
 . unfold Lib.TabIs World.var?
   rw [show Tryz.prog.globalNamed _ = some 1 by kernel_rfl]
   simp only [Option.bind_some, hg]
 . rintro e w' ⟨rfl, rfl⟩
   exact ⟨_, _, m, h, rfl, hK, rfl, Gj hp, λ b hb => by simp [cI, fN] at hb⟩
theorem Rx : Sound Tryz.prog 229 agJ := by
 refine ⟨⟨Tryz.f229, Tryz.func229, rfl, by decide⟩, ?_⟩
 rintro cvs vs m h w K ⟨b, cap, u, cs, T, rfl, hu, hb, hcs, hK⟩ hp
 obtain ⟨v, v2, rfl⟩ : ∃ v v2, vs = [v, v2] := by
  have := (mY hp.args).1
  match vs, this with
  | [v, v2], _ => exact ⟨v, v2, rfl⟩
 have hv : v = .slice (some ⟨b, 0, none⟩) (Lib.nDigits u) cap := hp.args.1
 have hv2 : v2 = .int .u64 u := hp.args.2.1
 subst hv hv2
 have hg := hp.msat b _ hb
 have h20 := Lib.nDigits_le20 u hu
 have hsz : cs.size = 24 := by rw [<- VZ, hcs]; simp
 have hH : Sort.Holds (fun (b : UInt8) => Value.int .u8 (b.toNat : Int)) w b 0 (Array.replicate (Lib.nDigits u) (0 : UInt8)) := by
  intro j hj
  simp only [Array.size_replicate] at hj
  refine ⟨?_, ?_⟩
  . rw [cell_of_heap hg, hcs, List.getElem?_replicate, if_pos aC]
    rw [getElem!_pos _ j (by simpa using hj)]
    simp
  . unfold World.frozen?
    rw [hg]
    simp
 have hc := Tryz.internal_strconv_formatBase10 b 0 cap u (Array.replicate (Lib.nDigits u) (0 : UInt8)) w hH (by simpa using Lib.lt_pow_nDigits u) hu (by simp; omega)
 rw [Array.size_replicate] at hc
 refine hc.mono ?_
 rintro e w' ⟨rfl, n, v', dk, rfl, hf⟩
 have hds : dk.size = Lib.nDigits u := hf.size
 obtain ⟨m', hm'⟩ : ∃ m', jH m m' b (.cells (Sort.putCells (fun (b : UInt8) => Value.int .u8 (b.toNat : Int)) 0 dk cs) T (0, 0)) := ⟨λ b' => if b' = b then some (.cells (Sort.putCells (fun (b : UInt8) => Value.int .u8 (b.toNat : Int)) 0 dk cs) T (0, 0)) else m b', by simp, λ b' hb' => by simp [hb']⟩
 have hnew : (Sort.putRow (fun (b : UInt8) => Value.int .u8 (b.toNat : Int)) w b 0 dk).heap[b]? = some (.cells (Sort.putCells (fun (b : UInt8) => Value.int .u8 (b.toNat : Int)) 0 dk cs) T (0, 0)) := by
  unfold Sort.putRow Sort.mapBlock
  simp only [Array.getElem?_modify, if_true, hg]
  rfl
 have hold : ∀ b', b' ≠ b -> (Sort.putRow (fun (b : UInt8) => Value.int .u8 (b.toNat : Int)) w b 0 dk).heap[b']? = w.heap[b']? := λ b' hb' => by
  unfold Sort.putRow Sort.mapBlock
  simp only [Array.getElem?_modify, if_neg (Ne.symm hb')]
 refine ⟨.tup [], .tuple #[], m', h, rfl, hK _ m' ?_ ?_ hm', ⟨#[], rfl, rfl⟩, ?_, λ b hb => by simp [fN] at hb⟩
 . simp [Sort.putCells]
 . apply List.ext_getElem?
   intro j
   rw [DT]
   have hl : (Lib.byteCells (Lib.decDigits u)).length = Lib.nDigits u := by rw [Lib.byteCells_length, Lib.decDigits_length]
   by_cases hj : j < Lib.nDigits u
   . rw [if_pos hj, BU]
     have hj2 : j < (Lib.decDigits u).length := by rw [Lib.decDigits_length]; exact hj
     have hcsj : j < cs.size := by omega
     simp only [Sort.putCells, Array.getElem?_mapIdx, Array.getElem?_eq_getElem hcsj, Option.map_some, To, Ih, Nat.sub_zero, true_and]
     rw [if_pos aC, Lib.byteCells, AD, kP hj2, Lib.row_is_numeral hf j hj2]
     rfl
   . rw [if_neg hj, OF aC]
 . have hmb : ∀ b' o, m' b' = some o -> b' = b \/ m b' = some o := λ b' o hb' => by
    by_cases e : b' = b
    . exact .inl e
    . rw [hm'.other b' e] at hb'; exact .inr hb'
   have hE : sQ m [.val (.slice (some ⟨b, 0, none⟩) (Lib.nDigits u) cap), cU u] [.slice (some ⟨b, 0, none⟩) (Lib.nDigits u) cap, .int .u64 u] b := .inl (by rw [hb]; simp)
   refine ⟨rfl, rfl, rfl, Nat.le_add_right _ _, by simp [Sort.putRow, Sort.mapBlock], ?_, ?_, ?_, ?_, λ _ _ _ e => e, λ _ _ _ => rfl, ?_⟩
   . intro b' _ hn
     exact hold b' (λ e => hn (e ▸ hE))
   . intro b' o x hx
     have hne : b' ≠ b := λ e => by rw [e, hp.disj b _ hb o] at hx; cases hx
     show (Sort.putRow (fun (b : UInt8) => Value.int .u8 (b.toNat : Int)) w b 0 dk).cell? ⟨b', o, none⟩ = some x
     rw [World.cell?_of_block (w := w) (a := ⟨b', o, none⟩) (hold b' hne)]
     exact hp.hsat b' o x hx
   . intro b' o hb'
     by_cases e : b' = b
     . subst e; rw [hm'.at_] at hb'; cases hb'; exact hnew
     . rw [hm'.other b' e] at hb'
       rw [show ((Sort.putRow (fun (b : UInt8) => Value.int .u8 (b.toNat : Int)) w b 0 dk).drewN n).heap[b']? = _ from hold b' e]
       exact hp.msat b' o hb'
   . intro b' o hb' j
     rcases hmb b' o hb' with rfl | h1
     . exact hp.disj b' _ hb j
     . exact hp.disj b' _ h1 j
   . intro b' o hb'
     rcases hmb b' o hb' with rfl | h1
     . exact .inr hE
     . exact .inr (.inl (by rw [h1]; simp))
theorem CH (l : List UInt8) : gQ ⟨l.toArray⟩ = bF l := by simp [gQ, bF]
theorem Hr (l : List UInt8) : (bF l).flatten = Lib.byteCells l := by
 unfold bF Lib.byteCells
 induction l with
 | nil => rfl
 | cons b r ih => simp [ih]
theorem nC (l : List UInt8) : (bF l).length = l.length := by simp [bF]
theorem RA : Sound Tryz.prog 226 ZX := by
 refine FN Tryz.func226 ?_
 rintro cvs m h K ⟨xs, u, rfl, hu, ht, hl, hK⟩
 refine ⟨vO [(227, ahZ), (228, Uk), (229, agJ)] [] [] [] [246] [] true, rfl, aD Rz (aD Ry (aD Rx aF)), GY xs u m h (kB h K), by kernel_rfl, ?_⟩
 show GY xs u m h (kB h K)
 dsimp only [GY, push_cast]
 have h20 := Lib.nDigits_le20 u hu
 have hdl := Lib.decDigits_length u
 refine aE (λ h1 => ⟨u, ?_, aC, ?_, ?_, ?_⟩) (λ h1 b m1 hb hm1 => ?_)
 . rw [eG aC aC]
 . rw [CH, nC]; omega
 . rw [CH, nC]; omega
 . rw [CH]; exact .here hK
 . have hs1 : Sub m m1 := (Sub.refl m).upd hb.m_ hm1.other
   refine ⟨u, rfl, aC, hu, ht.sub hs1, aC, aC, b, 24, u, _, _, by rw [Int.toNat_natCast], hu, hm1.at_, rfl, λ cs' m2 hsz htake hm2 => ⟨aC, aC, bF (Lib.decDigits u), EP _, ?_, ?_, ?_, ?_⟩⟩
   . refine .lent b 0 cs' 246 (0, 0) rfl ?_ hm2.at_ ?_
     . rw [Int.toNat_natCast, nC, hdl]
     . rw [Hr, Lib.byteCells_length, hdl, List.drop_zero]; exact htake
   . rw [nC]; omega
   . rw [nC]; omega
   . exact .sub (hs1.upd hb.m_ hm2.other) hK
theorem V8 (i : Int) : 0 <= IntKind.u64.wrap i /\ IntKind.u64.wrap i < 18446744073709551616 := by
 simp only [IntKind.wrap, IntKind.bits, IntKind.signed]
 simp
 omega
theorem xB (i : Int) : (kD i).length <= 21 := by
 have key : ∀ n : Int, (Lib.decDigits (IntKind.u64.wrap n).toNat).length <= 20 := λ n => by
  rw [Lib.decDigits_length]
  exact Lib.nDigits_le20 _ (by have := V8 n; omega)
 unfold kD
 split
 . have := key (0 - IntKind.u64.wrap i); simp only [Gi]; omega
 . have := key i; omega
theorem RB : Sound Tryz.prog 225 Uy := by
 refine gX Tryz.func225 ?_
 rintro cvs m h K ⟨xs, i, rfl, ht, hl, hK⟩
 refine ⟨vO [(226, ZX)] [] [] [] [] [(226, [0])] true, rfl, aD RA aF, LZ xs i m h K, by kernel_rfl, ?_⟩
 dsimp only [LZ, push_cast]
 have h1 := V8 i
 have h2 := V8 (0 - IntKind.u64.wrap i)
 refine aE (λ hn => ⟨aC, aC, xs ++ [[.int .u8 45]], (IntKind.u64.wrap (0 - IntKind.u64.wrap i)).toNat, ?_, aC, ht, by simp; omega, ?_⟩) (λ hn => ⟨xs, (IntKind.u64.wrap i).toNat, ?_, aC, ht, aC, ?_⟩)
 . rw [show (((IntKind.u64.wrap (0 - IntKind.u64.wrap i)).toNat : Nat) : Int) = IntKind.u64.wrap (0 - IntKind.u64.wrap i) by omega]
 . have : kD i = 45 :: Lib.decDigits (IntKind.u64.wrap (0 - IntKind.u64.wrap i)).toNat := by unfold kD; rw [if_pos hn]
   rw [this] at hK
   rw [Q3]
   exact hK
 . rw [show (((IntKind.u64.wrap i).toNat : Nat) : Int) = IntKind.u64.wrap i by omega]
 . have : kD i = Lib.decDigits (IntKind.u64.wrap i).toNat := by unfold kD; rw [if_neg hn]
   rw [this] at hK
   exact hK
theorem RC : Sound Tryz.prog 223 Uy := by
 refine gX Tryz.func223 ?_
 rintro cvs m h K ⟨xs, i, rfl, ht, hl, hK⟩
 refine ⟨vO [(225, Uy)] [] [] [] [] [(225, [0])] true, rfl, aD RB aF, Vo xs i m h K, by kernel_rfl, ?_⟩
 exact ⟨xs, i, rfl, ht, hl, hK⟩
def yC (a b : Int) : Int := if a < b then -1 else if b < a then 1 else 0
def Lg (a b : ByteArray) : Int := Lib.compareBytes a.data.toList b.data.toList
def jX (a b : VV) : Int := if yC a.kind b.kind ≠ 0 then yC a.kind b.kind else if yC a.int b.int ≠ 0 then yC a.int b.int else Lg a.text b.text
def dV : List VV -> List VV -> Int
 | [], [] => 0
 | [], _ :: _ => -1
 | _ :: _, [] => 1
 | x :: xs, y :: ys => if jX x y ≠ 0 then jX x y else dV xs ys
def Zs : Vc.Spec := λ cvs m h K => ∃ n, cvs = [cI n] /\ K (cB false) m h
def Ut : Vc.Spec := λ cvs m h K => ∃ a b, cvs = [cI a, cI b] /\ K (cI (yC a b)) m h
def ZT : Vc.Spec := λ cvs m h K => ∃ a b, cvs = [N6 a, N6 b] /\ K (cI (Lg a b)) m h
def M5 : Vc.Spec := λ cvs m h K => ∃ a b, cvs = [aV a, aV b] /\ K (cI (jX a b)) m h
def Ie : Vc.Spec := λ cvs m h K => ∃ s t a b, cvs = [cS s, cS t] /\ cJ h s a /\ cJ h t b /\ K (cI (dV a b)) m h
def ZV : Vc.Spec := λ cvs m h K => ∃ s t a b, cvs = [cS s, cS t, .val (.func (.func 70) #[] #[])] /\ cJ h s a /\ cJ h t b /\ K (cI (dV a b)) m h
def Rows (h : PH) (s : Sl) (l : List (List VV)) : Prop := bW h 1 eS (λ r t => cJ h t r) s l
def ZH : Vc.Spec := λ cvs m h K => ∃ s t a b, cvs = [cS s, cS t] /\ Rows h s a /\ Rows h t b /\ ∀ r : Bool, (r = true ↔ a = b) -> K (cB r) m h
noncomputable def Xj (s t : Sl) (m : MH) (h : PH) : Ctx :=
 dM [(70, M5)] [(2, { A := Nat, st := λ i => cH 39 42 [(0, sv s), (1, sv t), (2, vv (.func (.func 70) #[] #[])), (11, sv s), (12, iv s.len), (13, iv i)] [] m h })] [] [] false
noncomputable def YP (s t : Sl) (m : MH) (h : PH) : Ctx :=
 dM [(90, M5)] [(2, { A := Nat, st := λ i => cH 43 45 [(0, sv s), (1, sv t), (5, iv i)] [] m h })] [] [] false
noncomputable def YZ (s t : Sl) (m : MH) (h : PH) : Ctx :=
 dM [(62, Ie)] [(4, { A := Nat, st := λ i => cH 27 29 [(0, sv s), (1, sv t), (12, iv s.len), (13, iv i)] [] m h })] [] [] false
def VB (n : Int) (m : MH) (h : PH) (K : CV -> MH -> PH -> Prop) : Prop :=
  K (AE (n != n)) m h
def VA (n : Int) (m : MH) (h : PH) (K : CV -> MH -> PH -> Prop) : Prop :=
  K (AE (n != n)) m h
def Hl (a b : Int) (m : MH) (h : PH) (K : CV -> MH -> PH -> Prop) : Prop :=
  jL a (λ _ => jL b (λ _ => bA a b (K (dH (Int.negSucc 0)) m h) (eJ a b (K (dH 1) m h) (K (dH 0) m h))))
def VH (a b : Int) (m : MH) (h : PH) (K : CV -> MH -> PH -> Prop) : Prop :=
  jL a (λ _ => jL b (λ _ => bA a b (K (dH (Int.negSucc 0)) m h) (eJ a b (K (dH 1) m h) (K (dH 0) m h))))
def PX (a b : VV) (m : MH) (h : PH) (K : CV -> MH -> PH -> Prop) : Prop :=
  lN 27 a.enc b.enc (λ r => branch r (K (dH 0) m h) (∃ (a1 b1 : Int), bB (dH a.kind) b.kind = bB (dH a1) b1 /\ eE (yC a1 b1) 0 (K (dH (yC a1 b1)) m h) (∃ (a2 b2 : Int), bB (dH a.int) b.int = bB (dH a2) b2 /\ eE (yC a2 b2) 0 (K (dH (yC a2 b2)) m h) (∃ (a3 b3 : ByteArray), aX (CV.val (Value.string a.text)) (CV.val (Value.string b.text)) = aX (iR a3) (iR b3) /\ K (dH (Lg a3 b3)) m h))))
def PJ (a b : VV) (m : MH) (h : PH) (K : CV -> MH -> PH -> Prop) : Prop :=
  bA a.kind b.kind (K (dH (Int.negSucc 0)) m h) (eJ a.kind b.kind (K (dH 1) m h) (bA a.int b.int (K (dH (Int.negSucc 0)) m h) (cW (decide (a.int > b.int)) (K (dH 1) m h) (Op.bytesLess (yZ a) (yZ b)) (K (dH (Int.negSucc 0)) m h) (gK (Bool.or (Op.bytesLess (yZ a) (yZ b)) (yZ a == yZ b)) (K (dH 1) m h) (K (dH 0) m h)))))
abbrev FC (a b : VV) (c : VV -> VV -> Prop) : Prop := ∃ (x x1 : VV), aX (iQ a) (iQ b) = aX (iQ x) (iQ x1) /\ c x x1
attribute [push_cast] FC
def ML (s t : Sl) (m : MH) (h : PH) (K : CV -> MH -> PH -> Prop) : Prop :=
  nG (λ I x => aA (I x) (aI s) (aA (aI t) (Bl 70) (aA (aI s) (bI s) (aA (bC x) (m = m) (cV h h))))) (λ I m1 x => I x -> bA (↑x : Int) (aG s) (aT (λ b o => aA (aU s.a b o) (0 <= (↑x : Int)) ((↑x : Int) < aG s /\ ∃ (y : VV), aL m h b (bN o x 3) y.enc /\ fQ (↑x : Int) (aG t) (K (dH 1) m h) (aT (λ b1 o1 => aA (aU t.a b1 o1) (0 <= (↑x : Int)) ((↑x : Int) < aG t /\ ∃ (y1 : VV), aL m h b1 (bN o1 x 3) y1.enc /\ FC y y1 (λ a b2 => hZ (jX a b2 != 0) (K (dH (jX a b2)) m h) (λ x1 => aA (I x1) (m1 x1 < m1 x) (aA (aI s) (aI t) (aA (Bl 70) (aI s) (aA (bI s) (fK (bE x 1) = bV x1) (dT m m h h)))))))))))) (bA (aG s) (aG t) (K (dH (Int.negSucc 0)) m h) (K (dH 0) m h)))
def WA (s t : Sl) (m : MH) (h : PH) (K : CV -> MH -> PH -> Prop) : Prop :=
  iW (λ s1 t1 => ∃ (a b : List VV), aA (Bm s t 70 = Bm s1 t1 70) (cJ h s1 a) (cJ h t1 b /\ K (dH (dV a b)) m h))
def P4 (s t : Sl) (m : MH) (h : PH) (K : CV -> MH -> PH -> Prop) : Prop :=
  nG (λ I x => aA (I x) (aI s) (aA (aI t) (bC x) (dT m m h h))) (λ I m1 x => I x -> bA (↑x : Int) (aG s) (bA (↑x : Int) (aG t) (aT (λ b o => aA (aU s.a b o) (0 <= (↑x : Int)) ((↑x : Int) < aG s /\ ∃ (y : VV), aL m h b (bN o x 3) y.enc /\ aT (λ b1 o1 => aA (aU t.a b1 o1) (0 <= (↑x : Int)) ((↑x : Int) < aG t /\ ∃ (y1 : VV), aL m h b1 (bN o1 x 3) y1.enc /\ FC y y1 (λ a b2 => hZ (jX a b2 != 0) (K (dH (jX a b2)) m h) (λ x1 => aA (I x1) (m1 x1 < m1 x) (aA (aI s) (aI t) (bM (fK (bE x 1) = bV x1) (m = m) (h = h)))))))))) (bA (aG s) (aG t) (K (dH (Int.negSucc 0)) m h) (eJ (aG s) (aG t) (K (dH 1) m h) (K (dH 0) m h)))) (bA (aG s) (aG t) (K (dH (Int.negSucc 0)) m h) (eJ (aG s) (aG t) (K (dH 1) m h) (K (dH 0) m h))))
abbrev C9 (a b : Sl) (c : PH) (d : (List VV) -> (List VV) -> Prop) : Prop := iW (λ x x1 => ∃ (x2 x3 : List VV), aA (jP a b = jP x x1) (cJ c x x2) (cJ c x1 x3 /\ d x2 x3))
attribute [push_cast] C9
def Qh (s t : Sl) (m : MH) (h : PH) (K : CV -> MH -> PH -> Prop) : Prop :=
  eE (aG s) (aG t) (K aW m h) (nG (λ I x => aA (I x) (aI s) (aA (aI t) (bI s) (bM (bC x) (m = m) (h = h)))) (λ I m1 x => I x -> bA (↑x : Int) (aG s) (aT (λ b o => aA (aU s.a b o) (0 <= (↑x : Int)) ((↑x : Int) < aG s /\ ∃ (y : Sl), aL m h b (bN o x 1) (aM y) /\ aT (λ b1 o1 => aA (aU t.a b1 o1) (0 <= (↑x : Int)) ((↑x : Int) < aG t /\ ∃ (y1 : Sl), aL m h b1 (bN o1 x 1) (aM y1) /\ C9 y y1 h (λ a b2 => hZ (dV a b2 != 0) (K aW m h) (λ x1 => aA (I x1) (m1 x1 < m1 x) (aA (aI s) (aI t) (aA (bI s) (fK (bE x 1) = bV x1) (aA (m = m) (h = h) True)))))))))) (K fJ m h)))
theorem DK {a b : Int} : yC a b = 0 ↔ a = b := by
 unfold yC
 constructor
 . intro h; split at h
   . omega
   . split at h <;> omega
 . intro h; subst h; simp
theorem DL : ∀ a b : List UInt8, Lib.compareBytes a b = 0 ↔ a = b
 | [], [] => by simp [Lib.compareBytes]
 | [], _ :: _ => by simp [Lib.compareBytes]
 | _ :: _, [] => by simp [Lib.compareBytes]
 | a :: l, b :: bs => by
  simp only [Lib.compareBytes, List.cons.injEq]
  split
  . rename_i h; simp; intro e; subst e; exact absurd h (UInt8.lt_irrefl _)
  . split
    . rename_i h; simp; intro e; subst e; exact absurd h (UInt8.lt_irrefl _)
    . rename_i h1 h2
      rw [DL l bs]
      have : a = b := UInt8.le_antisymm (UInt8.not_lt.1 h2) (UInt8.not_lt.1 h1)
      simp [this]
theorem VO {a b : ByteArray} : Lg a b = 0 ↔ a = b := by
 unfold Lg
 rw [DL]
 constructor
 . intro h; cases a; cases b; simp only [ByteArray.mk.injEq]; exact Oz.1 h
 . intro h; rw [h]
theorem Hq {a b : VV} : jX a b = 0 ↔ a = b := by
 obtain ⟨k, i, t⟩ := a
 obtain ⟨k', i', t'⟩ := b
 simp only [jX, VV.mk.injEq]
 split
 . rename_i h
   exact ⟨λ e => absurd e h, λ e => absurd (DK.2 e.1) h⟩
 . rename_i h
   have h := Classical.not_not.1 h
   split
   . rename_i h2
     exact ⟨λ e => absurd e h2, λ e => absurd (DK.2 e.2.1) h2⟩
   . rename_i h2
     have h2 := Classical.not_not.1 h2
     rw [VO]
     simp [DK.1 h, DK.1 h2]
theorem kT : ∀ {a b : List VV}, dV a b = 0 ↔ a = b
 | [], [] => by simp [dV]
 | [], _ :: _ => by simp [dV]
 | _ :: _, [] => by simp [dV]
 | x :: xs, y :: ys => by
  simp only [dV, List.cons.injEq]
  split
  . rename_i h
    exact ⟨λ e => absurd e h, λ e => absurd (Hq.2 e.1) h⟩
  . rename_i h
    rw [kT (a := xs), Hq.1 (Classical.not_not.1 h)]
    simp
theorem J2 : ∀ a b : List UInt8, (Op.bytesLess a b = true ↔ Lib.compareBytes a b = -1) /\ (Lib.compareBytes a b = -1 \/ Lib.compareBytes a b = 0 \/ Lib.compareBytes a b = 1)
 | [], [] => by simp [Lib.compareBytes, Op.bytesLess]
 | [], _ :: _ => by simp [Lib.compareBytes, Op.bytesLess]
 | _ :: _, [] => by simp [Lib.compareBytes, Op.bytesLess]
 | a :: l, b :: bs => by
  obtain ⟨h1, h2⟩ := J2 l bs
  simp only [Lib.compareBytes, Op.bytesLess]
  by_cases hab : a < b
  . simp [hab]
  . by_cases hba : b < a
    . have : ¬ a = b := λ e => by subst e; exact UInt8.lt_irrefl _ hba
      simp [hab, hba, this]
    . have : a = b := UInt8.le_antisymm (UInt8.not_lt.1 hba) (UInt8.not_lt.1 hab)
      subst this
      simp only [hab, if_false]
      exact ⟨by simpa using h1, h2⟩
theorem T2 {a b : Int} (hK : K (cI (yC a b)) m h) : Hl a b m h K := by
 dsimp only [Hl, push_cast]
 refine ⟨a, rfl, b, rfl, aE (λ h1 => ?_) (λ h1 => aE (λ h2 => ?_) (λ h2 => ?_))⟩
 . rw [yC, if_pos h1] at hK; exact hK
 . rw [yC, if_neg h1, if_pos h2] at hK; exact hK
 . rw [yC, if_neg h1, if_neg h2] at hK; exact hK
theorem Sr : Sound Tryz.prog 130 Zs := by
 refine gX Tryz.func130 ?_
 rintro cvs m h K ⟨n, rfl, hK⟩
 refine ⟨dM [] [] [] [] false, rfl, aF, VB n m h K, by kernel_rfl, ?_⟩
 exact (by show K (cB (n != n)) m h; rw [bne_self_eq_false]; exact hK)
theorem Sq : Sound Tryz.prog 131 Zs := by
 refine gX Tryz.func131 ?_
 rintro cvs m h K ⟨n, rfl, hK⟩
 refine ⟨dM [] [] [] [] false, rfl, aF, VA n m h K, by kernel_rfl, ?_⟩
 exact (by show K (cB (n != n)) m h; rw [bne_self_eq_false]; exact hK)
theorem SO : Sound Tryz.prog 100 Ut := by
 refine gX Tryz.func100 ?_
 rintro cvs m h K ⟨a, b, rfl, hK⟩
 refine ⟨dM [(130, Zs)] [] [] [] false, rfl, aD Sr aF, Hl a b m h K, by kernel_rfl, ?_⟩
 exact T2 hK
theorem SN : Sound Tryz.prog 101 Ut := by
 refine gX Tryz.func101 ?_
 rintro cvs m h K ⟨a, b, rfl, hK⟩
 refine ⟨dM [(131, Zs)] [] [] [] false, rfl, aD Sq aF, VH a b m h K, by kernel_rfl, ?_⟩
 exact T2 hK
theorem SM : Sound Tryz.prog 102 ZT := by
 refine ⟨⟨Tryz.f102, Tryz.func102, rfl, by decide⟩, ?_⟩
 rintro cvs vs m h w K ⟨a, b, rfl, hK⟩ hp
 obtain ⟨v, v2, rfl⟩ : ∃ v v2, vs = [v, v2] := by
  have := (mY hp.args).1
  match vs, this with
  | [v, v2], _ => exact ⟨v, v2, rfl⟩
 have hv : v = .string a := hp.args.1
 have hv2 : v2 = .string b := hp.args.2.1
 subst hv hv2
 refine (Tryz.strings_Compare a b w).mono ?_
 rintro e w' ⟨rfl, rfl⟩
 exact ⟨_, _, m, h, rfl, hK, rfl, Gj hp, λ b hb => by simp [cI, fN] at hb⟩
theorem GU : Sound Tryz.prog 70 M5 := by
 refine gX Tryz.func70 ?_
 rintro cvs m h K ⟨a, b, rfl, hK⟩
 refine ⟨dM [(100, Ut), (101, Ut), (102, ZT)] [] [] [] false, rfl, aD SO (aD SN (aD SM aF)), PX a b m h K, by kernel_rfl, ?_⟩
 dsimp only [PX, push_cast]
 refine ⟨_, FU a b, aB (λ h1 => ?_) (λ h1 => ⟨_, _, rfl, aB (λ h2 => ?_) (λ h2 => ⟨_, _, rfl, aB (λ h3 => ?_) (λ h3 => ⟨_, _, rfl, ?_⟩)⟩)⟩)⟩
 . rw [Hq.2 (T4.1 h1)] at hK; exact hK
 . rw [jX, if_pos (by simpa using h2)] at hK; exact hK
 . rw [jX, if_neg (by simpa using h2), if_pos (by simpa using h3)] at hK; exact hK
 . rw [jX, if_neg (by simpa using h2), if_neg (by simpa using h3)] at hK; exact hK
theorem U4 : Sound Tryz.prog 90 M5 := by
 refine gX Tryz.func90 ?_
 rintro cvs m h K ⟨a, b, rfl, hK⟩
 refine ⟨dM [] [] [] [] false, rfl, aF, PJ a b m h K, by kernel_rfl, ?_⟩
 dsimp only [PJ, push_cast]
 unfold jX yC Lg at hK
 obtain ⟨hl1, hl2⟩ := J2 a.text.data.toList b.text.data.toList
 refine aE (λ h1 => ?_) (λ h1 => aE (λ h2 => ?_) (λ h2 => aE (λ h3 => ?_) (λ h3 => aE (λ h4 => ?_) (λ h4 => aB (λ h5 => ?_) (λ h5 => aB (λ h6 => ?_) (λ h6 => ?_))))))
 . rw [if_pos h1] at hK; exact hK
 . rw [if_neg h1, if_pos h2] at hK; exact hK
 . rw [if_neg h1, if_neg h2, if_pos h3] at hK; exact hK
 . rw [if_neg h1, if_neg h2, if_neg h3, if_pos h4] at hK; exact hK
 all_goals rw [if_neg h1, if_neg h2, if_neg h3, if_neg h4] at hK
 all_goals rw [ByteArray.toList_eq, ByteArray.toList_eq] at h5
 . rw [if_neg (by simp), if_neg (by simp), hl1.1 h5] at hK; exact hK
 . have e1 : Lib.compareBytes a.text.data.toList b.text.data.toList = 1 := by
    rcases hl2 with e | e | e
    . rw [hl1.2 e] at h5; cases h5
    . rw [DL] at e
      rw [ByteArray.toList_eq, ByteArray.toList_eq, e] at h6; simp at h6
    . exact e
   rw [if_neg (by simp), if_neg (by simp), e1] at hK; exact hK
 . have e1 : Lib.compareBytes a.text.data.toList b.text.data.toList = 0 := by
    rw [ByteArray.toList_eq, ByteArray.toList_eq, h5] at h6
    rw [DL]; simpa using h6
   rw [if_neg (by simp), if_neg (by simp), e1] at hK; exact hK
theorem MR {a b : List VV} {x y : VV} (hx : a[i]? = some x) (hy : b[i]? = some y) : dV (a.drop i) (b.drop i) = if jX x y ≠ 0 then jX x y else dV (a.drop (i + 1)) (b.drop (i + 1)) := by
 rw [drop_cons hx, drop_cons hy, dV]
theorem SL : Sound Tryz.prog 103 ZV := by
 refine gX Tryz.func103 ?_
 rintro cvs m h K ⟨s, t, a, b, rfl, ha, hb, hK⟩
 refine ⟨Xj s t m h, rfl, aD GU aF, ML s t m h K, by kernel_rfl, ?_⟩
 dsimp only [ML, push_cast]
 have hsa := bW.slen ha
 have hsb := bW.slen hb
 have hla := ha.len
 refine ⟨λ i => i <= a.length /\ i <= b.length /\ dV a b = dV (a.drop i) (b.drop i), λ i => a.length - i, ⟨0, ⟨aC, aC, by simp⟩, MT⟩, λ i ⟨hi, hj, he⟩ => aE (λ hlt => ?_) (λ hge => ?_)⟩
 . obtain ⟨x, hx⟩ := fE hsa hlt
   obtain ⟨b1, o1, u, e1, r1, rfl⟩ := bW.at ha hx
   refine ⟨b1, o1, e1, aC, hlt, x, .imm r1, aE (λ hge => ?_) (λ hlt2 => ?_)⟩
   . rw [he, drop_cons hx, List.drop_eq_nil_of_le (show b.length <= i by omega), dV] at hK; exact hK
   . have hlt2 : (i : Int) < (t.len : Int) := by omega
     obtain ⟨y, hy⟩ := fE hsb hlt2
     obtain ⟨b2, o2, u, e2, r2, rfl⟩ := bW.at hb hy
     rw [MR hx hy] at he
     refine ⟨b2, o2, e2, aC, hlt2, y, .imm r2, x, y, rfl, aB (λ hne => ?_) (λ heq => ⟨i + 1, ⟨aC, aC, ?_⟩, (show a.length - (i + 1) < a.length - i by omega), MT⟩)⟩
     . rw [he, if_pos (by simpa using hne)] at hK; exact hK
     . rw [he, if_neg (by simpa using heq)]
 . have : a.drop i = [] := List.drop_eq_nil_of_le aC
   rw [this] at he
   refine aE (λ h1 => ?_) (λ h1 => ?_)
   . obtain ⟨y, hy⟩ := fE (l := b) (i := i) (n := t.len) hsb aC
     rw [he, drop_cons hy, dV] at hK; exact hK
   . rw [he, List.drop_eq_nil_of_le aC, dV] at hK; exact hK
theorem Dt : Sound Tryz.prog 71 Ie := by
 refine gX Tryz.func71 ?_
 rintro cvs m h K ⟨s, t, a, b, rfl, ha, hb, hK⟩
 refine ⟨dM [(103, ZV)] [] [] [] false, rfl, aD SL aF, WA s t m h K, by kernel_rfl, ?_⟩
 exact ⟨s, t, a, b, rfl, ha, hb, hK⟩
theorem LS : Sound Tryz.prog 62 Ie := by
 refine gX Tryz.func62 ?_
 rintro cvs m h K ⟨s, t, a, b, rfl, ha, hb, hK⟩
 refine ⟨YP s t m h, rfl, aD U4 aF, P4 s t m h K, by kernel_rfl, ?_⟩
 dsimp only [P4, push_cast]
 have hsa := bW.slen ha
 have hsb := bW.slen hb
 have hla := ha.len
 refine ⟨λ i => i <= a.length /\ i <= b.length /\ dV a b = dV (a.drop i) (b.drop i), λ i => a.length - i, ⟨0, ⟨aC, aC, by simp⟩, MT⟩, λ i ⟨hi, hj, he⟩ => aE (λ hlt => aE (λ hlt2 => ?_) (λ hge => ?_)) (λ hge => ?_)⟩
 . obtain ⟨x, hx⟩ := fE hsa hlt
   obtain ⟨y, hy⟩ := fE hsb hlt2
   obtain ⟨b1, o1, u, e1, r1, rfl⟩ := bW.at ha hx
   obtain ⟨b2, o2, u, e2, r2, rfl⟩ := bW.at hb hy
   rw [MR hx hy] at he
   refine ⟨b1, o1, e1, aC, hlt, x, .imm r1, b2, o2, e2, aC, hlt2, y, .imm r2, x, y, rfl, aB (λ hne => ?_) (λ heq => ⟨i + 1, ⟨aC, aC, ?_⟩, (show a.length - (i + 1) < a.length - i by omega), MT⟩)⟩
   . rw [he, if_pos (by simpa using hne)] at hK; exact hK
   . rw [he, if_neg (by simpa using heq)]
 . obtain ⟨x, hx⟩ := fE hsa hlt
   rw [he, drop_cons hx, List.drop_eq_nil_of_le (show b.length <= i by omega), dV] at hK
   exact aE (λ h1 => aC) (λ h1 => aE (λ h2 => hK) (λ h2 => aC))
 . rw [he, List.drop_eq_nil_of_le (show a.length <= i by omega)] at hK
   refine aE (λ h1 => ?_) (λ h1 => aE (λ h2 => aC) (λ h2 => ?_))
   . obtain ⟨y, hy⟩ := fE (l := b) (i := i) (n := t.len) hsb aC
     rw [drop_cons hy, dV] at hK; exact hK
   . rw [List.drop_eq_nil_of_le aC, dV] at hK; exact hK
theorem Vm : Sound Tryz.prog 24 ZH := by
 refine gX Tryz.func24 ?_
 rintro cvs m h K ⟨s, t, a, b, rfl, ha, hb, hK⟩
 refine ⟨YZ s t m h, rfl, aD LS aF, Qh s t m h K, by kernel_rfl, ?_⟩
 dsimp only [Qh, push_cast]
 have hsa := bW.slen ha
 have hsb := bW.slen hb
 have hla := ha.len
 have hf : a ≠ b -> K (cB false) m h := λ h => hK false ⟨λ e => (by cases e), λ e => (h e).elim⟩
 refine aB (λ h1 => hf (λ e => GH hsa hsb h1 (by rw [e]))) (λ h1 => ?_)
 have hl := GI hsa hsb h1
 refine ⟨λ i => i <= a.length /\ ∀ j : Nat, j < i -> a[j]? = b[j]?, λ i => a.length - i, ⟨0, ⟨aC, λ j hj => by omega⟩, MT⟩, λ i hi => aE (λ hlt => ?_) (λ hge => ?_)⟩
 . obtain ⟨x, hx⟩ := fE hsa hlt
   obtain ⟨y, hy⟩ : ∃ y, b[i]? = some y := fE (n := s.len) aC hlt
   obtain ⟨b1, o1, u, e1, r1, ru⟩ := bW.at ha hx
   obtain ⟨b2, o2, v, e2, r2, rv⟩ := bW.at hb hy
   refine ⟨b1, o1, e1, aC, hlt, u, .imm r1, b2, o2, e2, aC, aC, v, .imm r2, u, v, x, y, rfl, ru, rv, aB (λ hne => hf (Ly hx hy (λ e => ?_))) (λ he => ?_)⟩
   . rw [kT.2 e] at hne; cases hne
   . exact ⟨i + 1, ⟨aC, tL hx hy (kT.1 (by simpa using he)) hi.2⟩, (show a.length - (i + 1) < a.length - i by omega), MT⟩
 . exact hK true ⟨λ _ => xF hl aC hi.2, λ _ => rfl⟩
structure BX (h : PH) (P : List VV -> Prop) where
 s : Sl
 l : List VV
 ok : cJ h s l
 pr_ : P l
def BX.pr {h : PH} {P : List VV -> Prop} (x : BX h P) : Sl × List VV := (x.s, x.l)
def u0 (h : PH) {R : List VV -> Prop} (x : BX h R) : Value := .slice x.s.a x.s.len x.s.cap
theorem HA {w w' : World} (h1 : w'.tape = w.tape) (h2 : w'.os = w.os) (h3 : w'.output = w.output) (h4 : w.drawn <= w'.drawn) (h5 : w.heap.size <= w'.heap.size) (h6 : ∀ b, b < w.heap.size -> w'.heap[b]? = w.heap[b]?) :
 ∃ q os, w' = Sort.grow (w.drewN q) os := by
 refine ⟨w'.drawn - w.drawn, w'.heap.extract w.heap.size w'.heap.size, ?_⟩
 obtain ⟨hp, tp, dr, oo, ou⟩ := w'
 obtain ⟨hp0, tp0, dr0, oo0, ou0⟩ := w
 dsimp only at h1 h2 h3 h4 h5 h6
 subst h1 h2 h3
 unfold Sort.grow World.drewN
 dsimp only
 congr 1
 . apply Array.ext_getElem?
   intro k
   rw [Array.getElem?_append]
   by_cases hk : k < hp0.size
   . rw [if_pos hk]; exact h6 k hk
   . rw [if_neg hk, Array.getElem?_extract]
     by_cases hk2 : k < hp.size
     . rw [if_pos aC]; congr 1; omega
     . rw [if_neg aC, Array.getElem?_eq_none aC]
 . omega
structure ZU (P : Program) (R : List VV -> Prop) (g : Nat) (cb : List Value) (m2 : MH) (h : PH) (cf : List VV -> List VV -> Int) : Prop where
 ex : ∃ S, Sound P g S /\ ∀ x y : BX h R, S ([cS x.s, cS y.s] ++ cb.map .val) m2 h (λ r m' h' => r = cI (cf x.l y.l) /\ m' = m2 /\ h' = h)
theorem Xp {P : Program} {R : List VV -> Prop} {g : Nat} {cb : List Value} {m2 : MH} {h : PH} [Inhabited (BX h R)] {cf : List VV -> List VV -> Int} (hc : ZU P R g cb m2 h cf) {w : World} {blk off size : Nat}
 (hh : ∀ b o v, h b o = some v -> w.cell? ⟨b, o, none⟩ = some v /\ b ≠ blk) (hm : ∀ b o, m2 b = some o -> w.heap[b]? = some o /\ b ≠ blk) (hd : ∀ b o, m2 b = some o -> ∀ i, h b i = none) :
 CmpLays1 P g cb.toArray (u0 h (R := R)) (λ x y => cf x.l y.l) blk off size w := by
 obtain ⟨S, hs, hS⟩ := hc.ex
 intro mm os dk hsz x y
 obtain ⟨W, hW⟩ : ∃ W, Go.Proofs.sortWorld (u0 h (R := R)) w blk off mm dk os = W := ⟨_, rfl⟩
 rw [hW]
 have old : ∀ b, b < w.heap.size -> b ≠ blk -> W.heap[b]? = w.heap[b]? := λ b hb hne => by
  rw [<- hW]
  show ((Sort.putRow (u0 h) (Sort.ahead w mm) blk off dk).heap ++ os)[b]? = _
  have hs : (Sort.putRow (u0 h) (Sort.ahead w mm) blk off dk).heap.size = w.heap.size := by unfold Sort.putRow Sort.mapBlock; simp [Sort.ahead]
  rw [Array.getElem?_append_left aC]
  unfold Sort.putRow Sort.mapBlock
  simp only [Array.getElem?_modify, if_neg (Ne.symm hne)]
  rfl
 have hvals : ∀ (l : List Value) (w : World), Ac w (l.map .val) l := λ l w => by
  induction l with
  | nil => trivial
  | cons a l ih => exact ⟨rfl, ih⟩
 have nov : ∀ (l : List Value) (i : Nat) (c : CV) (u : Value) (b : Nat), (l.map CV.val)[i]? = some c -> fN c u = some b -> False := λ l i c u b hi hb => by
  rw [AD] at hi
  cases e : l[i]? with
  | none => rw [e] at hi; cases hi
  | some v => rw [e] at hi; simp at hi; subst hi; simp [fN] at hb
 have e1 : [cS x.s, cS y.s] ++ cb.map .val = ([u0 h x, u0 h y] ++ cb).map .val := by simp [cS, u0]
 have hpre : wZ W m2 h ([cS x.s, cS y.s] ++ cb.map .val) ([u0 h x, u0 h y] ++ cb) := by
  rw [e1]
  refine ⟨hvals _ _, ?_, ?_, hd, λ i j c d u v b hi _ _ _ hb _ => (nov _ i c u b hi hb).elim, λ i c u b hi _ hb => (nov _ i c u b hi hb).elim⟩
  . intro b o v hv
    obtain ⟨h1, h2⟩ := hh b o v hv
    rw [World.cell?_of_block (w := w) (w' := W) (a := ⟨b, o, none⟩) (old b (World.block_lt_of_cell? w ⟨b, o, none⟩ h1) h2)]
    exact h1
  . intro b o hb
    obtain ⟨h1, h2⟩ := hm b o hb
    rw [old b (CP.1 h1).1 h2]; exact h1
 have := hs.2 _ _ m2 h W _ (hS x y) hpre
 have e2 : (([u0 h x, u0 h y] ++ cb).toArray : Array Value) = #[u0 h x, u0 h y] ++ cb.toArray := by simp
 rw [e2] at this
 refine this.mono ?_
 rintro e w' ⟨r, u, m', h', rfl, ⟨rfl, rfl, rfl⟩, hok, hw, _⟩
 have hu : u = .int .i64 (cf x.l y.l) := hok
 subst hu
 refine ⟨rfl, HA hw.tape hw.os hw.output hw.drawn hw.size (λ b hb => ?_)⟩
 cases e3 : m' b with
 | none =>
  refine hw.frame b hb ?_
  rintro (h1 | ⟨i, c, u, hi, _, hc⟩)
  . exact h1 e3
  . rw [e1] at hi; exact nov _ i c u b hi hc
 | some o => rw [hw.msat b o e3]; exact (hpre.msat b o e3).symm
theorem JE {α : Type} [Inhabited α] {d d' : Array α} (h : Sort.PermIn 0 d.size d d') : d'.toList.Perm d.toList := by
 obtain ⟨h1, _, h3⟩ := h
 have e1 : d.extract 0 d.size = d := by simp
 have e2 : d'.extract 0 d.size = d' := by rw [<- h1]; simp
 rw [e1, e2] at h3
 exact h3
theorem Lz {h : PH} {R : List VV -> Prop} : ∀ (ps : List (Sl × List VV)), (∀ p ∈ ps, cJ h p.1 p.2) -> (∀ p ∈ ps, R p.2) -> ∃ ds : List (BX h R), ds.map BX.pr = ps
 | [], _, _ => ⟨[], rfl⟩
 | p :: ps, hv, hR => by
  obtain ⟨ds, hds⟩ := Lz (R := R) ps (λ q hq => hv q (D3 _ hq)) (λ q hq => hR q (D3 _ hq))
  exact ⟨⟨p.1, p.2, hv p (Gh ..), hR p (Gh ..)⟩ :: ds, by rw [EB, hds]; rfl⟩
theorem Lo {R : List VV -> Prop} {w : World} {m : MH} {h : PH} {s : Sl} {g : Nat} {cb : List Value} {ps : List (Sl × List VV)} {cf : List VV -> List VV -> Int} {m2 : MH} {fnv : Value} (hfv : fnv = .func (.func g) #[] cb.toArray)
 (hp : wZ w m h [cS s, .val fnv] [s.val, fnv]) (hg : ∃ gf, Tryz.prog.funcs[g]? = some gf /\ gf.body.isSome = true /\ (gf.name == "runtime.NumGoroutine") = false) (hr : dC m s 74 1 (ps.map λ p => eS p.1)) (hv : ∀ p ∈ ps, cJ h p.1 p.2) (hR : ∀ p ∈ ps, R p.2) (hlen : ps.length <= 140737488355328)
 (hO : Sort.SWO (Go.Proofs.ltOf (fun (x y : BX h R) => cf x.l y.l))) (hc : ZU Tryz.prog R g cb m2 h cf) (hm2 : ∀ b o, m2 b = some o -> m b = some o /\ ∀ i, s.a ≠ some ⟨b, i, none⟩)
 {K : CV -> MH -> PH -> Prop} (hK : ∀ (ps' : List (Sl × List VV)) (m' : MH), ps'.Perm ps -> ps'.Pairwise (λ p q => ¬ cf q.2 p.2 < 0) -> dC m' s 74 1 (ps'.map λ p => eS p.1) -> (∀ b, (∀ i, s.a ≠ some ⟨b, i, none⟩) -> m' b = m b) -> K (.tup []) m' h) :
 Calls Tryz.prog 107 #[s.val, fnv] w λ e w' => ∃ r u m' h', e = .returned u /\ K r m' h' /\ DS w' r u /\ Ab ⟨w, sQ m [cS s, .val fnv] [s.val, fnv], h, []⟩ m' h' w' /\ (∀ b, fN r u = some b -> (w.heap.size <= b \/ sQ m [cS s, .val fnv] [s.val, fnv] b) /\ m' b = none /\ ∀ i, h' b i = none) := by
 subst hfv
 by_cases hps0 : ps = []
 . subst hps0
   have hl0 : s.len = 0 := by have := dC.slen hr; simpa using this
   have := AnyF.slices_SortFunc_none Tryz.sortN s.a s.cap (.func (.func g) #[] cb.toArray) w
   rw [show s.val = .slice s.a 0 s.cap by rw [<- hl0]; rfl]
   refine Calls.mono (show Calls Tryz.prog 107 #[.slice s.a 0 s.cap, .func (.func g) #[] cb.toArray] w _ from this) ?_
   rintro e w' ⟨rfl, rfl⟩
   exact ⟨.tup [], .tuple #[], m, h, rfl, hK [] m (.refl _) .nil hr (λ _ _ => rfl), ⟨#[], rfl, rfl⟩, ⟨rfl, rfl, rfl, BH _, BH _, λ _ _ _ => rfl, hp.hsat, hp.msat, hp.disj, λ _ _ _ e => e, λ _ _ _ => rfl, λ b o hb => .inr (.inl (by rw [show m b = some o from hb]; simp))⟩, λ b hb => by simp [fN] at hb⟩
 obtain ⟨p0, hp0⟩ := List.exists_mem_of_ne_nil _ hps0
 haveI : Inhabited (BX h R) := ⟨⟨p0.1, p0.2, hv p0 hp0, hR p0 hp0⟩⟩
 rcases hr.ex with ⟨rfl, hx⟩ | ⟨b, cap, cur, rfl, hm, h0, h1, h2, h3⟩
 . exact (hps0 (by simpa using hx)).elim
 . simp only [mI] at h0 h3
   have hgb := hp.msat b _ hm
   have hblt := (CP.1 hgb).1
   obtain ⟨ds, hds⟩ : ∃ ds : List (BX h R), ds.map BX.pr = ps := Lz ps hv hR
   have hdl : ds.length = ps.length := by rw [<- hds]; simp
   have hcur : ∀ j, (hj : j < ds.length) -> cur[j]? = some (u0 h ds[j]) := λ j hj => by
    have : (cur.toList.take (ps.length * 1))[j]? = ((ps.map λ p => eS p.1).flatten)[j]? := by rw [h3]
    rw [DT, if_pos aC, BU] at this
    rw [this, <- hds]
    have hf : ((ds.map BX.pr).map λ p : Sl × List VV => eS p.1).flatten = ds.map (u0 h) := by
     clear hds hdl hj this
     induction ds with
     | nil => rfl
     | cons a l ih => simp only [EB, Jj, ih]; rfl
    rw [hf]
    simp [hj]
   have hsz : cur.size = cap := by simpa using h2
   have hH : Sort.Holds (u0 h) w b 0 ds.toArray := by
    intro j hj
    have hj : j < ds.length := by simpa using hj
    refine ⟨?_, ?_⟩
    . rw [cell_of_heap hgb, BU, Ih, hcur j hj, getElem!_pos _ j (by simpa using hj)]
      simp
    . unfold World.frozen?
      rw [hgb]
      simp
   obtain ⟨gf, hgf, hgb2, hgn⟩ := hg
   have eg : ∀ args w, (callFunc g args).run Tryz.prog w = .ok (.enter g args) w := λ args w => by
    have hbn : ¬ gf.body = none := by intro e; rw [e] at hgb2; cases hgb2
    have hnm : ¬ gf.name = "runtime.NumGoroutine" := by simpa using hgn
    simp [callFunc, program, Sem.run, hgf, hnm, hbn]
   have hlay := Xp (blk := b) (off := 0) (size := ds.toArray.size) hc (w := w) (λ b' o v hv' => ⟨hp.hsat b' o v hv', λ e => by rw [e, hp.disj b _ hm o] at hv'; cases hv'⟩) (λ b' o hb' => ⟨hp.msat b' o (hm2 b' o hb').1, λ e => (hm2 b' o hb').2 0 (by rw [e])⟩) (λ b' o hb' => hp.disj b' o (hm2 b' o hb').1)
   have hcall := Any.slices_SortFunc Tryz.sortF (u0 h) (λ _ => rfl) (λ x y => cf x.l y.l) hO g cb.toArray b 0 cap ds.toArray w eg hlay hH hblt (by simp; omega)
   have e3 : (Sl.val ⟨some ⟨b, 0, none⟩, (ps.map λ p => eS p.1).length, cap⟩) = .slice (some ⟨b, 0, none⟩) ds.toArray.size cap := by simp [Sl.val, hdl]
   rw [e3]
   refine Calls.mono hcall ?_
   rintro e w' ⟨rfl, d', n, os, hpm, hst, rfl⟩
   have hd'sz : d'.size = ds.length := by have := hpm.1; simpa using this
   have hperm := JE hpm
   obtain ⟨m', hm'⟩ : ∃ m', jH m m' b (.cells (Sort.putCells (u0 h) 0 d' cur) 74 (0, 0)) := ⟨λ b' => if b' = b then some (.cells (Sort.putCells (u0 h) 0 d' cur) 74 (0, 0)) else m b', by simp, λ b' hb' => by simp [hb']⟩
   have hs0 : (Sort.putRow (u0 h) (Sort.ahead w n) b 0 d').heap.size = w.heap.size := by unfold Sort.putRow Sort.mapBlock; simp [Sort.ahead]
   have hnew : (Go.Proofs.sortWorld (u0 h) w b 0 n d' os).heap[b]? = some (.cells (Sort.putCells (u0 h) 0 d' cur) 74 (0, 0)) := by
    show ((Sort.putRow (u0 h) (Sort.ahead w n) b 0 d').heap ++ os)[b]? = _
    rw [Array.getElem?_append_left aC]
    unfold Sort.putRow Sort.mapBlock
    simp only [Array.getElem?_modify, if_true]
    show Option.map _ w.heap[b]? = _
    rw [hgb]
    rfl
   have hold : ∀ b', b' < w.heap.size -> b' ≠ b -> (Go.Proofs.sortWorld (u0 h) w b 0 n d' os).heap[b']? = w.heap[b']? := λ b' hb' hne => by
    show ((Sort.putRow (u0 h) (Sort.ahead w n) b 0 d').heap ++ os)[b']? = _
    rw [Array.getElem?_append_left aC]
    unfold Sort.putRow Sort.mapBlock
    simp only [Array.getElem?_modify, if_neg (Ne.symm hne)]
    rfl
   have hE : sQ m [cS ⟨some ⟨b, 0, none⟩, (ps.map λ p => eS p.1).length, cap⟩, .val (.func (.func g) #[] cb.toArray)] [.slice (some ⟨b, 0, none⟩) ds.toArray.size cap, .func (.func g) #[] cb.toArray] b := .inl (by rw [hm]; simp)
   refine ⟨.tup [], .tuple #[], m', h, rfl, hK (d'.toList.map BX.pr) m' ?_ ?_ ?_ (λ b' hb' => hm'.other b' (λ e => hb' 0 (by rw [e]))), ⟨#[], rfl, rfl⟩, ⟨rfl, rfl, rfl, Nat.le_add_right _ _, ?_, ?_, ?_, ?_, ?_, λ _ _ _ e => e, λ _ _ _ => rfl, ?_⟩, λ b hb => by simp [fN] at hb⟩
   . have := hperm.map (λ x : BX h R => x.pr)
     rw [<- hds]; exact this
   . rw [List.pairwise_map, List.pairwise_iff_getElem]
     intro i j hi hj hij hlt
     have hi : i < d'.size := by simpa using hi
     have hj : j < d'.size := by simpa using hj
     have := hst i j (To _) hij (by simp; omega)
     rw [getElem!_pos d' i hi, getElem!_pos d' j hj] at this
     unfold Go.Proofs.ltOf at this
     simp only [decide_eq_false_iff_not] at this
     simp only [Array.getElem_toList] at hlt
     exact this hlt
   . refine ⟨⟨λ e he => ?_, λ e he u hu => ?_⟩, .inr ⟨b, cap, _, ?_, hm'.at_, by simp; omega, h1, ?_, ?_⟩⟩
     . obtain ⟨x, _, rfl⟩ := mH.1 he; rfl
     . obtain ⟨x, _, rfl⟩ := mH.1 he
       have : u = .slice x.1.a x.1.len x.1.cap := by simpa [eS] using hu
       rw [this]; rfl
     . simp [hd'sz, hdl]
     . simp [Sort.putCells, hsz]
     . apply List.ext_getElem?
       intro j
       have hf : ((d'.toList.map BX.pr).map λ p : Sl × List VV => eS p.1).flatten = d'.toList.map (u0 h) := by
        generalize d'.toList = l
        induction l with
        | nil => rfl
        | cons a l ih => simp only [EB, Jj, ih]; rfl
       rw [hf, DT]
       simp only [mI, VZ, V7]
       by_cases hj : j < d'.size
       . rw [if_pos hj, BU, AD, BU, Array.getElem?_eq_getElem hj]
         have hjc : j < cur.size := by omega
         simp only [Sort.putCells, Array.getElem?_mapIdx, Array.getElem?_eq_getElem hjc, Option.map_some, To, Ih, Nat.sub_zero, true_and]
         rw [if_pos hj, getElem!_pos d' j hj]
       . rw [if_neg hj, OF (by simp; omega)]
   . show w.heap.size <= (Sort.grow _ os).heap.size
     rw [Sort.size_grow, hs0]; omega
   . intro b' hb' hn
     exact hold b' hb' (λ e => hn (e ▸ hE))
   . intro b' o v hv'
     have hne : b' ≠ b := λ e => by rw [e, hp.disj b _ hm o] at hv'; cases hv'
     have h5 := hp.hsat b' o v hv'
     rw [World.cell?_of_block (w := w) (a := ⟨b', o, none⟩) (hold b' (World.block_lt_of_cell? w ⟨b', o, none⟩ h5) hne)]
     exact h5
   . intro b' o hb'
     by_cases e : b' = b
     . subst e; rw [hm'.at_] at hb'; cases hb'; exact hnew
     . rw [hm'.other b' e] at hb'
       have h5 := hp.msat b' o hb'
       rw [hold b' (CP.1 h5).1 e]; exact h5
   . intro b' o hb' i
     by_cases e : b' = b
     . subst e; exact hp.disj b' _ hm i
     . rw [hm'.other b' e] at hb'; exact hp.disj b' o hb' i
   . intro b' o hb'
     by_cases e : b' = b
     . subst e; exact .inr hE
     . rw [hm'.other b' e] at hb'; exact .inr (.inl (by rw [hb']; simp))
end Go.Ps
namespace Go.Vc
open Go
theorem dC.rd {m : MH} {h : PH} {s : Sl} {E sz : Nat} {xs : List (List Value)} (r : dC m s E sz xs) {i : Nat} {e : List Value} (hi : xs[i]? = some e) : ∃ b, s.a = some ⟨b, 0, none⟩ /\ aL m h b (i * sz) e := by
 rcases r.ex with ⟨_, rfl⟩ | ⟨b, cap, cur, rfl, hm, h1, h2, h3, h4⟩
 . simp at hi
 . refine ⟨b, rfl, .lent cur E (0, 0) hm ?_⟩
   have hlt := (mG.1 hi).1
   have hel := r.rows.len e (lP hi)
   have hfl : ∀ (l : List (List Value)) (k : Nat), (∀ x ∈ l, x.length = sz) -> l[k]? = some e -> (l.flatten.drop (k * sz)).take sz = e := by
    intro l
    induction l with
    | nil => intro k _ hk; simp at hk
    | cons a l ih =>
     intro k hl hk
     have ha := hl a (Gh ..)
     cases k with
     | zero =>
      simp at hk; subst hk
      rw [Jj, Nat.zero_mul, List.drop_zero, <- ha, List.take_left]
     | succ k =>
      rw [Jj, Nat.succ_mul, Nat.add_comm, <- List.drop_drop, <- ha, List.drop_left, ha]
      exact ih k (λ x hx => hl x (D3 _ hx)) (by simpa using hk)
   have h5 := hfl xs i r.rows.len hi
   rw [hel]
   rw [<- h4] at h5
   rw [List.drop_take, List.take_take] at h5
   have : min sz (xs.length * sz - i * sz) = sz := by
    rw [<- Nat.sub_mul]
    have : 1 * sz <= (xs.length - i) * sz := X1 _ aC
    omega
   rw [this] at h5
   exact h5
theorem nW.sub {m m' : MH} {h : PH} {s : Sl} {sz : Nat} {ys : List (List Value)} (r : nW m h s sz ys) (hs : ∀ b o, m b = some o -> m' b = some o) : nW m' h s sz ys := by
 rcases r with r | ⟨b, o, cs, E, fz, h1, h2, h3, h4⟩
 . exact .imm r
 . exact .lent b o cs E fz h1 h2 (hs _ _ h3) h4
theorem dC.src {m : MH} {h : PH} {s : Sl} {E sz : Nat} {xs : List (List Value)} (r : dC m s E sz xs) : nW m h s sz xs := by
 rcases r.ex with ⟨rfl, rfl⟩ | ⟨b, cap, cur, rfl, hm, h1, h2, h3, h4⟩
 . exact .imm (cN.nil h sz)
 . refine .lent b 0 cur E (0, 0) rfl rfl hm ?_
   have : xs.flatten.length = xs.length * sz := bU r.rows.len
   rw [List.drop_zero, this]; exact h4
end Go.Vc
namespace Go.Ps
open Go Go.Vc Go.Proofs
variable {K : CV -> MH -> PH -> Prop} {m : MH} {h : PH} {s : nX} {ps : List Int} {cb : Nat} {sc : bL} {v : QV} {q : Query} {p : Pred} {l : List Int} {i : Nat} {N : Nat} {m' : MH} {h' : PH} {co : List Int} {gr : List Int} {od : List (Int × Bool)} {w : Pred} {ta : Int} {li : Int} {xs : List (List Value)} {sz : Nat} {k : Nat} {ks : List (List Int)} {rs : List Int} {r : Sl} {a : List Int} {b : Nat}
structure M6 {α : Type} (c : α -> α -> Int) : Prop where
 anti : ∀ x y, c x y = - c y x
 trans : ∀ x y z, c x y <= 0 -> c y z <= 0 -> c x z <= 0
theorem M6.zero {α : Type} {c : α -> α -> Int} (h : M6 c) {x y z : α} (h1 : c x y <= 0) (h2 : c y z <= 0) (h3 : c x z = 0) : c x y = 0 /\ c y z = 0 := by
 have a1 := h.anti x z
 have a2 := h.anti x y
 have a3 := h.anti y z
 have t1 := h.trans z x y aC h1
 have t2 := h.trans y z x h2 aC
 omega
theorem NN {c d : Int} (h : (if c ≠ 0 then c else d) <= 0) : c <= 0 := by
 split at h
 . exact h
 . omega
theorem M6.lex {α : Type} {c d : α -> α -> Int} (h : M6 c) (k : M6 d) : M6 (λ x y => if c x y ≠ 0 then c x y else d x y) := by
 refine ⟨λ x y => ?_, λ x y z h1 h2 => ?_⟩
 . have a := h.anti x y
   have b := k.anti x y
   show (if c x y ≠ 0 then c x y else d x y) = - (if c y x ≠ 0 then c y x else d y x)
   by_cases e : c x y = 0
   . rw [if_neg (by simpa using e), if_neg (by have : c y x = 0 := by omega
                                               simpa using this)]; exact b
   . rw [if_pos e, if_pos aC]; exact a
 . have l1 : c x y <= 0 := NN h1
   have l2 : c y z <= 0 := NN h2
   have l3 := h.trans x y z l1 l2
   show (if c x z ≠ 0 then c x z else d x z) <= 0
   by_cases e : c x z = 0
   . obtain ⟨z1, z2⟩ := h.zero l1 l2 e
     have h1 : (if c x y ≠ 0 then c x y else d x y) <= 0 := h1
     have h2 : (if c y z ≠ 0 then c y z else d y z) <= 0 := h2
     rw [if_neg (by simpa using z1)] at h1
     rw [if_neg (by simpa using z2)] at h2
     rw [if_neg (by simpa using e)]
     exact k.trans x y z h1 h2
   . rw [if_pos e]; exact l3
theorem M6.of {α β : Type} {c : α -> α -> Int} (h : M6 c) (f : β -> α) : M6 (λ x y => c (f x) (f y)) := ⟨λ x y => h.anti _ _, λ x y z => h.trans _ _ _⟩
theorem QG : M6 yC := by
 refine ⟨λ x y => ?_, λ x y z => ?_⟩
 . unfold yC; split <;> split <;> (first | omega | (split <;> omega))
 . unfold yC; intro h1 h2; split at h1 <;> split at h2 <;> (repeat' split at *) <;> omega
theorem MS : ∀ a b : List UInt8, Lib.compareBytes a b = - Lib.compareBytes b a
 | [], [] => rfl
 | [], _ :: _ => rfl
 | _ :: _, [] => rfl
 | a :: l, b :: k => by
  simp only [Lib.compareBytes]
  by_cases h1 : a < b
  . have h2 : ¬ b < a := λ h => absurd (UInt8.lt_trans h1 h) (UInt8.lt_irrefl _)
    simp [h1, h2]
  . by_cases h2 : b < a
    . simp [h1, h2]
    . simp only [h1, h2, if_false]; exact MS l k
theorem KG : ∀ a b c : List UInt8, Lib.compareBytes a b <= 0 -> Lib.compareBytes b c <= 0 -> Lib.compareBytes a c <= 0
 | [], _, [], _, _ => by simp [Lib.compareBytes]
 | [], _, _ :: _, _, _ => by simp [Lib.compareBytes]
 | _ :: _, [], _, h1, _ => by simp [Lib.compareBytes] at h1
 | _ :: _, _ :: _, [], _, h2 => by simp [Lib.compareBytes] at h2
 | a :: l, b :: k, c :: q, h1, h2 => by
  simp only [Lib.compareBytes] at h1 h2 ⊢
  by_cases ac : a < c
  . simp [ac]
  . by_cases ab : a < b
    . have bc : ¬ b < c := λ h => ac (UInt8.lt_trans ab h)
      have cb : c < b := UInt8.lt_of_le_of_lt (UInt8.not_lt.1 ac) ab
      simp [bc, cb] at h2
    . by_cases ba : b < a
      . simp [ab, ba] at h1
      . have e : a = b := UInt8.le_antisymm (UInt8.not_lt.1 ba) (UInt8.not_lt.1 ab)
        subst e
        simp only [ab, ac, if_false] at h1 h2 ⊢
        by_cases ca : c < a
        . simp [ca] at h2
        . simp only [ca, if_false] at h2 ⊢
          exact KG l k q h1 h2
theorem F7 : M6 jX := by
 have hT : M6 Lg := ⟨λ x y => MS _ _, λ x y z => KG _ _ _⟩
 exact (QG.of VV.kind).lex ((QG.of VV.int).lex (hT.of VV.text))
theorem kU : ∀ a b, dV a b = - dV b a
 | [], [] => rfl
 | [], _ :: _ => rfl
 | _ :: _, [] => rfl
 | x :: l, y :: k => by
  have a := F7.anti x y
  simp only [dV]
  by_cases e : jX x y = 0
  . rw [if_neg (by simpa using e), if_neg (by have : jX y x = 0 := by omega
                                              simpa using this)]; exact kU l k
  . rw [if_pos e, if_pos aC]; exact a
theorem xX : ∀ a b c, dV a b <= 0 -> dV b c <= 0 -> dV a c <= 0
 | [], _, [], _, _ => by simp [dV]
 | [], _, _ :: _, _, _ => by simp [dV]
 | _ :: _, [], _, h1, _ => by simp [dV] at h1
 | _ :: _, _ :: _, [], _, h2 => by simp [dV] at h2
 | x :: l, y :: k, z :: q, h1, h2 => by
  simp only [dV] at h1 h2 ⊢
  have l1 : jX x y <= 0 := NN h1
  have l2 : jX y z <= 0 := NN h2
  have l3 := F7.trans x y z l1 l2
  by_cases e : jX x z = 0
  . obtain ⟨z1, z2⟩ := F7.zero l1 l2 e
    rw [if_neg (by simpa using z1)] at h1
    rw [if_neg (by simpa using z2)] at h2
    rw [if_neg (by simpa using e)]
    exact xX l k q h1 h2
  . rw [if_pos e]; exact l3
theorem CF : M6 dV := ⟨kU, xX⟩
theorem M6.swo {R : List VV -> Prop} {cf : List VV -> List VV -> Int} (c : M6 cf) : Sort.SWO (Go.Proofs.ltOf (fun (x y : BX h R) => cf x.l y.l)) := by
 refine ⟨λ x => ?_, λ x y z h1 h2 => ?_, λ x y z h1 h2 => ?_⟩
 . have := c.anti x.l x.l
   unfold Go.Proofs.ltOf
   simp; omega
 . unfold Go.Proofs.ltOf at *
   simp only [decide_eq_true_eq] at *
   have t := c.trans x.l y.l z.l aC aC
   by_cases e : cf x.l z.l = 0
   . have := c.zero (x := x.l) (y := y.l) (z := z.l) aC aC e; omega
   . omega
 . unfold Go.Proofs.ltOf at *
   simp only [decide_eq_false_iff_not] at *
   have a1 := c.anti x.l y.l
   have a2 := c.anti y.l z.l
   have a3 := c.anti x.l z.l
   have t := c.trans z.l y.l x.l aC aC
   omega
def GO (x : List VV) : List (List VV) -> List (List VV)
 | [] => [x]
 | y :: l => if dV x y < 0 then x :: y :: l else if dV x y = 0 then y :: l else y :: GO x l
def Ag (l : List (List VV)) : List (List VV) := l.foldr GO []
abbrev kA (l : List (List VV)) : Prop := l.Pairwise λ x y => dV x y < 0
theorem J6 {x z : List VV} : ∀ {l : List (List VV)}, z ∈ GO x l ↔ z = x \/ z ∈ l
 | [] => by simp [GO]
 | y :: l => by
  simp only [GO]
  split
  . simp
  . split
    . rename_i _ e
      have := kT.1 e
      subst this
      simp
    . simp only [xA, J6 (l := l)]
      exact ⟨λ h => by rcases h with h | h | h <;> simp [h], λ h => by rcases h with h | h | h <;> simp [h]⟩
theorem HU {x : List VV} : ∀ {l : List (List VV)}, kA l -> kA (GO x l)
 | [], _ => by simp [GO]
 | y :: l, h => by
  obtain ⟨h1, h2⟩ := List.pairwise_cons.1 h
  simp only [GO]
  split
  . rename_i hlt
    refine List.pairwise_cons.2 ⟨λ z hz => ?_, h⟩
    rcases xA.1 hz with rfl | hz
    . exact hlt
    . have t := xX x y z aC (by have := h1 z hz; omega)
      by_cases e : dV x z = 0
      . have := CF.zero (x := x) (y := y) (z := z) aC (by have := h1 z hz; omega) e; omega
      . omega
  . split
    . exact h
    . rename_i n1 n2
      refine List.pairwise_cons.2 ⟨λ z hz => ?_, HU h2⟩
      rcases J6.1 hz with rfl | hz
      . have := kU z y; omega
      . exact h1 z hz
theorem B7 {x : List VV} : ∀ {l : List (List VV)}, x ∈ Ag l ↔ x ∈ l
 | [] => by simp [Ag]
 | y :: l => by
  show x ∈ GO y (Ag l) ↔ _
  rw [J6, B7, xA]
theorem yG : ∀ (l : List (List VV)), kA (Ag l)
 | [] => .nil
 | _ :: l => HU (yG l)
theorem p9 : ∀ {a b : List (List VV)}, kA a -> kA b -> (∀ x, x ∈ a ↔ x ∈ b) -> a = b
 | [], [], _, _, _ => rfl
 | [], y :: _, _, _, h => by have := (h y).2 (by simp); simp at this
 | x :: _, [], _, _, h => by have := (h x).1 (by simp); simp at this
 | x :: a, y :: b, ha, hb, h => by
  obtain ⟨a1, a2⟩ := List.pairwise_cons.1 ha
  obtain ⟨b1, b2⟩ := List.pairwise_cons.1 hb
  have irr : ∀ z, ¬ dV z z < 0 := λ z => by have := kU z z; omega
  have e : x = y := by
   rcases xA.1 ((h x).1 (by simp)) with e | h1
   . exact e
   . rcases xA.1 ((h y).2 (by simp)) with e | h2
     . exact e.symm
     . have l1 := a1 y h2
       have l2 := b1 x h1
       have := kU x y
       omega
  subst e
  congr 1
  refine p9 a2 b2 (λ z => ⟨λ hz => ?_, λ hz => ?_⟩)
  . rcases xA.1 ((h z).1 (D3 _ hz)) with rfl | h1
    . exact absurd (a1 z hz) (irr z)
    . exact h1
  . rcases xA.1 ((h z).2 (D3 _ hz)) with rfl | h1
    . exact absurd (b1 z hz) (irr z)
    . exact h1
theorem Tv {l r : List (List VV)} (h1 : kA r) (h2 : ∀ x, x ∈ r ↔ x ∈ l) : r = Ag l := p9 h1 (yG l) λ x => by rw [h2, B7]
def Uv : Vc.Spec := λ cvs m h K => ∃ (s : Sl) (us : List Sl), cvs = [cS s] /\ nW m h s 1 (us.map eS) /\ us.length <= 502633886983 /\ ∀ s' m', dC m' s' 74 1 (us.map eS) -> (∀ b o, m b = some o -> m' b = some o) -> (∀ b i, s'.a = some ⟨b, i, none⟩ -> m b = none) -> K (cS s') m' h
def XA : Vc.Spec := λ cvs m h K => ∃ (s : Sl) (ps : List (Sl × List VV)), cvs = [cS s, .val (.func (.func 71) #[] #[])] /\ dC m s 74 1 (ps.map λ p => eS p.1) /\ (∀ p ∈ ps, cJ h p.1 p.2) /\ ps.length <= 140737488355328 /\
 ∀ (ps' : List (Sl × List VV)) (m' : MH), ps'.Perm ps -> ps'.Pairwise (λ p q => ¬ dV q.2 p.2 < 0) -> dC m' s 74 1 (ps'.map λ p => eS p.1) -> (∀ b, (∀ i, s.a ≠ some ⟨b, i, none⟩) -> m' b = m b) -> K (.tup []) m' h
structure eF (h : PH) (us : List Sl) (rs : List (List VV)) : Prop where
 len : us.length = rs.length
 at_ : ∀ (j : Nat) x, rs[j]? = some x -> ∃ u, us[j]? = some u /\ cJ h u x
def Zr : Vc.Spec := λ cvs m h K => ∃ s us l, cvs = [cS s] /\ nW m h s 1 (us.map eS) /\ eF h us l /\ l.length <= 502633886983 /\ ∀ s' h', PH.le h h' -> Rows h' s' (Ag l) -> K (cS s') m h'
noncomputable def YG : Ctx :=
 dM [(106, Uv), (107, XA), (71, Ie)] [(5, { A := Nat × List Sl × Sl × MH × PH, st := λ ⟨i, us, s, m, h⟩ => cH 38 39 [(3, sv s), (4, .at (.lst 35)), (11, sv s), (12, iv s.len), (13, iv i)] [(35, .lst 74 1 (us.map eS))] m h })] [] [] false
def Ky (n c : Nat) (m : MH) (h : PH) (K : CV -> MH -> PH -> Prop) : Prop :=
  K jZ m h
theorem Xi (n c : Nat) (m : MH) (h : PH) (K : CV -> MH -> PH -> Prop) : Ky n c m h K = (Ap (vO [] [] [] [] [53, 1053] [] false) Tryz.f106 (dK Tryz.f106) (entry Tryz.f106.ntmps [.val (.slice none n c)] m h) K) := by kernel_rfl
abbrev gO (a : Sl -> MH -> Prop) : Prop := ∀ (x : Sl) (x1 : MH), a x x1
abbrev A1 (a : Prop) (b : (List (List Value)) -> Prop) : Prop := a /\ ∃ (x : List (List Value)), b x
attribute [push_cast] gO A1
def Kx (a : Addr) (n c : Nat) (m : MH) (h : PH) (K : CV -> MH -> PH -> Prop) : Prop :=
  gO (λ s m1 => nD m m1 h s 74 1 [] -> ∃ (x : List (List Value)), A1 (dC m1 (dA s) 74 1 x) (λ y => aA (dY 1 y) (nW m1 h (Sl.mk (Option.some a) n c) 1 y) (aA (rJ x y 24) (rK x y) (gO (λ s1 m2 => eC m1 m2 (dA s) s1 74 1 (x ++ y) -> K (cK s1) m2 h)))))
theorem Xh (a : Addr) (n c : Nat) (m : MH) (h : PH) (K : CV -> MH -> PH -> Prop) : Kx a n c m h K = (Ap (vO [] [] [] [] [53, 1053] [] false) Tryz.f106 (dK Tryz.f106) (entry Tryz.f106.ntmps [.val (.slice (some a) n c)] m h) K) := by kernel_rfl
abbrev Eg (a : Nat) : Prop := a <= 502633886983
abbrev Fc (a : Sl) (b : Nat) (c : List Sl) (d : MH -> Nat -> Obj -> Prop) (e : Nat -> Prop) (g : MH -> Prop) : Prop := ∀ (x : MH), bK (dC x a 74 b (qK c)) (∀ (x1 : Nat) (x2 : Obj), d x x1 x2) ((∀ (x1 x2 : Nat), aU a.a x1 x2 -> e x1) -> g x)
abbrev Bp (a : MH) (b : Nat) : Prop := a b = Option.none
abbrev Fe (a : MH) (b : Sl) (c : Nat) (d : List (Sl × List VV)) : Prop := dC a b 74 c (List.map (fun (x : Sl × List VV) => aM x.1) d)
abbrev IJ (a : (Nat × List Sl × Sl × MH × PH -> Prop) -> (Nat × List Sl × Sl × MH × PH) -> Prop) (b : (Nat × List Sl × Sl × MH × PH -> Prop) -> (Nat × List Sl × Sl × MH × PH -> Nat) -> (Nat × List Sl × Sl × MH × PH) -> Prop) : Prop := ∃ (x : Nat × List Sl × Sl × MH × PH -> Prop) (x1 : Nat × List Sl × Sl × MH × PH -> Nat), (∃ (x2 : Nat × List Sl × Sl × MH × PH), a x x2) /\ ∀ (x2 : Nat × List Sl × Sl × MH × PH), b x x1 x2
noncomputable abbrev mD (a : Nat × List Sl × Sl × MH × PH) : Sl × MH × PH := a.2.2
noncomputable abbrev dR (a : Nat × List Sl × Sl × MH × PH) : Sl := (mD a).1
noncomputable abbrev jA (a : Nat × List Sl × Sl × MH × PH) : List (List Value) := qK a.2.1
noncomputable abbrev hX (a : Sl × MH × PH) : Nat -> Option Obj := a.2.1
noncomputable abbrev mV (a : Nat × List Sl × Sl × MH × PH) : Nat -> Option Obj := hX (mD a)
noncomputable abbrev dP (a : Sl × MH × PH) : Nat -> Nat -> Option Value := a.2.2
noncomputable abbrev oB (a : Nat × List Sl × Sl × MH × PH) : Nat -> Nat -> Option Value := dP (mD a)
noncomputable abbrev A7 (a : List (List Value)) : Nat := 0 + a.length
abbrev JV (a b : Prop) (c : (Nat × List Sl × Sl × MH × PH) -> Prop) : Prop := aA a b (∃ (x : Nat × List Sl × Sl × MH × PH), c x)
abbrev pX (a b : List (List Value)) : Prop := Option.some (Own.lst 74 1 a) = Option.some (Own.lst 74 1 b)
attribute [push_cast] Eg Fc Bp Fe IJ mD dR jA hX mV dP oB A7 JV pX
def Ki (s : Sl) (m : MH) (h : PH) (K : CV -> MH -> PH -> Prop) : Prop :=
  ∃ (s1 : Sl) (u : List Sl), aA (fU s = fU s1) (nW m h s1 1 (qK u)) (Eg u.length /\ ∀ (s2 : Sl), Fc s2 1 u (λ m1 b o => m b = Option.some o -> m1 b = Option.some o) (λ b => Bp m b) (λ m1 => ∃ (s3 : Sl) (p : List (Sl × List VV)), aA (aX (cK s2) (CV.val (kM 71)) = aX (cK s3) (CV.val (kM 71))) (Fe m1 s3 1 p) (aA (∀ (p1 : Sl × List VV), List.Mem p1 p -> cJ h p1.1 p1.2) (gH p.length) (∀ (p1 : List (Sl × List VV)) (m2 : MH), bK (List.Perm p1 p) (List.Pairwise (fun (p2 : Sl × List VV) => fun (q : Sl × List VV) => ¬(dV q.2 p2.2 < 0)) p1) (bK (Fe m2 s3 1 p1) (∀ (b : Nat), (∀ (i : Nat), jO (aU s3.a b i)) -> m2 b = m1 b) (IJ (λ I x => aA (I x) (bD s2 (dR x)) (aA (eL 35) (bD s2 (dR x)) (aA (cM s2 (dR x)) (bC x.1) (aA (Option.some (Own.lst 74 1 []) = Option.some (Own.lst 74 1
 (jA x))) (bJ m2 (mD x).2) (lF h (mD x).2))))) (λ I m3 x => I x -> bA (↑x.1 : Int) (aG (dR x)) (aT (λ b o => aA (aU (dR x).a b o) (0 <= (↑x.1 : Int)) ((↑x.1 : Int) < aG (dR x) /\ ∃ (y : Sl), aL (mV x) (oB x) b (bN o x.1 1) (aM y) /\ dN (↑x.1 : Int) 0 (∃ (y1 : List (List Value)), aA (dY 3 y1) (cN (oB x) (dA y) 3 y1) (aA (gH (A7 y1 * 32)) (gH (A7 y1)) (bH (oB x) 3 ([] ++ y1) (λ s4 h1 => JV (gH (((jA x).length + 1) * 24)) (iA (jA x)) (λ x1 => aA (I x1) (m3 x1 < m3 x) (aA (bD (dR x) (dR x1)) (eL 35) (aA (bD (dR x) (dR x1)) (cM (dR x) (dR x1)) (aA (fK (bE x.1 1) = bV x1.1) (pX (jB (jA x) s4) (jA x1)) (jG (bJ (mV x) (mD x1).2) (cE h1 (mD x1).2)))))))))) (aT (fun
 b1 o1 => aA (aU (dR x).a b1 o1) (0 <= dZ ((↑x.1 : Int) - 1)) (dZ ((↑x.1 : Int) - 1) < aG (dR x) /\ ∃ (y1 : Sl), aL (mV x) (oB x) b1 (fM o1 (dZ ((↑x.1 : Int) - 1)) 1) (aM y1) /\ C9 y1 y (oB x) (λ a b2 => eE (dV a b2) 0 (∃ (y2 : List (List Value)), aA (dY 3 y2) (cN (oB x) (dA y) 3 y2) (aA (gH (A7 y2 * 32)) (gH (A7 y2)) (bH (oB x) 3 ([] ++ y2) (λ s4 h1 => JV (gH (((jA x).length + 1) * 24)) (iA (jA x)) (λ x1 => aA (I x1) (m3 x1 < m3 x) (aA (bD (dR x) (dR x1)) (eL 35) (aA (bD (dR x) (dR x1)) (cM (dR x) (dR x1)) (aA (fK (bE x.1 1) = bV x1.1) (pX (jB (jA x) s4) (jA x1)) (jG (bJ (mV x) (mD x1).2) (cE h1 (mD x1).2)))))))))) (∃ (x1 : Nat × List Sl × Sl × MH × PH), aA (I x1) (m3 x1 <
 m3 x) (aA (bD (dR x) (dR x1)) (eL 35) (aA (bD (dR x) (dR x1)) (cM (dR x) (dR x1)) (aA (fK (bE x.1 1) = bV x1.1) (pX (jA x) (jA x1)) (jG (bJ (mV x) (mD x1).2) (cE (oB x) (mD x1).2))))))))))))) (bH (oB x) 1 (jA x) (λ s4 h1 => K (cK s4) (mV x) h1)))))))))
theorem Ai (l : List Sl) : dY 1 (l.map eS) := by
 constructor
 . intro e he; obtain ⟨x, _, rfl⟩ := mH.1 he; rfl
 . intro e he u hu
   obtain ⟨x, _, rfl⟩ := mH.1 he
   have : u = .slice x.a x.len x.cap := by simpa [eS] using hu
   rw [this]; rfl
theorem Jx (l : List VV) : dY 3 (l.map VV.enc) := by
 constructor
 . intro e he; obtain ⟨x, _, rfl⟩ := mH.1 he; rfl
 . intro e he u hu
   obtain ⟨x, _, rfl⟩ := mH.1 he
   simp only [VV.enc, xA, List.not_mem_nil, or_false] at hu
   rcases hu with rfl | rfl | rfl <;> rfl
theorem SK : Sound Tryz.prog 106 Uv := by
 refine eK (fn := Tryz.f106) (c := dK Tryz.f106) Tryz.func106 rfl (by decide) ?_
 rintro cvs m h K ⟨s, us, rfl, hr, hl, hK⟩
 obtain ⟨a, n, c⟩ := s
 refine ⟨vO [] [] [] [] [53, 1053] [] false, rfl, aF, ?_⟩
 cases a with
 | none =>
  show Ap _ Tryz.f106 (dK Tryz.f106) (entry Tryz.f106.ntmps [.val (.slice none n c)] m h) K
  rw [<- Xi n c m h K]
  dsimp only [Ky, push_cast]
  have e : us.map eS = [] := by
   rcases hr with hr | ⟨b, o, cs, E, fz, e, _⟩
   . rcases hr.row with e | ⟨b, o, e, _⟩
     . exact e
     . cases e
   . cases e
  rw [e] at hK
  exact hK ⟨none, 0, 0⟩ m ⟨⟨(λ e he => by cases he), (λ e he => by cases he)⟩, .inl ⟨rfl, rfl⟩⟩ (λ b o e => e) (λ b i e => by cases e)
 | some a =>
  show Ap _ Tryz.f106 (dK Tryz.f106) (entry Tryz.f106.ntmps [.val (.slice (some a) n c)] m h) K
  rw [<- Xh a n c m h K]
  dsimp only [Kx, push_cast]
  intro s m' hnew
  have sub : ∀ b o, m b = some o -> m' b = some o := λ b o hb => by
   rw [hnew.other b (λ i e => by rw [(hnew.fresh b i e).m_] at hb; cases hb)]; exact hb
  refine ⟨[], hnew.row, us.map eS, Ai us, hr.sub sub, by simp; omega, by simp; omega, λ s' m2 hg => hK s' m2 (by simpa using hg.row) (λ b o hb => ?_) (λ b i e => ?_)⟩
  . exact hg.other b o (sub b o hb) (λ i e => by have e : s.a = some ⟨b, i, none⟩ := e; rw [(hnew.fresh b i e).m_] at hb; cases hb)
  . rcases hg.fresh b i e with h1 | ⟨j, h1⟩
    . cases e2 : m b with
      | none => rfl
      | some o => rw [sub b o e2] at h1; cases h1
    . exact (hnew.fresh b j h1).m_
theorem Qv : Sound Tryz.prog 107 XA := by
 refine ⟨⟨Tryz.f107, Tryz.func107, rfl, by decide⟩, ?_⟩
 rintro cvs vs m h w K ⟨s, ps, rfl, hr, hv, hl, hK⟩ hp
 obtain ⟨v, v2, rfl⟩ : ∃ v v2, vs = [v, v2] := by
  have := (mY hp.args).1
  match vs, this with
  | [v, v2], _ => exact ⟨v, v2, rfl⟩
 have h1 : v = s.val := hp.args.1
 have h2 : v2 = .func (.func 71) #[] #[] := hp.args.2.1
 subst h1 h2
 refine Lo (R := λ _ => True) (g := 71) (cb := []) (m2 := λ _ => none) (cf := dV) rfl hp ⟨Tryz.f71, Tryz.func71, rfl, by decide⟩ hr hv (λ _ _ => trivial) hl CF.swo ⟨Ie, Dt, λ x y => ⟨x.s, y.s, x.l, y.l, rfl, x.ok, y.ok, rfl, rfl, rfl⟩⟩ (λ b o hb => by cases hb) hK
theorem eF.mono {us : List Sl} {rs : List (List VV)} (x : eF h us rs) (le : PH.le h h') : eF h' us rs := ⟨x.len, λ j r hr => (x.at_ j r hr).imp λ _ hu => ⟨hu.1, cJ.mono hu.2 le⟩⟩
theorem eF.nil (h : PH) : eF h [] [] := ⟨rfl, λ j x hx => by simp at hx⟩
theorem eF.snoc {us : List Sl} {rs : List (List VV)} (x : eF h us rs) {u : Sl} {r : List VV} (hv : cJ h u r) : eF h (us ++ [u]) (rs ++ [r]) := by
 refine ⟨by simp [x.len], λ j y hy => ?_⟩
 by_cases hj : j < rs.length
 . rw [Na hj] at hy
   obtain ⟨v, h1, h2⟩ := x.at_ j y hy
   exact ⟨v, by rw [Na (by rw [x.len]; exact hj)]; exact h1, h2⟩
 . rw [Ji aC] at hy
   have := (mG.1 hy).1
   simp at this
   have e : j = rs.length := by omega
   subst e
   simp at hy
   subst hy
   exact ⟨u, by rw [Ji (by rw [x.len]; exact BH _), x.len]; simp, hv⟩
theorem eF.rows {h : PH} {us : List Sl} {rs : List (List VV)} {s : Sl} (x : eF h us rs) (hr : cN h s 1 (us.map eS)) (hl : rs.length <= 502633886983) : Rows h s rs := ⟨⟨us, hr, x.len.symm, x.at_⟩, hl⟩
structure Ta (ps' : List (Sl × List VV)) (s1 : Sl) (m2 : MH) (h : PH) (i : Nat) (us2 : List Sl) (s2 : Sl) (mx : MH) (hx : PH) : Prop where
 s_ : s2 = s1
 m_ : mx = m2
 le : PH.le h hx
 hi : i <= ps'.length
 hu : us2.length <= i
 ex : ∃ rs, eF hx us2 rs /\ kA rs /\ ∀ x, x ∈ rs ↔ x ∈ (ps'.take i).map Prod.snd
theorem H7 {hx : PH} {u : Sl} {r : List VV} {us : List Sl} {Q : Sl -> PH -> Prop} (hpv : cJ hx u r) (hl : us.length <= 502633886983) (hQ : ∀ s h', hx.le h' -> cJ h' s r -> Q s h') :
 ∃ ys : List (List Value), dY 3 ys /\ cN hx (Sl.mk u.a u.len u.cap) 3 ys /\ (0 + ys.length) * 32 <= 140737488355328 /\ 0 + ys.length <= 140737488355328 /\ ∀ (s : Sl) (h' : PH), hx.le h' -> cN h' s 3 ([] ++ ys) ->
  ((List.map eS us).length + 1) * 24 <= 140737488355328 /\ (List.map eS us).length < 140737488355328 /\ Q s h' := by
 obtain ⟨vs, h1, h2, h3⟩ := hpv.ex
 have hn := hpv.len
 refine ⟨vs.map VV.enc, Jx vs, h1, by rw [mI]; omega, by rw [mI]; omega, λ s h' le hr => ⟨by rw [mI]; omega, by rw [mI]; omega, hQ s h' le ⟨⟨vs, hr, h2, h3⟩, hn⟩⟩⟩
theorem abX {s : Sl} {us : List Sl} {l : List (List VV)} (hr : nW m h s 1 (us.map eS)) (hru0 : eF h us l) (hll : l.length <= 502633886983) (hK : ∀ s' h', PH.le h h' -> Rows h' s' (Ag l) -> K (cS s') m h') : Ki s m h (kB h K) := by
 dsimp only [Ki, push_cast]
 have hul := hru0.len.symm
 have hat := hru0.at_
 refine ⟨s, us, rfl, hr, aC, λ s1 m1 hrow1 hsub1 hfr1 => ⟨s1, us.zip l, rfl, ?_, λ p hp => ?_, by simp; omega, λ ps' m2 hperm hpw hrow2 hoth2 => ?_⟩⟩
 . have : (us.zip l).map (λ p => [eA p.1]) = us.map eS := by
    rw [show (λ p : Sl × List VV => [eA p.1]) = eS ∘ Prod.fst from rfl, <- List.map_map, List.map_fst_zip aC]
   rw [this]; exact hrow1
 . obtain ⟨j, hj⟩ := List.getElem?_of_mem hp
   rw [List.getElem?_zip_eq_some] at hj
   obtain ⟨u, h1, h2⟩ := hat j p.2 hj.2
   rw [hj.1] at h1; cases h1; exact h2
 . have hpl : ps'.length = us.length := by rw [hperm.length_eq]; simp; omega
   have hs1l := dC.slen hrow2
   simp only [mI] at hs1l
   have hvs : ∀ {i : Nat} {p : Sl × List VV}, ps'[i]? = some p -> cJ h p.1 p.2 := fun {i p} hp => by
    have := hperm.mem_iff.1 (lP hp)
    obtain ⟨j, hj⟩ := List.getElem?_of_mem this
    rw [List.getElem?_zip_eq_some] at hj
    obtain ⟨u, h1, h2⟩ := hat j p.2 hj.2
    rw [hj.1] at h1; cases h1; exact h2
   have hmem : ∀ x, x ∈ ps'.map Prod.snd ↔ x ∈ l := λ x => by
    rw [(hperm.map Prod.snd).mem_iff, List.map_snd_zip aC]
   have hsubm : ∀ b o, m b = some o -> m2 b = some o := λ b o hb => by
    rw [hoth2 b (λ i e2 => by rw [hfr1 b i e2] at hb; cases hb)]; exact hsub1 b o hb
   refine ⟨λ x => Ta ps' s1 m2 h x.1 x.2.1 x.2.2.1 x.2.2.2.1 x.2.2.2.2, λ x => ps'.length - x.1, ⟨(0, [], s1, m2, h), ⟨rfl, rfl, .refl _, by simp, by simp, [], .nil h, .nil, by simp⟩, MT⟩, ?_⟩
   rintro ⟨i, us2, s2, mx, hx⟩ ⟨e1, e2, le, hi, hu2, rs, hru, hso, hme⟩
   dsimp only at e1 e2 le hi hu2 hru
   subst e1 e2
   refine aE (λ hlt => ?_) (λ hge => ?_)
   . dsimp only at hlt
     have hlt2 : i < ps'.length := by omega
     obtain ⟨p, hp⟩ : ∃ p, ps'[i]? = some p := ⟨_, kP hlt2⟩
     obtain ⟨b, e1, r1⟩ := hrow2.rd (h := hx) (i := i) (e := eS p.1) (by simp [hp]; rfl)
     have hpv := cJ.mono (hvs hp) le
     have htake : ∀ x, x ∈ (ps'.take (i + 1)).map Prod.snd ↔ x ∈ (ps'.take i).map Prod.snd \/ x = p.2 := λ x => by
      rw [EA, hp]; simp
     have add : (∀ y ∈ rs, dV y p.2 < 0) -> ∀ (s : Sl) (h' : PH), hx.le h' -> cJ h' s p.2 -> Ta ps' s2 mx h (i + 1) (us2 ++ [s]) s2 mx h' := λ hc s h' le' hv' => by
      refine ⟨rfl, rfl, le.trans le', aC, by simp; omega, rs ++ [p.2], (hru.mono le').snoc hv', List.pairwise_append.2 ⟨hso, by simp, λ y hy z hz => ?_⟩, λ x => ?_⟩
      . simp at hz; subst hz; exact hc y hy
      . rw [htake, BZ, hme]; simp
     have keep : p.2 ∈ rs -> Ta ps' s2 mx h (i + 1) us2 s2 mx hx := λ hc =>
      ⟨rfl, rfl, le, aC, aC, rs, hru, hso, λ x => by rw [htake, hme]; exact ⟨.inl, λ h => h.elim id λ e => by rw [e, <- hme]; exact hc⟩⟩
     refine ⟨b, 0, e1, by show (0 : Int) <= (i : Int); omega, hlt, p.1, by simpa [eS] using r1, aB (λ h0 => ?_) (λ h0 => ?_)⟩
     . have h0 : i = 0 := by simpa using h0
       subst h0
       have hrs : rs = [] := by
        cases rs with
        | nil => rfl
        | cons y _ => have := (hme y).1 (by simp); simp at this
       exact H7 hpv (by dsimp only; omega) (λ s h' le' hv' => ⟨(0 + 1, us2 ++ [s], s2, mx, h'), add (by rw [hrs]; simp) s h' le' hv', (by dsimp only; omega), rfl, rfl, rfl, rfl, rfl, by simp [eS], rfl, rfl, trivial⟩)
     . have h0 : i ≠ 0 := by simpa using h0
       have hw : IntKind.i64.wrap ((i : Int) - 1) = ((i - 1 : Nat) : Int) := by rw [eG aC aC]; omega
       obtain ⟨q, hq⟩ : ∃ q, ps'[i - 1]? = some q := ⟨_, kP aC⟩
       obtain ⟨b', e1', r1'⟩ := hrow2.rd (h := hx) (i := i - 1) (e := eS q.1) (by simp [hq]; rfl)
       have hqv := cJ.mono (hvs hq) le
       have hqrs : q.2 ∈ rs := by
        rw [hme]
        refine mH.2 ⟨q, ?_, rfl⟩
        exact lP (i := i - 1) (by rw [DT, if_pos aC]; exact hq)
       have hprev : ∀ y ∈ rs, dV y q.2 <= 0 := λ y hy => by
        rw [hme] at hy
        obtain ⟨z, hz, rfl⟩ := mH.1 hy
        obtain ⟨j, hj⟩ := List.getElem?_of_mem hz
        have hjl := (mG.1 hj).1
        simp only [Hz] at hjl
        rw [DT, if_pos aC] at hj
        by_cases e : j = i - 1
        . subst e; rw [hq] at hj; cases hj
          have := kU q.2 q.2; omega
        . have h1 := List.pairwise_iff_getElem.1 hpw j (i - 1) aC aC aC
          rw [(mG.1 hj).2, (mG.1 hq).2] at h1
          have := kU z.2 q.2; omega
       have hqp : dV q.2 p.2 <= 0 := by
        have h1 := List.pairwise_iff_getElem.1 hpw (i - 1) i aC aC aC
        rw [(mG.1 hp).2, (mG.1 hq).2] at h1
        have := kU q.2 p.2; omega
       dsimp only
       rw [hw]
       refine ⟨b', 0, e1', aC, aC, q.1, by simpa [eS] using r1', q.1, p.1, q.2, p.2, rfl, hqv, hpv, aB (λ hne => ?_) (λ heq => ?_)⟩
       . have hne : dV q.2 p.2 ≠ 0 := by simpa using hne
         refine H7 hpv aC (λ s h' le' hv' => ⟨(i + 1, us2 ++ [s], s2, mx, h'), add (λ y hy => ?_) s h' le' hv', (by dsimp only; omega), rfl, rfl, rfl, rfl, by rw [kC aC], by simp [eS], rfl, rfl, trivial⟩)
         have t := xX y q.2 p.2 (hprev y hy) hqp
         by_cases e : dV y p.2 = 0
         . have := CF.zero (hprev y hy) hqp e; omega
         . omega
       . have heq : dV q.2 p.2 = 0 := by simpa using heq
         exact ⟨(i + 1, us2, s2, mx, hx), keep (by rw [<- kT.1 heq]; exact hqrs), (by dsimp only; omega), rfl, rfl, rfl, rfl, by rw [kC aC], rfl, rfl, rfl, trivial⟩
   . intro s3 h3 le3 hr3
     dsimp only at hge hr3 le3
     have hi2 : i = ps'.length := by omega
     subst hi2
     rw [Ig] at hme
     have e : rs = Ag l := Tv hso (λ x => by rw [hme, hmem])
     subst e
     have hl := hru.len
     exact ⟨m, h3, hsubm, le.trans le3, .refl _, hK s3 h3 (le.trans le3) ((hru.mono le3).rows hr3 aC)⟩
theorem GS : Sound Tryz.prog 74 Zr := by
 refine FN Tryz.func74 ?_
 rintro cvs m h K ⟨s, us, l, rfl, hr, hu, hl, hK⟩
 refine ⟨YG, rfl, aD SK (aD Qv (aD Dt aF)), Ki s m h (kB h K), by kernel_rfl, ?_⟩
 exact abX hr hu hl hK
end Go.Ps
namespace Go.Vc
open Go
section
variable {B : oY} {C : Ctx} {ι : Nat -> Value} {σ : St} {a : Act} {w : World} {o : Oper} {K : St -> Prop}
def KX (ι : Nat -> Value) (σ : St) (b : Nat) : Prop := σ.m b ≠ none \/ ∃ k o, nth σ.own k = some (some o) /\ blk (ι k) = some b
def Z3 (ι : Nat -> Value) (σ : St) (ds : List Deferred) (w : World) : oY := ⟨w, KX ι σ, σ.h, ds⟩
theorem aH.rebase (hM : aH B ι σ a w) : aH (Z3 ι σ a.defers w) ι σ a w := by
 have hw := hM.wrel
 refine ⟨hM.slots, rfl, hM.own, hM.dist, λ k o b hk hb => ?_, ?_, hM.one⟩
 . obtain ⟨_, f2, f3⟩ := hM.fresh k o b hk hb
   exact ⟨.inr (.inr ⟨k, o, hk, hb⟩), f2, f3⟩
 . exact ⟨rfl, rfl, rfl, BH _, BH _, λ _ _ _ => rfl, hw.hsat, hw.msat, hw.disj, λ _ _ _ e => e, λ _ _ _ => rfl,
    λ b o hb => .inr (.inl (by rw [hb]; simp))⟩
theorem aH.mine (hM : aH B ι σ a w) {b : Nat} (h : KX ι σ b) : (B.w0.heap.size <= b \/ B.E b) /\ b < w.heap.size /\ ∀ i, σ.h b i = none := by
 rcases h with h | ⟨k, o, hk, hb⟩
 . cases e : σ.m b with
   | none => exact (h e).elim
   | some ob => exact ⟨hM.wrel.mfr b ob e, (CP.1 (hM.wrel.msat b ob e)).1, hM.wrel.disj b ob e⟩
 . obtain ⟨f1, _, f3⟩ := hM.fresh k o b hk hb
   exact ⟨f1, nO (hM.own k o hk) hb, f3⟩
theorem aH.unbase (hM : aH B ι σ a w) {ds : List Deferred} {ι' : Nat -> Value} {τ : St} {a' : Act} {w' : World} (h : aH (Z3 ι σ ds w) ι' τ a' w') : aH { B with dfs := ds } ι' τ a' w' := by
 have hw := hM.wrel
 have hw' := h.wrel
 have old : ∀ b, (w.heap.size <= b \/ KX ι σ b) -> B.w0.heap.size <= b \/ B.E b := λ b hb => by
  rcases hb with h1 | h1
  . exact .inl (Ae hw.size h1)
  . exact (hM.mine h1).1
 refine ⟨h.slots, h.defers, h.own, h.dist, λ k o b hk hb => ?_, ?_, h.one⟩
 . obtain ⟨f1, f2, f3⟩ := h.fresh k o b hk hb
   exact ⟨old b f1, f2, f3⟩
 . have s' : w.heap.size <= w'.heap.size := hw'.size
   refine ⟨hw'.tape.trans hw.tape, hw'.os.trans hw.os, hw'.output.trans hw.output, Ae hw.drawn hw'.drawn, Ae hw.size s', ?_, hw'.hsat, hw'.msat, hw'.disj, λ b i v e => hw'.hle b i v (hw.hle b i v e), ?_, λ b o hb => old b (hw'.mfr b o hb)⟩
   . intro b hb hnE
     have hn : ¬ KX ι σ b := λ hm => by
      rcases (hM.mine hm).1 with h1 | h1
      . exact absurd hb (Nat.not_lt.2 h1)
      . exact hnE h1
     have := hw'.frame b (X6 hb hw.size) hn
     rw [this]; exact hw.frame b hb hnE
   . intro b hb hnE
     have hn : ¬ KX ι σ b := λ hm => by
      rcases (hM.mine hm).1 with h1 | h1
      . exact absurd hb (Nat.not_lt.2 h1)
      . exact hnE h1
     have : τ.h b = σ.h b := hw'.hold b (X6 hb hw.size) hn
     rw [this]; exact hw.hold b hb hnE
theorem aH.grown (hM : aH B ι σ a w) {w' : World} {row : Option Nat} (hg : w.grownBy w' row) (hdr : w.drawn <= w'.drawn) (hrow : ∀ r, row = some r -> B.w0.heap.size <= r /\ ¬ KX ι σ r /\ ∃ ob : Obj, w.heap[r]? = some ob /\ ob.isCells = false) : aH B ι σ a w' := by
 have hw := hM.wrel
 have same : ∀ b, b < w.heap.size -> (∀ r, row = some r -> b ≠ r) -> w'.heap[b]? = w.heap[b]? := λ b hb hne => hg.block b hb (λ e => hne b e.symm rfl)
 have mine : ∀ b, KX ι σ b -> w'.heap[b]? = w.heap[b]? := λ b hb => same b (hM.mine hb).2.1 (λ r e h => (hrow r e).2.1 (h ▸ hb))
 refine ⟨hM.slots, hM.defers, λ k o hk => (hM.own k o hk).world (λ b hb => mine b (.inr ⟨k, o, hk, hb⟩)), hM.dist, hM.fresh, ?_, hM.one⟩
 refine ⟨hg.tape.trans hw.tape, hg.os.trans hw.os, hg.output.trans hw.output, Ae hw.drawn hdr, Ae hw.size hg.size, ?_, ?_, ?_, hw.disj, hw.hle, hw.hold, hw.mfr⟩
 . intro b hb hnE
   rw [same b (X6 hb hw.size) (λ r e h => by have := (hrow r e).1; omega)]
   exact hw.frame b hb hnE
 . intro b i v hv
   have h1 := hw.hsat b i v hv
   have hlt : b < w.heap.size := World.block_lt_of_cell? w ⟨b, i, none⟩ h1
   have hne : ∀ r, row = some r -> b ≠ r := λ r e h => by
    obtain ⟨_, _, ob, hob, hnc⟩ := hrow r e
    unfold World.cell? at h1
    rw [h] at h1
    dsimp only at h1
    rw [hob] at h1
    cases ob <;> simp [Obj.isCells] at hnc h1
   rw [World.cell?_of_block (w := w) (w' := w') (a := ⟨b, i, none⟩) (same b hlt hne)]
   exact h1
 . intro b o hb
   rw [mine b (.inl (by rw [hb]; simp))]
   exact hw.msat b o hb
def oN : Code -> Bool
 | .skip => true
 | .ret => true
 | .exit _ => true
 | .region _ ops _ => ops.toList.all λ o => match o.op with | .defer _ => false | _ => true
 | .seq x y => oN x && oN y
 | .cond _ x y => oN x && oN y
 | .block _ x => oN x
 | .loop x => oN x
 | _ => false
def Plain (ops : Array Oper) : Prop := ∀ (i : Nat) (o : Oper), ops[i]? = some o -> ∀ c, o.op ≠ .defer c
theorem Pa {ops : Array Oper} (h : (ops.toList.all λ o => match o.op with | .defer _ => false | _ => true) = true) : Plain ops := by
 intro i o ho c e
 rw [Tn] at h
 have := h o (lP (by rw [BU]; exact ho))
 rw [e] at this; cases this
theorem tP (l : Nat) {P : Program} {ops : Array Oper} (hd : Plain ops) {Q : Exit -> Act -> World -> Prop} : ∀ (L : List Nat) (a : Act) (w : World), wpOpsIn Fence.wide 0 P ops Q L a w -> wpOpsIn (Fence.wide.inRound l) 0 P ops Q L a w
 | [], _, _, h => h
 | i :: L, a, w, h => by
  unfold wpOpsIn at h ⊢
  cases ho : ops[i]? with
  | none => rw [ho] at h; exact tP l hd L a w h
  | some o =>
   rw [ho] at h
   dsimp only at h ⊢
   split
   . rename_i hw
     rw [if_pos hw] at h
     exact Jl l (hd i o ho) (Oper.wpIn_mono (λ a w => tP l hd L a w) h)
   . rename_i hw
     rw [if_neg hw] at h
     exact ⟨λ _ _ => trivial, tP l hd L _ _ h.2⟩
theorem yD (l : Nat) {P : Program} {md : Region.Mode} {ops : Array Oper} (hd : Plain ops) {Q : Exit -> Act -> World -> Prop} (hQ : ¬ LetsOut Q) : ∀ (n : Nat) (L : Array Bool) (a : Act) (w : World), wpAny P md ops Q n L a w -> wpAnyIn (Fence.wide.inRound l) 0 P md ops Q n L a w
 | 0, _, _, _, h => h
 | n + 1, L, a, w, h => by
  refine ⟨h.1, λ i hi => ?_⟩
  have := h.2 i hi
  unfold wpOp at this
  unfold wpOpIn
  cases ho : ops[i]? with
  | none => rw [ho] at this; exact yD l hd hQ n _ _ _ this
  | some o =>
   rw [ho] at this
   dsimp only at this ⊢
   split
   . rename_i hw
     rw [if_pos hw] at this
     rcases this with h1 | h1
     . exact Jl l (hd i o ho) (Oper.wpIn_mono (λ a w => yD l hd hQ n _ a w) (Jm h1))
     . exact (hQ h1.2).elim
   . rename_i hw
     rw [if_neg hw] at this
     exact ⟨λ _ _ => trivial, yD l hd hQ n _ _ _ this⟩
theorem BI {F : Fence} {n : Nat} {P : Program} {Q : Exit -> Act -> World -> Prop} {a : Act} {w : World} {c : Code} (I : Nat -> Act -> World -> Prop) (n₀ : Nat) (h₀ : I n₀ a w)
 (round : ∀ k a w, I k a w -> c.wpIn F n P (Exit.then (λ a' w' => ∃ k', k' < k /\ I k' a' w') Q) a w) : (Code.loop c).wpIn F n P Q a w := by
 refine wpIn_loop (λ a w => ∃ k, I k a w) (λ a w => leastOf (λ k => I k a w)) ⟨n₀, h₀⟩ ?_
 intro a w hI
 refine wpIn_mono (round _ a w (leastOf_spec hI).1) ?_
 intro e a' w' hq
 cases e with
 | normal =>
  obtain ⟨k', hlt, hI'⟩ := hq
  exact ⟨⟨k', hI'⟩, Nat.lt_of_le_of_lt ((leastOf_spec ⟨k', hI'⟩).2 k' hI') hlt⟩
 | exit id => exact hq
 | ret => exact hq
 | goto l => exact hq
 | panic ch => exact hq
 | outgrown => exact hq
theorem Ln (l : Nat) (hspecs : ∀ g S, assoc C.specs g = some S -> Sound C.P g S) : ∀ (c : Code), oN c = true -> ∀ (σ : St) (Q : BR -> St -> Prop) (ι : Nat -> Value) (a : Act) (w : World), aH B ι σ a w -> VC C c σ Q -> c.wpIn (Fence.wide.inRound l) 0 C.P (QD B Q) a w := by
 intro c
 induction c with
 | skip => intro hs σ Q ι a w hM h; exact wpIn_skip ⟨ι, σ, hM, h⟩
 | label l => intro hs; cases hs
 | exit id => intro hs σ Q ι a w hM h; exact wpIn_exit ⟨ι, σ, hM, h⟩
 | ret => intro hs σ Q ι a w hM h; exact wpIn_ret ⟨ι, σ, hM, h⟩
 | goto l => intro hs; cases hs
 | refuse why => intro hs; cases hs
 | scope body ih => intro hs; cases hs
 | rangeFunc f ps x y ihx ihy => intro hs; cases hs
 | region id ops draw =>
  intro hs σ Q ι a w hM h
  cases draw with
  | false =>
   refine wpIn_region (tP l (Pa hs) _ _ _ ?_)
   have := Gq hspecs (ops := ops) (Q := Q) (Rb C id) ops.toList 0 ι σ a w (λ j => by simp) hM h
   rw [List.range_eq_range']
   simpa using this
  | true =>
   simp only [VC] at h
   split at h
   . rename_i h1 h2 h3
     have hsa := Wd h1 h2
     refine wpIn_region_any h3 (yD l (Pa hs) (λ ⟨_, _, e⟩ => e) _ _ _ _ ?_)
     refine MV hspecs hsa (Q := QD B Q) (R := Q .normal) (λ ι σ a w hM h => ⟨ι, σ, hM, h⟩) (λ c a w h => h) ops.size ops.size _ ι σ a _ (hM.drew (w.drawn + 1) (Nat.le_succ _)) h _ a ?_ ?_
     . have hno : ∀ i, (Array.replicate ops.size false).getD i false = true -> False := by
        intro i hi
        by_cases hlt : i < ops.size
        . simp [Array.getD, hlt] at hi
        . simp [Array.getD, hlt] at hi
       exact ⟨by simp, by simp, λ i hi => hi, λ i o _ hi => (hno i hi).elim, λ i o _ hi => (hno i hi).elim, λ i o _ hi => (hno i hi).elim, rfl, rfl, λ t _ => rfl, λ i o _ hi => (hno i hi).elim⟩
     . unfold pN
       rw [List.filter_eq_self.2]
       . simp
       . intro i hi
         by_cases hlt : i < ops.size <;> simp [Array.getD, hlt]
   . exact h.elim
 | seq x y ihx ihy =>
  intro hs σ Q ι a w hM h
  obtain ⟨hs1, hs2⟩ := Bool.and_eq_true_iff.1 hs
  simp only [VC] at h
  split at h
  . obtain ⟨h, hall⟩ := h
    refine wpIn_seq (wpIn_mono (ihx hs1 σ _ ι a w hM h) ?_)
    intro e a' w' hq
    cases e with
    | normal =>
     obtain ⟨ι', σ', hM', x, hx, hm⟩ := hq
     show y.wpIn (Fence.wide.inRound l) 0 C.P (QD B Q) a' w'
     obtain ⟨ι2, hM2, _⟩ := kX hM' hm
     exact ihy hs2 _ Q ι2 a' w' hM2 (hall x hx)
    | exit id => exact hq
    | ret => exact hq
    | goto l => exact hq
    | panic ch => exact hq
    | outgrown => exact hq
  . split at h
    . obtain ⟨I, h, hall⟩ := h
      refine wpIn_seq (wpIn_mono (ihx hs1 σ _ ι a w hM h) ?_)
      intro e a' w' hq
      cases e with
      | normal =>
       obtain ⟨ι', σ', hM', hm⟩ := hq
       show y.wpIn (Fence.wide.inRound l) 0 C.P (QD B Q) a' w'
       obtain ⟨x, ι2, hx, hM2⟩ := uW hM' hm
       exact ihy hs2 _ Q ι2 a' w' hM2 (hall x hx)
      | exit id => exact hq
      | ret => exact hq
      | goto l => exact hq
      | panic ch => exact hq
      | outgrown => exact hq
    . refine wpIn_seq (wpIn_mono (ihx hs1 σ _ ι a w hM h) ?_)
      intro e a' w' hq
      cases e with
      | normal =>
       obtain ⟨ι', σ', hM', h'⟩ := hq
       show y.wpIn (Fence.wide.inRound l) 0 C.P (QD B Q) a' w'
       exact ihy hs2 σ' Q ι' a' w' hM' h'
      | exit id => exact hq
      | ret => exact hq
      | goto l => exact hq
      | panic ch => exact hq
      | outgrown => exact hq
 | cond c x y ihx ihy =>
  intro hs σ Q ι a w hM h
  obtain ⟨hs1, hs2⟩ := Bool.and_eq_true_iff.1 hs
  simp only [VC] at h
  split at h
  . rename_i t hc
    have hev := hM.ev c
    rw [hc] at hev
    have hev : a.eval c = .bool t := hev
    rcases qV h with ⟨rfl, h⟩ | ⟨rfl, h⟩
    . exact wpIn_cond_true hev (ihx hs1 _ Q ι a w (hM.setTmp hc) h)
    . exact wpIn_cond_false hev (ihy hs2 _ Q ι a w (hM.setTmp hc) h)
  . exact h.elim
 | block id c ih =>
  intro hs σ Q ι a w hM h
  refine wpIn_block (wpIn_mono (ih hs σ _ ι a w hM h) ?_)
  intro e a' w' hq
  cases e with
  | normal => exact hq
  | exit i =>
   obtain ⟨ι', σ', hM', h'⟩ := hq
   show if i = id then _ else _
   simp only at h'
   split at h'
   . rename_i hb
     rw [if_pos (Gg hb)]
     exact ⟨ι', σ', hM', h'⟩
   . rename_i hb
     rw [if_neg (λ e => by subst e; simp at hb)]
     exact ⟨ι', σ', hM', h'⟩
  | ret => exact hq
  | goto l => exact hq
  | panic ch => exact hq
  | outgrown => exact hq
 | loop c ih =>
  intro hs σ Q ι a w hM h
  simp only [VC] at h
  split at h
  . rename_i ln hl
    obtain ⟨⟨x, hx, hm⟩, hall⟩ := h
    obtain ⟨ι2, hM2, _⟩ := kX hM hm
    refine BI (λ n a w => ∃ x ι, ln.inv x /\ ln.mu x = n /\ aH B ι (ln.st x) a w) (ln.mu x) ⟨x, ι2, hx, rfl, hM2⟩ ?_
    rintro n a' w' ⟨x', ι', hx', rfl, hM'⟩
    refine wpIn_mono (ih hs _ _ ι' a' w' hM' (hall x' hx')) ?_
    intro e a'' w'' hq
    cases e with
    | normal =>
     obtain ⟨ι3, σ3, hM3, y, hy, hlt, hmy⟩ := hq
     obtain ⟨ι4, hM4, _⟩ := kX hM3 hmy
     exact ⟨ln.mu y, hlt, y, ι4, hy, rfl, hM4⟩
    | exit id => exact hq
    | ret => exact hq
    | goto l => exact hq
    | panic ch => exact hq
    | outgrown => exact hq
  . split at h
    . rename_i ln hl
      obtain ⟨I, mu, hm, hall⟩ := h
      obtain ⟨x, ι2, hx, hM2⟩ := uW hM hm
      refine BI (λ n a w => ∃ x ι, I x /\ mu x = n /\ aH B ι (ln.st x) a w) (mu x) ⟨x, ι2, hx, rfl, hM2⟩ ?_
      rintro n a' w' ⟨x', ι', hx', rfl, hM'⟩
      refine wpIn_mono (ih hs _ _ ι' a' w' hM' (hall x' hx')) ?_
      intro e a'' w'' hq
      cases e with
      | normal =>
       obtain ⟨ι3, σ3, hM3, hmy⟩ := hq
       obtain ⟨y, ι4, hy, hlt, hM4⟩ := H9 hM3 hmy
       exact ⟨mu y, hlt, y, ι4, hy, rfl, hM4⟩
      | exit id => exact hq
      | ret => exact hq
      | goto l => exact hq
      | panic ch => exact hq
      | outgrown => exact hq
    . exact h.elim
end
end Go.Vc
namespace Go.Vc
open Go
def nB : Code -> Bool
 | .seq x y => nB x || nB y
 | .cond _ x y => nB x || nB y
 | .block _ x => nB x
 | .loop x => nB x
 | .scope x => nB x
 | .rangeFunc .. => true
 | _ => false
structure YDo (P : Program) (l : Nat) (vs : List Value) (m : MH) (h : PH) (R : Bool -> MH -> PH -> Prop) : Prop where
 go : ∀ w, Uq w m h -> ∃ fn tmps assign body, (Instr.yield l vs.toArray).run P w = .ok (.round l fn tmps assign body) w /\
  RoundIn Fence.wide 0 P l fn tmps assign body w λ e w' => ∃ u m' h', e = .returned (.bool u) /\ R u m' h' /\ Te w m h m' h' w'
def Xv (P : Program) : Spec := λ cvs m h K => ∃ (l : Nat) (vs : List Value) (R : Bool -> MH -> PH -> Prop), cvs = .val (.func (.yield l) #[] #[]) :: vs.map .val /\ YDo P l vs m h R /\ ∀ u m' h', R u m' h' -> K (.val (.bool u)) m' h'
theorem HP : ∀ {l l' : List Value}, l.map CV.val = l'.map CV.val -> l = l'
 | [], [], _ => rfl
 | a :: l, b :: l', h => by
  simp only [EB, List.cons.injEq, CV.val.injEq] at h
  rw [h.1, HP h.2]
 | [], _ :: _, h => by simp at h
 | _ :: _, [], h => by simp at h
theorem Jk (P : Program) : Od P (Xv P) := ⟨λ l vs m h w K ⟨l', vs', R, he, hS, hR⟩ hH => by
 simp only [List.cons.injEq, CV.val.injEq, Value.func.injEq, Fn.yield.injEq, and_true] at he
 obtain ⟨rfl, he⟩ := he
 rw [HP he]
 obtain ⟨fn, tmps, as_, bd, h1, h2⟩ := hS.go w hH
 exact ⟨fn, tmps, as_, bd, h1, h2.mono λ e w' ⟨u, m', h', e1, e2, e3⟩ => ⟨_, m', h', e1, hR u m' h' e2, e3⟩⟩⟩
def XQ (P : Program) (Src : PH -> List Value -> List (List Value) -> Prop) : Spec := λ cvs m h K => ∃ (l : Nat) (caps : List Value) (xs : List (List Value)) (J : Nat -> MH -> PH -> Prop),
 cvs = .val (.func (.yield l) #[] #[]) :: caps.map .val /\ Src h caps xs /\ J 0 m h /\
 (∀ k e m' h', xs[k]? = some e -> PH.le h h' -> J k m' h' -> YDo P l e m' h' (λ r m2 h2 => r = true /\ PH.le h' h2 /\ J (k + 1) m2 h2)) /\
 ∀ r m' h', PH.le h h' -> J xs.length m' h' -> K r m' h'
structure CM (P : Program) (g : FuncId) (Src : PH -> List Value -> List (List Value) -> Prop) : Prop where
 sound : Sound P g (XQ P Src)
def valOf (P : Program) (T : TypeId) (cs : List Value) : Value :=
 match xW P T with
 | true => .agg cs.toArray
 | false => match cs with | [x] => x | _ => undef
def LD : SV -> SV
 | .at (.val v) => .at (.val v)
 | .agg cs => match pM cs with | some _ => .agg cs | none => .at .junk
 | _ => .at .junk
def Ph : Option Own -> Option Own := λ _ => none
def blank (σ : St) (m : MH) (h : PH) : St := { sl := σ.sl.map LD, own := σ.own.map Ph, m := m, h := h }
def Np (l : List SV) : List (Nat × SV) -> List SV
 | [] => l
 | (p, x) :: r => Np (l.set p x) r
def Ty (σ : St) (es : List (Nat × SV)) (m : MH) (h : PH) : St := { sl := Np (σ.sl.map LD) es, own := σ.own.map Ph, m := m, h := h }
def Is (C : Ctx) (x y : Code) (σ : St) (es : List (Nat × SV)) (m : MH) (h : PH) (R : MH -> PH -> Prop) : Prop :=
 VC C x (Ty σ es m h) (λ ex τ => match ex with
  | .normal => VC C y τ (λ ex υ => match ex with
   | .normal => R υ.m υ.h
   | _ => False)
  | _ => False)
def Ru (C : Ctx) (f : Operand) (ps : Array Tmp) (x y : Code) (σ : St) (K : St -> Prop) : Prop :=
 match σ.ev f, oN x && oN y with
 | .at (.val (.func (.func g) fs cs)), true => match fs.toList with
  | [] => match ps.toList, C.elemT with
   | [p], [T] => ∃ (Src : PH -> List Value -> List (List Value) -> Prop) (xs : List (C.dec T).X) (I : Nat -> MH -> PH -> Prop), CM C.P g Src /\ Src σ.h cs.toList (xs.map λ x => [valOf C.P T ((C.dec T).enc x)]) /\ I 0 σ.m σ.h /\
    (∀ (k : Nat) (e : (C.dec T).X) (m : MH) (h : PH), xs[k]? = some e -> PH.le σ.h h -> I k m h -> Is C x y σ [(p, mk C.P T (((C.dec T).enc e).map .val))] m h (I (k + 1))) /\
    ∀ (m : MH) (h : PH), PH.le σ.h h -> I xs.length m h -> K (blank σ m h)
   | [p, q], [T, U] => ∃ (Src : PH -> List Value -> List (List Value) -> Prop) (xs : List ((C.dec T).X × (C.dec U).X)) (I : Nat -> MH -> PH -> Prop), CM C.P g Src /\ Src σ.h cs.toList (xs.map λ x => [valOf C.P T ((C.dec T).enc x.1), valOf C.P U ((C.dec U).enc x.2)]) /\ I 0 σ.m σ.h /\
    (∀ (k : Nat) (e : (C.dec T).X) (e' : (C.dec U).X) (m : MH) (h : PH), xs[k]? = some (e, e') -> PH.le σ.h h -> I k m h -> Is C x y σ [(p, mk C.P T (((C.dec T).enc e).map .val)), (q, mk C.P U (((C.dec U).enc e').map .val))] m h (I (k + 1))) /\
    ∀ (m : MH) (h : PH), PH.le σ.h h -> I xs.length m h -> K (blank σ m h)
   | _, _ => False
  | _ => False
 | _, _ => False
def V2 (C : Ctx) : Code -> St -> (BR -> St -> Prop) -> Prop
 | .rangeFunc f ps x y, σ, Q => Ru C f ps x y σ (Q .normal)
 | .seq a b, σ, Q => match nB a || nB b with
  | false => VC C (.seq a b) σ Q
  | true => match Xo C b with
   | some c => ∃ I : c.A -> Prop, V2 C a σ (λ e τ => match e with
    | .normal => ET c I τ
    | e => Q e τ) /\ ∀ x, I x -> V2 C b (c.st x) Q
   | none => V2 C a σ (λ e τ => match e with
    | .normal => V2 C b τ Q
    | e => Q e τ)
 | .block id c, σ, Q => match nB c with
  | false => VC C (.block id c) σ Q
  | true => V2 C c σ (λ e τ => match e with
   | .exit i => match Nat.beq i id with | true => Q .normal τ | false => Q (.exit i) τ
   | e => Q e τ)
 | .cond c x y, σ, Q => match nB x || nB y with
  | false => VC C (.cond c x y) σ Q
  | true => match σ.ev c with
   | .at (.val (.bool t)) => branch t (V2 C x (setTmp σ c true) Q) (V2 C y (setTmp σ c false) Q)
   | _ => False
 | c, σ, Q => VC C c σ Q
def Yb (C : Ctx) (σ : St) : List ResultVar -> (List Value -> Prop) -> Prop
 | [], K => K []
 | .cell t T :: r, K => match nth σ.sl t, gA C.P T with
  | some (.at (.val (.pointer (some ⟨b, off, none⟩)))), true => Xn C T (aL σ.m σ.h b off) λ l => match (mk C.P T (l.map .val)).val? with
   | some v => Yb C σ r (λ rs => K (v :: rs))
   | none => False
  | _, _ => False
 | _ :: _, _ => False
def Gu (C : Ctx) (fn : Func) (K : CV -> MH -> PH -> Prop) (σ : St) : Prop :=
 match Ea C σ fn.results.toList with
 | some _ => Lv C fn K σ
 | none => Yb C σ fn.results.toList λ rs => match rs with
  | [r] => K (.val r) σ.m σ.h
  | rs => K (.tup (rs.map .val)) σ.m σ.h
def TM (C : Ctx) (fn : Func) (c : Code) (σ : St) (K : CV -> MH -> PH -> Prop) : Prop :=
 V2 C c σ (λ e τ => match e with
  | .normal => Gu C fn K τ
  | .ret => Gu C fn K τ
  | _ => False)
section
variable {B : oY} {C : Ctx} {ι : Nat -> Value} {σ : St} {a : Act} {w : World} {K : St -> Prop}
theorem UR {ι ι' : Nat -> Value} {x : SV} {v : Value} (h : Den ι x v) : Den ι' (LD x) v := by
 cases x with
 | «at» y => cases y <;> first | exact h | trivial
 | agg cs =>
  simp only [LD]
  split
  . rename_i l hl
    obtain ⟨us, rfl, hd⟩ := h
    rw [Af hl] at hd ⊢
    exact ⟨us, rfl, by rw [fR.vals] at hd ⊢; exact hd⟩
  . trivial
 | tup xs => trivial
theorem Cs {ι ι' : Nat -> Value} : ∀ {xs : List SV} {vs : List Value}, DenS ι xs vs -> DenS ι' (xs.map LD) vs
 | [], [], _ => trivial
 | _ :: _, _ :: _, h => ⟨UR h.1, Cs h.2⟩
 | [], _ :: _, h => h.elim
 | _ :: _, [], h => h.elim
theorem CU (l : List (Option Own)) (k : Nat) (o : Own) : nth (l.map Ph) k = some (some o) -> False := by
 rw [vZ]
 cases nth l k <;> simp [Ph]
theorem aH.blank' {B : oY} {sl : List SV} {l : List (Option Own)} {m : MH} {h : PH} {a : Act} {w : World} (hs : DenS (λ _ => .slice none 0 0) sl a.tmps.toList) (hd : a.defers = B.dfs) (hw : Ab B m h w) :
 aH B (λ _ => .slice none 0 0) { sl := sl, own := l.map Ph, m := m, h := h } a w :=
 ⟨hs, hd, λ k o hk => (CU l k o hk).elim, λ k _ o _ _ hk => (CU l k o hk).elim, λ k o _ hk => (CU l k o hk).elim, hw, λ _ => rfl⟩
def xT (D : Nat) : Deferred := { target := .collected D, args := #[] }
structure MM (B : oY) (ds : List Nat) (ι : Nat -> Value) (σ : St) (a : Act) (w : World) : Prop where
 mod : aH { B with dfs := ds.map xT } ι σ a w
 size : ∀ D ∈ ds, B.w0.heap.size <= D
 mine : ∀ D ∈ ds, ¬ KX ι σ D
 mark : ∀ D ∈ ds, w.heap[D]? = some (.deferred (some []))
 nodup : ds.Nodup
def QM (B : oY) (Q : BR -> St -> Prop) : Exit -> Act -> World -> Prop
 | .normal, a, w => ∃ ds ι σ, MM B ds ι σ a w /\ Q .normal σ
 | .exit id, a, w => ∃ ds ι σ, MM B ds ι σ a w /\ Q (.exit id) σ
 | .ret, a, w => ∃ ds ι σ, MM B ds ι σ a w /\ Q .ret σ
 | _, _, _ => False
theorem MM.step {ds : List Nat} (hM : MM B ds ι σ a w) {ι' : Nat -> Value} {τ : St} {a' : Act} {w' : World} (h : aH (Z3 ι σ (ds.map xT) w) ι' τ a' w') : MM B ds ι' τ a' w' := by
 have lt : ∀ D ∈ ds, D < w.heap.size := λ D hD => (CP.1 (hM.mark D hD)).1
 refine ⟨?_, hM.size, λ D hD hm => ?_, λ D hD => ?_, hM.nodup⟩
 . exact hM.mod.unbase (ds := ds.map xT) h
 . rcases (h.mine hm).1 with h1 | h1
   . have h1 : w.heap.size <= D := h1
     have := lt D hD; omega
   . exact hM.mine D hD h1
 . rw [h.wrel.frame D (lt D hD) (hM.mine D hD)]; exact hM.mark D hD
theorem MM.here {ds : List Nat} (hM : MM B ds ι σ a w) : aH (Z3 ι σ (ds.map xT) w) ι σ a w := by
 have := hM.mod.rebase
 rw [hM.mod.defers] at this
 exact this
theorem MM.of_QD {ds : List Nat} (hM : MM B ds ι σ a w) {Q : BR -> St -> Prop} {e : Exit} {a' : Act} {w' : World} (h : QD (Z3 ι σ (ds.map xT) w) Q e a' w') : QM B Q e a' w' := by
 cases e with
 | normal => obtain ⟨ι', τ, h1, h2⟩ := h; exact ⟨ds, ι', τ, hM.step h1, h2⟩
 | exit id => obtain ⟨ι', τ, h1, h2⟩ := h; exact ⟨ds, ι', τ, hM.step h1, h2⟩
 | ret => obtain ⟨ι', τ, h1, h2⟩ := h; exact ⟨ds, ι', τ, hM.step h1, h2⟩
 | goto l => exact h.elim
 | panic ch => exact h.elim
 | outgrown => exact h.elim
theorem MM.retag {ds : List Nat} (hM : MM B ds ι σ a w) {ι' : Nat -> Value} {τ : St} (h : aH (Z3 ι σ (ds.map xT) w) ι' τ a w) : MM B ds ι' τ a w := hM.step h
theorem yH (hspecs : ∀ g S, assoc C.specs g = some S -> Sound C.P g S) {ds : List Nat} (hM : MM B ds ι σ a w) {c : Code} {Q : BR -> St -> Prop} (h : VC C c σ Q) : c.wp C.P (QM B Q) a w :=
 wp_mono (OI hspecs c σ Q ι a w hM.here h) (λ _ _ _ hq => hM.of_QD hq)
theorem Rn {P : Program} {T : TypeId} {cs : List Value} {ι : Nat -> Value} : Den ι (mk P T (cs.map .val)) (valOf P T cs) := by
 unfold mk valOf
 cases xW P T with
 | true => exact ⟨_, rfl, by simpa using (fR.vals (ι := ι)).2 rfl⟩
 | false => match cs with
  | [] => exact trivial
  | [x] => exact rfl
  | _ :: _ :: _ => exact trivial
theorem Jt {ι : Nat -> Value} : ∀ {es : List (Nat × SV)} {vs : List Value} {sl : List SV} {ts : Array Value}, DenS ι (es.map (·.2)) vs -> DenS ι sl ts.toList ->
 DenS ι (Np sl es) (((es.map (·.1)).zip vs).foldl (λ ts (p, v) => ts.setIfInBounds p v) ts).toList
 | [], [], _, _, _, h => h
 | (p, x) :: es, v :: vs, sl, ts, h, hs => by
  refine Jt (es := es) (vs := vs) h.2 ?_
  rw [Array.toList_setIfInBounds]
  exact hs.set p h.1
 | [], _ :: _, _, _, h, _ => h.elim
 | _ :: _, [], _, _, h, _ => h.elim
def vY (fn : FuncId) (tmps : Array Value) (ps : Array Tmp) (x y : Code) (D : Nat) (st : LoopState) : Loop := { state := st, pending := none, fn := fn, tmps := tmps, params := ps, assign := x, body := y, defers := D }
theorem JL {w : World} {l i : Nat} {r : Loop} (h : w.heap[l]? = some (.loop r)) : w.cell? ⟨l, i, none⟩ = none := by
 unfold World.cell?
 dsimp only
 rw [h]
theorem O4 (hspecs : ∀ g S, assoc C.specs g = some S -> Sound C.P g S) {tmps : Array Value} {x y : Code} (hx : oN x = true) (hy : oN y = true) (hsl : DenS ι σ.sl tmps.toList)
 {es : List (Nat × SV)} {vs : List Value} {ps : Array Tmp} (hps : ps.toList = es.map (·.1)) (hes : DenS (λ _ => .slice none 0 0) (es.map (·.2)) vs)
 {fn : FuncId} {D l : Nat} {m0 mm : MH} {h0 : PH} (hl0 : m0 l = none) (hmm : ∀ b, b ≠ l -> mm b = m0 b) (hml : mm l = some (.loop (vY fn tmps ps x y D .ready))) {R : MH -> PH -> Prop}
 (hV : Is C x y σ es m0 h0 R) (w : World) (hH : Uq w mm h0) :
 ∃ fn' tmps' assign body, (Instr.yield l vs.toArray).run C.P w = .ok (.round l fn' tmps' assign body) w /\
  RoundIn Fence.wide 0 C.P l fn' tmps' assign body w λ ex w' => ∃ u m' h', ex = .returned (.bool u) /\ (u = true /\ PH.le h0 h' /\ ∃ m2, m2 l = none /\ (∀ b, b ≠ l -> m' b = m2 b) /\ m' l = some (.loop (vY fn tmps ps x y D .ready)) /\ R m2 h') /\ Te w mm h0 m' h' w' := by
 have hl := hH.msat l _ hml
 have hlt := (CP.1 hl).1
 have hlen : vs.length = ps.size := by
  have h1 := hes.length
  rw [mI] at h1
  rw [<- VZ, hps, mI, h1]
 refine ⟨_, _, _, _, run_yield hl (by simpa [vY] using hlen), roundIn_of_wpIn trivial ?_⟩
 obtain ⟨ts, hts⟩ : ∃ ts, ((vY fn tmps ps x y D .ready).params.zip vs.toArray).foldl (λ tmps (t, a) => tmps.setIfInBounds t a) (vY fn tmps ps x y D .ready).tmps = ts := ⟨_, rfl⟩
 rw [hts]
 have hts2 : ts = ((es.map (·.1)).zip vs).foldl (λ ts (p, v) => ts.setIfInBounds p v) tmps := by
  rw [<- hts, <- hps, <- Array.foldl_toList, Array.toList_zip]
  rfl
 have m0some : ∀ b o, m0 b = some o -> mm b = some o := λ b o hb => by
  rw [hmm b (λ e => by rw [e, hl0] at hb; cases hb)]; exact hb
 have hM : aH ⟨w, λ b => m0 b ≠ none, h0, []⟩ (λ _ => .slice none 0 0) (Ty σ es m0 h0) { tmps := ts, defers := [] } w := by
  refine aH.blank' ?_ rfl ?_
  . show DenS _ (Np (σ.sl.map LD) es) ts.toList
    rw [hts2]
    exact Jt hes (Cs hsl)
  . exact ⟨rfl, rfl, rfl, BH _, BH _, λ _ _ _ => rfl, hH.hsat, λ b o hb => hH.msat b o (m0some b o hb), λ b o hb => hH.disj b o (m0some b o hb), λ _ _ _ e => e, λ _ _ _ => rfl, λ b o hb => .inr (by show m0 b ≠ none; rw [show m0 b = some o from hb]; simp)⟩
 refine wpIn_mono (Ln l hspecs x hx _ _ _ _ _ hM hV) ?_
 intro ex a1 w1 hq
 cases ex with
 | normal =>
  obtain ⟨ι1, τ, hM1, hV1⟩ := hq
  have hw1 := hM1.wrel
  have hnE : ¬ (λ b => m0 b ≠ none) l := λ e => e hl0
  have hl1 : w1.heap[l]? = some (.loop (vY fn tmps ps x y D .ready)) := by rw [hw1.frame l hlt hnE]; exact hl
  have hlt1 := (CP.1 hl1).1
  have hnM1 : ¬ KX ι1 τ l := λ hm => by
   rcases (hM1.mine hm).1 with h1 | h1
   . exact absurd hlt (Nat.not_lt.2 h1)
   . exact hnE h1
  refine ⟨_, run_beginRound hl1 rfl, ?_⟩
  obtain ⟨w2, hw2⟩ : ∃ w2, w1.putObj l (.loop { vY fn tmps ps x y D .ready with state := .busy }) = w2 := ⟨_, rfl⟩
  have hM2 := (hM1.rebase.putD (.loop { vY fn tmps ps x y D .ready with state := .busy }) hl1 rfl hlt1 hnM1).rebase
  rw [hw2] at hM2 ⊢
  have hd1 : a1.defers = [] := hM1.defers
  have hM2 : aH (Z3 ι1 τ [] w2) ι1 τ a1 w2 := by rw [hd1] at hM2; exact hM2
  have ne2 : ∀ b, b ≠ l -> w2.heap[b]? = w1.heap[b]? := λ b hb => by rw [<- hw2]; exact World.putObj_heap_other (λ e => hb e)
  have s2 : w2.heap.size = w1.heap.size := by rw [<- hw2]; simp
  have hl2 : w2.heap[l]? = some (.loop { vY fn tmps ps x y D .ready with state := .busy }) := by rw [<- hw2]; exact World.putObj_heap_same hlt1
  refine wpIn_mono (Ln l hspecs y hy _ _ _ _ _ hM2 hV1) ?_
  intro ex a2 w3 hq
  cases ex with
  | normal =>
   obtain ⟨ι2, υ, hM3, hR⟩ := hq
   have hw3 := hM3.wrel
   have hl3 : w3.heap[l]? = some (.loop { vY fn tmps ps x y D .ready with state := .busy }) := by rw [hw3.frame l (by show l < w2.heap.size; omega) hnM1]; exact hl2
   have hlt3 := (CP.1 hl3).1
   have hmine : ∀ b, b < w.heap.size -> mm b = none -> ¬ KX ι1 τ b := λ b hb hn hm => by
    rcases (hM1.mine hm).1 with h1 | h1
    . exact absurd hb (Nat.not_lt.2 h1)
    . refine h1 ?_
      by_cases e : b = l
      . rw [e]; exact hl0
      . rw [<- hmm b e]; exact hn
   have hul : υ.m l = none := by
    cases e : υ.m l with
    | none => rfl
    | some o =>
     rcases hw3.mfr l o e with h1 | h1
     . have h1 : w2.heap.size <= l := h1
       omega
     . exact (hnM1 h1).elim
   obtain ⟨w4, hw4⟩ : ∃ w4, w3.putObj l (.loop (vY fn tmps ps x y D .ready)) = w4 := ⟨_, rfl⟩
   have ne4 : ∀ b, b ≠ l -> w4.heap[b]? = w3.heap[b]? := λ b hb => by rw [<- hw4]; exact World.putObj_heap_other (λ e => hb e)
   have hl4 : w4.heap[l]? = some (.loop (vY fn tmps ps x y D .ready)) := by rw [<- hw4]; exact World.putObj_heap_same hlt3
   have hend := run_endRound (P := C.P) none hl3
   have hend : (Instr.endRound l none).run C.P w3 = .ok (.bool true) w4 := by rw [hend, <- hw4]; rfl
   have hle1 : PH.le h0 τ.h := ⟨λ b i v e => hw1.hle b i v e⟩
   have hle2 : PH.le τ.h υ.h := ⟨λ b i v e => hw3.hle b i v e⟩
   refine ⟨_, _, hend, true, λ b => if b = l then some (.loop (vY fn tmps ps x y D .ready)) else υ.m b, υ.h, rfl, ⟨rfl, ⟨λ b i v e => hle2.le _ _ _ (hle1.le _ _ _ e)⟩, υ.m, hul, λ b hb => by simp [hb], by simp, hR⟩, ?_⟩
   have t4 : w4.tape = w3.tape /\ w4.os = w3.os /\ w4.output = w3.output /\ w4.heap.size = w3.heap.size := by rw [<- hw4]; exact ⟨rfl, rfl, rfl, by simp⟩
   have t2 : w2.tape = w1.tape /\ w2.os = w1.os /\ w2.output = w1.output := by rw [<- hw2]; exact ⟨rfl, rfl, rfl⟩
   have hsize1 : w.heap.size <= w1.heap.size := hw1.size
   have hsize3 : w2.heap.size <= w3.heap.size := hw3.size
   refine ⟨?_, ?_, ?_, ?_, ?_, ?_, ⟨?_, ?_, ?_⟩, ⟨λ b i v e => hle2.le _ _ _ (hle1.le _ _ _ e)⟩, ?_, ?_⟩
   . rw [t4.1, hw3.tape]; show w2.tape = _; rw [t2.1]; exact hw1.tape
   . rw [t4.2.1, hw3.os]; show w2.os = _; rw [t2.2.1]; exact hw1.os
   . rw [t4.2.2.1, hw3.output]; show w2.output = _; rw [t2.2.2]; exact hw1.output
   . have d4 : w4.drawn = w3.drawn := by rw [<- hw4]; rfl
     have d3 : w2.drawn <= w3.drawn := hw3.drawn
     have d2 : w2.drawn = w1.drawn := by rw [<- hw2]; rfl
     have d1 : w.drawn <= w1.drawn := hw1.drawn
     omega
   . omega
   . intro b hb hn
     have hbl : b ≠ l := λ e => by rw [e, hml] at hn; cases hn
     rw [ne4 b hbl, hw3.frame b (by show b < w2.heap.size; omega) (hmine b hb hn)]
     show w2.heap[b]? = _
     rw [ne2 b hbl]
     exact hw1.frame b hb (λ e => e (by rw [<- hmm b hbl]; exact hn))
   . intro b i v hv
     have hv3 := hw3.hsat b i v hv
     have hbl : b ≠ l := λ e => by rw [e, JL hl3] at hv3; cases hv3
     rw [World.cell?_of_block (w := w3) (w' := w4) (a := ⟨b, i, none⟩) (ne4 b hbl)]
     exact hv3
   . intro b o hb
     have hb2 : (if b = l then some (Obj.loop (vY fn tmps ps x y D .ready)) else υ.m b) = some o := hb
     clear hb
     split at hb2
     . rename_i e; subst e; cases hb2; exact hl4
     . rename_i e; rw [ne4 b e]; exact hw3.msat b o hb2
   . intro b o hb i
     have hb2 : (if b = l then some (Obj.loop (vY fn tmps ps x y D .ready)) else υ.m b) = some o := hb
     clear hb
     split at hb2
     . rename_i e
       subst e
       cases e2 : υ.h b i with
       | none => rfl
       | some v => have := hw3.hsat b i v e2; rw [JL hl3] at this; cases this
     . exact hw3.disj b o hb2 i
   . intro b hb hn
     have h1 : υ.h b = τ.h b := hw3.hold b (by show b < w2.heap.size; omega) (hmine b hb hn)
     rw [h1]
     have hbl : b ≠ l := λ e => by rw [e, hml] at hn; cases hn
     exact hw1.hold b hb (λ e => e (by rw [<- hmm b hbl]; exact hn))
   . intro b o hb
     have hb2 : (if b = l then some (Obj.loop (vY fn tmps ps x y D .ready)) else υ.m b) = some o := hb
     clear hb
     split at hb2
     . rename_i e; subst e; exact .inr (by rw [hml]; simp)
     . rename_i e
       rcases hw3.mfr b o hb2 with h1 | h1
       . have h1 : w2.heap.size <= b := h1
         exact .inl aC
       . rcases (hM1.mine h1).1 with h2 | h2
         . exact .inl h2
         . exact .inr (by rw [hmm b e]; exact h2)
  | ret => obtain ⟨_, _, _, h⟩ := hq; exact h.elim
  | exit id => obtain ⟨_, _, _, h⟩ := hq; exact h.elim
  | goto t => exact hq.elim
  | panic ch => exact hq.elim
  | outgrown => exact hq.elim
 | ret => obtain ⟨_, _, _, h⟩ := hq; exact h.elim
 | exit id => obtain ⟨_, _, _, h⟩ := hq; exact h.elim
 | goto t => exact hq.elim
 | panic ch => exact hq.elim
 | outgrown => exact hq.elim
theorem KI (w : World) (o : Obj) {b : Nat} (h : b < w.heap.size) : (w.alloc o).heap[b]? = w.heap[b]? := by
 exact Go.RowKit.Below.heap_alloc _ _ _ h
theorem QP (w : World) (o : Obj) : (w.alloc o).heap[w.heap.size]? = some o := World.alloc_heap_new w o
theorem Tp (w : World) : ∀ l : List Value, Ac w (l.map .val) l
 | [] => trivial
 | _ :: l => ⟨rfl, Tp w l⟩
theorem Jn (l : List Value) (i : Nat) (c : CV) (u : Value) (b : Nat) (hi : (l.map CV.val)[i]? = some c) (hb : fN c u = some b) : False := by
 rw [AD] at hi
 cases e : l[i]? with
 | none => rw [e] at hi; cases hi
 | some v => rw [e] at hi; simp at hi; subst hi; simp [fN] at hb
theorem LG (hspecs : ∀ g S, assoc C.specs g = some S -> Sound C.P g S) {ds : List Nat} (hM : MM B ds ι σ a w) {f : Operand} {ps : Array Tmp} {x y : Code} {Q : BR -> St -> Prop} {g : FuncId} {cs : Array Value} (hev : σ.ev f = .at (.val (.func (.func g) #[] cs))) (hx : oN x = true) (hy : oN y = true)
 {Src : PH -> List Value -> List (List Value) -> Prop} (hok : CM C.P g Src) {xs : List (List Value)} (hsrc : Src σ.h cs.toList xs) {I : Nat -> MH -> PH -> Prop} (h0 : I 0 σ.m σ.h)
 (hround : ∀ (k : Nat) (vs : List Value) (m : MH) (h : PH), xs[k]? = some vs -> PH.le σ.h h -> I k m h -> ∃ es : List (Nat × SV), ps.toList = es.map (·.1) /\ DenS (λ _ => .slice none 0 0) (es.map (·.2)) vs /\ Is C x y σ es m h (I (k + 1)))
 (hend : ∀ (m : MH) (h : PH), PH.le σ.h h -> I xs.length m h -> Q .normal (blank σ m h)) : (Code.rangeFunc f ps x y).wp C.P (QM B Q) a w := by
  obtain ⟨hsnd⟩ := hok
  have hw := hM.mod.wrel
  have hev' : a.eval f = .func (.func g) #[] cs := by
   have := hM.mod.ev f
   rw [hev] at this
   exact this
  refine (wpIn_wide (n := 0)).1 (wpIn_rangeFunc ?_)
  intro fn hfn
  obtain ⟨l, hl⟩ : ∃ l, l = w.heap.size + 1 := ⟨_, rfl⟩
  obtain ⟨D, hD⟩ : ∃ D, D = w.heap.size := ⟨_, rfl⟩
  obtain ⟨W1, hW1⟩ : ∃ W1, (w.alloc (.deferred (some []))).alloc (.loop (vY fn a.tmps ps x y D .ready)) = W1 := ⟨_, rfl⟩
  have s1 : W1.heap.size = w.heap.size + 2 := by rw [<- hW1]; simp
  have old : ∀ b, b < w.heap.size -> W1.heap[b]? = w.heap[b]? := λ b hb => by
   rw [<- hW1, KI _ _ (by simp; omega), KI _ _ hb]
  have newD : W1.heap[D]? = some (.deferred (some [])) := by
   rw [<- hW1, hD, KI _ _ (by simp)]; exact QP w _
  have newl : W1.heap[l]? = some (.loop (vY fn a.tmps ps x y D .ready)) := by
   rw [<- hW1, hl]
   have := QP (w.alloc (.deferred (some []))) (.loop (vY fn a.tmps ps x y D .ready))
   rwa [World.size_alloc] at this
  have mlt : ∀ b o, σ.m b = some o -> b < w.heap.size := λ b o hb => (CP.1 (hw.msat b o hb)).1
  have hlast : ∀ b i v, σ.h b i = some v -> b < w.heap.size := λ b i v hv => World.block_lt_of_cell? w ⟨b, i, none⟩ (hw.hsat b i v hv)
  let m1 : MH := λ b => if b = l then some (.loop (vY fn a.tmps ps x y D .ready)) else σ.m b
  have m1l : m1 l = some (.loop (vY fn a.tmps ps x y D .ready)) := by simp [m1]
  have m1o : ∀ b, b ≠ l -> m1 b = σ.m b := λ b hb => if_neg hb
  have hσl : σ.m l = none := by
   cases e : σ.m l with
   | none => rfl
   | some o => have := mlt l o e; omega
  have hpre : wZ W1 m1 σ.h (.val (.func (.yield l) #[] #[]) :: cs.toList.map .val) (.func (.yield l) #[] #[] :: cs.toList) := by
   refine ⟨⟨rfl, Tp _ _⟩, ?_, ?_, ?_, λ i j c d u v b hi _ _ _ hb _ => (Jn (.func (.yield l) #[] #[] :: cs.toList) i c u b hi hb).elim, λ i c u b hi _ hb => (Jn (.func (.yield l) #[] #[] :: cs.toList) i c u b hi hb).elim⟩
   . intro b i v hv
     rw [World.cell?_of_block (w := w) (w' := W1) (a := ⟨b, i, none⟩) (old b (hlast b i v hv))]
     exact hw.hsat b i v hv
   . intro b o hb
     by_cases e : b = l
     . subst e; rw [m1l] at hb; cases hb; exact newl
     . rw [m1o b e] at hb; rw [old b (mlt b o hb)]; exact hw.msat b o hb
   . intro b o hb i
     by_cases e : b = l
     . subst e
       cases e2 : σ.h b i with
       | none => rfl
       | some v => have := hlast _ _ _ e2; omega
     . rw [m1o b e] at hb; exact hw.disj b o hb i
  have notMoved : ∀ b, m1 b = none -> ¬ sQ m1 (.val (.func (.yield l) #[] #[]) :: cs.toList.map .val) (.func (.yield l) #[] #[] :: cs.toList) b := by
   rintro b hb (h1 | ⟨i, c, u, hi, hu, hc⟩)
   . exact h1 hb
   . exact Jn (.func (.yield l) #[] #[] :: cs.toList) i c u b hi hc
  let J : Nat -> MH -> PH -> Prop := λ k mm hh => PH.le σ.h hh /\ ∃ m2, m2 l = none /\ (∀ b, b ≠ l -> mm b = m2 b) /\ mm l = some (.loop (vY fn a.tmps ps x y D .ready)) /\ I k m2 hh
  have hcall := hsnd.2 (.val (.func (.yield l) #[] #[]) :: cs.toList.map .val) (.func (.yield l) #[] #[] :: cs.toList) m1 σ.h W1 (λ _ mm hh => J xs.length mm hh)
   ⟨l, cs.toList, xs, J, rfl, hsrc, ⟨⟨λ _ _ _ e => e⟩, σ.m, hσl, m1o, m1l, h0⟩, ?_, λ _ _ _ _ hJ => hJ⟩ hpre
  . have hrunl : (Instr.enterLoop fn a.tmps ps x y Fence.wide.round).run C.P w = .ok (l, [xT D]) W1 := by
     subst hD hl
     rw [<- hW1]; exact run_enterLoop_outer _ _ _ _ _
    refine ⟨l, [xT D], W1, { target := .fn (.func g) cs, args := #[.func (.yield l) #[] #[]] }, W1, g, (.func (.yield l) #[] #[] :: cs.toList).toArray, W1, hrunl, ?_, λ _ _ => trivial, ?_, λ e => by simp [Fence.wide] at e, callsIn_wide.2 ?_⟩
    . simp only [resolve, rangeCall, hev']
      simp [go_sem]
    . obtain ⟨gf, hf, hbn, hnm⟩ := hsnd.1
      have hbn : ¬ gf.body = none := by intro e; rw [e] at hbn; cases hbn
      have hnm : ¬ gf.name = "runtime.NumGoroutine" := by simpa using hnm
      simp only [invoke, callFunc]
      simp [program, Sem.run, hf, hnm, hbn]
    refine hcall.mono ?_
    rintro e w3 ⟨r, u, mm, hh, rfl, ⟨hle, m2, hm2l, hm2, hml, hI⟩, hok, hw3, _⟩
    have hl3 := hw3.msat l _ hml
    refine ⟨_, _, run_endLoop hl3 (by simp [vY]), ?_⟩
    obtain ⟨w4, hw4⟩ : ∃ w4, w3.putObj l (.loop { vY fn a.tmps ps x y D .ready with state := .exhausted }) = w4 := ⟨_, rfl⟩
    rw [hw4]
    have ne4 : ∀ b, b ≠ l -> w4.heap[b]? = w3.heap[b]? := λ b hb => by rw [<- hw4]; exact World.putObj_heap_other (λ e => hb e)
    have t4 : w4.tape = w3.tape /\ w4.os = w3.os /\ w4.output = w3.output /\ w4.heap.size = w3.heap.size := by rw [<- hw4]; exact ⟨rfl, rfl, rfl, by simp⟩
    have t1 : W1.tape = w.tape /\ W1.os = w.os /\ W1.output = w.output := by rw [<- hW1]; exact ⟨rfl, rfl, rfl⟩
    have h3size : W1.heap.size <= w3.heap.size := hw3.size
    have same : ∀ b, b < w.heap.size -> σ.m b = none -> w4.heap[b]? = w.heap[b]? := λ b hb hn => by
     have hbl : b ≠ l := by omega
     rw [ne4 b hbl, hw3.frame b (by show b < W1.heap.size; omega) (notMoved b (by rw [m1o b hbl]; exact hn)), old b hb]
    have m2some : ∀ b o, m2 b = some o -> mm b = some o /\ b ≠ l := λ b o hb => by
     have hbl : b ≠ l := λ e => by rw [e, hm2l] at hb; cases hb
     exact ⟨by rw [hm2 b hbl]; exact hb, hbl⟩
    have m2old : ∀ b o, m2 b = some o -> W1.heap.size <= b \/ ∃ o', σ.m b = some o' := λ b o hb => by
     obtain ⟨h1, hbl⟩ := m2some b o hb
     rcases hw3.mfr b o h1 with h2 | h2
     . exact .inl h2
     . refine .inr ?_
       cases e : σ.m b with
       | some o' => exact ⟨o', rfl⟩
       | none => exact (notMoved b (by rw [m1o b hbl]; exact e) h2).elim
    have hB : B.w0.heap.size <= w.heap.size := hw.size
    have mB : ∀ b, b < B.w0.heap.size -> ¬ B.E b -> σ.m b = none := λ b hb hn => by
     cases e : σ.m b with
     | none => rfl
     | some o =>
      rcases hw.mfr b o e with h1 | h1
      . exact absurd hb (Nat.not_lt.2 h1)
      . exact (hn h1).elim
    have keepMark : ∀ D', D' ∈ ds -> D' < w.heap.size /\ σ.m D' = none := λ D' hD' => by
     refine ⟨(CP.1 (hM.mark D' hD')).1, ?_⟩
     cases e : σ.m D' with
     | none => rfl
     | some o => exact (hM.mine D' hD' (.inl (by rw [e]; simp))).elim
    have notMine : ∀ b, ¬ (W1.heap.size <= b) -> σ.m b = none -> ¬ KX (λ _ => .slice none 0 0) (blank σ m2 hh) b := by
     rintro b h1 h2 (h3 | ⟨k, o, hk, _⟩)
     . cases e : m2 b with
       | none => exact h3 e
       | some o =>
        rcases m2old b o e with h4 | ⟨o', h4⟩
        . exact h1 h4
        . rw [h2] at h4; cases h4
     . exact CU _ _ _ hk
    have hσD : σ.m D = none := by
     cases e : σ.m D with
     | none => rfl
     | some o => have := mlt D o e; omega
    refine ⟨D :: ds, λ _ => .slice none 0 0, blank σ m2 hh, ⟨?_, ?_, ?_, ?_, ?_⟩, hend m2 hh hle hI⟩
    . refine aH.blank' (Cs hM.mod.slots) ?_ ⟨?_, ?_, ?_, ?_, ?_, ?_, ?_, ?_, ?_, ?_, ?_, ?_⟩
      . show [xT D] ++ a.defers = _
        rw [hM.mod.defers]; rfl
      . rw [t4.1, hw3.tape]; show W1.tape = _; rw [t1.1]; exact hw.tape
      . rw [t4.2.1, hw3.os]; show W1.os = _; rw [t1.2.1]; exact hw.os
      . rw [t4.2.2.1, hw3.output]; show W1.output = _; rw [t1.2.2]; exact hw.output
      . have d4 : w4.drawn = w3.drawn := by rw [<- hw4]; rfl
        have d3 : W1.drawn <= w3.drawn := hw3.drawn
        have d2 : W1.drawn = w.drawn := by rw [<- hW1]; rfl
        have d1 : B.w0.drawn <= w.drawn := hw.drawn
        show B.w0.drawn <= w4.drawn
        omega
      . show B.w0.heap.size <= _; omega
      . intro b hb hnE
        have hb : b < B.w0.heap.size := hb
        rw [same b aC (mB b hb hnE)]
        exact hw.frame b hb hnE
      . intro b i v hv
        have hv3 := hw3.hsat b i v hv
        have hbl : b ≠ l := λ e => by rw [e, JL hl3] at hv3; cases hv3
        rw [World.cell?_of_block (w := w3) (w' := w4) (a := ⟨b, i, none⟩) (ne4 b hbl)]
        exact hv3
      . intro b o hb
        obtain ⟨h1, hbl⟩ := m2some b o hb
        rw [ne4 b hbl]; exact hw3.msat b o h1
      . intro b o hb i
        exact hw3.disj b o (m2some b o hb).1 i
      . intro b i v hv
        exact hle.le _ _ _ (hw.hle b i v hv)
      . intro b hb hnE
        have hb : b < B.w0.heap.size := hb
        have h1 : hh b = σ.h b := hw3.hold b (by show b < W1.heap.size; omega) (notMoved b (by rw [m1o b aC]; exact mB b hb hnE))
        rw [h1]; exact hw.hold b hb hnE
      . intro b o hb
        rcases m2old b o hb with h1 | ⟨o', h1⟩
        . exact .inl (by show B.w0.heap.size <= b; omega)
        . exact hw.mfr b o' h1
    . intro D' hD'
      rcases xA.1 hD' with rfl | h1
      . omega
      . exact hM.size D' h1
    . intro D' hD'
      rcases xA.1 hD' with rfl | h1
      . exact notMine D' aC hσD
      . obtain ⟨h2, h3⟩ := keepMark D' h1
        exact notMine D' aC h3
    . intro D' hD'
      rcases xA.1 hD' with rfl | h1
      . rw [ne4 D' aC, hw3.frame D' (by show D' < W1.heap.size; omega) (notMoved D' (by rw [m1o D' aC]; exact hσD))]
        exact newD
      . obtain ⟨h2, h3⟩ := keepMark D' h1
        rw [same D' h2 h3]; exact hM.mark D' h1
    . refine List.nodup_cons.2 ⟨λ h1 => ?_, hM.nodup⟩
      have := (keepMark D h1).1
      omega
  . rintro k e m' h' hk hle ⟨hle0, m2, hm2l, hm2, hml, hI⟩
    refine ⟨λ w5 hH => ?_⟩
    obtain ⟨es, hps, hes, hV⟩ := hround k e m2 h' hk hle hI
    obtain ⟨fn', tmps', as', bd', hy1, hR⟩ := O4 hspecs (σ := σ) (ι := ι) hx hy hM.mod.slots hps hes hm2l hm2 hml hV w5 hH
    refine ⟨fn', tmps', as', bd', hy1, hR.mono ?_⟩
    rintro ex w6 ⟨u, m6, h6, rfl, ⟨rfl, hle6, m7, q1, q2, q3, q4⟩, hfr⟩
    exact ⟨_, m6, h6, rfl, ⟨rfl, hle6, ⟨λ _ _ _ e => hle6.le _ _ _ (hle0.le _ _ _ e)⟩, m7, q1, q2, q3, q4⟩, hfr⟩
theorem Rt (hspecs : ∀ g S, assoc C.specs g = some S -> Sound C.P g S) {ds : List Nat} (hM : MM B ds ι σ a w) {f : Operand} {ps : Array Tmp} {x y : Code} {Q : BR -> St -> Prop} (h : Ru C f ps x y σ (Q .normal)) : (Code.rangeFunc f ps x y).wp C.P (QM B Q) a w := by
 unfold Ru at h
 split at h
 . rename_i g fs cs hev hnd
   obtain ⟨hx, hy⟩ := Bool.and_eq_true_iff.1 hnd
   split at h
   . rename_i hfs
     obtain rfl : fs = #[] := Oz.1 (by simpa using hfs)
     split at h
     . rename_i p T hps hT
       obtain ⟨Src, xs, I, hok, hsrc, h0, hround, hend⟩ := h
       refine LG hspecs hM hev hx hy hok hsrc h0 (λ k vs m h hk hle hI => ?_) (λ m h hle hI => hend m h hle (by simpa using hI))
       rw [AD] at hk
       cases e : xs[k]? with
       | none => rw [e] at hk; cases hk
       | some z =>
        rw [e] at hk
        simp only [Option.map_some, sW] at hk
        subst hk
        exact ⟨[(p, mk C.P T (((C.dec T).enc z).map .val))], by rw [hps]; rfl, ⟨Rn, trivial⟩, hround k z m h e hle hI⟩
     . rename_i p q T U hps hT
       obtain ⟨Src, xs, I, hok, hsrc, h0, hround, hend⟩ := h
       refine LG hspecs hM hev hx hy hok hsrc h0 (λ k vs m h hk hle hI => ?_) (λ m h hle hI => hend m h hle (by simpa using hI))
       rw [AD] at hk
       cases e : xs[k]? with
       | none => rw [e] at hk; cases hk
       | some z =>
        rw [e] at hk
        simp only [Option.map_some, sW] at hk
        subst hk
        exact ⟨[(p, mk C.P T (((C.dec T).enc z.1).map .val)), (q, mk C.P U (((C.dec U).enc z.2).map .val))], by rw [hps]; rfl, ⟨Rn, Rn, trivial⟩, hround k z.1 z.2 m h e hle hI⟩
     . exact h.elim
   . exact h.elim
 . exact h.elim
theorem UB (hspecs : ∀ g S, assoc C.specs g = some S -> Sound C.P g S) : ∀ (c : Code) (σ : St) (Q : BR -> St -> Prop) (ds : List Nat) (ι : Nat -> Value) (a : Act) (w : World), MM B ds ι σ a w -> V2 C c σ Q -> c.wp C.P (QM B Q) a w := by
 intro c
 induction c with
 | rangeFunc f ps x y _ _ => intro σ Q ds ι a w hM h; exact Rt hspecs hM h
 | seq x y ihx ihy =>
  intro σ Q ds ι a w hM h
  simp only [V2] at h
  split at h
  . exact yH hspecs hM h
  . split at h
    . obtain ⟨I, h, hall⟩ := h
      refine wp_seq (wp_mono (ihx σ _ ds ι a w hM h) ?_)
      intro e a' w' hq
      cases e with
      | normal =>
       obtain ⟨ds', ι', σ', hM', hm⟩ := hq
       obtain ⟨x', ι2, hx', hM2⟩ := uW hM'.here hm
       exact ihy _ Q ds' ι2 a' w' (hM'.retag hM2) (hall x' hx')
      | exit id => exact hq
      | ret => exact hq
      | goto l => exact hq
      | panic ch => exact hq
      | outgrown => exact hq
    . refine wp_seq (wp_mono (ihx σ _ ds ι a w hM h) ?_)
      intro e a' w' hq
      cases e with
      | normal =>
       obtain ⟨ds', ι', σ', hM', h'⟩ := hq
       exact ihy σ' Q ds' ι' a' w' hM' h'
      | exit id => exact hq
      | ret => exact hq
      | goto l => exact hq
      | panic ch => exact hq
      | outgrown => exact hq
 | cond c x y ihx ihy =>
  intro σ Q ds ι a w hM h
  simp only [V2] at h
  split at h
  . exact yH hspecs hM h
  . split at h
    . rename_i t hc
      have hev := hM.mod.ev c
      rw [hc] at hev
      have hev : a.eval c = .bool t := hev
      rcases qV h with ⟨rfl, h⟩ | ⟨rfl, h⟩
      . exact wp_cond_true hev (ihx _ Q ds ι a w (hM.retag (hM.here.setTmp hc)) h)
      . exact wp_cond_false hev (ihy _ Q ds ι a w (hM.retag (hM.here.setTmp hc)) h)
    . exact h.elim
 | block id c ih =>
  intro σ Q ds ι a w hM h
  simp only [V2] at h
  split at h
  . exact yH hspecs hM h
  . refine wp_block (wp_mono (ih σ _ ds ι a w hM h) ?_)
    intro e a' w' hq
    cases e with
    | normal => exact hq
    | exit i =>
     obtain ⟨ds', ι', σ', hM', h'⟩ := hq
     show if i = id then _ else _
     simp only at h'
     split at h'
     . rename_i hb
       rw [if_pos (Gg hb)]
       exact ⟨ds', ι', σ', hM', h'⟩
     . rename_i hb
       rw [if_neg (λ e => by subst e; simp at hb)]
       exact ⟨ds', ι', σ', hM', h'⟩
    | ret => exact hq
    | goto l => exact hq
    | panic ch => exact hq
    | outgrown => exact hq
 | _ => intro σ Q ds ι a w hM h; exact yH hspecs hM h
theorem Jz (hM : aH B ι σ a w) : ∀ {l : List ResultVar} {K : List Value -> Prop}, Yb C σ l K -> ∃ vs, (l.mapM (GP a.tmps)).run C.P w = .ok vs w /\ K vs
 | [], K, h => ⟨[], by simp, h⟩
 | .tmp t :: r, K, h => h.elim
 | .cell t T :: r, K, h => by
  simp only [Yb] at h
  split at h
  . rename_i b off hs hT
    obtain ⟨y, hrd, h⟩ := h
    split at h
    . rename_i hlen
      have hlen := Gg hlen
      split at h
      . rename_i v hv
        obtain ⟨vs, h1, h2⟩ := Jz hM h
        have hev := hM.ev (.tmp t)
        have hx : σ.ev (.tmp t) = .at (.val (.pointer (some ⟨b, off, none⟩))) := by simp only [St.ev, hs]
        rw [hx] at hev
        have hp' : a.tmps.getD t undef = .pointer (some ⟨b, off, none⟩) := hev
        have hl := uV (w := w) (b := b) (off := off) (cs := (C.dec T).enc y) hT hlen (AN hM.wrel hrd)
        have hd := Et (P := C.P) (T := T) (ι := ι) (ats := ((C.dec T).enc y).map .val) (cs := (C.dec T).enc y) (by rw [fR.vals])
        have hv2 := hd.val? hv
        refine ⟨v :: vs, ?_, h2⟩
        simp only [List.mapM_cons, GP, hp', asAddr, Sem.run_bind, Sem.run_pure, Result.andThen_ok, hl, h1, hv2]
      . exact h.elim
    . exact h.elim
  . exact h.elim
theorem Rc (hM : aH B ι σ a w) {fn : Func} {K : CV -> MH -> PH -> Prop} (h : Gu C fn K σ) :
 ∃ u, (results fn a.tmps).run C.P w = .ok u w /\ ∃ r m' h', K r m' h' /\ DS w r u /\ Ab B m' h' w /\ ∀ b, fN r u = some b -> (B.w0.heap.size <= b \/ B.E b) /\ m' b = none /\ ∀ i, h' b i = none := by
 unfold Gu at h
 split at h
 . exact Lu hM h
 . obtain ⟨vs, hvs, hK⟩ := Jz hM h
   have hres : (results fn a.tmps).run C.P w = .ok (if h : vs.toArray.size = 1 then vs.toArray[0] else .tuple vs.toArray) w := by
    rw [Jy, Array.mapM_eq_mapM_toList]
    simp [hvs]
   split at hK
   . rename_i v
     exact ⟨v, by simpa using hres, .val v, σ.m, σ.h, hK, rfl, hM.wrel, λ b hb => by simp [fN] at hb⟩
   . rename_i hne
     have hnl : vs.length ≠ 1 := λ e => by
      match vs, e with
      | [v], _ => exact hne v rfl
     exact ⟨.tuple vs.toArray, by rw [hres, dif_neg (by simpa using hnl)], .tup (vs.map .val), σ.m, σ.h, hK, ⟨vs.toArray, rfl, by simp⟩, hM.wrel, λ b hb => by simp [fN] at hb⟩
theorem HR {F : Fence} {n : Nat} {R : Ending -> World -> Prop} {fn : Func} {Kc : CV -> MH -> PH -> Prop} (hret : Gu C fn Kc σ)
 (hR : ∀ u w', (∃ r m' h', Kc r m' h' /\ DS w' r u /\ Ab B m' h' w' /\ ∀ b, fN r u = some b -> (B.w0.heap.size <= b \/ B.E b) /\ m' b = none /\ ∀ i, h' b i = none) -> R (.returned u) w') :
 ∀ (ds : List Nat) (a : Act) (w : World), MM B ds ι σ a w -> LeavesInM F n C.P fn a.tmps R (ds.map xT) .returning w
 | [], a, w, hM => by
  obtain ⟨u, hu, r, m', h', hK, hok, hw, hb⟩ := Rc hM.mod hret
  refine ⟨u, hu, hR u w ⟨r, m', h', hK, hok, ⟨hw.tape, hw.os, hw.output, hw.drawn, hw.size, hw.frame, hw.hsat, hw.msat, hw.disj, hw.hle, hw.hold, hw.mfr⟩, hb⟩⟩
 | D :: ds, a, w, hM => by
  have hD := hM.mark D (Gh ..)
  refine ⟨by simp, .inl ⟨D, _, rfl, run_takeDeferred hD, HR hret hR ds { a with defers := ds.map xT } _ ?_⟩⟩
  have hg : w.grownBy (w.putObj D (.deferred none)) (some D) := grownBy_putObj' w D _
  have hM2 := hM.mod.grown hg (BH _) (λ r e => by
   cases e
   exact ⟨hM.size D (Gh ..), hM.mine D (Gh ..), _, hD, rfl⟩)
  have hnd := List.nodup_cons.1 hM.nodup
  refine ⟨⟨hM2.slots, ?_, hM2.own, hM2.dist, hM2.fresh, ⟨hM2.wrel.tape, hM2.wrel.os, hM2.wrel.output, hM2.wrel.drawn, hM2.wrel.size, hM2.wrel.frame, hM2.wrel.hsat, hM2.wrel.msat, hM2.wrel.disj, hM2.wrel.hle, hM2.wrel.hold, hM2.wrel.mfr⟩, hM2.one⟩, λ D' h => hM.size D' (D3 _ h), λ D' h => hM.mine D' (D3 _ h), λ D' h => ?_, hnd.2⟩
  . rfl
  . rw [World.putObj_heap_other (fun (e : D' = D) => hnd.1 (by rw [<- e]; exact h))]
    exact hM.mark D' (D3 _ h)
theorem LK {P : Program} {f : FuncId} {fn : Func} {c : Code} (hf : P.funcs[f]? = some fn) (hb : fn.body = some c) (hname : (fn.name == "runtime.NumGoroutine") = false) {S : Spec}
 (hvc : ∀ cvs m h K, S cvs m h K -> ∃ C : Ctx, C.P = P /\ (∀ g S, assoc C.specs g = some S -> Sound P g S) /\ TM C fn c (entry fn.ntmps cvs m h) K) : Sound P f S := by
 refine ⟨⟨fn, hf, by rw [hb]; rfl, hname⟩, ?_⟩
 intro cvs vs m h w K hS hp
 obtain ⟨C, rfl, hspecs, hv⟩ := hvc cvs m h K hS
 refine callsIn_wide.1 (callsIn_of_wp_marks (n := 0) hf hb trivial (wpIn_wide.2 ?_))
 have hM0 : MM ⟨w, sQ m cvs vs, h, []⟩ [] (HT fn.ntmps cvs vs) (entry fn.ntmps cvs m h) { tmps := vs.toArray ++ Array.replicate (fn.ntmps - vs.toArray.size) undef, defers := [] } w :=
  ⟨FW fn.ntmps hp, λ _ hD => (List.not_mem_nil hD).elim, λ _ hD => (List.not_mem_nil hD).elim, λ _ hD => (List.not_mem_nil hD).elim, List.nodup_nil⟩
 refine wp_mono (UB hspecs c _ _ _ _ _ w hM0 hv) ?_
 intro e a' w' hq
 have key : (∃ ds ι σ, MM ⟨w, sQ m cvs vs, h, []⟩ ds ι σ a' w' /\ Gu C fn K σ) -> LeavesInM Fence.wide 0 C.P fn a'.tmps (λ e w' => ∃ r u m' h', e = .returned u /\ K r m' h' /\ DS w' r u /\ Ab ⟨w, sQ m cvs vs, h, []⟩ m' h' w' /\
  (∀ b, fN r u = some b -> (w.heap.size <= b \/ sQ m cvs vs b) /\ m' b = none /\ ∀ i, h' b i = none)) a'.defers .returning w' := by
  rintro ⟨ds, ι, σ, hM, hr⟩
  rw [hM.mod.defers]
  exact HR hr (λ u w'' ⟨r, m', h', h1, h2, h3, h4⟩ => ⟨r, u, m', h', rfl, h1, h2, h3, h4⟩) ds a' w' hM
 cases e with
 | normal => exact key hq
 | ret => exact key hq
 | exit id => obtain ⟨_, _, _, _, h⟩ := hq; exact h.elim
 | goto l => exact hq.elim
 | panic ch => exact hq.elim
 | outgrown => exact hq.elim
theorem Rv {P : Program} {f : FuncId} {fn : Func} {c : Code} (hf : P.funcs[f]? = some fn) (hb : fn.body = some c) (hname : (fn.name == "runtime.NumGoroutine") = false) {S : Spec}
 (hvc : ∀ cvs m h K, S cvs m h K -> ∃ C : Ctx, C.P = P /\ (∀ g S, assoc C.specs g = some S -> Sound P g S) /\ TM C fn c (entry fn.ntmps cvs m h) (cZ h K)) : Sound P f S :=
 .strong (LK hf hb hname (S := λ cvs m h K => ∃ K', S cvs m h K' /\ K = cZ h K') (by
  rintro cvs m h K ⟨K', hS, rfl⟩
  exact hvc cvs m h K' hS))
end
end Go.Vc
namespace Go.Ps
open Go Go.Vc Go.Proofs
variable {K : CV -> MH -> PH -> Prop} {m : MH} {h : PH} {s : nX} {ps : List Int} {cb : Nat} {sc : bL} {v : QV} {q : Query} {p : Pred} {l : List Int} {i : Nat} {N : Nat} {m' : MH} {h' : PH} {co : List Int} {gr : List Int} {od : List (Int × Bool)} {w : Pred} {ta : Int} {li : Int} {xs : List (List Value)} {sz : Nat} {k : Nat} {ks : List (List Int)} {rs : List Int} {r : Sl} {a : List Int} {b : Nat}
def K9 (b : Nat) : Value := .func (.func 147) #[] #[.pointer (some ⟨b, 0, none⟩)]
structure D2 (h : PH) (b : Nat) (us : List Sl) : Prop where
 ex : ∃ s : Sl, aZ h b 0 [s.val] /\ cN h s 1 (us.map eS) /\ us.length <= 502633886983
theorem D2.mono {us : List Sl} (x : D2 h b us) (le : PH.le h h') : D2 h' b us := by
 obtain ⟨s, h1, h2, h3⟩ := x.ex
 exact ⟨s, h1.mono le, h2.mono le, h3⟩
def tM : PH -> List Value -> List (List Value) -> Prop := λ h caps xs => ∃ b us, caps = [.pointer (some ⟨b, 0, none⟩)] /\ D2 h b us /\ xs = us.map eS
noncomputable def N2 (specs : List (Nat × Vc.Spec)) (loops : List (Nat × pA)) (cuts : List (Nat × pA)) (heapT : List TypeId) : Ctx := { vO specs loops cuts [] heapT [] false with elemT := [74] }
def MX : Vc.Spec := λ cvs m h K => ∃ s, cvs = [cS s] /\ ∀ b h', PH.le h h' -> aZ h' b 0 [s.val] -> K (.val (K9 b)) m h'
def Oy : Vc.Spec := λ cvs m h K => ∃ s b us vs, cvs = [cS s, .val (K9 b)] /\ dC m s 74 1 (us.map eS) /\ D2 h b vs /\ us.length <= 502633886983 /\
 ∀ s' m', dC m' s' 74 1 ((us ++ vs).map eS) -> (∀ x o, m x = some o -> (∀ i, s.a ≠ some ⟨x, i, none⟩) -> m' x = some o) -> (∀ x i, s'.a = some ⟨x, i, none⟩ -> m x = none \/ ∃ i, s.a = some ⟨x, i, none⟩) -> K (cS s') m' h
def Q0 : Vc.Spec := λ cvs m h K => ∃ b vs, cvs = [.val (K9 b)] /\ D2 h b vs /\
 ∀ s' m', dC m' s' 74 1 (vs.map eS) -> (∀ x o, m x = some o -> m' x = some o) -> (∀ x i, s'.a = some ⟨x, i, none⟩ -> m x = none) -> K (cS s') m' h
noncomputable def W3 (b : Nat) (l : Nat) (s : Sl) : Ctx :=
 { dM [] [(1, { A := Nat × MH × PH, st := λ ⟨i, m, h⟩ => cH 16 18 [(0, vv (.func (.yield l) #[] #[])), (1, vv (.pointer (some ⟨b, 0, none⟩))), (5, sv s), (6, iv s.len), (7, iv i)] [] m h })] [] [] false with yield := some (Xv Tryz.prog) }
noncomputable abbrev xR (a b : Nat) : Value := Cm 147 (Array.mk (iK (UC a b)))
attribute [push_cast] xR
def Hh (s : Sl) (m : MH) (h : PH) (K : CV -> MH -> PH -> Prop) : Prop :=
  ∀ (b : Nat) (m1 : MH), bK (cD m h b) (bG m m1 b (aM s) 53) (K (CV.val (xR b 0)) m1 h)
abbrev Fu (a : Nat) : Prop := eQ (SV.at (At.val (Value.func (Fn.yield a) JW JW)))
noncomputable abbrev dD (a : Nat × MH × PH) : Nat -> Option Obj := a.2.1
noncomputable abbrev cO (a : Nat × MH × PH) : Nat -> Nat -> Option Value := a.2.2
noncomputable abbrev wL (a : Nat) : CV := CV.val (Value.func (Fn.yield a) JW JW)
attribute [push_cast] Fu dD cO wL
def Mv (b l : Nat) (s : Sl) (m : MH) (h : PH) (K : CV -> MH -> PH -> Prop) : Prop :=
  hP m h b 0 (λ y => ∃ (I : Nat × MH × PH -> Prop) (m1 : Nat × MH × PH -> Nat), (∃ (x : Nat × MH × PH), aA (I x) (Fu l) (aA (dE b) (bD y s) (aA (cM y s) (bC x.1) (aA (bJ m x.2) (cE h x.2) True)))) /\ ∀ (x : Nat × MH × PH), I x -> bA (↑x.1 : Int) (aG s) (aT (λ b1 o => aA (aU s.a b1 o) (0 <= (↑x.1 : Int)) ((↑x.1 : Int) < aG s /\ ∃ (y1 : Sl), aA (aL (dD x) (cO x) b1 (bN o x.1 1) (aM y1)) (Od Proofs.Tryz.prog (Xv Proofs.Tryz.prog)) (∃ (l1 : Nat) (v : List Value) (R : Bool -> MH -> PH -> Prop), aA (aX (wL l) (cK y1) = wL l1 :: List.map CV.val v) (YDo Proofs.Tryz.prog l1 v (dD x) (cO x) R) (∀ (u : Bool), dW (λ m2 h1 => fP (R u m2 h1) (!u) (K (CV.tup []) m2 h1) (∃ (x1 : Nat × MH × PH), aA (I x1) (m1 x1 < m1 x) (aA (Fu l) (dE b) (aA (aI s) (bI s) (aA (fK (bE
 x.1 1) = bV x1.1) (bJ m2 x1.2) (lF h1 x1.2))))))))))) (K (CV.tup []) (dD x) (cO x)))
abbrev pW (a : PH -> List Value -> List (List Value) -> Prop) (b : Nat -> Nat -> Option Value) (c : Nat) (d : MH) (e : (List Sl) -> (Nat -> MH -> PH -> Prop) -> Nat -> Sl -> Prop) (g : MH -> PH -> Prop) : Prop := ∃ (x : List Sl) (x1 : Nat -> MH -> PH -> Prop), aA (CM Proofs.Tryz.prog 147 a) (a b (iK (UC c 0)) (List.map (fun (x2 : Sl) => aM x2) x)) (aA (x1 0 d b) (∀ (x2 : Nat) (x3 : Sl), e x x1 x2 x3) (dW (λ x2 x3 => dG b x3 (x1 x.length x2 x3) (g x2 x3))))
abbrev tD (a : List Sl) (b : Nat) (c : Sl) : Prop := a[b]? = Option.some c
abbrev CY (a : MH) (b : PH) (c : Nat) (d : Sl -> (List (List Value)) -> Prop) : Prop := ∃ (x : Sl), aL a b c 0 (aM x) /\ ∃ (x1 : List (List Value)), aA (dC a (dA x) 74 1 x1) (gH ((x1.length + 1) * 24)) (iA x1 /\ d x x1)
attribute [push_cast] pW tD CY
def Ml (s : Sl) (b : Nat) (m : MH) (h : PH) (K : CV -> MH -> PH -> Prop) : Prop :=
  ∀ (b1 : Nat) (m1 : MH), bK (cD m h b1) (bG m m1 b1 (aM s) 53) (∃ (S : PH -> List Value -> List (List Value) -> Prop), pW S h b m1 (λ x I k e => dW (λ m2 h1 => bK (tD x k e) (PH.le h h1) (I k m2 h1 -> CY m2 h1 b1 (λ y x1 => gO (λ s1 m3 => eC m2 m3 (dA y) s1 74 1 (jB x1 e) -> gG (λ c E => aA (uT m3 b1 (eV c E 0)) (fD 0 c) (∀ (m4 : MH), bG m3 m4 b1 (eU (eA s1) 1 c) E -> I (k + 1) m4 h1))))))) (λ m2 h1 => hP m2 h1 b1 0 (λ y => K (cK y) m2 h1)))
abbrev JR (a : Nat -> (List Sl) -> Prop) : Prop := ∃ (x : Nat) (x1 : List Sl), a x x1
attribute [push_cast] JR
def Vw (b : Nat) (m : MH) (h : PH) (K : CV -> MH -> PH -> Prop) : Prop :=
  ∃ (s : Sl), JR (λ b1 u => ∃ (v : List Sl), aA (aX jZ (CV.val (xR b 0)) = aX (cK s) (CV.val (xR b1 0))) (dC m s 74 1 (qK u)) (aA (D2 h b1 v) (Eg u.length) (∀ (s1 : Sl), Fc s1 1 (u ++ v) (λ m1 x o => bK (m x = Option.some o) (∀ (i : Nat), jO (aU s.a x i)) (m1 x = Option.some o)) (λ x => Bp m x \/ ∃ (i : Nat), aU s.a x i) (λ m1 => K (cK s1) m1 h))))
def kY (h : PH) (b : Nat) (l : List Value) : PH := λ b' i => if b' = b then l[i]? else h b' i
theorem zC {l : List Value} (hb : ∀ i, h b i = none) : PH.le h (kY h b l) := ⟨λ b' i v e => by
 have : b' ≠ b := λ e2 => by rw [e2, hb] at e; cases e
 simp only [kY, if_neg this]; exact e⟩
theorem TJ {l : List Value} : aZ (kY h b l) b 0 l := ⟨λ i v e => by simp only [kY, if_true, Ih]; exact e⟩
theorem Yp {f : FuncId} {fn : Func} (hf : Tryz.prog.funcs[f]? = some fn) {S : Vc.Spec} (hvc : ∀ cvs m h K, S cvs m h K -> ∃ C : Ctx, C.P = Tryz.prog /\ (∀ g S, assoc C.specs g = some S -> Sound Tryz.prog g S) /\ ∃ N : Prop, N = Ap C fn (dK fn) (entry fn.ntmps cvs m h) (cZ h K) /\ N) (hb : fn.body = some (dK fn) := by rfl) (hname : (fn.name == "runtime.NumGoroutine") = false := by decide) : Sound Tryz.prog f S := UW hf hb hname λ cvs m h K hS => let ⟨C, hC, hs, N, e, hn⟩ := hvc cvs m h K hS; ⟨C, hC, hs, e ▸ hn⟩
theorem SD : Sound Tryz.prog 117 MX := by
 refine Yp Tryz.func117 ?_
 rintro cvs m h K ⟨s, rfl, hK⟩
 refine ⟨dM [] [] [] [] false, rfl, aF, Hh s m h (cZ h K), by kernel_rfl, ?_⟩
 show Hh s m h (cZ h K)
 dsimp only [Hh, push_cast]
 intro b m' hun hu hd
 have sub : ∀ b' o, m b' = some o -> m' b' = some o := λ b' o hb' => by
  rw [hu.other b' (λ e => by rw [e, hun.m_] at hb'; cases hb')]; exact hb'
 refine ⟨m, kY h b [s.val], sub, zC hun.h_, λ b' i v e => ?_, hK b _ (zC hun.h_) TJ⟩
 by_cases hb : b' = b
 . subst hb
   simp only [kY, if_true] at e
   exact .inr ⟨_, _, _, hu.at_, by simpa [Sl.val] using e, hun.m_⟩
 . simp only [kY, if_neg hb] at e
   exact .inl e
theorem Sd : Sound Tryz.prog 147 (XQ Tryz.prog tM) := by
 refine gX Tryz.func147 ?_
 rintro cvs m h K ⟨l, caps, xs, J, rfl, ⟨b, us, rfl, hseq, rfl⟩, h0, hround, hend⟩
 obtain ⟨s, hb, hr, hl⟩ := hseq.ex
 refine ⟨W3 b l s, rfl, aF, Mv b l s m h K, by kernel_rfl, ?_⟩
 dsimp only [Mv, push_cast]
 have hlen := hr.len
 simp only [mI] at hlen
 refine ⟨s, .imm hb, λ x => x.1 <= us.length /\ PH.le h x.2.2 /\ J x.1 x.2.1 x.2.2, λ x => us.length - x.1, ⟨(0, m, h), ⟨by simp, .refl _, h0⟩, MT⟩, ?_⟩
 rintro ⟨i, mx, hx⟩ ⟨hi, le, hJ⟩
 dsimp only at hi le hJ ⊢
 refine aE (λ hlt => ?_) (λ hge => hend _ mx hx le (by have e : i = us.length := aC; simp only [mI]; rw [<- e]; exact hJ))
 obtain ⟨u, hu⟩ : ∃ u, us[i]? = some u := ⟨_, kP aC⟩
 obtain ⟨b1, o1, e1, r1⟩ := hr.get (i := i) (e := eS u) (by simp [hu])
 refine ⟨b1, o1, e1, aC, hlt, u, .imm (r1.mono le), Jk _, l, _, _, rfl, hround i (eS u) mx hx (by simp [hu]) le hJ, ?_⟩
 rintro t m' h' ⟨rfl, le', hJ'⟩
 exact ⟨(i + 1, m', h'), ⟨by dsimp only; omega, le.trans le', hJ'⟩, (by dsimp only; omega), MT⟩
theorem sL : CM Tryz.prog 147 tM := ⟨Sd⟩
theorem ahJ {f : FuncId} {fn : Func} (hf : Tryz.prog.funcs[f]? = some fn) {S : Vc.Spec} (hvc : ∀ cvs m h K, S cvs m h K -> ∃ C : Ctx, C.P = Tryz.prog /\ (∀ g S, assoc C.specs g = some S -> Sound Tryz.prog g S) /\ ∃ N : Prop, N = TM C fn (dK fn) (entry fn.ntmps cvs m h) K /\ N) (hb : fn.body = some (dK fn) := by rfl) (hname : (fn.name == "runtime.NumGoroutine") = false := by decide) : Sound Tryz.prog f S := LK hf hb hname λ cvs m h K hS => let ⟨C, hC, hs, N, e, hn⟩ := hvc cvs m h K hS; ⟨C, hC, hs, e ▸ hn⟩
theorem Ko : Sound Tryz.prog 188 Oy := by
 refine ahJ Tryz.func188 ?_
 rintro cvs m h K ⟨s, b, us, vs, rfl, hr, hs, hl, hK⟩
 refine ⟨N2 [] [] [] [200002, 1053], rfl, aF, Ml s b m h K, by kernel_rfl, ?_⟩
 dsimp only [Ml, push_cast]
 intro b1 m1 hun hu
 have hvl : vs.length <= 502633886983 := by obtain ⟨_, _, _, h3⟩ := hs.ex; exact h3
 have sub : ∀ x o, m x = some o -> m1 x = some o /\ x ≠ b1 := λ x o hx => by
  have : x ≠ b1 := λ e => by rw [e, hun.m_] at hx; cases hx
  exact ⟨by rw [hu.other x this]; exact hx, this⟩
 have hsb : ∀ i, s.a ≠ some ⟨b1, i, none⟩ := λ i e => by
  obtain ⟨o, ho⟩ := dC.blk hr e
  exact (sub b1 _ ho).2 rfl
 refine ⟨tM, vs, λ k mx hx => hx = h /\ ∃ s', mx b1 = some (.cells #[.slice s'.a s'.len s'.cap] 53 (0, 0)) /\ dC mx s' 74 1 ((us ++ vs.take k).map eS) /\ (∀ i, s'.a ≠ some ⟨b1, i, none⟩) /\ (∀ x o, m x = some o -> (∀ i, s.a ≠ some ⟨x, i, none⟩) -> mx x = some o /\ ∀ i, s'.a ≠ some ⟨x, i, none⟩) /\ (∀ x i, s'.a = some ⟨x, i, none⟩ -> m x = none \/ ∃ i, s.a = some ⟨x, i, none⟩),
  sL, ⟨b, vs, rfl, hs, rfl⟩, ⟨rfl, s, hu.at_, ?_, hsb, λ x o hx hn => ⟨(sub x o hx).1, hn⟩, λ x i e => .inr ⟨i, e⟩⟩, ?_, ?_⟩
 . rw [List.take_zero, OE]
   exact dC.keep hr (λ x i e => by
    obtain ⟨o, ho⟩ := dC.blk hr e
    rw [(sub x _ ho).1, ho])
 . rintro k e mx hx hk - ⟨rfl, s', hb1, hrow, hnb, hoth, hfr⟩
   have hkl := (mG.1 hk).1
   refine ⟨s', .of_m hb1 rfl, _, hrow, by simp; omega, by simp; omega, λ s2 m2 hg => ⟨_, _, ⟨hg.other b1 _ hb1 hnb⟩, by simp, λ m3 hu3 => ⟨rfl, s2, hu3.at_, ?_, ?_, ?_, ?_⟩⟩⟩
   . have e1 : (us ++ vs.take (k + 1)).map eS = (us ++ vs.take k).map eS ++ [eS e] := by
      rw [EA, hk]; simp
     rw [e1]
     refine dC.keep hg.row (λ x i e2 => hu3.other x (λ e3 => ?_))
     subst e3
     rcases hg.fresh x i e2 with h1 | ⟨j, h1⟩
     . rw [hb1] at h1; cases h1
     . exact hnb j h1
   . intro i e2
     rcases hg.fresh b1 i e2 with h1 | ⟨j, h1⟩
     . rw [hb1] at h1; cases h1
     . exact hnb j h1
   . intro x o hx hn
     obtain ⟨h1, h2⟩ := hoth x o hx hn
     refine ⟨by rw [hu3.other x (sub x o hx).2]; exact hg.other x o h1 h2, λ i e2 => ?_⟩
     rcases hg.fresh x i e2 with h3 | ⟨j, h3⟩
     . rw [h1] at h3; cases h3
     . exact h2 j h3
   . intro x i e2
     rcases hg.fresh x i e2 with h3 | ⟨j, h3⟩
     . cases e4 : m x with
       | none => exact .inl rfl
       | some o =>
        refine .inr (Classical.byContradiction λ hn => ?_)
        have := (hoth x o e4 (λ i e => hn ⟨i, e⟩)).1
        rw [h3] at this; cases this
     . exact hfr x j h3
 . rintro mx hx - ⟨rfl, s', hb1, hrow, hnb, hoth, hfr⟩
   rw [Ig] at hrow
   exact ⟨s', .of_m hb1 rfl, hK s' mx hrow (λ x o hx hn => (hoth x o hx hn).1) hfr⟩
theorem RW : Sound Tryz.prog 189 Q0 := by
 refine gX Tryz.func189 ?_
 rintro cvs m h K ⟨b, vs, rfl, hs, hK⟩
 refine ⟨dM [(188, Oy)] [] [] [] false, rfl, aD Ko aF, Vw b m h K, by kernel_rfl, ?_⟩
 exact ⟨⟨none, 0, 0⟩, b, [], vs, rfl, ⟨Ai [], .inl ⟨rfl, rfl⟩⟩, hs, by simp, λ s' m' hr ho hf => hK s' m' hr (λ x o hx => ho x o hx (λ i e => by cases e)) (λ x i e => (hf x i e).elim id λ ⟨j, e⟩ => by cases e)⟩
structure Zp (v : VV) : Prop where
 kind : Oq v.kind
 int : Oq v.int
 text : v.text.size <= 64
structure OA (r : List VV) : Prop where
 len : r.length <= 12
 val : ∀ v ∈ r, Zp v
def BP (v : VV) : List UInt8 := kD v.kind ++ 58 :: (kD v.int ++ 58 :: (kD (v.text.size : Int) ++ 58 :: v.text.data.toList))
def Am (r : List VV) : List UInt8 := r.flatMap BP
def cQ (r : List VV) : ByteArray := ⟨(Am r).toArray⟩
def pick (r : List VV) (cols : List Int) : List VV := cols.map λ c => r.getD c.toNat zeroV
structure gC (n : Nat) (cols : List Int) : Prop where
 at_ : ∀ c ∈ cols, 0 <= c /\ c < n
 len : cols.length <= 100000
def XV : Vc.Spec := λ cvs m h K => ∃ xs v, cvs = [.lst 5 1 xs, aV v] /\ jY m /\ v.text.size <= 64 /\ xs.length + 300 <= 140737488355328 /\ K (.lst 5 1 (xs ++ bF (BP v))) m h
def XO : Vc.Spec := λ cvs m h K => ∃ s t r cols, cvs = [cS s, cS t] /\ cJ h s r /\ Ints h t cols /\ OA r /\ gC r.length cols /\ jY m /\ K (N6 (cQ (pick r cols))) m h
def Up : Vc.Spec := λ cvs m h K => ∃ s r, cvs = [cS s] /\ cJ h s r /\ OA r /\ jY m /\ K (N6 (cQ r)) m h
def jU (on : List (Int × Int)) : List Int := on.map Prod.fst
def fH (on : List (Int × Int)) : List Int := on.map Prod.snd
def S9 : Vc.Spec := λ cvs m h K => ∃ s on, cvs = [cS s] /\ lK h s on /\ ∀ a b h', PH.le h h' -> Ints h' a (jU on) -> Ints h' b (fH on) -> K (.tup [cS a, cS b]) m h'
def Q2 : Vc.Spec := λ cvs m h K => ∃ s t r cols, cvs = [cS s, cS t] /\ cJ h s r /\ Ints h t cols /\ gC r.length cols /\ K (cB ((pick r cols).all lI)) m h
def XT : Vc.Spec := λ cvs m h K => ∃ n : Nat, cvs = [.val (.slice none 0 0), cI n] /\ n <= 1000 /\ K (.lst 27 3 []) m h
def QZ : Vc.Spec := λ cvs m h K => ∃ ss rs, cvs = [cS ss] /\ Rows h ss rs /\ rs.length <= 10 /\ (∀ r ∈ rs, r.length <= 12) /\ ∀ sl h', PH.le h h' -> cJ h' sl rs.flatten -> K (cS sl) m h'
noncomputable def WL : Ctx := vO [(223, Uy)] [] [] [] [] [(223, [0])] true
noncomputable def WQ (s t : Sl) (m : MH) (h : PH) : Ctx :=
 vO [(208, XV)] [(3, { A := Nat × List UInt8, st := λ ⟨i, l⟩ => cH 23 25 [(0, sv s), (5, .at (.lst 19)), (8, sv t), (9, iv t.len), (10, iv i)] [(19, .lst 5 1 (bF l))] m h })] [] [] [] [(208, [0])] false
noncomputable def WK (s : Sl) (m : MH) (h : PH) : Ctx :=
 vO [(208, XV)] [(3, { A := Nat × List UInt8, st := λ ⟨i, l⟩ => cH 18 19 [(3, .at (.lst 14)), (6, sv s), (7, iv s.len), (8, iv i)] [(14, .lst 5 1 (bF l))] m h })] [] [] [] [(208, [0])] false
noncomputable def WS (s : Sl) (m : MH) (h : PH) : Ctx :=
 dM [] [(2, { A := Nat × List Int × List Int, st := λ ⟨i, l, k⟩ => cH 25 26 [(2, .at (.lst 16)), (3, .at (.lst 21)), (6, sv s), (7, iv s.len), (8, iv i)] [(16, .lst 3 1 (l.map eI)), (21, .lst 3 1 (k.map eI))] m h })] [] [] false
noncomputable def WR (s t : Sl) (m : MH) (h : PH) : Ctx :=
 dM [(203, M1)] [(2, { A := Nat, st := λ i => cH 20 22 [(0, sv s), (7, sv t), (8, iv t.len), (9, iv i)] [] m h })] [] [] false
noncomputable def WO (ss : Sl) (m : MH) (h : PH) : Ctx :=
 dM [(209, XT)] [(3, { A := Nat × Nat, st := λ ⟨i, n⟩ => cH 36 37 [(0, sv ss), (3, iv n), (9, sv ss), (10, iv ss.len), (11, iv i)] [] m h }),
  (11, { A := Nat × List VV, st := λ ⟨i, l⟩ => cH 36 37 [(6, .at (.lst 24)), (25, sv ss), (26, iv ss.len), (27, iv i)] [(24, .lst 27 3 (l.map VV.enc))] m h })] [] [] false
noncomputable abbrev C5 (a : List (List Value)) (b : Int) : List (List Value) := tE a (kD b) ++ cT (iK (BK 58))
attribute [push_cast] C5
def Mg (xs : List (List Value)) (v : VV) (m : MH) (h : PH) (K : CV -> MH -> PH -> Prop) : Prop :=
  ∃ (x : List (List Value)) (i : Int), aA (wA xs v.kind = wA x i) (jY m) (aA (xO x 40) (gH (((tE x (kD i)).length + 1) * 1)) (A1 (iA (tE x (kD i))) (λ x1 => ∃ (i1 : Int), aA (wA (C5 x i) v.int = wA x1 i1) (jY m) (aA (xO x1 40) (gH (((tE x1 (kD i1)).length + 1) * 1)) (A1 (iA (tE x1 (kD i1))) (λ x2 => ∃ (i2 : Int), aA (wA (C5 x1 i1) (↑v.text.size : Int) = wA x2 i2) (jY m) (aA (xO x2 40) (gH (((tE x2 (kD i2)).length + 1) * 1)) (aA (iA (tE x2 (kD i2))) (rJ (C5 x2 i2) (gQ v.text) 1) (rK (C5 x2 i2) (gQ v.text) /\ K (CV.lst 5 1 (C5 x2 i2 ++ gQ v.text)) m h)))))))))
noncomputable abbrev wI (a : Nat × List UInt8) : List (List Value) := bF a.2
attribute [push_cast] wI
def Mn (s t : Sl) (m : MH) (h : PH) (K : CV -> MH -> PH -> Prop) : Prop :=
  ∃ (I : Nat × List UInt8 -> Prop) (m1 : Nat × List UInt8 -> Nat), (∃ (x : Nat × List UInt8), aA (I x) (aI s) (aA (eL 19) (aI t) (aA (bI t) (bC x.1) (aA (Option.some (Own.lst 5 1 []) = Option.some (Own.lst 5 1 (wI x))) (m = m) (cV h h))))) /\ ∀ (x : Nat × List UInt8), I x -> bA (↑x.1 : Int) (aG t) (aT (λ b o => aA (aU t.a b o) (0 <= (↑x.1 : Int)) ((↑x.1 : Int) < aG t /\ ∃ (y : Int), aL m h b (bN o x.1 1) (bZ y) /\ aT (λ b1 o1 => aA (aU s.a b1 o1) (0 <= y) (y < aG s /\ ∃ (y1 : VV), aL m h b1 (fM o1 y 3) y1.enc /\ ∃ (x1 : List (List Value)) (v : VV), aA (aX (CV.lst 5 1 (wI x)) (iQ y1) = aX (CV.lst 5 1 x1) (iQ v)) (jY m) (aA (v.text.size <= 64) (xO x1 300) (∃ (x2 : Nat × List UInt8), aA (I x2) (m1 x2 < m1 x) (aA (aI s) (eL 19) (aA (aI t) (bI t) (aA (fK (bE x.1 1) = bV
 x2.1) (Option.some (Own.lst 5 1 (tE x1 (BP v))) = Option.some (Own.lst 5 1 (wI x2))) (dT m m h h))))))))))) (∃ (b : List UInt8), wI x = bF b /\ K (iR (ByteArray.mk (Array.mk b))) m h)
def Me (s : Sl) (m : MH) (h : PH) (K : CV -> MH -> PH -> Prop) : Prop :=
  ∃ (I : Nat × List UInt8 -> Prop) (m1 : Nat × List UInt8 -> Nat), (∃ (x : Nat × List UInt8), aA (I x) (eL 14) (aA (aI s) (bI s) (aA (bC x.1) (Option.some (Own.lst 5 1 []) = Option.some (Own.lst 5 1 (wI x))) (aA (m = m) (h = h) True)))) /\ ∀ (x : Nat × List UInt8), I x -> bA (↑x.1 : Int) (aG s) (aT (λ b o => aA (aU s.a b o) (0 <= (↑x.1 : Int)) ((↑x.1 : Int) < aG s /\ ∃ (y : VV), aL m h b (bN o x.1 3) y.enc /\ ∃ (x1 : List (List Value)) (v : VV), aA (aX (CV.lst 5 1 (wI x)) (iQ y) = aX (CV.lst 5 1 x1) (iQ v)) (jY m) (aA (v.text.size <= 64) (xO x1 300) (∃ (x2 : Nat × List UInt8), aA (I x2) (m1 x2 < m1 x) (aA (eL 14) (aI s) (aA (bI s) (fK (bE x.1 1) = bV x2.1) (aA (Option.some (Own.lst 5 1 (tE x1 (BP v))) = Option.some (Own.lst 5 1 (wI x2))) (m = m) (cV h h))))))))) (∃ (b : List UInt8),
 wI x = bF b /\ K (iR (ByteArray.mk (Array.mk b))) m h)
def Mp (s : Sl) (m : MH) (h : PH) (K : CV -> MH -> PH -> Prop) : Prop :=
  ∃ (I : Nat × List Int × List Int -> Prop) (m1 : Nat × List Int × List Int -> Nat), (∃ (x : Nat × List Int × List Int), aA (I x) (eL 16) (aA (eL 21) (aI s) (aA (bI s) (bC x.1) (aA (rQ x.2.1) (rQ x.2.2) (dT m m h h))))) /\ ∀ (x : Nat × List Int × List Int), I x -> bA (↑x.1 : Int) (aG s) (aT (λ b o => aA (aU s.a b o) (0 <= (↑x.1 : Int)) ((↑x.1 : Int) < aG s /\ ∃ (y : Int × Int), aA (aL m h b (bN o x.1 2) (uD y)) (cA 0) (aA ((0 : Int) < 2) (C7 x.2.1) (aA (iA (iI x.2.1)) (cA 1) (aA ((1 : Int) < 2) (C7 x.2.2) (iA (iI x.2.2) /\ ∃ (x1 : Nat × List Int × List Int), aA (I x1) (m1 x1 < m1 x) (aA (eL 16) (eL 21) (aA (aI s) (bI s) (aA (fK (bE x.1 1) = bV x1.1) (rT x.2.1 y.1 x1.2.1) (bM (rT x.2.2 y.2 x1.2.2) (m = m) (h = h)))))))))))) (bH h 1 (iI x.2.1) (fun
 s1 h1 => bH h1 1 (iI x.2.2) (λ s2 h2 => K (CV.tup (jP s1 s2)) m h2)))
def Mo (s t : Sl) (m : MH) (h : PH) (K : CV -> MH -> PH -> Prop) : Prop :=
  nG (λ I x => aA (I x) (aI s) (aA (aI t) (bI t) (bM (bC x) (m = m) (h = h)))) (λ I m1 x => I x -> bA (↑x : Int) (aG t) (aT (λ b o => aA (aU t.a b o) (0 <= (↑x : Int)) ((↑x : Int) < aG t /\ ∃ (y : Int), aL m h b (bN o x 1) (bZ y) /\ aT (λ b1 o1 => aA (aU s.a b1 o1) (0 <= y) (y < aG s /\ ∃ (y1 : VV), aL m h b1 (fM o1 y 3) y1.enc /\ ∃ (v : VV), qB (iQ y1) (iQ v) (hZ (!(lI v)) (K aW m h) (λ x1 => aA (I x1) (m1 x1 < m1 x) (aA (aI s) (aI t) (aA (bI t) (fK (bE x 1) = bV x1) (aA (m = m) (h = h) True)))))))))) (K fJ m h))
def Mf (n : Nat) (m : MH) (h : PH) (K : CV -> MH -> PH -> Prop) : Prop :=
  eJ (dZ ((↑n : Int) - dZ ((0 : Int) - 0))) 0 (aA (cA 0) (cA 0) (aA (0 < dZ ((↑n : Int) - 0)) (JP (dZ ((↑n : Int) - 0) * 32)) (aA (JP (dZ ((↑n : Int) - 0))) ((0 : Int) <= 0) (cA (j3 (List.replicate (dZ ((↑n : Int) - 0)).toNat uE)) /\ K (CV.lst 27 3 []) m h)))) (K (CV.lst 27 3 []) m h)
noncomputable abbrev rR (a : List VV) : List (List Value) := List.map VV.enc a
attribute [push_cast] rR
def Mm (ss : Sl) (m : MH) (h : PH) (K : CV -> MH -> PH -> Prop) : Prop :=
  ∃ (I : Nat × Nat -> Prop) (m1 : Nat × Nat -> Nat), (∃ (x : Nat × Nat), aA (I x) (aI ss) (aA (bC x.2) (aI ss) (aA (bI ss) (bC x.1) (aA (m = m) (h = h) True)))) /\ ∀ (x : Nat × Nat), I x -> bA (↑x.1 : Int) (aG ss) (aT (λ b o => aA (aU ss.a b o) (0 <= (↑x.1 : Int)) ((↑x.1 : Int) < aG ss /\ ∃ (y : Sl), aL m h b (bN o x.1 1) (aM y) /\ bA (bE x.2 (aG y)) 0 False (∃ (x1 : Nat × Nat), aA (I x1) (m1 x1 < m1 x) (aA (aI ss) (fK (bE x.2 (aG y)) = bV x1.2) (aA (aI ss) (bI ss) (aA (fK (bE x.1 1) = bV x1.1) (m = m) (cV h h)))))))) (∃ (n : Nat), aA (bB jZ (↑x.2 : Int) = bB jZ (↑n : Int)) (oC n) (∃ (I1 : Nat × List VV -> Prop) (m2 : Nat × List VV -> Nat), (∃ (x1 : Nat × List VV), aA (I1 x1) (eL 24) (aA (aI ss) (bI ss) (aA (bC x1.1) (Option.some (Own.lst 27 3 []) = Option.some
 (Own.lst 27 3 (rR x1.2))) (aA (m = m) (h = h) True)))) /\ ∀ (x1 : Nat × List VV), I1 x1 -> bA (↑x1.1 : Int) (aG ss) (aT (λ b o => aA (aU ss.a b o) (0 <= (↑x1.1 : Int)) ((↑x1.1 : Int) < aG ss /\ ∃ (y : Sl), aL m h b (bN o x1.1 1) (aM y) /\ ∃ (y1 : List (List Value)), aA (dY 3 y1) (cN h (dA y) 3 y1) (aA (rJ (rR x1.2) y1 32) (rK (rR x1.2) y1) (∃ (x2 : Nat × List VV), aA (I1 x2) (m2 x2 < m2 x1) (aA (eL 24) (aI ss) (aA (bI ss) (fK (bE x1.1 1) = bV x2.1) (aA (Option.some (Own.lst 27 3 (rR x1.2 ++ y1)) = Option.some (Own.lst 27 3 (rR x2.2))) (m = m) (cV h h))))))))) (bH h 3 (rR x1.2) (λ s h1 => K (cK s) m h1))))
theorem F9 (a b : List UInt8) : bF a ++ bF b = bF (a ++ b) := by simp [bF]
theorem VR {v : VV} (h : v.text.size <= 64) : (BP v).length <= 130 := by
 have h1 := xB v.kind
 have h2 := xB v.int
 have h3 := xB (v.text.size : Int)
 have h4 : v.text.data.toList.length = v.text.size := VZ
 simp only [BP, BG, Gi]
 omega
theorem Kl : Sound Tryz.prog 208 XV := by
 refine gX Tryz.func208 ?_
 rintro cvs m h K ⟨xs, v, rfl, ht, hv, hl, hK⟩
 refine ⟨WL, rfl, aD RC aF, Mg xs v m h K, by kernel_rfl, ?_⟩
 dsimp only [Mg, push_cast]
 have h1 := xB v.kind
 have h2 := xB v.int
 have h3 := xB (v.text.size : Int)
 have h4 : v.text.data.toList.length = v.text.size := VZ
 have b1 : ∀ l : List UInt8, (bF l).length = l.length := λ l => by simp [bF]
 have b2 : gQ v.text = bF v.text.data.toList := rfl
 refine ⟨_, _, rfl, ht, aC, ?_, ?_, _, _, rfl, ht, ?_, ?_, ?_, _, _, rfl, ht, ?_, ?_, ?_, ?_, ?_, ?_⟩
 all_goals (try (simp only [BG, b1, b2, Gi, List.length_nil]; omega))
 have e : xs ++ bF (BP v) = xs ++ bF (kD v.kind) ++ [[Value.int IntKind.u8 58]] ++ bF (kD v.int) ++ [[Value.int IntKind.u8 58]] ++ bF (kD (v.text.size : Int)) ++ [[Value.int IntKind.u8 58]] ++ gQ v.text := by
  rw [b2]
  simp only [BP, bF, xH, EB, Q3, List.cons_append, List.nil_append]
  rfl
 rw [e] at hK
 exact hK
theorem Pn {r : List VV} (h : ∀ v ∈ r, v.text.size <= 64) : (Am r).length <= 130 * r.length := by
 induction r with
 | nil => simp [Am]
 | cons v l ih =>
  have h1 := VR (h v (Gh ..))
  have h2 := ih (λ u hu => h u (D3 _ hu))
  simp only [Am, List.flatMap_cons, BG, Gi] at h2 ⊢
  omega
theorem LC {r : List VV} {v : VV} (hv : r[i]? = some v) : Am (r.take (i + 1)) = Am (r.take i) ++ BP v := by
 rw [EA, hv]
 simp [Am]
theorem Pd {r : List VV} {cols : List Int} (hc : gC r.length cols) {v : VV} (hv : v ∈ pick r cols) : v ∈ r := by
 obtain ⟨c, hc1, rfl⟩ := mH.1 hv
 have := hc.at_ c hc1
 rw [Hy, kP aC]
 exact Q8 _
theorem Nw {r : List VV} {cols : List Int} {i : Nat} {c : Int} (hc : gC r.length cols) (hi : cols[i]? = some c) : ∃ v, r[c.toNat]? = some v /\ (pick r cols)[i]? = some v /\ 0 <= c /\ c < r.length := by
 have := hc.at_ c (lP hi)
 refine ⟨r[c.toNat]'(by omega), kP _, ?_, this⟩
 unfold pick
 rw [AD, hi]
 simp only [Option.map_some, Hy]
 rw [kP aC]
 rfl
theorem BB : Sound Tryz.prog 186 XO := by
 refine gX Tryz.func186 ?_
 rintro cvs m h K ⟨s, t, r, cols, rfl, hs, ht, hr, hc, hT, hK⟩
 refine ⟨WQ s t m h, rfl, aD Kl aF, Mn s t m h K, by kernel_rfl, ?_⟩
 dsimp only [Mn, push_cast]
 have hsl := bW.slen hs
 have htl := ht.slen
 have hcl := hc.len
 have hpl : (pick r cols).length = cols.length := by simp [pick]
 have htx : ∀ v ∈ pick r cols, v.text.size <= 64 := λ v hv => (hr.val v (Pd hc hv)).text
 refine ⟨λ x => x.1 <= cols.length /\ x.2 = Am ((pick r cols).take x.1), λ x => cols.length - x.1, ⟨(0, []), ⟨by simp, by simp [Am]⟩, MT⟩, ?_⟩
 rintro ⟨i, l⟩ ⟨hi, hl⟩
 dsimp only at hi hl
 subst hl
 refine aE (λ hlt => ?_) (λ hge => ?_)
 . dsimp only at hlt
   obtain ⟨c, hci⟩ := fE htl hlt
   obtain ⟨b, o, e, rd⟩ := ht.at hci
   obtain ⟨v, hv1, hv2, h0, h1⟩ := Nw hc hci
   obtain ⟨b2, o2, w, e2, rd2, rfl⟩ := bW.at hs hv1
   have hk := Pn (r := (pick r cols).take i) (λ u hu => htx u (X0 hu))
   refine ⟨b, o, e, by dsimp only; omega, hlt, c, .imm (by simpa using rd), b2, o2, e2, h0, aC, v, .imm rd2, _, v, rfl, hT, htx v (lP hv2), ?_, (i + 1, Am ((pick r cols).take (i + 1))), ⟨by dsimp only; omega, rfl⟩, (by dsimp only; omega), ?_⟩
   . have : (bF (Am ((pick r cols).take i))).length = (Am ((pick r cols).take i)).length := by simp [bF]
     rw [Hz] at hk
     dsimp only; omega
   . dsimp only
     rw [LC hv2, F9]
     exact MT
 . dsimp only at hge ⊢
   rw [EC aC]
   exact ⟨_, rfl, hK⟩
theorem RO : Sound Tryz.prog 210 Up := by
 refine gX Tryz.func210 ?_
 rintro cvs m h K ⟨s, r, rfl, hs, hr, hT, hK⟩
 refine ⟨WK s m h, rfl, aD Kl aF, Me s m h K, by kernel_rfl, ?_⟩
 dsimp only [Me, push_cast]
 have hsl := bW.slen hs
 have hrl := hr.len
 refine ⟨λ x => x.1 <= r.length /\ x.2 = Am (r.take x.1), λ x => r.length - x.1, ⟨(0, []), ⟨by simp, by simp [Am]⟩, MT⟩, ?_⟩
 rintro ⟨i, l⟩ ⟨hi, hl⟩
 dsimp only at hi hl
 subst hl
 refine aE (λ hlt => ?_) (λ hge => ?_)
 . dsimp only at hlt
   obtain ⟨v, hv⟩ := fE hsl hlt
   obtain ⟨b2, o2, w, e2, rd2, rfl⟩ := bW.at hs hv
   have hk := Pn (r := r.take i) (λ u hu => (hr.val u (X0 hu)).text)
   refine ⟨b2, o2, e2, by dsimp only; omega, hlt, v, .imm rd2, _, v, rfl, hT, (hr.val v (lP hv)).text, ?_, (i + 1, Am (r.take (i + 1))), ⟨by dsimp only; omega, rfl⟩, (by dsimp only; omega), ?_⟩
   . have : (bF (Am (r.take i))).length = (Am (r.take i)).length := by simp [bF]
     rw [Hz] at hk
     dsimp only; omega
   . dsimp only
     rw [LC hv, F9]
     exact MT
 . dsimp only at hge ⊢
   rw [EC aC]
   exact ⟨_, rfl, hK⟩
theorem Kp : Sound Tryz.prog 184 S9 := by
 refine gX Tryz.func184 ?_
 rintro cvs m h K ⟨s, on, rfl, hs, hK⟩
 refine ⟨WS s m h, rfl, aF, Mp s m h K, by kernel_rfl, ?_⟩
 dsimp only [Mp, push_cast]
 have hsl := hs.slen
 have hl := hs.len
 refine ⟨λ x => x.1 <= on.length /\ x.2.1 = (on.take x.1).map Prod.fst /\ x.2.2 = (on.take x.1).map Prod.snd, λ x => on.length - x.1, ⟨(0, [], []), ⟨by simp, by simp, by simp⟩, MT⟩, ?_⟩
 rintro ⟨i, l, k⟩ ⟨hi, e1, e2⟩
 dsimp only at hi e1 e2
 subst e1 e2
 refine aE (λ hlt => ?_) (λ hge => ?_)
 . dsimp only at hlt
   obtain ⟨p, hp⟩ := fE hsl hlt
   obtain ⟨b, o, e, rd⟩ := lK.at hs hp
   refine ⟨b, o, e, by dsimp only; omega, hlt, p, .imm rd, aC, aC, ?_, ?_, aC, aC, ?_, ?_, (i + 1, (on.take (i + 1)).map Prod.fst, (on.take (i + 1)).map Prod.snd), ⟨by dsimp only; omega, rfl, rfl⟩, (by dsimp only; omega), ?_⟩
   all_goals (try (simp only [mI, Hz]; omega))
   dsimp only
   rw [EA, hp, Option.toList_some, xH, xH, xH, xH]
   exact MT
 . dsimp only at hge ⊢
   rw [EC aC]
   intro a h1 le1 r1 b h2 le2 r2
   exact hK a b h2 (le1.trans le2) ⟨r1.mono le2, by simp [jU]; omega⟩ ⟨r2, by simp [fH]; omega⟩
theorem RY : Sound Tryz.prog 185 Q2 := by
 refine gX Tryz.func185 ?_
 rintro cvs m h K ⟨s, t, r, cols, rfl, hs, ht, hc, hK⟩
 refine ⟨WR s t m h, rfl, aD En aF, Mo s t m h K, by kernel_rfl, ?_⟩
 dsimp only [Mo, push_cast]
 have hsl := bW.slen hs
 have htl := ht.slen
 have hcl := hc.len
 have hpl : (pick r cols).length = cols.length := by simp [pick]
 refine ⟨λ i => i <= cols.length /\ ∀ j : Nat, j < i -> ∀ v, (pick r cols)[j]? = some v -> lI v = true, λ i => cols.length - i, ⟨0, ⟨aC, λ j hj => by omega⟩, MT⟩, λ i ⟨hi, hall⟩ => aE (λ hlt => ?_) (λ hge => ?_)⟩
 . obtain ⟨c, hci⟩ := fE htl hlt
   obtain ⟨b, o, e, rd⟩ := ht.at hci
   obtain ⟨v, hv1, hv2, h0, h1⟩ := Nw hc hci
   obtain ⟨b2, o2, w, e2, rd2, rfl⟩ := bW.at hs hv1
   refine ⟨b, o, e, aC, hlt, c, .imm (by simpa using rd), b2, o2, e2, h0, aC, v, .imm rd2, v, rfl, aB (λ hne => ?_) (λ he => ⟨i + 1, ⟨aC, λ j hj u hu => ?_⟩, (show cols.length - (i + 1) < cols.length - i by omega), MT⟩)⟩
   . have : (pick r cols).all lI = false := by
      cases e3 : (pick r cols).all lI with
      | false => rfl
      | true => rw [Tn] at e3; rw [e3 v (lP hv2)] at hne; cases hne
     rw [this] at hK; exact hK
   . by_cases e4 : j = i
     . subst e4; rw [hv2] at hu; cases hu; simpa using he
     . exact hall j aC u hu
 . have : (pick r cols).all lI = true := by
    rw [Tn]
    intro v hv
    obtain ⟨j, hj⟩ := List.getElem?_of_mem hv
    exact hall j (by have := (mG.1 hj).1; omega) v hj
   rw [this] at hK; exact hK
theorem RP : Sound Tryz.prog 209 XT := by
 refine gX Tryz.func209 ?_
 rintro cvs m h K ⟨n, rfl, hn, hK⟩
 refine ⟨dM [] [] [] [] true, rfl, aF, Mf n m h K, by kernel_rfl, ?_⟩
 dsimp only [Mf, push_cast]
 have h0 : IntKind.i64.wrap ((n : Int) - 0) = n := by rw [eG aC aC]; omega
 have h1 : IntKind.i64.wrap ((n : Int) - IntKind.i64.wrap (0 - 0)) = n := by rw [show IntKind.i64.wrap (0 - 0) = 0 from by rw [eG aC aC]; rfl, h0]
 exact aE (λ hp => ⟨aC, aC, aC, aC, aC, aC, aC, hK⟩) (λ _ => hK)
theorem EJ {α : Type} {ks : List (List α)} {k : List α} (hk : ks[i]? = some k) : ((ks.take (i + 1)).map List.length).sum = ((ks.take i).map List.length).sum + k.length := by
 rw [EA, hk]; simp
theorem D6 {α : Type} {ks : List (List α)} (h : ∀ k ∈ ks, k.length <= 12) : ∀ i, ((ks.take i).map List.length).sum <= 12 * i
 | 0 => by simp
 | i + 1 => by
  have ih := D6 h i
  cases e : ks[i]? with
  | none => rw [EA, e]; simp at ih ⊢; omega
  | some k => rw [EJ e]; have := h k (lP e); omega
theorem RX : Sound Tryz.prog 187 QZ := by
 refine gX Tryz.func187 ?_
 rintro cvs m h K ⟨ss, ks, rfl, hs, hl, h12, hK⟩
 refine ⟨WO ss m h, rfl, aD RP aF, Mm ss m h K, by kernel_rfl, ?_⟩
 dsimp only [Mm, push_cast]
 have hsl := bW.slen hs
 refine ⟨λ ⟨i, n⟩ => i <= ks.length /\ n = ((ks.take i).map List.length).sum, λ ⟨i, _⟩ => ks.length - i, ⟨(0, 0), ⟨aC, by simp⟩, MT⟩, ?_⟩
 rintro ⟨i, n⟩ ⟨hi, rfl⟩
 dsimp only
 have hb := D6 h12 i
 refine aE (λ hlt => ?_) (λ hge => ?_)
 . obtain ⟨k, hk⟩ := fE hsl hlt
   obtain ⟨b, o, sl, ea, r, hki⟩ := bW.at hs hk
   have hkl := bW.slen hki
   have hk12 := h12 k (lP hk)
   have hw : IntKind.i64.wrap (((((ks.take i).map List.length).sum : Nat) : Int) + (sl.len : Int)) = ((((ks.take (i + 1)).map List.length).sum : Nat) : Int) := by
    rw [EJ hk, eG aC aC]; omega
   refine ⟨b, o, ea, aC, hlt, sl, .imm r, ?_⟩
   rw [hw]
   exact aE (λ hneg => by omega) (λ _ => ⟨(i + 1, ((ks.take (i + 1)).map List.length).sum), ⟨aC, rfl⟩, by show ks.length - (i + 1) < ks.length - i; omega, MT⟩)
 . refine ⟨((ks.take i).map List.length).sum, rfl, aC, ?_⟩
   refine ⟨λ ⟨i, l⟩ => i <= ks.length /\ l = (ks.take i).flatten, λ ⟨i, _⟩ => ks.length - i, ⟨(0, []), ⟨aC, by simp⟩, MT⟩, ?_⟩
   clear hb hge hi
   rintro ⟨i, l⟩ ⟨hi, rfl⟩
   dsimp only
   have hfl : (ks.take i).flatten.length <= 12 * i := by have := D6 h12 i; simpa [List.length_flatten] using this
   refine aE (λ hlt => ?_) (λ hge sl h' hle hrow => hK sl h' hle ⟨⟨ks.flatten, ?_, rfl, λ i x hx => ⟨x, hx, rfl⟩⟩, ?_⟩)
   . obtain ⟨k, hk⟩ := fE hsl hlt
     obtain ⟨b, o, sl, ea, r, hki⟩ := bW.at hs hk
     have hk12 := h12 k (lP hk)
     obtain ⟨us, hu1, hu2, hu3⟩ := hki.ex
     have hus : us = k := by
      apply List.ext_getElem?
      intro j
      by_cases hj : j < k.length
      . obtain ⟨v, h1, h2⟩ := hu3 j _ (kP hj)
        rw [h1, kP hj, h2]
      . rw [OF aC, OF aC]
     subst hus
     refine ⟨b, o, ea, aC, hlt, sl, .imm r, us.map VV.enc, Jx us, hu1, ?_, ?_, (i + 1, (ks.take (i + 1)).flatten), ⟨aC, rfl⟩, by show ks.length - (i + 1) < ks.length - i; omega, ?_⟩
     . rw [mI, mI]; omega
     . rw [mI, mI]; omega
     . rw [EA, hk, Option.toList_some, List.flatten_append, xH, Jj, List.flatten_nil, OE]
       exact MT
   . rw [EC aC] at hrow; exact hrow
   . rw [EC aC] at hfl; omega
theorem N1 : ∀ (u : Nat) (b : UInt8), b ∈ Lib.decDigits u -> 48 <= b.toNat /\ b.toNat <= 57 := by
 intro u
 induction u using Nat.strongRecOn with
 | _ u ih =>
  intro b hb
  rw [Lib.decDigits] at hb
  have one : ∀ k, k < 10 -> 48 <= (UInt8.ofNat (48 + k)).toNat /\ (UInt8.ofNat (48 + k)).toNat <= 57 := λ k hk => by
   rw [UInt8.toNat_ofNat']; omega
  split at hb
  . rename_i h
    rw [X5] at hb; subst hb; exact one u h
  . rcases BZ.1 hb with h1 | h1
    . exact ih (u / 10) aC b h1
    . rw [X5] at h1; subst h1; exact one (u % 10) aC
theorem T6 : ∀ (u v : Nat), Lib.decDigits u = Lib.decDigits v -> u = v := by
 intro u
 induction u using Nat.strongRecOn with
 | _ u ih =>
  intro v h
  have hl := congrArg List.length h
  rw [Lib.decDigits_length, Lib.decDigits_length] at hl
  have one : ∀ a b, a < 10 -> b < 10 -> UInt8.ofNat (48 + a) = UInt8.ofNat (48 + b) -> a = b := λ a b ha hb e => by
   have := congrArg UInt8.toNat e
   rw [UInt8.toNat_ofNat', UInt8.toNat_ofNat'] at this
   omega
  by_cases hu : u < 10
  . have hv : v < 10 := by
     apply Classical.byContradiction
     intro hv
     rw [Lib.nDigits_small hu, Lib.nDigits_big hv] at hl
     have := Lib.nDigits_pos (v / 10)
     omega
    rw [Lib.decDigits.eq_def u, Lib.decDigits.eq_def v, dif_pos hu, dif_pos hv] at h
    simp only [List.cons.injEq, and_true] at h
    exact one u v hu hv h
  . have hv : ¬ v < 10 := λ hv => by
     rw [Lib.nDigits_small hv, Lib.nDigits_big hu] at hl
     have := Lib.nDigits_pos (u / 10)
     omega
    rw [Lib.decDigits.eq_def u, Lib.decDigits.eq_def v, dif_neg hu, dif_neg hv] at h
    have h2 := List.append_inj' h rfl
    have h3 := ih (u / 10) aC (v / 10) h2.1
    simp only [List.cons.injEq, and_true] at h2
    have h4 := one (u % 10) (v % 10) aC aC h2.2
    omega
theorem Uz {n : Int} (h0 : 0 <= n) (h1 : n < 18446744073709551616) : IntKind.u64.wrap n = n := by
 rw [IntKind.wrap_u64]; omega
theorem UA {n : Int} (h0 : n < 0) (h1 : -9223372036854775808 <= n) : IntKind.u64.wrap (0 - IntKind.u64.wrap n) = -n := by
 rw [IntKind.wrap_u64, IntKind.wrap_u64]; omega
theorem An {n : Int} (h : Oq n) (h0 : 0 <= n) : kD n = Lib.decDigits n.toNat := by
 unfold kD
 rw [if_neg aC, Uz h0 (by have := h.2; omega)]
theorem Ao {n : Int} (h : Oq n) (h0 : n < 0) : kD n = 45 :: Lib.decDigits (-n).toNat := by
 unfold kD
 rw [if_pos h0, UA h0 h.1]
theorem LF {n : Int} (h : Oq n) {b : UInt8} (hb : b ∈ kD n) : b ≠ 58 := by
 intro e
 subst e
 by_cases h0 : 0 <= n
 . rw [An h h0] at hb
   have := N1 _ _ hb
   simp at this
 . rw [Ao h aC] at hb
   rcases xA.1 hb with h1 | h1
   . cases h1
   . have := N1 _ _ h1
     simp at this
theorem US {m n : Int} (hm : Oq m) (hn : Oq n) (h : kD m = kD n) : m = n := by
 have no45 : ∀ u r, Lib.decDigits u = 45 :: r -> False := λ u r e => by
  have := N1 u 45 (by rw [e]; simp)
  simp at this
 by_cases h0 : 0 <= m <;> by_cases h1 : 0 <= n
 . rw [An hm h0, An hn h1] at h
   have := T6 _ _ h
   omega
 . rw [An hm h0, Ao hn aC] at h
   exact (no45 _ _ h).elim
 . rw [Ao hm aC, An hn h1] at h
   exact (no45 _ _ h.symm).elim
 . rw [Ao hm aC, Ao hn aC] at h
   have := T6 _ _ (List.cons.inj h).2
   omega
theorem OU {α : Type} {x : α} : ∀ {a b r r' : List α}, x ∉ a -> x ∉ b -> a ++ x :: r = b ++ x :: r' -> a = b /\ r = r'
 | [], [], r, r', _, _, h => ⟨rfl, (List.cons.inj h).2⟩
 | [], c :: b, r, r', _, hb, h => by
  have := (List.cons.inj h).1
  exact (hb (by rw [this]; simp)).elim
 | c :: a, [], r, r', ha, _, h => by
  have := (List.cons.inj h).1
  exact (ha (by rw [<- this]; simp)).elim
 | c :: a, d :: b, r, r', ha, hb, h => by
  have h1 := List.cons.inj h
  obtain ⟨e1, e2⟩ := OU (λ m => ha (by simp [m])) (λ m => hb (by simp [m])) h1.2
  exact ⟨by rw [h1.1, e1], e2⟩
theorem Cd {m n : Int} {r r' : List UInt8} (hm : Oq m) (hn : Oq n) (h : kD m ++ 58 :: r = kD n ++ 58 :: r') : m = n /\ r = r' := by
 obtain ⟨h1, h2⟩ := OU (λ hb => LF hm hb rfl) (λ hb => LF hn hb rfl) h
 exact ⟨US hm hn h1, h2⟩
theorem SU {u v : VV} {r r' : List UInt8} (hu : Zp u) (hv : Zp v) (h : BP u ++ r = BP v ++ r') : u = v /\ r = r' := by
 simp only [BP, Q3, List.cons_append] at h
 obtain ⟨e1, h⟩ := Cd hu.kind hv.kind h
 obtain ⟨e2, h⟩ := Cd hu.int hv.int h
 have sz : ∀ w : VV, Zp w -> Oq (w.text.size : Int) := λ w hw => ⟨aC, by have := hw.text; omega⟩
 obtain ⟨e3, h⟩ := Cd (sz u hu) (sz v hv) h
 have e4 : u.text.data.toList.length = v.text.data.toList.length := by
  have : u.text.size = v.text.size := by omega
  rw [VZ, VZ]; exact this
 obtain ⟨e5, e6⟩ := List.append_inj h e4
 refine ⟨?_, e6⟩
 obtain ⟨k, i, t⟩ := u
 obtain ⟨k', i', t'⟩ := v
 simp only [VV.mk.injEq] at e1 e2 ⊢
 refine ⟨e1, e2, ?_⟩
 cases t; cases t'
 simp only [ByteArray.mk.injEq]
 exact Oz.1 e5
theorem Po : ∀ {a b : List VV}, a.length = b.length -> (∀ v ∈ a, Zp v) -> (∀ v ∈ b, Zp v) -> Am a = Am b -> a = b
 | [], [], _, _, _, _ => rfl
 | x :: a, y :: b, hl, ha, hb, h => by
  simp only [Am, List.flatMap_cons] at h
  obtain ⟨e1, e2⟩ := SU (ha x (Gh ..)) (hb y (Gh ..)) h
  rw [e1, Po (by simpa using hl) (λ v hv => ha v (D3 _ hv)) (λ v hv => hb v (D3 _ hv)) e2]
 | [], _ :: _, hl, _, _, _ => by simp at hl
 | _ :: _, [], hl, _, _, _ => by simp at hl
theorem Ek {a b : List VV} (hl : a.length = b.length) (ha : ∀ v ∈ a, Zp v) (hb : ∀ v ∈ b, Zp v) : cQ a = cQ b ↔ a = b := by
 constructor
 . intro h
   simp only [cQ, ByteArray.mk.injEq] at h
   exact Po hl ha hb (by simpa using congrArg Array.toList h)
 . intro h; rw [h]
def KD (r : List VV) (o : OV) : VV := if o.kind = 3 then o.value else if o.kind = 1 /\ 0 <= o.index /\ o.index < r.length then r.getD o.index.toNat zeroV else zeroV
def Wc (cmp c : Int) : Bool := if cmp = 1 then c == 0 else if cmp = 2 then c != 0 else if cmp = 3 then decide (c < 0) else if cmp = 4 then decide (c <= 0) else if cmp = 5 then decide (c > 0) else if cmp = 6 then decide (c >= 0) else false
def Em (cmp : Int) (a b : VV) : Bool := lI a && lI b && a.kind == b.kind && Wc cmp (jX a b)
mutual
def kO (r : List VV) : Pred -> Bool
 | .mk op cmp a b args => if op = 1 then true else if op = 3 then Em cmp (KD r a) (KD r b) else if op = 4 then Cv r args else if op = 5 then Cu r args else if op = 6 then Pu r args else false
def Cv (r : List VV) : List Pred -> Bool
 | [] => true
 | p :: ps => kO r p && Cv r ps
def Cu (r : List VV) : List Pred -> Bool
 | [] => false
 | p :: ps => kO r p || Cu r ps
def Pu (r : List VV) : List Pred -> Bool
 | [] => false
 | p :: _ => !kO r p
end
theorem HY (r : List VV) : ∀ ps, Cv r ps = ps.all (kO r)
 | [] => by simp [Cv]
 | p :: ps => by simp [Cv, HY r ps]
theorem HX (r : List VV) : ∀ ps, Cu r ps = ps.any (kO r)
 | [] => by simp [Cu]
 | p :: ps => by simp [Cu, HX r ps]
def DenS : Vc.Spec := λ cvs m h K => ∃ o s r, cvs = [aO o, cS s, jZ] /\ cJ h s r /\ K (aV (KD r o)) m h
def Ip (p : Int -> Bool) : Vc.Spec := λ cvs m h K => ∃ c, cvs = [cI c] /\ K (cB (p c)) m h
def ZS : Vc.Spec := λ cvs m h K => ∃ op, cvs = [cI op] /\
 branch (op == 1) (K (fv 217) m h) (branch (op == 2) (K (fv 218) m h) (branch (op == 3) (K (fv 219) m h) (branch (op == 4) (K (fv 220) m h) (branch (op == 5) (K (fv 221) m h) (branch (op == 6) (K (fv 222) m h) (K (.val .nilFunc) m h))))))
def XR (N : Nat) : Vc.Spec := λ cvs m h K => ∃ v s p r, cvs = [aP v, cS s, jZ] /\ eD h p v /\ cJ h s r /\ SizeOf.sizeOf p < N /\ K (cB (kO r p)) m h
def XS : Vc.Spec := λ cvs m h K => ∃ v s p r, cvs = [aP v, cS s, jZ] /\ eD h p v /\ cJ h s r /\ K (cB (kO r p)) m h
noncomputable def WT (N : Nat) (v : PV) (s : Sl) (m : MH) (h : PH) : Ctx :=
 dM [(206, DenS), (203, M1), (207, ZS), (70, M5), (183, XR N), (217, Ip (λ c => c == 0)), (218, Ip (λ c => c != 0)), (219, Ip (λ c => decide (c < 0))), (220, Ip (λ c => decide (c <= 0))), (221, Ip (λ c => decide (c > 0))), (222, Ip (λ c => decide (c >= 0)))]
  [(12, { A := Nat, st := λ i => cH 102 105 [(1, sv s), (2, vv sR), (60, sv v.args), (61, iv v.args.len), (62, iv i)] [] m h }),
   (20, { A := Nat, st := λ i => cH 102 105 [(1, sv s), (2, vv sR), (75, sv v.args), (76, iv v.args.len), (77, iv i)] [] m h })]
  [(6, { A := VV × VV, st := λ ⟨a, b⟩ => cH 102 105 [(3, .at (.ptr 3 0)), (7, .at (.ptr 7 0)), (8, .at (.ptr 8 0))] [(3, .cells 32 (v.enc.map .val)), (7, .cells 27 (a.enc.map .val)), (8, .cells 27 (b.enc.map .val))] m h })] [] false
def Mh (o : OV) (s : Sl) (m : MH) (h : PH) (K : CV -> MH -> PH -> Prop) : Prop :=
  cW (o.kind == 3) (K (iQ o.value) m h) (o.kind == 2) (bA o.index 0 (K (kE uE) m h) (fQ o.index 0 (K (kE uE) m h) (aT (λ b o1 => aA (aU Option.none b o1) (0 <= o.index) (o.index < 0 /\ ∃ (y : VV), aL m h b (fM o1 o.index 3) y.enc /\ K (iQ y) m h))))) (dN o.kind 1 (bA o.index 0 (K (kE uE) m h) (fQ o.index (aG s) (K (kE uE) m h) (aT (λ b o1 => aA (aU s.a b o1) (0 <= o.index) (o.index < aG s /\ ∃ (y : VV), aL m h b (fM o1 o.index 3) y.enc /\ K (iQ y) m h))))) (K (kE uE) m h))
def G0 (op : Int) (m : MH) (h : PH) (K : CV -> MH -> PH -> Prop) : Prop :=
  ∀ (b : Nat) (m1 : MH), bK (cD m h b) (bG m m1 b (aJ Value.nilFunc Value.nilFunc (aJ Value.nilFunc Value.nilFunc (aJ Value.nilFunc Value.nilFunc IT))) 241) (gG (λ c E => aA (uT m1 b (eV c E 0)) (7 <= c.size) (∀ (m2 : MH), bG m1 m2 b (aJ Value.nilFunc (kM 217) (aJ (kM 218) (kM 219) (aJ (kM 220) (kM 221) (eU (kM 222) 7 c)))) E -> bA op 0 (K (CV.val Value.nilFunc) m2 h) (fQ op 7 (K (CV.val Value.nilFunc) m2 h) (aA (cA op) (op < 7) (∃ (y : Option Nat), aL m2 h b (fM 0 op 1) (iK (Xm y)) /\ K (CV.val (Xm y)) m2 h))))))
def Vu (c : Int) (m : MH) (h : PH) (K : CV -> MH -> PH -> Prop) : Prop :=
  K (AE (c == 0)) m h
def Vt (c : Int) (m : MH) (h : PH) (K : CV -> MH -> PH -> Prop) : Prop :=
  K (AE (c != 0)) m h
def Vs (c : Int) (m : MH) (h : PH) (K : CV -> MH -> PH -> Prop) : Prop :=
  K (AE (decide (c < 0))) m h
def Vr (c : Int) (m : MH) (h : PH) (K : CV -> MH -> PH -> Prop) : Prop :=
  K (AE (decide (c <= 0))) m h
def Vq (c : Int) (m : MH) (h : PH) (K : CV -> MH -> PH -> Prop) : Prop :=
  K (AE (decide (c > 0))) m h
def Vp (c : Int) (m : MH) (h : PH) (K : CV -> MH -> PH -> Prop) : Prop :=
  K (AE (decide (c >= 0))) m h
abbrev nN (a : Sl -> (List VV) -> Prop) : Prop := ∃ (x : Sl) (x1 : List VV), a x x1
noncomputable abbrev qH (a : OV) (b : Sl) : List CV := kE a.enc :: aX (cK b) jZ
abbrev i7 (a : List VV) (b : OV) (c : VV) : Prop := oQ 27 (mJ (At.val (dQ (KD a b).kind)) (At.val (dQ (KD a b).int)) (yJ (At.val (Value.string (KD a b).text)))) = oZ 27 c.enc
abbrev rP (a : PV) (b : Sl) (c : PH) (d : VV × VV -> Prop) (e : (VV × VV) -> Prop) (g : OV -> (List VV) -> (VV × VV) -> Prop) (i : MH) : Prop := ∃ (x : OV), nN (λ x1 x2 => aA (qH a.right b = qH x x1) (cJ c x1 x2) (∃ (x3 : VV × VV), aA (d x3) (eP 3) (aA (eP 7) (eP 8) (aA (jN a) (e x3) (aA (g x x2 x3) (i = i) (cV c c))))))
abbrev Bb (a : VV × VV) (b : Int -> Prop) : Prop := FC a.1 a.2 (λ x x1 => jL (jX x x1) (λ x2 => b x2))
abbrev Ft (a : PV -> Sl -> Pred -> (List VV) -> Prop) : Prop := ∃ (x : PV) (x1 : Sl) (x2 : Pred) (x3 : List VV), a x x1 x2 x3
noncomputable abbrev wJ (a : PV) (b : Sl) : List CV := cX a :: aX (cK b) jZ
attribute [push_cast] nN qH i7 rP Bb Ft wJ
def Mq (N : Nat) (v : PV) (s : Sl) (m : MH) (h : PH) (K : CV -> MH -> PH -> Prop) : Prop :=
  cW (v.op == 1) (K fJ m h) (v.op == 3) (∃ (I : VV × VV -> Prop), aA (∃ (o : OV), nN (λ s1 r => aA (qH v.left s = qH o s1) (cJ h s1 r) (aA (∃ (o1 : OV), nN (λ s2 r1 => aA (qH v.right s = qH o1 s2) (cJ h s2 r1) ((∃ (x : VV × VV), aA (I x) (eP 3) (aA (eP 7) (eP 8) (aA (jN v) (i7 r o x.1) (aA (i7 r1 o1 x.2) (m = m) (cV h h))))) /\ ∃ (x : VV × VV), aA (I x) (eP 3) (aA (eP 7) (eP 8) (aA (jN v) (i7 r o x.1) (aA (i7 r1 o1 x.2) (m = m) (cV h h))))))) (rP v s h I (λ x => i7 r o x.1) (λ o1 r1 x => i7 r1 o1 x.2) m /\ rP v s h I (λ x => i7 r o x.1) (λ o1 r1 x => i7 r1 o1 x.2) m) (rP v s h I (λ x => i7 r o x.1) (λ o1 r1 x => i7 r1 o1 x.2) m /\ rP v s h I (λ x => i7 r o x.1) (λ o1 r1 x => i7 r1 o1 x.2) m)))) ((∃ (o : OV), nN (λ s1 r =>
 aA (qH v.left s = qH o s1) (cJ h s1 r) (rP v s h I (λ x => i7 r o x.1) (λ o1 r1 x => i7 r1 o1 x.2) m /\ rP v s h I (λ x => i7 r o x.1) (λ o1 r1 x => i7 r1 o1 x.2) m))) /\ ∃ (o : OV), nN (λ s1 r => aA (qH v.left s = qH o s1) (cJ h s1 r) (rP v s h I (λ x => i7 r o x.1) (λ o1 r1 x => i7 r1 o1 x.2) m))) ((∃ (o : OV), nN (λ s1 r => aA (qH v.left s = qH o s1) (cJ h s1 r) (rP v s h I (λ x => i7 r o x.1) (λ o1 r1 x => i7 r1 o1 x.2) m /\ rP v s h I (λ x => i7 r o x.1) (λ o1 r1 x => i7 r1 o1 x.2) m))) /\ ∃ (o : OV), nN (λ s1 r => aA (qH v.left s = qH o s1) (cJ h s1 r) (rP v s h I (λ x => i7 r o x.1) (λ o1 r1 x => i7 r1 o1 x.2) m))) /\ ∀ (x : VV × VV), I x -> ∃ (v1 : VV), qB (iQ x.1) (iQ v1) (gK (lI v1) (K aW m
 h) (∃ (v2 : VV), qB (iQ x.2) (iQ v2) (cW (!(lI v2)) (K aW m h) (x.1.kind != x.2.kind) (K aW m h) (jL v.cmp (λ o => cW (o == 1) (Bb x (λ c => K (AE (c == 0)) m h)) (o == 2) (Bb x (λ c => K (AE (c != 0)) m h)) (cW (o == 3) (Bb x (λ c => K (AE (decide (c < 0))) m h)) (o == 4) (Bb x (λ c => K (AE (decide (c <= 0))) m h)) (cW (o == 5) (Bb x (λ c => K (AE (decide (c > 0))) m h)) (o == 6) (Bb x (λ c => K (AE (decide (c >= 0))) m h)) (K aW m h))))))))) (cW (v.op == 4) (nG (λ I x => aA (I x) (aI s) (aA (eQ sQn) (aI v.args) (aA (bI v.args) (bC x) (aA (m = m) (h = h) True)))) (λ I m1 x => I x -> bA (↑x : Int) (aG v.args) (aT (λ b o => aA (aU v.args.a b o) (0 <= (↑x : Int)) ((↑x : Int) < aG v.args /\ ∃ (y : PV), aL m h b (bN o x 13) y.enc /\ Ft (λ v1
 s1 p r => aA (wJ y s = wJ v1 s1) (eD h p v1) (aA (cJ h s1 r) (oD p N) (hZ (!(kO r p)) (K aW m h) (λ x1 => aA (I x1) (m1 x1 < m1 x) (aA (aI s) (eQ sQn) (aA (aI v.args) (bI v.args) (aA (fK (bE x 1) = bV x1) (m = m) (cV h h))))))))))) (K fJ m h))) (v.op == 5) (nG (λ I x => aA (I x) (aI s) (aA (eQ sQn) (aI v.args) (aA (bI v.args) (bC x) (aA (m = m) (h = h) True)))) (λ I m1 x => I x -> bA (↑x : Int) (aG v.args) (aT (λ b o => aA (aU v.args.a b o) (0 <= (↑x : Int)) ((↑x : Int) < aG v.args /\ ∃ (y : PV), aL m h b (bN o x 13) y.enc /\ Ft (λ v1 s1 p r => aA (wJ y s = wJ v1 s1) (eD h p v1) (aA (cJ h s1 r) (oD p N) (hZ (kO r p) (K fJ m h) (λ x1 => aA (I x1) (m1 x1 < m1 x) (aA (aI s) (eQ sQn) (aA (aI v.args) (bI v.args) (aA
 (fK (bE x 1) = bV x1) (m = m) (cV h h))))))))))) (K aW m h))) (dN v.op 6 (eJ (p7 v) 0 (aT (λ b o => aA (aU v.args.a b o) ((0 : Int) <= 0) (0 < aG v.args /\ ∃ (y : PV), aL m h b (o + 0) y.enc /\ Ft (λ v1 s1 p r => aA (wJ y s = wJ v1 s1) (eD h p v1) (aA (cJ h s1 r) (oD p N) (K (CV.val (Value.bool (!(kO r p)))) m h)))))) (K aW m h)) (K aW m h)))
theorem RR : Sound Tryz.prog 206 DenS := by
 refine gX Tryz.func206 ?_
 rintro cvs m h K ⟨o, s, r, rfl, hs, hK⟩
 refine ⟨dM [] [] [] [] false, rfl, aF, Mh o s m h K, by kernel_rfl, ?_⟩
 dsimp only [Mh, push_cast]
 have hsl := bW.slen hs
 unfold KD at hK
 refine aB (λ h1 => ?_) (λ h1 => aB (λ h2 => ?_) (λ h2 => aB (λ h3 => ?_) (λ h3 => ?_)))
 . rw [if_pos (by simpa using h1)] at hK; exact hK
 . have h2 : o.kind = 2 := by simpa using h2
   rw [if_neg aC, if_neg aC] at hK
   exact aE (λ _ => hK) (λ n1 => aE (λ _ => hK) (λ n2 => absurd (show o.index >= ((0 : Nat) : Int) by omega) n2))
 . have h1 : o.kind ≠ 3 := by simpa using h1
   have h3 : o.kind = 1 := by simpa using h3
   rw [if_neg h1] at hK
   refine aE (λ n1 => ?_) (λ n1 => aE (λ n2 => ?_) (λ n2 => ?_))
   . rw [if_neg aC] at hK; exact hK
   . rw [if_neg aC] at hK; exact hK
   . rw [if_pos ⟨h3, aC, aC⟩] at hK
     have hx : r[o.index.toNat]? = some (r.getD o.index.toNat zeroV) := by
      rw [Hy, kP aC]; simp
     obtain ⟨b, off, v, e, rd, rfl⟩ := bW.at hs hx
     exact ⟨b, off, e, aC, aC, _, .imm rd, hK⟩
 . have h1 : o.kind ≠ 3 := by simpa using h1
   have h3 : o.kind ≠ 1 := by simpa using h3
   rw [if_neg h1, if_neg (λ e => h3 e.1)] at hK; exact hK
theorem RQ : Sound Tryz.prog 207 ZS := by
 refine FN Tryz.func207 ?_
 rintro cvs m h K ⟨op, rfl, hK⟩
 refine ⟨vO [] [] [] [] [241] [] false, rfl, aF, G0 op m h (kB h K), by kernel_rfl, ?_⟩
 show G0 op m h (kB h K)
 dsimp only [G0, push_cast]
 intro b m1 hb hm1
 refine ⟨_, _, ⟨hm1.at_⟩, by decide, λ m2 hm2 => ?_⟩
 have hsub : Sub m m2 := ((Sub.refl m).upd hb.m_ hm1.other).upd hb.m_ hm2.other
 have e := hm2.at_
 have none_ : ∀ k, ¬ (1 <= op /\ op <= 6) -> op = k -> K (.val .nilFunc) m h := λ k hn _ => by
  have : (op == 1) = false /\ (op == 2) = false /\ (op == 3) = false /\ (op == 4) = false /\ (op == 5) = false /\ (op == 6) = false := by
   simp only [beq_eq_false_iff_ne]; omega
  obtain ⟨e1, e2, e3, e4, e5, e6⟩ := this
  rw [e1, e2, e3, e4, e5, e6] at hK
  exact hK
 refine aE (λ h1 => .sub hsub (none_ _ aC rfl)) (λ h1 => aE (λ h2 => .sub hsub (none_ _ aC rfl)) (λ h2 => ⟨aC, aC, ?_⟩))
 have : op = 0 \/ op = 1 \/ op = 2 \/ op = 3 \/ op = 4 \/ op = 5 \/ op = 6 := by omega
 rcases this with rfl | rfl | rfl | rfl | rfl | rfl | rfl
 . exact ⟨none, .lent _ _ _ e rfl, .sub hsub (none_ 0 aC rfl)⟩
 . exact ⟨some 217, .lent _ _ _ e rfl, .sub hsub hK⟩
 . exact ⟨some 218, .lent _ _ _ e rfl, .sub hsub hK⟩
 . exact ⟨some 219, .lent _ _ _ e rfl, .sub hsub hK⟩
 . exact ⟨some 220, .lent _ _ _ e rfl, .sub hsub hK⟩
 . exact ⟨some 221, .lent _ _ _ e rfl, .sub hsub hK⟩
 . exact ⟨some 222, .lent _ _ _ e rfl, .sub hsub hK⟩
theorem RI : Sound Tryz.prog 217 (Ip (λ c => c == 0)) := by
 refine gX Tryz.func217 ?_
 rintro cvs m h K ⟨c, rfl, hK⟩
 refine ⟨dM [] [] [] [] false, rfl, aF, Vu c m h K, by kernel_rfl, ?_⟩
 exact hK
theorem RH : Sound Tryz.prog 218 (Ip (λ c => c != 0)) := by
 refine gX Tryz.func218 ?_
 rintro cvs m h K ⟨c, rfl, hK⟩
 refine ⟨dM [] [] [] [] false, rfl, aF, Vt c m h K, by kernel_rfl, ?_⟩
 exact hK
theorem RG : Sound Tryz.prog 219 (Ip (λ c => decide (c < 0))) := by
 refine gX Tryz.func219 ?_
 rintro cvs m h K ⟨c, rfl, hK⟩
 refine ⟨dM [] [] [] [] false, rfl, aF, Vs c m h K, by kernel_rfl, ?_⟩
 exact hK
theorem RF : Sound Tryz.prog 220 (Ip (λ c => decide (c <= 0))) := by
 refine gX Tryz.func220 ?_
 rintro cvs m h K ⟨c, rfl, hK⟩
 refine ⟨dM [] [] [] [] false, rfl, aF, Vr c m h K, by kernel_rfl, ?_⟩
 exact hK
theorem RE : Sound Tryz.prog 221 (Ip (λ c => decide (c > 0))) := by
 refine gX Tryz.func221 ?_
 rintro cvs m h K ⟨c, rfl, hK⟩
 refine ⟨dM [] [] [] [] false, rfl, aF, Vq c m h K, by kernel_rfl, ?_⟩
 exact hK
theorem RD : Sound Tryz.prog 222 (Ip (λ c => decide (c >= 0))) := by
 refine gX Tryz.func222 ?_
 rintro cvs m h K ⟨c, rfl, hK⟩
 refine ⟨dM [] [] [] [] false, rfl, aF, Vp c m h K, by kernel_rfl, ?_⟩
 exact hK
theorem Qm : ∀ N, Sound Tryz.prog 183 (XR N)
 | 0 => by
  refine eK (fn := Tryz.f183) (c := dK Tryz.f183) Tryz.func183 rfl (by decide) ?_
  rintro cvs m h K ⟨v, s, p, r, rfl, _, _, hN, _⟩
  omega
 | N + 1 => by
  refine gX Tryz.func183 ?_
  rintro cvs m h K ⟨v, s, p, r, rfl, hp, hs, hN, hK⟩
  refine ⟨WT N v s m h, rfl, aD RR (aD En (aD RQ (aD GU (aD (Qm N) (aD RI (aD RH (aD RG (aD RF (aD RE (aD RD aF)))))))))), Mq N v s m h K, by kernel_rfl, ?_⟩
  dsimp only [Mq, push_cast]
  have hlt := @zH p
  obtain ⟨op, cmp, l, q, ps⟩ := p
  obtain ⟨rfl, rfl, rfl, rfl, ha⟩ := hp.parts
  have hl := ha.slen
  have hlen := ha.len
  simp only [Pred.args] at hlt
  simp only [kO] at hK
  refine aB (λ h1 => ?_) (λ h1 => aB (λ h3 => ?_) (λ h3 => aB (λ h4 => ?_) (λ h4 => aB (λ h5 => ?_) (λ h5 => aB (λ h6 => ?_) (λ h6 => ?_)))))
  . rw [if_pos (by simpa using h1)] at hK; exact hK
  all_goals have n1 : v.op ≠ 1 := by simpa using h1
  . rw [if_neg n1, if_pos (by simpa using h3)] at hK
    refine ⟨λ x => x = (KD r v.left, KD r v.right), ?_, ?_⟩
    . repeat' (first | exact ⟨_, rfl, MT⟩ | refine ⟨v.left, s, r, rfl, hs, ?_⟩ | refine ⟨v.right, s, r, rfl, hs, ?_⟩ | refine And.intro ?_ ?_)
    . rintro ⟨a, b⟩ hab
      simp only [Ez] at hab
      obtain ⟨rfl, rfl⟩ := hab
      generalize KD r v.left = a at hK ⊢
      generalize KD r v.right = b at hK ⊢
      have hf : Em v.cmp a b = false -> K (cB false) m h := λ e => by rw [e] at hK; exact hK
      refine ⟨a, rfl, aB (λ e1 => hf ?_) (λ e1 => ⟨b, rfl, aB (λ e2 => hf ?_) (λ e2 => aB (λ e3 => hf ?_) (λ e3 => ⟨v.cmp, rfl, ?_⟩))⟩)⟩
      . have e1 : lI a = false := by simpa using e1
        simp [Em, e1]
      . have e2 : lI b = false := by simpa using e2
        simp [Em, e2]
      . have e3 : a.kind ≠ b.kind := by simpa using e3
        simp [Em, e3]
      . have e1 : lI a = true := by simpa using e1
        have e2 : lI b = true := by simpa using e2
        have e3 : a.kind = b.kind := by simpa using e3
        have e4 : Em v.cmp a b = Wc v.cmp (jX a b) := by simp [Em, e1, e2, e3]
        rw [e4] at hK
        unfold Wc at hK
        refine aB (λ c1 => ?_) (λ c1 => aB (λ c2 => ?_) (λ c2 => aB (λ c3 => ?_) (λ c3 => aB (λ c4 => ?_) (λ c4 => aB (λ c5 => ?_) (λ c5 => aB (λ c6 => ?_) (λ c6 => ?_))))))
        all_goals simp only [beq_iff_eq, beq_eq_false_iff_ne] at *
        . rw [if_pos c1] at hK; exact ⟨a, b, rfl, _, rfl, hK⟩
        . rw [if_neg c1, if_pos c2] at hK; exact ⟨a, b, rfl, _, rfl, hK⟩
        . rw [if_neg c1, if_neg c2, if_pos c3] at hK; exact ⟨a, b, rfl, _, rfl, hK⟩
        . rw [if_neg c1, if_neg c2, if_neg c3, if_pos c4] at hK; exact ⟨a, b, rfl, _, rfl, hK⟩
        . rw [if_neg c1, if_neg c2, if_neg c3, if_neg c4, if_pos c5] at hK; exact ⟨a, b, rfl, _, rfl, hK⟩
        . rw [if_neg c1, if_neg c2, if_neg c3, if_neg c4, if_neg c5, if_pos c6] at hK; exact ⟨a, b, rfl, _, rfl, hK⟩
        . rw [if_neg c1, if_neg c2, if_neg c3, if_neg c4, if_neg c5, if_neg c6] at hK; exact hK
  all_goals have n3 : v.op ≠ 3 := by simpa using h3
  all_goals rw [if_neg n1, if_neg n3] at hK
  . rw [if_pos (by simpa using h4), HY] at hK
    refine ⟨λ i => i <= ps.length /\ ∀ j : Nat, j < i -> ∀ x, ps[j]? = some x -> kO r x = true, λ i => ps.length - i, ⟨0, ⟨aC, λ j hj => by omega⟩, MT⟩, λ i ⟨hi, hall⟩ => aE (λ hlt2 => ?_) (λ hge => ?_)⟩
    . obtain ⟨x, hx⟩ := fE hl hlt2
      obtain ⟨b1, o1, u, e1, r1, ru⟩ := ha.at hx
      have := hlt (lP hx)
      refine ⟨b1, o1, e1, aC, hlt2, u, .imm r1, u, s, x, r, rfl, ru, hs, aC, aB (λ hne => ?_) (λ he => ⟨i + 1, ⟨aC, λ j hj y hy => ?_⟩, (show ps.length - (i + 1) < ps.length - i by omega), MT⟩)⟩
      . have : ps.all (kO r) = false := by
         cases e3 : ps.all (kO r) with
         | false => rfl
         | true => rw [Tn] at e3; rw [e3 x (lP hx)] at hne; cases hne
        rw [this] at hK; exact hK
      . by_cases e4 : j = i
        . subst e4; rw [hx] at hy; cases hy; simpa using he
        . exact hall j aC y hy
    . have : ps.all (kO r) = true := by
       rw [Tn]
       intro y hy
       obtain ⟨j, hj⟩ := List.getElem?_of_mem hy
       exact hall j (by have := (mG.1 hj).1; omega) y hj
      rw [this] at hK; exact hK
  all_goals have n4 : v.op ≠ 4 := by simpa using h4
  all_goals rw [if_neg n4] at hK
  . rw [if_pos (by simpa using h5), HX] at hK
    refine ⟨λ i => i <= ps.length /\ ∀ j : Nat, j < i -> ∀ x, ps[j]? = some x -> kO r x = false, λ i => ps.length - i, ⟨0, ⟨aC, λ j hj => by omega⟩, MT⟩, λ i ⟨hi, hall⟩ => aE (λ hlt2 => ?_) (λ hge => ?_)⟩
    . obtain ⟨x, hx⟩ := fE hl hlt2
      obtain ⟨b1, o1, u, e1, r1, ru⟩ := ha.at hx
      have := hlt (lP hx)
      refine ⟨b1, o1, e1, aC, hlt2, u, .imm r1, u, s, x, r, rfl, ru, hs, aC, aB (λ he => ?_) (λ hne => ⟨i + 1, ⟨aC, λ j hj y hy => ?_⟩, (show ps.length - (i + 1) < ps.length - i by omega), MT⟩)⟩
      . have : ps.any (kO r) = true := List.any_eq_true.2 ⟨x, lP hx, he⟩
        rw [this] at hK; exact hK
      . by_cases e4 : j = i
        . subst e4; rw [hx] at hy; cases hy; exact hne
        . exact hall j aC y hy
    . have : ps.any (kO r) = false := by
       rw [List.any_eq_false]
       intro y hy
       obtain ⟨j, hj⟩ := List.getElem?_of_mem hy
       rw [hall j (by have := (mG.1 hj).1; omega) y hj]; simp
      rw [this] at hK; exact hK
  all_goals have n5 : v.op ≠ 5 := by simpa using h5
  all_goals rw [if_neg n5] at hK
  . rw [if_pos (by simpa using h6)] at hK
    refine aE (λ h7 => ?_) (λ h7 => ?_)
    . obtain ⟨x, hx⟩ := fE (i := 0) hl aC
      obtain ⟨b1, o1, u, e1, r1, ru⟩ := ha.at hx
      have := hlt (lP hx)
      have e7 : Pu r ps = !kO r x := by
       cases ps with
       | nil => simp at hx
       | cons y _ => simp at hx; subst hx; rfl
      rw [e7] at hK
      exact ⟨b1, o1, e1, aC, aC, u, .imm (by simpa using r1), u, s, x, r, rfl, ru, hs, aC, hK⟩
    . have : ps = [] := List.length_eq_zero_iff.1 aC
      subst this
      exact hK
  . rw [if_neg (by simpa using h6)] at hK; exact hK
theorem RZ : Sound Tryz.prog 183 XS := vW Qm λ _ _ _ _ ⟨v, s, p, r, e, h1, h2, h3⟩ => ⟨SizeOf.sizeOf p + 1, v, s, p, r, e, h1, h2, aC, h3⟩
end Go.Ps
