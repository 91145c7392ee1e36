/-
  Part 6 of a proof that a law of the given program returns true: a condition generator that is proved sound, and contracts of functions. No condition of its own. Own work, joined by a program (pack2.py); the shelf's contracts among it as the kit's tool wrote them.
-/
import Derived.Shelf.Strconv.Itoa0
import Derived.Shelf.Strconv.Itoa1
import Derived.Shelf.LaysM
import Derived.Shelf.Strconv.Itoa2
import Derived.Shelf.Strconv.AppendUint10
import Derived.Shelf.Strconv.AppendInt10
import Derived.Shelf.Strconv.AppendIntPublic10
import Derived.Test.YtogokeienebdfaaGreatDoorProg
import Derived.Lib.ItoaLen
import Derived.Test.YtogokeienebdfaaGreatDoorMe
namespace Go.Proofs
open Go.Shelf
def Tryz.lays283_ren : Go.Shelf.Ren := ⟨λ | 283 => 140 | n => n, λ | 3 => 3 | 9 => 9 | 4 => 4 | n => n, λ | n => n⟩
theorem Tryz.lays283 : Go.Proofs.Lays.n283 Tryz.prog Tryz.lays283_ren := {
 mixed := by kernel_rfl
 f283 := Tryz.func140.trans (congrArg some (by kernel_rfl))
 t3 := Tryz.underlying3
 a3 := Tryz.isAgg3
 z3 := Tryz.sizeOf3
 v3 := Tryz.zeroValue3
 t4 := Tryz.underlying4
 a4 := Tryz.isAgg4
 z4 := Tryz.sizeOf4
 v4 := Tryz.zeroValue4
 t9 := Tryz.underlying9
 a9 := Tryz.isAgg9
 z9 := Tryz.sizeOf9
 v9 := Tryz.zeroValue9 }
open Go.Lib in
theorem Tryz.internal_strconv_small (i : Nat) (h : i < 100) (w : World) :
 Calls Tryz.prog 140 #[.int .i64 i] w λ e w' => e = .returned (.string ⟨(Lib.decDigits i).toArray⟩) /\ w' = w := Any.internal_strconv_small Tryz.lays283 i h w
def Tryz.laysM284_ren : Go.Shelf.Ren := ⟨λ | 284 => 141 | 129 => 146 | 317 => 145 | 318 => 147 | n => n, λ | 53 => 184 | 3 => 3 | 212 => 197 | 0 => 0 | 4 => 4 | 46 => 200 | 5 => 5 | 9 => 9 | n => n, λ | 17 => 0 | n => n⟩
theorem Tryz.laysM284 : Go.Proofs.LaysM.n284 Tryz.prog Tryz.laysM284_ren := {
 mixed := by kernel_rfl
 f129 := Tryz.func146.trans (congrArg some (by kernel_rfl))
 f284 := Tryz.func141.trans (congrArg some (by kernel_rfl))
 f317 := Tryz.func145.trans (congrArg some (by kernel_rfl))
 f318 := Tryz.func147.trans (congrArg some (by kernel_rfl))
 t0 := Tryz.underlying0
 a0 := Tryz.isAgg0
 z0 := Tryz.sizeOf0
 v0 := Tryz.zeroValue0
 t3 := Tryz.underlying3
 a3 := Tryz.isAgg3
 z3 := Tryz.sizeOf3
 v3 := Tryz.zeroValue3
 t4 := Tryz.underlying4
 a4 := Tryz.isAgg4
 z4 := Tryz.sizeOf4
 v4 := Tryz.zeroValue4
 t5 := Tryz.underlying5
 a5 := Tryz.isAgg5
 z5 := Tryz.sizeOf5
 v5 := Tryz.zeroValue5
 t9 := Tryz.underlying9
 a9 := Tryz.isAgg9
 z9 := Tryz.sizeOf9
 v9 := Tryz.zeroValue9
 t46 := Tryz.underlying200
 a46 := Tryz.isAgg200
 z46 := Tryz.sizeOf200
 v46 := Tryz.zeroValue200
 t53 := Tryz.underlying184
 a53 := Tryz.isAgg184
 z53 := Tryz.sizeOf184
 v53 := Tryz.zeroValue184
 t212 := Tryz.underlying197
 a212 := Tryz.isAgg197
 z212 := Tryz.sizeOf197
 v212 := Tryz.zeroValue197
 g17 := by kernel_rfl
 i0 := by kernel_rfl
 i3 := by kernel_rfl
 i4 := by kernel_rfl
 i5 := by kernel_rfl
 i9 := by kernel_rfl
 i46 := by kernel_rfl
 i53 := by kernel_rfl
 i212 := by kernel_rfl
 m17 := by kernel_rfl }
open Go.Lib in
theorem Tryz.internal_strconv_numDigits (u : Nat) (h1 : 1 <= u) (h2 : u < 18446744073709551616) (w : World) (htab : Lib.TabIs Tryz.prog w "internal/strconv.uint64pow10" .u64 Lib.pow10Tab) :
 Calls Tryz.prog 141 #[.int .u64 u] w λ e w' => e = .returned (.int .i64 (Lib.nDigits u)) /\ w' = w := Any.internal_strconv_numDigits Tryz.laysM284 u h1 h2 w htab
def Tryz.lays285_ren : Go.Shelf.Ren := ⟨λ | 285 => 142 | n => n, λ | 37 => 22 | 53 => 184 | 3 => 3 | 4 => 4 | 51 => 198 | 9 => 9 | 5 => 5 | 0 => 0 | n => n, λ | n => n⟩
theorem Tryz.lays285 : Go.Proofs.Lays.n285 Tryz.prog Tryz.lays285_ren := {
 mixed := by kernel_rfl
 f285 := Tryz.func142.trans (congrArg some (by kernel_rfl))
 t0 := Tryz.underlying0
 a0 := Tryz.isAgg0
 z0 := Tryz.sizeOf0
 v0 := Tryz.zeroValue0
 t3 := Tryz.underlying3
 a3 := Tryz.isAgg3
 z3 := Tryz.sizeOf3
 v3 := Tryz.zeroValue3
 t4 := Tryz.underlying4
 a4 := Tryz.isAgg4
 z4 := Tryz.sizeOf4
 v4 := Tryz.zeroValue4
 t5 := Tryz.underlying5
 a5 := Tryz.isAgg5
 z5 := Tryz.sizeOf5
 v5 := Tryz.zeroValue5
 t9 := Tryz.underlying9
 a9 := Tryz.isAgg9
 z9 := Tryz.sizeOf9
 v9 := Tryz.zeroValue9
 t37 := Tryz.underlying22
 a37 := Tryz.isAgg22
 z37 := Tryz.sizeOf22
 v37 := Tryz.zeroValue22
 t51 := Tryz.underlying198
 a51 := Tryz.isAgg198
 z51 := Tryz.sizeOf198
 v51 := Tryz.zeroValue198
 t53 := Tryz.underlying184
 a53 := Tryz.isAgg184
 z53 := Tryz.sizeOf184
 v53 := Tryz.zeroValue184 }
open Go.RowKit Go.Sort Go.Lib in
theorem Tryz.internal_strconv_formatBase10 (blk off cap : Nat) (u : Nat) (d : Array UInt8) (w : World) (hH : Holds (fun (b : UInt8) => Value.int .u8 (b.toNat : Int)) w blk off d) (hu : u < 10 ^ d.size) (hu64 : u < 18446744073709551616) (hsz : d.size < 4611686018427387904) :
 Calls Tryz.prog 142 #[.slice (some ⟨blk, off, none⟩) d.size cap, .int .u64 u] w λ e w' =>
  e = .returned (.tuple #[]) /\ ∃ (n v' : Nat) (dk : Array UInt8), w' = (putRow (fun (b : UInt8) => Value.int .u8 (b.toNat : Int)) w blk off dk).drewN n /\ FmtInv d.size u 0 v' dk := Any.internal_strconv_formatBase10 Tryz.lays285 blk off cap u d w hH hu hu64 hsz
end Go.Proofs
namespace Go.Ps
open Go Go.Vc Go.Proofs
variable {K : CV -> MH -> PH -> Prop} {m : MH} {h : PH} {s : oC} {ps : List Int} {ts : List Step} {cb : Nat} {sc : bH} {v : QV} {q : Query} {t : Step} {p : Pred} {l : List Int} {i : Nat} {N : Nat} {m' : MH} {h' : PH} {co : List Int} {gr : List Int} {od : List (Int × Bool)} {w : Pred} {ta : Int} {li : Int} {xs : List (List Value)} {sz : Nat} {k : Nat} {ks : List (List Int)} {rs : List Int} {r : Sl} {a : List Int} {b : Nat}
def jV (m : MH) : Prop := ∃ T fz, T ≠ 60 /\ T ≠ 90 /\ m 0 = some (.cells (Lib.pow10Tab.map λ z => Value.int .u64 z).toArray T fz)
def cU (u : Nat) : CV := .val (.int .u64 u)
def Ws : Vc.Spec := λ cvs m h K => ∃ i : Nat, cvs = [cI i] /\ i < 100 /\ K (MK ⟨(Lib.decDigits i).toArray⟩) m h
def Kz : Vc.Spec := λ cvs m h K => ∃ u : Nat, cvs = [cU u] /\ 1 <= u /\ u < 18446744073709551616 /\ jV m /\ K (cI (Lib.nDigits u)) m h
def Wr : Vc.Spec := λ cvs m h K => ∃ b cap u : Nat, ∃ (cs : Array Value) (T : TypeId), cvs = [.val (.slice (some ⟨b, 0, none⟩) (Lib.nDigits u) cap), cU u] /\ u < 18446744073709551616 /\ m b = some (.cells cs T (0, 0)) /\ cs.toList = List.replicate 24 (.int .u8 0) /\
 ∀ cs' m', cs'.size = cs.size -> cs'.toList.take (Lib.nDigits u) = Lib.byteCells (Lib.decDigits u) -> gS m m' b (.cells cs' T (0, 0)) -> K (.tup []) m' h
def SZ : Vc.Spec := λ cvs m h K => ∃ xs, ∃ u : Nat, cvs = [.lst 5 1 xs, cU u, cI 10] /\ u < 18446744073709551616 /\ jV m /\ xs.length + 30 <= 140737488355328 /\ K (.lst 5 1 (xs ++ bA (Lib.decDigits u))) m h
def j6 (i : Int) : List UInt8 := if i < 0 then 45 :: Lib.decDigits (IntKind.u64.wrap (0 - IntKind.u64.wrap i)).toNat else Lib.decDigits (IntKind.u64.wrap i).toNat
def H4 : Vc.Spec := λ cvs m h K => ∃ xs i, cvs = [.lst 5 1 xs, cI i, cI 10] /\ jV m /\ xs.length + 40 <= 140737488355328 /\ K (.lst 5 1 (xs ++ bA (j6 i))) m h
noncomputable abbrev eD  : Value := Iy 0
noncomputable abbrev xY (a : Int) : CV := CV.val (Value.int IntKind.u64 a)
abbrev G8 (a : Nat) : Prop := a < 18446744073709551616
noncomputable abbrev Bs (a : Nat) : Int := (↑(Lib.nDigits a) : Int)
attribute [push_cast] eD xY G8 Bs
def E8 (xs : List (List Value)) (u : Nat) (m : MH) (h : PH) (K : CV -> MH -> PH -> Prop) : Prop :=
  bE (↑u : Int) 100 (∃ (i : Nat), aA (D2 (fS (y9 (↑u : Int))) = D2 (fS (↑i : Int))) (i < 100) (aA (vC xs (fZ (ByteArray.mk (Array.mk (Lib.decDigits i)))) 1) (pW xs (fZ (ByteArray.mk (Array.mk (Lib.decDigits i))))) (K (CV.lst 5 1 (xs ++ fZ (ByteArray.mk (Array.mk (Lib.decDigits i))))) m h))) (∀ (b : Nat) (m1 : MH), gX m h b -> hO m m1 b (aL eD eD (aL eD eD (aL eD eD (aL eD eD (aL eD eD (aL eD eD (aL eD eD (aL eD eD (aL eD eD (aL eD eD (aL eD eD (aL eD eD [])))))))))))) 190 -> ∃ (u1 : Nat), aA (D2 (xY (↑u : Int)) = D2 (xY (↑u1 : Int))) (1 <= u1) (aA (G8 u1) (jV m1) (aA (aW (Bs u1)) (Bs u1 <= 24) (aY (λ b1 c => ∃ (u2 : Nat), xB (λ c1 T => aA (lY (CV.val
 (Value.slice (Option.some (Iz b 0)) (Bs u1).toNat 24)) (xY (↑u : Int)) = lY (CV.val (Value.slice (Option.some (Iz b1 0)) (Lib.nDigits u2) c)) (xY (↑u2 : Int))) (G8 u2) (aA (m1 b1 = Option.some (xJ c1 T 0)) (c1.toList = aL eD eD (aL eD eD (aL eD eD (aL eD eD (aL eD eD (aL eD eD (aL eD eD (aL eD eD (aL eD eD (aL eD eD (aL eD eD (aL eD eD [])))))))))))) (∀ (c2 : Array Value) (m2 : MH), c2.size = c1.size -> List.take (Lib.nDigits u2) c2.toList = Lib.byteCells (Lib.decDigits u2) -> gS m1 m2 b1 (xJ c2 T 0) -> B6 (aW (Bs u1)) (Bs u1 <= 24) (λ y => aA (dK 1 y) (A0 m2 h (Sl.mk (Option.some (Iz b 0)) (Bs u1).toNat 24) 1 y) (aA (vC xs y 1) (pW xs y) (K (CV.lst 5 1 (xs ++ y)) m2 h)))))))))))
theorem TD (xs : List (List Value)) (u : Nat) (m : MH) (h : PH) (K : CV -> MH -> PH -> Prop) : E8 xs u m h K = (cG (zD [(140, Ws), (141, Kz), (142, Wr)] [] [] [] [190] [] true) Tryz.f135 (aE Tryz.f135) (entry Tryz.f135.ntmps [.lst 5 1 xs, cU u, cI 10] m h) K) := by kernel_rfl
noncomputable abbrev tR (a b : Nat) (c : List (List Value)) (d : CV) : List CV := CV.lst a b c :: cV d 10
noncomputable abbrev Gk (a : Int) : Int := IntKind.wrap IntKind.u64 a
noncomputable abbrev iN (a : List (List Value)) (b : List UInt8) : List (List Value) := a ++ bA b
attribute [push_cast] tR Gk iN
def Ja (xs : List (List Value)) (i : Int) (m : MH) (h : PH) (K : CV -> MH -> PH -> Prop) : Prop :=
  bE i 0 (B6 (fR (iV xs 1 * 1)) (kR xs) (λ x => ∃ (u : Nat), aA (tR 5 1 (iK xs (oB (Iy 45))) (xY (Gk (0 - Gk i))) = tR 5 1 x (xY (↑u : Int))) (G8 u) (aA (jV m) (fR (iV x 30)) (K (CV.lst 5 1 (iN x (Lib.decDigits u))) m h)))) (∃ (x : List (List Value)) (u : Nat), aA (tR 5 1 xs (xY (Gk i)) = tR 5 1 x (xY (↑u : Int))) (G8 u) (aA (jV m) (fR (iV x 30)) (K (CV.lst 5 1 (iN x (Lib.decDigits u))) m h)))
theorem TJ (xs : List (List Value)) (i : Int) (m : MH) (h : PH) (K : CV -> MH -> PH -> Prop) : Ja xs i m h K = (cG (zD [(135, SZ)] [] [] [] [] [(135, [0])] true) Tryz.f130 (aE Tryz.f130) (entry Tryz.f130.ntmps [.lst 5 1 xs, cI i, cI 10] m h) K) := by kernel_rfl
def RA (xs : List (List Value)) (i : Int) (m : MH) (h : PH) (K : CV -> MH -> PH -> Prop) : Prop :=
  ∃ (x : List (List Value)) (i1 : Int), aG (tR 5 1 xs (fS i) = tR 5 1 x (fS i1)) (jV m) (fR (iV x 40)) (K (CV.lst 5 1 (iN x (j6 i1))) m h)
theorem TV (xs : List (List Value)) (i : Int) (m : MH) (h : PH) (K : CV -> MH -> PH -> Prop) : RA xs i m h K = (cG (zD [(130, H4)] [] [] [] [] [(130, [0])] true) Tryz.f120 (aE Tryz.f120) (entry Tryz.f120.ntmps [.lst 5 1 xs, cI i, cI 10] m h) K) := by kernel_rfl
theorem jV.sub (h : jV m) (hs : Sub m m') : jV m' := by
 obtain ⟨T, fz, n1, n2, e⟩ := h
 exact ⟨T, fz, n1, n2, hs 0 _ e⟩
theorem Ij {w : World} {cvs : List CV} {vs : List Value} (hp : C3 w m h cvs vs) : yM ⟨w, zK m cvs vs, h, []⟩ m h w :=
 ⟨rfl, rfl, rfl, Nat.le_refl _, λ _ _ _ => rfl, hp.hsat, hp.msat, hp.disj, λ _ _ _ e => e, λ _ _ _ => rfl, λ b o hb => .inr (.inl (by rw [show m b = some o from hb]; simp))⟩
theorem Nt : Sound Tryz.prog 140 Ws := by
 refine ⟨⟨Tryz.f140, Tryz.func140, rfl, by decide⟩, ?_⟩
 rintro cvs vs m h w K ⟨i, rfl, hi, hK⟩ hp
 obtain ⟨v, rfl⟩ : ∃ v, vs = [v] := by
  have := (zE hp.args).1
  match vs, this with
  | [v], _ => exact ⟨v, rfl⟩
 have hv : v = .int .i64 i := hp.args.1
 subst hv
 refine (Tryz.internal_strconv_small i hi w).mono ?_
 rintro e w' ⟨rfl, rfl⟩
 exact ⟨_, _, m, h, rfl, hK, rfl, Ij hp, λ b hb => by simp [MK, iY] at hb⟩
theorem Ns : Sound Tryz.prog 141 Kz := by
 refine ⟨⟨Tryz.f141, Tryz.func141, rfl, by decide⟩, ?_⟩
 rintro cvs vs m h w K ⟨u, rfl, h1, h2, ⟨T, fz, _, _, ht⟩, hK⟩ hp
 obtain ⟨v, rfl⟩ : ∃ v, vs = [v] := by
  have := (zE hp.args).1
  match vs, this with
  | [v], _ => exact ⟨v, rfl⟩
 have hv : v = .int .u64 u := hp.args.1
 subst hv
 have hg := hp.msat 0 _ ht
 refine (Tryz.internal_strconv_numDigits u h1 h2 w ?_).mono ?_
 . unfold Lib.TabIs World.var?
   rw [show Tryz.prog.globalNamed _ = some 0 by kernel_rfl]
   simp only [Option.bind_some, hg]
 . rintro e w' ⟨rfl, rfl⟩
   exact ⟨_, _, m, h, rfl, hK, rfl, Ij hp, λ b hb => by simp [cI, iY] at hb⟩
theorem Nr : Sound Tryz.prog 142 Wr := by
 refine ⟨⟨Tryz.f142, Tryz.func142, rfl, by decide⟩, ?_⟩
 rintro cvs vs m h w K ⟨b, cap, u, cs, T, rfl, hu, hb, hcs, hK⟩ hp
 obtain ⟨v, v2, rfl⟩ : ∃ v v2, vs = [v, v2] := by
  have := (zE hp.args).1
  match vs, this with
  | [v, v2], _ => exact ⟨v, v2, rfl⟩
 have hv : v = .slice (some ⟨b, 0, none⟩) (Lib.nDigits u) cap := hp.args.1
 have hv2 : v2 = .int .u64 u := hp.args.2.1
 subst hv hv2
 have hg := hp.msat b _ hb
 have h20 := Lib.nDigits_le20 u hu
 have hsz : cs.size = 24 := by rw [<- Array.length_toList, hcs]; simp
 have hH : Sort.Holds (fun (b : UInt8) => Value.int .u8 (b.toNat : Int)) w b 0 (Array.replicate (Lib.nDigits u) (0 : UInt8)) := by
  intro j hj
  simp only [Array.size_replicate] at hj
  refine ⟨?_, ?_⟩
  . rw [cell_of_heap hg, hcs, List.getElem?_replicate, if_pos (by omega)]
    rw [getElem!_pos _ j (by simpa using hj)]
    simp
  . unfold World.frozen?
    rw [hg]
    simp
 have hc := Tryz.internal_strconv_formatBase10 b 0 cap u (Array.replicate (Lib.nDigits u) (0 : UInt8)) w hH (by simpa using Lib.lt_pow_nDigits u) hu (by simp; omega)
 rw [Array.size_replicate] at hc
 refine hc.mono ?_
 rintro e w' ⟨rfl, n, v', dk, rfl, hf⟩
 have hds : dk.size = Lib.nDigits u := hf.size
 obtain ⟨m', hm'⟩ : ∃ m', gS m m' b (.cells (Sort.putCells (fun (b : UInt8) => Value.int .u8 (b.toNat : Int)) 0 dk cs) T (0, 0)) := ⟨λ b' => if b' = b then some (.cells (Sort.putCells (fun (b : UInt8) => Value.int .u8 (b.toNat : Int)) 0 dk cs) T (0, 0)) else m b', by simp, λ b' hb' => by simp [hb']⟩
 have hnew : (Sort.putRow (fun (b : UInt8) => Value.int .u8 (b.toNat : Int)) w b 0 dk).heap[b]? = some (.cells (Sort.putCells (fun (b : UInt8) => Value.int .u8 (b.toNat : Int)) 0 dk cs) T (0, 0)) := by
  unfold Sort.putRow Sort.mapBlock
  simp only [Array.getElem?_modify, if_true, hg]
  rfl
 have hold : ∀ b', b' ≠ b -> (Sort.putRow (fun (b : UInt8) => Value.int .u8 (b.toNat : Int)) w b 0 dk).heap[b']? = w.heap[b']? := λ b' hb' => by
  unfold Sort.putRow Sort.mapBlock
  simp only [Array.getElem?_modify, if_neg (Ne.symm hb')]
 refine ⟨.tup [], .tuple #[], m', h, rfl, hK _ m' ?_ ?_ hm', ⟨#[], rfl, rfl⟩, ?_, λ b hb => by simp [iY] at hb⟩
 . simp [Sort.putCells]
 . apply List.ext_getElem?
   intro j
   rw [List.getElem?_take]
   have hl : (Lib.byteCells (Lib.decDigits u)).length = Lib.nDigits u := by rw [Lib.byteCells_length, Lib.decDigits_length]
   by_cases hj : j < Lib.nDigits u
   . rw [if_pos hj, Array.getElem?_toList]
     have hj2 : j < (Lib.decDigits u).length := by rw [Lib.decDigits_length]; exact hj
     have hcsj : j < cs.size := by omega
     simp only [Sort.putCells, Array.getElem?_mapIdx, Array.getElem?_eq_getElem hcsj, Option.map_some, Nat.zero_le, Nat.zero_add, Nat.sub_zero, true_and]
     rw [if_pos (by omega), Lib.byteCells, List.getElem?_map, List.getElem?_eq_getElem hj2, Lib.row_is_numeral hf j hj2]
     rfl
   . rw [if_neg hj, List.getElem?_eq_none (by omega)]
 . have hmb : ∀ b' o, m' b' = some o -> b' = b \/ m b' = some o := λ b' o hb' => by
    by_cases e : b' = b
    . exact .inl e
    . rw [hm'.other b' e] at hb'; exact .inr hb'
   have hE : zK m [.val (.slice (some ⟨b, 0, none⟩) (Lib.nDigits u) cap), cU u] [.slice (some ⟨b, 0, none⟩) (Lib.nDigits u) cap, .int .u64 u] b := .inl (by rw [hb]; simp)
   refine ⟨rfl, rfl, rfl, by simp [Sort.putRow, Sort.mapBlock], ?_, ?_, ?_, ?_, λ _ _ _ e => e, λ _ _ _ => rfl, ?_⟩
   . intro b' _ hn
     exact hold b' (λ e => hn (e ▸ hE))
   . intro b' o x hx
     have hne : b' ≠ b := λ e => by rw [e, hp.disj b _ hb o] at hx; cases hx
     show (Sort.putRow (fun (b : UInt8) => Value.int .u8 (b.toNat : Int)) w b 0 dk).cell? ⟨b', o, none⟩ = some x
     rw [World.cell?_of_block (w := w) (a := ⟨b', o, none⟩) (hold b' hne)]
     exact hp.hsat b' o x hx
   . intro b' o hb'
     by_cases e : b' = b
     . subst e; rw [hm'.at_] at hb'; cases hb'; exact hnew
     . rw [hm'.other b' e] at hb'
       rw [show ((Sort.putRow (fun (b : UInt8) => Value.int .u8 (b.toNat : Int)) w b 0 dk).drewN n).heap[b']? = _ from hold b' e]
       exact hp.msat b' o hb'
   . intro b' o hb' j
     rcases hmb b' o hb' with rfl | h1
     . exact hp.disj b' _ hb j
     . exact hp.disj b' _ h1 j
   . intro b' o hb'
     rcases hmb b' o hb' with rfl | h1
     . exact .inr hE
     . exact .inr (.inl (by rw [h1]; simp))
theorem iZ (l : List UInt8) : fZ ⟨l.toArray⟩ = bA l := by simp [fZ, bA]
theorem Fk (l : List UInt8) : (bA l).flatten = Lib.byteCells l := by
 unfold bA Lib.byteCells
 induction l with
 | nil => rfl
 | cons b r ih => simp [ih]
theorem cE (l : List UInt8) : (bA l).length = l.length := by simp [bA]
theorem Nx : Sound Tryz.prog 135 SZ := by
 refine gC (fn := Tryz.f135) (c := aE Tryz.f135) Tryz.func135 rfl (by decide) ?_
 rintro cvs m h K ⟨xs, u, rfl, hu, ht, hl, hK⟩
 refine ⟨zD [(140, Ws), (141, Kz), (142, Wr)] [] [] [] [190] [] true, rfl, aD Nt (aD Ns (aD Nr aH)), ?_⟩
 rw [<- TD xs u m h _]
 show E8 xs u m h (lZ h K)
 dsimp only [E8, push_cast]
 have h20 := Lib.nDigits_le20 u hu
 have hdl := Lib.decDigits_length u
 refine aC (λ h1 => ⟨u, ?_, by omega, ?_, ?_, ?_⟩) (λ h1 b m1 hb hm1 => ?_)
 . rw [dP (by omega) (by omega)]
 . rw [iZ, cE]; omega
 . rw [iZ, cE]; omega
 . rw [iZ]; exact .here hK
 . have hs1 : Sub m m1 := (Sub.refl m).upd hb.m_ hm1.other
   refine ⟨u, rfl, by omega, hu, ht.sub hs1, by omega, by omega, b, 24, u, _, _, by rw [Int.toNat_natCast], hu, hm1.at_, rfl, λ cs' m2 hsz htake hm2 => ⟨by omega, by omega, bA (Lib.decDigits u), DV _, ?_, ?_, ?_, ?_⟩⟩
   . refine .lent b 0 cs' 190 (0, 0) rfl ?_ hm2.at_ ?_
     . rw [Int.toNat_natCast, cE, hdl]
     . rw [Fk, Lib.byteCells_length, hdl, List.drop_zero]; exact htake
   . rw [cE]; omega
   . rw [cE]; omega
   . exact .sub (hs1.upd hb.m_ hm2.other) hK
theorem RN (i : Int) : 0 <= IntKind.u64.wrap i /\ IntKind.u64.wrap i < 18446744073709551616 := by
 simp only [IntKind.wrap, IntKind.bits, IntKind.signed]
 simp
 omega
theorem EU (i : Int) : (j6 i).length <= 21 := by
 have key : ∀ n : Int, (Lib.decDigits (IntKind.u64.wrap n).toNat).length <= 20 := λ n => by
  rw [Lib.decDigits_length]
  exact Lib.nDigits_le20 _ (by have := RN n; omega)
 unfold j6
 split
 . have := key (0 - IntKind.u64.wrap i); simp only [List.length_cons]; omega
 . have := key i; omega
theorem NC : Sound Tryz.prog 130 H4 := by
 refine aI (fn := Tryz.f130) (c := aE Tryz.f130) Tryz.func130 rfl (by decide) ?_
 rintro cvs m h K ⟨xs, i, rfl, ht, hl, hK⟩
 refine ⟨zD [(135, SZ)] [] [] [] [] [(135, [0])] true, rfl, aD Nx aH, ?_⟩
 rw [<- TJ xs i m h K]
 dsimp only [Ja, push_cast]
 have h1 := RN i
 have h2 := RN (0 - IntKind.u64.wrap i)
 refine aC (λ hn => ⟨by omega, by omega, xs ++ [[.int .u8 45]], (IntKind.u64.wrap (0 - IntKind.u64.wrap i)).toNat, ?_, by omega, ht, by simp; omega, ?_⟩) (λ hn => ⟨xs, (IntKind.u64.wrap i).toNat, ?_, by omega, ht, by omega, ?_⟩)
 . rw [show (((IntKind.u64.wrap (0 - IntKind.u64.wrap i)).toNat : Nat) : Int) = IntKind.u64.wrap (0 - IntKind.u64.wrap i) by omega]
 . have : j6 i = 45 :: Lib.decDigits (IntKind.u64.wrap (0 - IntKind.u64.wrap i)).toNat := by unfold j6; rw [if_pos hn]
   rw [this] at hK
   rw [List.append_assoc]
   exact hK
 . rw [show (((IntKind.u64.wrap i).toNat : Nat) : Int) = IntKind.u64.wrap i by omega]
 . have : j6 i = Lib.decDigits (IntKind.u64.wrap i).toNat := by unfold j6; rw [if_neg hn]
   rw [this] at hK
   exact hK
theorem HH : Sound Tryz.prog 120 H4 := by
 refine aI (fn := Tryz.f120) (c := aE Tryz.f120) Tryz.func120 rfl (by decide) ?_
 rintro cvs m h K ⟨xs, i, rfl, ht, hl, hK⟩
 refine ⟨zD [(130, H4)] [] [] [] [] [(130, [0])] true, rfl, aD NC aH, ?_⟩
 rw [<- TV xs i m h K]
 exact ⟨xs, i, rfl, ht, hl, hK⟩
def iB (l : List Int) : List UInt8 := l.flatMap λ n => j6 n ++ [32]
def F2 (v : VV) : List UInt8 := iB [v.kind] ++ (j6 v.int ++ [32]) ++ iB [(v.text.size : Int)] ++ v.text.data.toList
def B0 (o : OV) : List UInt8 := iB [o.kind, o.index] ++ F2 o.value
mutual
def kH : Pred -> List UInt8
 | .mk op cmp l r args => iB [op, cmp] ++ B0 l ++ B0 r ++ iB [(args.length : Int)] ++ lA args
def lA : List Pred -> List UInt8
 | [] => []
 | p :: ps => kH p ++ lA ps
end
theorem kM : ∀ l : List Int, (iB l).length <= 22 * l.length
 | [] => by simp [iB]
 | n :: l => by
  have := kM l
  have h2 := EU n
  unfold iB at this ⊢
  simp only [List.flatMap_cons, List.length_append, List.length_cons, List.length_nil]
  omega
def H3 : Vc.Spec := λ cvs m h K => ∃ xs s l, cvs = [.lst 5 1 xs, cS s] /\ aU h s l /\ jV m /\ xs.length + 22 * l.length + 100 <= 140737488355328 /\ K (.lst 5 1 (xs ++ bA (iB l))) m h
def S4 : Vc.Spec := λ cvs m h K => ∃ xs v, cvs = [.lst 5 1 xs, aV v] /\ jV m /\ xs.length + v.text.size + 500 <= 140737488355328 /\ K (.lst 5 1 (xs ++ bA (F2 v))) m h
def UM : Vc.Spec := λ cvs m h K => ∃ xs o, cvs = [.lst 5 1 xs, aO o] /\ jV m /\ xs.length + o.value.text.size + 1000 <= 140737488355328 /\ K (.lst 5 1 (xs ++ bA (B0 o))) m h
def UK (N : Nat) : Vc.Spec := λ cvs m h K => ∃ xs v p, cvs = [.lst 5 1 xs, aP v] /\ cX h p v /\ SizeOf.sizeOf p < N /\ jV m /\ xs.length + (kH p).length + 5000 <= 140737488355328 /\ K (.lst 5 1 (xs ++ bA (kH p))) m h
def UL : Vc.Spec := λ cvs m h K => ∃ xs v p, cvs = [.lst 5 1 xs, aP v] /\ cX h p v /\ jV m /\ xs.length + (kH p).length + 5000 <= 140737488355328 /\ K (.lst 5 1 (xs ++ bA (kH p))) m h
noncomputable def OI (s : Sl) (m : MH) (h : PH) : Ctx :=
 cO [(120, H4)] [(2, { A := Nat × List (List Value), st := λ ⟨i, xs⟩ => cD 21 23 [(0, .at (.lst 21)), (7, sv s), (8, iv s.len), (9, iv i)] [(21, .lst 5 1 xs)] m h })] [] [(120, [0])] true
noncomputable def OG (N : Nat) (v : PV) (m : MH) : Ctx :=
 cO [(93, H3), (121, UM), (94, UK N)] [(6, { A := Nat × List (List Value) × PH, st := λ ⟨i, xs, h⟩ => cD 40 42 [(0, .at (.lst 40)), (29, sv v.args), (30, iv v.args.len), (31, iv i)] [(40, .lst 5 1 xs)] m h })] [] [(93, [0]), (121, [0]), (94, [0])] true
abbrev mY (a : Nat) (b c : List (List Value)) : Prop := cM a 1 b = cM a 1 c
attribute [push_cast] mY
def LC (xs : List (List Value)) (s : Sl) (m : MH) (h : PH) (K : CV -> MH -> PH -> Prop) : Prop :=
  ∃ (I : Nat × List (List Value) -> Prop) (m1 : Nat × List (List Value) -> Nat), (∃ (x : Nat × List (List Value)), aA (I x) (eL 21) (aA (aK s) (cF s) (aA (bO x.1) (mY 5 xs x.2) (aA (m = m) (h = h) True)))) /\ ∀ (x : Nat × List (List Value)), I x -> bE (↑x.1 : Int) (aF s) (aY (λ b o => aG (bC s.a b o) (0 <= (↑x.1 : Int)) ((↑x.1 : Int) < aF s) (∃ (y : Int), bI m h b (bZ o x.1 1) (bT y) /\ ∃ (x1 : List (List Value)) (i : Int), aA (tR 5 1 x.2 (fS y) = tR 5 1 x1 (fS i)) (jV m) (aA (fR (iV x1 40)) (fR (iV (iN x1 (j6 i)) 1 * 1)) (kR (iN x1 (j6 i)) /\ ∃ (x2 : Nat × List (List Value)), aA (I x2) (m1 x2 < m1 x) (aA (eL 21) (aK s) (aA (cF s) (aZ x.1 1 x2.1) (aA (cM 5 1 (iK (iN x1 (j6 i)) (oB (Iy 32))) = cM 5 1 x2.2) (m = m) (bG h h))))))))) (K (CV.lst 5 1 x.2)
 m h)
theorem U5 (xs : List (List Value)) (s : Sl) (m : MH) (h : PH) (K : CV -> MH -> PH -> Prop) : LC xs s m h K = (cG (OI s m h) Tryz.f93 (aE Tryz.f93) (entry Tryz.f93.ntmps [.lst 5 1 xs, cS s] m h) K) := by kernel_rfl
abbrev xZ (a : Nat -> Nat -> Option Value) (b : Nat) (c : List (List Value)) (d : Sl -> PH -> (List (List Value)) -> Sl -> (List Int) -> Prop) : Prop := bQ a b c (λ x x1 => ∃ (x2 : List (List Value)), yY (λ x3 x4 => d x x1 x2 x3 x4))
noncomputable abbrev jM (a : List (List Value)) (b : Sl) : List CV := dL (CV.lst 5 1 a) b
abbrev tS (a : List (List Value)) (b : List Int) : Prop := fR (iV a (22 * b.length) + 100)
attribute [push_cast] xZ jM tS
def Fa (xs : List (List Value)) (v : VV) (m : MH) (h : PH) (K : CV -> MH -> PH -> Prop) : Prop :=
  xZ h 1 (jG (bT v.kind)) (λ s h1 x s1 l => aA (jM xs s = jM x s1) (aU h1 s1 l) (aA (jV m) (tS x l) (∃ (x1 : List (List Value)) (i : Int), aA (tR 5 1 (iN x (iB l)) (fS v.int) = tR 5 1 x1 (fS i)) (jV m) (aA (fR (iV x1 40)) (fR (iV (iN x1 (j6 i)) 1 * 1)) (kR (iN x1 (j6 i)) /\ xZ h1 1 (jG (bT (↑v.text.size : Int))) (λ s2 h2 x2 s3 l1 => aA (jM (iK (iN x1 (j6 i)) (oB (Iy 32))) s2 = jM x2 s3) (aU h2 s3 l1) (aA (jV m) (tS x2 l1) (aA (vC (iN x2 (iB l1)) (fZ v.text) 1) (pW (iN x2 (iB l1)) (fZ v.text)) (K (CV.lst 5 1 (iN x2 (iB l1) ++ fZ v.text)) m h2)))))))))
theorem TI (xs : List (List Value)) (v : VV) (m : MH) (h : PH) (K : CV -> MH -> PH -> Prop) : Fa xs v m h K = (cG (cO [(93, H3), (120, H4)] [] [] [(93, [0]), (120, [0])] true) Tryz.f131 (aE Tryz.f131) (entry Tryz.f131.ntmps [.lst 5 1 xs, aV v] m h) K) := by kernel_rfl
def Fb (xs : List (List Value)) (o : OV) (m : MH) (h : PH) (K : CV -> MH -> PH -> Prop) : Prop :=
  xZ h 1 (mI (oB (hX o)) (oB (hZ o))) (λ s h1 x s1 l => aA (jM xs s = jM x s1) (aU h1 s1 l) (aA (jV m) (tS x l) (∃ (x1 : List (List Value)) (v : VV), aG (bX (CV.lst 5 1 (iN x (iB l))) o.value.enc = bX (CV.lst 5 1 x1) v.enc) (jV m) (fR (iV x1 v.text.size + 500)) (K (CV.lst 5 1 (iN x1 (F2 v))) m h1))))
theorem TU (xs : List (List Value)) (o : OV) (m : MH) (h : PH) (K : CV -> MH -> PH -> Prop) : Fb xs o m h K = (cG (cO [(93, H3), (131, S4)] [] [] [(93, [0]), (131, [0])] true) Tryz.f121 (aE Tryz.f121) (entry Tryz.f121.ntmps [.lst 5 1 xs, aO o] m h) K) := by kernel_rfl
def Hl (N : Nat) (xs : List (List Value)) (v : PV) (m : MH) (h : PH) (K : CV -> MH -> PH -> Prop) : Prop :=
  xZ h 1 (mI (bT v.op) (bT v.cmp)) (λ s h1 x s1 l => aA (jM xs s = jM x s1) (aU h1 s1 l) (aA (jV m) (tS x l) (∃ (x1 : List (List Value)) (o : OV), aG (bX (CV.lst 5 1 (iN x (iB l))) (u9 v) = bX (CV.lst 5 1 x1) o.enc) (jV m) (fR (iV x1 o.value.text.size + 1000)) (∃ (x2 : List (List Value)) (o1 : OV), aG (bX (CV.lst 5 1 (iN x1 (B0 o))) (tH v) = bX (CV.lst 5 1 x2) o1.enc) (jV m) (fR (iV x2 o1.value.text.size + 1000)) (xZ h1 1 (jG (bT (lE v))) (λ s2 h2 x3 s3 l1 => aA (jM (iN x2 (B0 o1)) s2 = jM x3 s3) (aU h2 s3 l1) (aA (jV m) (tS x3 l1) (∃ (I : Nat × List (List Value) × PH -> Prop) (m1 : Nat × List (List Value) × PH -> Nat), (∃ (x4 : Nat × List (List Value) × PH), aA (I x4) (eL 40) (aA (aK v.args) (oT v) (aA (bO x4.1) (mY 5 (iN x3
 (iB l1)) x4.2.1) (aA (m = m) (h2 = x4.2.2) True)))) /\ ∀ (x4 : Nat × List (List Value) × PH), I x4 -> bE (↑x4.1 : Int) (aF v.args) (aY (λ b o2 => aG (bC v.args.a b o2) (0 <= (↑x4.1 : Int)) ((↑x4.1 : Int) < aF v.args) (∃ (y : PV), bI m x4.2.2 b (bZ o2 x4.1 13) y.enc /\ ∃ (x5 : List (List Value)), kC (λ v1 p => aA (bX (CV.lst 5 1 x4.2.1) y.enc = bX (CV.lst 5 1 x5) v1.enc) (cX x4.2.2 p v1) (aA (nV p N) (jV m) (fR (iV x5 (kH p).length + 5000) /\ ∃ (x6 : Nat × List (List Value) × PH), aA (I x6) (m1 x6 < m1 x4) (aA (eL 40) (aK v.args) (aA (oT v) (aZ x4.1 1 x6.1) (aA (mY 5 (iN x5 (kH p)) x6.2.1) (m = m) (bG x4.2.2 x6.2.2)))))))))) (K (CV.lst 5 1 x4.2.1) m x4.2.2)))))))))
theorem U4 (N : Nat) (xs : List (List Value)) (v : PV) (m : MH) (h : PH) (K : CV -> MH -> PH -> Prop) : Hl N xs v m h K = (cG (OG N v m) Tryz.f94 (aE Tryz.f94) (entry Tryz.f94.ntmps [.lst 5 1 xs, aP v] m h) K) := by kernel_rfl
theorem fA (a b : List UInt8) : bA (a ++ b) = bA a ++ bA b := by simp [bA]
theorem aU.ofRow {s : Sl} (r : cW h s 1 (l.map eI)) (hl : l.length <= 17592186044416) : aU h s l := ⟨r, hl⟩
theorem Qx {x : Int} (hx : l[i]? = some x) : iB (l.take (i + 1)) = iB (l.take i) ++ j6 x ++ [32] := by
 rw [List.take_add_one, hx]
 simp [iB]
theorem CK : Sound Tryz.prog 93 H3 := by
 refine aI (fn := Tryz.f93) (c := aE Tryz.f93) Tryz.func93 rfl (by decide) ?_
 rintro cvs m h K ⟨xs, s, l, rfl, hs, ht, hl, hK⟩
 refine ⟨OI s m h, rfl, aD HH aH, ?_⟩
 rw [<- U5 xs s m h K]
 dsimp only [LC, push_cast]
 have hsl := hs.slen
 refine ⟨λ ⟨i, ys⟩ => i <= l.length /\ ys = xs ++ bA (iB (l.take i)), λ ⟨i, _⟩ => l.length - i, ⟨(0, xs), ⟨by omega, by simp [iB, bA]⟩, MT⟩, ?_⟩
 rintro ⟨i, ys⟩ ⟨hi, rfl⟩
 dsimp only
 refine aC (λ hlt => ?_) (λ hge => ?_)
 . obtain ⟨x, hx⟩ := fP hsl hlt
   obtain ⟨b, o, e, r⟩ := hs.at' hx
   have h1 := kM (l.take i)
   have h2 := EU x
   have h3 : (l.take i).length = i := by simp; omega
   refine ⟨b, o, e, by omega, hlt, x, .imm r, _, x, rfl, ht, ?_, ?_, ?_, (i + 1, xs ++ bA (iB (l.take (i + 1)))), ⟨by omega, rfl⟩, by show l.length - (i + 1) < l.length - i; omega, ?_⟩
   . rw [List.length_append, cE]; omega
   . rw [List.length_append, List.length_append, cE, cE]; omega
   . rw [List.length_append, List.length_append, cE, cE]; omega
   . rw [Qx hx, fA, fA, <- List.append_assoc, <- List.append_assoc]
     exact MT
 . rw [List.take_of_length_le (by omega)]; exact hK
theorem NB : Sound Tryz.prog 131 S4 := by
 refine gC (fn := Tryz.f131) (c := aE Tryz.f131) Tryz.func131 rfl (by decide) ?_
 rintro cvs m h K ⟨xs, v, rfl, ht, hl, hK⟩
 refine ⟨cO [(93, H3), (120, H4)] [] [] [(93, [0]), (120, [0])] true, rfl, aD CK (aD HH aH), ?_⟩
 rw [<- TI xs v m h _]
 show Fa xs v m h (lZ h K)
 dsimp only [Fa, push_cast]
 intro s1 h1 le1 r1
 have n1 := kM [v.kind]
 have n2 := EU v.int
 have n3 := kM [(v.text.size : Int)]
 have n4 : (fZ v.text).length = v.text.size := by simp [fZ]
 simp only [List.length_cons, List.length_nil] at n1 n3
 refine ⟨_, s1, [v.kind], rfl, .ofRow r1 (by simp), ht, by simp; omega, _, v.int, rfl, ht, ?_, ?_, ?_, λ s2 h2 le2 r2 => ⟨_, s2, [(v.text.size : Int)], rfl, .ofRow r2 (by simp), ht, ?_, ?_, ?_, ?_⟩⟩
 . rw [List.length_append, cE]; omega
 . simp only [List.length_append, cE]; omega
 . simp only [List.length_append, cE]; omega
 . simp only [List.length_append, cE, List.length_cons, List.length_nil]; omega
 . simp only [List.length_append, cE, List.length_cons, List.length_nil]; omega
 . simp only [List.length_append, cE, List.length_cons, List.length_nil]; omega
 . refine .out (Sub.refl m) (le1.trans le2) ?_
   rw [F2, fA, fA, fA, fA] at hK
   simp only [List.append_assoc] at hK ⊢
   exact hK
theorem NI : Sound Tryz.prog 121 UM := by
 refine gC (fn := Tryz.f121) (c := aE Tryz.f121) Tryz.func121 rfl (by decide) ?_
 rintro cvs m h K ⟨xs, o, rfl, ht, hl, hK⟩
 refine ⟨cO [(93, H3), (131, S4)] [] [] [(93, [0]), (131, [0])] true, rfl, aD CK (aD NB aH), ?_⟩
 rw [<- TU xs o m h _]
 show Fb xs o m h (lZ h K)
 dsimp only [Fb, push_cast]
 intro s1 h1 le1 r1
 have n1 := kM [o.kind, o.index]
 simp only [List.length_cons, List.length_nil] at n1
 refine ⟨_, s1, [o.kind, o.index], rfl, .ofRow r1 (by simp), ht, by simp; omega, _, o.value, rfl, ht, ?_, ?_⟩
 . rw [List.length_append, cE]; omega
 . refine .out (Sub.refl m) le1 ?_
   rw [B0, fA, <- List.append_assoc] at hK
   exact hK
theorem RG (v : VV) : v.text.size <= (F2 v).length := by
 have : v.text.data.toList.length = v.text.size := by simp
 simp only [F2, List.length_append]; omega
theorem Lh (o : OV) : o.value.text.size <= (B0 o).length := by
 have := RG o.value
 simp only [B0, List.length_append]; omega
theorem FN {l : List Pred} {x : Pred} (hx : l[i]? = some x) : lA (l.take (i + 1)) = lA (l.take i) ++ kH x := by
 have key : ∀ (a : List Pred), lA (a ++ [x]) = lA a ++ kH x := by
  intro a
  induction a with
  | nil => simp [lA]
  | cons y a ih => simp [lA, ih]
 rw [List.take_add_one, hx]
 exact key _
theorem Le {l : List Pred} : ∀ (i : Nat), (lA (l.take i)).length <= (lA l).length := by
 induction l with
 | nil => intro i; simp
 | cons y a ih =>
  intro i
  cases i with
  | zero => simp [lA]
  | succ i => have := ih i; simp only [List.take_succ_cons, lA, List.length_append]; omega
theorem OH : ∀ N, Sound Tryz.prog 94 (UK N)
 | 0 => by
  refine gC (fn := Tryz.f94) (c := aE Tryz.f94) Tryz.func94 rfl (by decide) ?_
  rintro cvs m h K ⟨xs, v, p, rfl, _, hN, _, _, _⟩
  omega
 | N + 1 => by
  refine gC (fn := Tryz.f94) (c := aE Tryz.f94) Tryz.func94 rfl (by decide) ?_
  rintro cvs m h K ⟨xs, v, p, rfl, hp, hN, ht, hl, hK⟩
  refine ⟨OG N v m, rfl, aD CK (aD NI (aD (OH N) aH)), ?_⟩
  rw [<- U4 N xs v m h _]
  show Hl N xs v m h (lZ h K)
  dsimp only [Hl, push_cast]
  have hargs := @uL p
  obtain ⟨op, cmp, l, r, qs⟩ := p
  obtain ⟨rfl, rfl, rfl, rfl, ha⟩ := hp.parts
  have hal := ha.slen
  have halen := ha.len
  simp only [Pred.args] at hargs
  have b1 := Lh v.left
  have b2 := Lh v.right
  have n1 := kM [v.op, v.cmp]
  have n2 := kM [(qs.length : Int)]
  simp only [List.length_cons, List.length_nil] at n1 n2
  simp only [kH, List.length_append] at hl
  intro s1 h1 le1 r1
  refine ⟨_, s1, [v.op, v.cmp], rfl, .ofRow r1 (by simp), ht, by simp; omega, _, v.left, rfl, ht, ?_, _, v.right, rfl, ht, ?_, λ s2 h2 le2 r2 => ⟨_, s2, [(v.args.len : Int)], rfl, .ofRow r2 (by simp), ht, ?_, ?_⟩⟩
  . simp only [List.length_append, cE]; omega
  . simp only [List.length_append, cE]; omega
  . simp only [List.length_append, cE, List.length_cons, List.length_nil]; omega
  rw [hal]
  refine ⟨λ ⟨i, ys, hx⟩ => i <= qs.length /\ PH.le h hx /\ ys = xs ++ bA (iB [v.op, v.cmp]) ++ bA (B0 v.left) ++ bA (B0 v.right) ++ bA (iB [(qs.length : Int)]) ++ bA (lA (qs.take i)), λ ⟨i, _, _⟩ => qs.length - i, ⟨(0, _, h2), ⟨by omega, le1.trans le2, rfl⟩, ?_⟩, ?_⟩
  . simp only [List.take_zero, lA, bA, List.map_nil, List.append_nil]; exact MT
  rintro ⟨i, ys, hx⟩ ⟨hi, hle, rfl⟩
  dsimp only
  refine aC (λ hlt => ?_) (λ hge => ?_)
  . obtain ⟨q, hq⟩ := fP rfl hlt
    obtain ⟨bb, o, u, e, rr, hru⟩ := (ha.mono hle).at hq
    have b3 := Le (l := qs) (i + 1)
    rw [FN hq, List.length_append] at b3
    refine ⟨bb, o, e, by omega, by omega, u, .imm rr, _, u, q, rfl, hru, ?_, ht, ?_, (i + 1, xs ++ bA (iB [v.op, v.cmp]) ++ bA (B0 v.left) ++ bA (B0 v.right) ++ bA (iB [(qs.length : Int)]) ++ bA (lA (qs.take (i + 1))), hx), ⟨by omega, hle, rfl⟩, by show qs.length - (i + 1) < qs.length - i; omega, ?_⟩
    . have := hargs (List.mem_of_getElem? hq); omega
    . simp only [List.length_append, cE]; omega
    . rw [FN hq, fA, <- List.append_assoc]; exact MT
  . rw [List.take_of_length_le (by omega)]
    refine .out (Sub.refl m) hle ?_
    simp only [kH, fA, <- List.append_assoc] at hK
    exact hK
theorem QO : Sound Tryz.prog 94 UL := gN OH λ _ _ _ _ ⟨xs, v, p, e, h1, h2, h3, h4⟩ => ⟨SizeOf.sizeOf p + 1, xs, v, p, e, h1, by omega, h2, h3, h4⟩
def jN (l : List (Int × Int)) : List UInt8 := l.flatMap λ p => iB [p.1, p.2]
def kL (l : List (Int × Bool)) : List UInt8 := l.flatMap λ p => iB [p.1, if p.2 then 1 else 0]
def RQ (b : List UInt8) : Value := .string ⟨b.toArray⟩
def Lp (t : Step) : List Value := [.int .i64 t.op, .int .i64 t.table, .int .i64 t.limit, .int .i64 t.left, .int .i64 t.right, RQ (kH t.wher), RQ (iB t.columns), RQ (jN t.on), RQ (iB t.group), RQ (kL t.order)]
structure HW (t : Step) : Prop where
 wher : (kH t.wher).length <= 1000000000
 columns : t.columns.length <= 1000000000
 on : t.on.length <= 1000000000
 group : t.group.length <= 1000000000
 order : t.order.length <= 1000000000
def WL : Vc.Spec := λ cvs m h K => ∃ v t, cvs = [aT v] /\ hU h t v /\ HW t /\ jV m /\ K (.val (.agg ⟨Lp t⟩)) m h
def Ol : List At := [.val (.int .i64 0), .val (.int .i64 0), .val (.int .i64 0), .val (.int .i64 0), .val (.int .i64 0), .val (.string ⟨#[]⟩), .val (.string ⟨#[]⟩), .val (.string ⟨#[]⟩), .val (.string ⟨#[]⟩), .val (.string ⟨#[]⟩)]
noncomputable def O4 (v : eO) (m : MH) : Ctx :=
 cO [(93, H3), (94, UL)] [(3, { A := Nat × List (List Value) × PH, st := λ ⟨i, xs, h⟩ => cD 68 69 [(1, .at (.ptr 1 0)), (2, .at (.ptr 2 0)), (3, .at (.lst 23)), (4, .at (.val (.slice none 0 0))), (11, sv v.on), (12, iv v.on.len), (13, iv i)] [(1, .cells 60 (v.enc.map .val)), (2, .cells 129 Ol), (23, .lst 5 1 xs)] m h }),
  (8, { A := Nat × List (List Value) × List (List Value) × PH, st := λ ⟨i, xs, ys, h⟩ => cD 68 69 [(1, .at (.ptr 1 0)), (2, .at (.ptr 2 0)), (3, .at (.lst 23)), (4, .at (.lst 39)), (26, sv v.order), (27, iv v.order.len), (28, iv i)] [(1, .cells 60 (v.enc.map .val)), (2, .cells 129 Ol), (23, .lst 5 1 xs), (39, .lst 5 1 ys)] m h })] [] [(93, [0]), (94, [0])] false
abbrev jQ (a : eO) : Prop := eQ (Db 60 a.enc)
noncomputable abbrev v7 (a : Nat × List (List Value) × List (List Value) × PH) : List (List Value) := a.2.2.1
noncomputable abbrev tW (a : Nat × List (List Value) × List (List Value) × PH) : Nat -> Nat -> Option Value := a.2.2.2
abbrev v8 (a : List (List Value)) (b : List UInt8) : Prop := a = fZ (ByteArray.mk (Array.mk b))
abbrev Bl (a : Prop) (b : (List (List Value)) -> Prop) : Prop := a /\ ∃ (x : List (List Value)), b x
attribute [push_cast] jQ v7 tW v8 Bl
def Hr (v : eO) (m : MH) (h : PH) (K : CV -> MH -> PH -> Prop) : Prop :=
  ∃ (I : Nat × List (List Value) × PH -> Prop) (m1 : Nat × List (List Value) × PH -> Nat), (∃ (x : Nat × List (List Value) × PH), aA (I x) gF (aA (eP 2) (eL 23) (aA (eQ UR) (aK v.on) (aA (cF v.on) (bO x.1) (aA (jQ v) (eQ (oQ 129 (bB (bL 0) (bL 0) (bB (bL 0) (bL 0) (bB (bL 0) yL (bB yL yL (kJ yL yL))))))) (aA (rY 5 1 x.2.1) (m = m) (bG h x.2.2))))))) /\ ∀ (x : Nat × List (List Value) × PH), I x -> bE (↑x.1 : Int) (aF v.on) (aY (λ b o => aG (bC v.on.a b o) (0 <= (↑x.1 : Int)) ((↑x.1 : Int) < aF v.on) (∃ (y : Int × Int), aA (bI m x.2.2 b (bZ o x.1 2) (rK y)) (aW 0) (aA ((0 : Int) < 2) (aW 1) ((1 : Int) < 2 /\ xZ x.2.2 1 (mI (bT y.1) (bT y.2)) (λ s h1 x1 s1 l => aA (jM x.2.1 s = jM x1 s1) (aU h1 s1 l) (aA (jV m) (tS x1 l) (∃ (x2 : Nat × List (List Value) ×
 PH), aA (I x2) (m1 x2 < m1 x) (aA (eP 1) (eP 2) (aA (eL 23) (eQ UR) (aA (aK v.on) (cF v.on) (aA (aZ x.1 1 x2.1) (jQ v) (aA (eQ (oQ 129 (bB (bL 0) (bL 0) (bB (bL 0) (bL 0) (bB (bL 0) yL (bB yL yL (kJ yL yL))))))) (mY 5 (iN x1 (iB l)) x2.2.1) (cQ (m = m) h1 x2.2.2)))))))))))))) (∃ (I1 : Nat × List (List Value) × List (List Value) × PH -> Prop) (m2 : Nat × List (List Value) × List (List Value) × PH -> Nat), (∃ (x1 : Nat × List (List Value) × List (List Value) × PH), aA (I1 x1) gF (aA (eP 2) (eL 23) (aA (eL 39) (aK v.order) (aA (cF v.order) (bO x1.1) (aA (jQ v) (eQ (oQ 129 (bB (bL 0) (bL 0) (bB (bL 0) (bL 0) (bB (bL 0) yL (bB yL yL (kJ yL yL))))))) (aA (mY 5 x.2.1 x1.2.1) (rY 5 1 (v7 x1)) (cQ (m = m) x.2.2 (tW x1)))))))) /\ ∀ (x1 : Nat × List (List Value) ×
 List (List Value) × PH), I1 x1 -> bE (↑x1.1 : Int) (aF v.order) (aY (λ b o => aG (bC v.order.a b o) (0 <= (↑x1.1 : Int)) ((↑x1.1 : Int) < aF v.order) (∃ (y : Int × Bool), bI m (tW x1) b (bZ o x1.1 2) (pX y) /\ branch y.2 (xZ (tW x1) 1 (mI (bT y.1) (bT 1)) (λ s h1 x2 s1 l => aA (jM (v7 x1) s = jM x2 s1) (aU h1 s1 l) (aA (jV m) (tS x2 l) (∃ (x3 : Nat × List (List Value) × List (List Value) × PH), aA (I1 x3) (m2 x3 < m2 x1) (aA (eP 1) (eP 2) (aA (eL 23) (eL 39) (aA (aK v.order) (cF v.order) (aA (aZ x1.1 1 x3.1) (jQ v) (aA (eQ (oQ 129 (bB (bL 0) (bL 0) (bB (bL 0) (bL 0) (bB (bL 0) yL (bB yL yL (kJ yL yL))))))) (mY 5 x1.2.1 x3.2.1) (aG (mY 5 (iN x2 (iB l)) (v7 x3)) (m = m) (h1 = tW x3) True)))))))))) (xZ (tW x1) 1 (mI
 (bT y.1) yE) (λ s h1 x2 s1 l => aA (jM (v7 x1) s = jM x2 s1) (aU h1 s1 l) (aA (jV m) (tS x2 l) (∃ (x3 : Nat × List (List Value) × List (List Value) × PH), aA (I1 x3) (m2 x3 < m2 x1) (aA (eP 1) (eP 2) (aA (eL 23) (eL 39) (aA (aK v.order) (cF v.order) (aA (aZ x1.1 1 x3.1) (jQ v) (aA (eQ (oQ 129 (bB (bL 0) (bL 0) (bB (bL 0) (bL 0) (bB (bL 0) yL (bB yL yL (kJ yL yL))))))) (mY 5 x1.2.1 x3.2.1) (aG (mY 5 (iN x2 (iB l)) (v7 x3)) (m = m) (h1 = tW x3) True))))))))))))) (∃ (b : List UInt8), x1.2.1 = bA b /\ ∃ (b1 : List UInt8), aG (v7 x1 = bA b1) (v8 x1.2.1 b) (v8 (v7 x1) b1) (∃ (x2 : List (List Value)), kC (λ v1 p => aA (bX (CV.lst 5 1 []) v.where_.enc = bX (CV.lst 5 1 x2) v1.enc) (cX (tW x1) p v1) (aA (jV m) (fR (iV x2
 (kH p).length + 5000)) (∃ (b2 : List UInt8), AG (iN x2 (kH p) = bA b2) (v8 (iN x2 (kH p)) b2) (v8 x1.2.1 b) (v8 (v7 x1) b1) (λ x3 => yY (λ s l => aA (jM [] v.columns = jM x3 s) (aU (tW x1) s l) (aA (jV m) (tS x3 l) (∃ (b3 : List UInt8), aA (iN x3 (iB l) = bA b3) (v8 (iN x2 (kH p)) b2) (aA (v8 (iN x3 (iB l)) b3) (v8 x1.2.1 b) (Bl (v8 (v7 x1) b1) (λ x4 => yY (λ s1 l1 => aA (jM [] v.group = jM x4 s1) (aU (tW x1) s1 l1) (aA (jV m) (tS x4 l1) (∃ (b4 : List UInt8), iN x4 (iB l1) = bA b4 /\ K (kK (aL (cZ v.op) (cZ v.table) (aL (cZ v.limit) (cZ v.left) (aL (cZ v.right) (Value.string (ByteArray.mk (Array.mk b2))) (aL (Value.string (ByteArray.mk (Array.mk b3))) (Value.string (ByteArray.mk (Array.mk
 b))) (kY (Value.string (ByteArray.mk (Array.mk b4))) (Value.string (ByteArray.mk (Array.mk b1))))))))) m (tW x1)))))))))))))))))
theorem Vw (v : eO) (m : MH) (h : PH) (K : CV -> MH -> PH -> Prop) : Hr v m h K = (cG (O4 v m) Tryz.f70 (aE Tryz.f70) (entry Tryz.f70.ntmps [aT v] m h) K) := by kernel_rfl
theorem Lf {l : List (Int × Int)} {x : Int × Int} (hx : l[i]? = some x) : jN (l.take (i + 1)) = jN (l.take i) ++ iB [x.1, x.2] := by
 rw [List.take_add_one, hx]
 simp [jN]
theorem FI {l : List (Int × Bool)} {x : Int × Bool} (hx : l[i]? = some x) : kL (l.take (i + 1)) = kL (l.take i) ++ iB [x.1, if x.2 then 1 else 0] := by
 rw [List.take_add_one, hx]
 simp [kL]
theorem GW : ∀ l : List (Int × Int), (jN l).length <= 44 * l.length
 | [] => by simp [jN]
 | n :: l => by
  have := GW l
  have h2 := kM [n.1, n.2]
  unfold jN at this ⊢
  simp only [List.flatMap_cons, List.length_append, List.length_cons, List.length_nil] at *
  omega
theorem GG : ∀ l : List (Int × Bool), (kL l).length <= 44 * l.length
 | [] => by simp [kL]
 | n :: l => by
  have := GG l
  have h2 := kM [n.1, if n.2 then 1 else 0]
  unfold kL at this ⊢
  simp only [List.flatMap_cons, List.length_append, List.length_cons, List.length_nil] at *
  omega
theorem Q4 : Sound Tryz.prog 70 WL := by
 refine gC (fn := Tryz.f70) (c := aE Tryz.f70) Tryz.func70 rfl (by decide) ?_
 rintro cvs m h K ⟨v, t, rfl, hv, hk, ht, hK⟩
 refine ⟨O4 v m, rfl, aD CK (aD QO aH), ?_⟩
 rw [<- Vw v m h _]
 show Hr v m h (lZ h K)
 dsimp only [Hr, push_cast]
 have hon := hv.on_.slen
 have hod := hv.order_.slen
 have k1 := hk.wher
 have k2 := hk.columns
 have k3 := hk.on
 have k4 := hk.group
 have k5 := hk.order
 refine ⟨λ ⟨i, xs, hx⟩ => i <= t.on.length /\ PH.le h hx /\ xs = bA (jN (t.on.take i)), λ ⟨i, _, _⟩ => t.on.length - i, ⟨(0, [], h), ⟨by omega, .refl _, by simp [jN, bA]⟩, MT⟩, ?_⟩
 rintro ⟨i, xs, hx⟩ ⟨hi, hle, rfl⟩
 dsimp only
 refine aC (λ hlt => ?_) (λ hge => ?_)
 . obtain ⟨x, hxx⟩ := fP hon hlt
   obtain ⟨b, o, e, r⟩ := (hv.on_.mono hle).at hxx
   have n1 := GW (t.on.take i)
   have n2 : (t.on.take i).length = i := by simp; omega
   refine ⟨b, o, e, by omega, hlt, x, .imm r, by omega, by omega, by omega, by omega, λ s1 h1 le1 r1 => ⟨_, s1, [x.1, x.2], rfl, .ofRow r1 (by simp), ht, ?_, (i + 1, bA (jN (t.on.take (i + 1))), h1), ⟨by omega, hle.trans le1, rfl⟩, by show t.on.length - (i + 1) < t.on.length - i; omega, ?_⟩⟩
   . rw [cE]; simp only [List.length_cons, List.length_nil]; omega
   . rw [Lf hxx, fA]; exact MT
 rw [List.take_of_length_le (by omega)]
 refine ⟨λ ⟨i, xs, ys, hx⟩ => i <= t.order.length /\ PH.le h hx /\ xs = bA (jN t.on) /\ ys = bA (kL (t.order.take i)), λ ⟨i, _, _, _⟩ => t.order.length - i, ⟨(0, bA (jN t.on), [], hx), ⟨by omega, hle, rfl, by simp [kL, bA]⟩, MT⟩, ?_⟩
 clear hle hge hi
 clear i hx
 rintro ⟨i, xs, ys, hx⟩ ⟨hi, hle, rfl, rfl⟩
 dsimp only
 refine aC (λ hlt => ?_) (λ hge => ?_)
 . obtain ⟨x, hxx⟩ := fP hod hlt
   obtain ⟨b, o, e, r⟩ := (hv.order_.mono hle).at hxx
   have n1 := GG (t.order.take i)
   have n2 : (t.order.take i).length = i := by simp; omega
   refine ⟨b, o, e, by omega, hlt, x, .imm r, aB (λ hd s1 h1 le1 r1 => ⟨_, s1, [x.1, 1], rfl, .ofRow r1 (by simp), ht, ?_, (i + 1, bA (jN t.on), bA (kL (t.order.take (i + 1))), h1), ⟨by omega, hle.trans le1, rfl, rfl⟩, by show t.order.length - (i + 1) < t.order.length - i; omega, ?_⟩) (λ hd s1 h1 le1 r1 => ⟨_, s1, [x.1, 0], rfl, .ofRow r1 (by simp), ht, ?_, (i + 1, bA (jN t.on), bA (kL (t.order.take (i + 1))), h1), ⟨by omega, hle.trans le1, rfl, rfl⟩, by show t.order.length - (i + 1) < t.order.length - i; omega, ?_⟩)⟩
   . rw [cE]; simp only [List.length_cons, List.length_nil]; omega
   . rw [FI hxx, fA, hd]; exact MT
   . rw [cE]; simp only [List.length_cons, List.length_nil]; omega
   . rw [FI hxx, fA, hd]; exact MT
 rw [List.take_of_length_le (by omega)]
 refine ⟨_, rfl, _, rfl, iZ _, iZ _, [], v.where_, t.wher, rfl, hv.where_.mono hle, ht, by simp; omega, _, rfl, iZ _, iZ _, iZ _, [], v.columns, t.columns, rfl, hv.columns_.mono hle, ht, by simp; omega, _, rfl, iZ _, iZ _, iZ _, iZ _, [], v.group, t.group, rfl, hv.group_.mono hle, ht, by simp; omega, _, rfl, .out (Sub.refl m) hle ?_⟩
 rw [hv.op_, hv.table_, hv.limit_, hv.left_, hv.right_]
 exact hK
structure KV where
 i0 : Int
 i1 : Int
 i2 : Int
 i3 : Int
 i4 : Int
 s0 : ByteArray
 s1 : ByteArray
 s2 : ByteArray
 s3 : ByteArray
 s4 : ByteArray
def KV.val (a : KV) : Value := .agg #[.int .i64 a.i0, .int .i64 a.i1, .int .i64 a.i2, .int .i64 a.i3, .int .i64 a.i4, .string a.s0, .string a.s1, .string a.s2, .string a.s3, .string a.s4]
def Wn (a b : KV) : Bool := a.i0 == b.i0 && (a.i1 == b.i1 && (a.i2 == b.i2 && (a.i3 == b.i3 && (a.i4 == b.i4 && (a.s0.toList == b.s0.toList && (a.s1.toList == b.s1.toList && (a.s2.toList == b.s2.toList && (a.s3.toList == b.s3.toList && (a.s4.toList == b.s4.toList && (true))))))))))
theorem So (a b : KV) (d : Nat) (w : World) : (Op.equalIn (d + 2) 129 a.val b.val).run Tryz.prog w = .ok (Wn a b) w := by
 unfold KV.val
 rw [run_equalIn_struct w (d + 1) 129 _ _ (by kernel_rfl) (by kernel_rfl), show (Tryz.prog.fieldsOf 129).toList = [Dg 129 0, Dg 129 1, Dg 129 2, Dg 129 3, Dg 129 4, Dg 129 5, Dg 129 6, Dg 129 7, Dg 129 8, Dg 129 9] by kernel_rfl]
 refine dY (x := .int .i64 a.i0) (y := .int .i64 b.i0) (by kernel_rfl) (by kernel_rfl) (by kernel_rfl) (run_equalIn_int w d _ .i64 .i64 _ _ (by kernel_rfl)) ?_
 refine dY (x := .int .i64 a.i1) (y := .int .i64 b.i1) (by kernel_rfl) (by kernel_rfl) (by kernel_rfl) (run_equalIn_int w d _ .i64 .i64 _ _ (by kernel_rfl)) ?_
 refine dY (x := .int .i64 a.i2) (y := .int .i64 b.i2) (by kernel_rfl) (by kernel_rfl) (by kernel_rfl) (run_equalIn_int w d _ .i64 .i64 _ _ (by kernel_rfl)) ?_
 refine dY (x := .int .i64 a.i3) (y := .int .i64 b.i3) (by kernel_rfl) (by kernel_rfl) (by kernel_rfl) (run_equalIn_int w d _ .i64 .i64 _ _ (by kernel_rfl)) ?_
 refine dY (x := .int .i64 a.i4) (y := .int .i64 b.i4) (by kernel_rfl) (by kernel_rfl) (by kernel_rfl) (run_equalIn_int w d _ .i64 .i64 _ _ (by kernel_rfl)) ?_
 refine dY (x := .string a.s0) (y := .string b.s0) (by kernel_rfl) (by kernel_rfl) (by kernel_rfl) (run_equalIn_string w d _ _ _ (by kernel_rfl)) ?_
 refine dY (x := .string a.s1) (y := .string b.s1) (by kernel_rfl) (by kernel_rfl) (by kernel_rfl) (run_equalIn_string w d _ _ _ (by kernel_rfl)) ?_
 refine dY (x := .string a.s2) (y := .string b.s2) (by kernel_rfl) (by kernel_rfl) (by kernel_rfl) (run_equalIn_string w d _ _ _ (by kernel_rfl)) ?_
 refine dY (x := .string a.s3) (y := .string b.s3) (by kernel_rfl) (by kernel_rfl) (by kernel_rfl) (run_equalIn_string w d _ _ _ (by kernel_rfl)) ?_
 refine dY (x := .string a.s4) (y := .string b.s4) (by kernel_rfl) (by kernel_rfl) (by kernel_rfl) (run_equalIn_string w d _ _ _ (by kernel_rfl)) ?_
 simp [Op.eqFields]
theorem Sp {a b : KV} : Wn a b = true ↔ a = b := by
 obtain ⟨i0, i1, i2, i3, i4, s0, s1, s2, s3, s4⟩ := a
 obtain ⟨i0', i1', i2', i3', i4', s0', s1', s2', s3', s4'⟩ := b
 simp only [Wn, Bool.and_true, Bool.and_eq_true, beq_iff_eq, KV.mk.injEq]
 constructor
 . rintro ⟨h1, h2, h3, h4, h5, h6, h7, h8, h9, h10⟩
   exact ⟨h1, h2, h3, h4, h5, mN h6, mN h7, mN h8, mN h9, mN h10⟩
 . rintro ⟨h1, h2, h3, h4, h5, h6, h7, h8, h9, h10⟩
   exact ⟨h1, h2, h3, h4, h5, by rw [h6], by rw [h7], by rw [h8], by rw [h9], by rw [h10]⟩
theorem KV.val_inj {a b : KV} : a.val = b.val ↔ a = b := by
 obtain ⟨i0, i1, i2, i3, i4, s0, s1, s2, s3, s4⟩ := a
 obtain ⟨i0', i1', i2', i3', i4', s0', s1', s2', s3', s4'⟩ := b
 simp [KV.val]
theorem RO : ∃ fs, Tryz.prog.underlying 129 = some (.struct fs) := by
 have : (match Tryz.prog.underlying 129 with | some (.struct _) => true | _ => false) = true := by kernel_rfl
 split at this
 . rename_i fs h; exact ⟨fs, h⟩
 . cases this
theorem IC : KeyLaw Tryz.prog 129 (λ v => ∃ a : KV, v = a.val) := by
 obtain ⟨fs, hfs⟩ := RO
 refine ⟨⟨_, hfs⟩, ?_, ?_, ?_⟩
 . rintro _ w b ⟨a, rfl⟩
   exact uV _ _ _ (show uW Tryz.prog (Instr.checkKey b 10000 129 a.val) = some () by kernel_rfl) w
 . rintro _ _ w ⟨a, rfl⟩ ⟨b, rfl⟩
   refine ⟨_, So a b 9998 w, ?_⟩
   rw [Sp, KV.val_inj]
 . rintro d _ _ r hd ⟨a, rfl⟩ ⟨b, rfl⟩ h
   rw [hfs] at hd
   cases hd
   simp [KV.val, Instr.sameNow] at h
def keyOf (t : Step) : KV := ⟨t.op, t.table, t.limit, t.left, t.right, ⟨(kH t.wher).toArray⟩, ⟨(iB t.columns).toArray⟩, ⟨(jN t.on).toArray⟩, ⟨(iB t.group).toArray⟩, ⟨(kL t.order).toArray⟩⟩
theorem QB (t : Step) : (keyOf t).val = .agg ⟨Lp t⟩ := rfl
def Ig (t : Step) (ts ts' : List Step) (k : Nat) : Prop := (∃ x, ts[k]? = some x /\ keyOf x = keyOf t /\ ts' = ts) \/ ((∀ x ∈ ts, keyOf x ≠ keyOf t) /\ ts' = ts ++ [t] /\ k = ts.length)
def stepOf : Query -> Int -> Int -> Step
 | .mk op ta w co on gr od li _, l, r => ⟨op, ta, w, co, on, gr, od, li, l, r⟩
def xI (q : Query) (ts ts' : List Step) (k : Nat) : Prop :=
 match q with
 | .mk op ta w co on gr od li [] => Ig ⟨op, ta, w, co, on, gr, od, li, 0, 0⟩ ts ts' k
 | .mk op ta w co on gr od li [a] => ∃ ts1 l, xI a ts ts1 l /\ Ig ⟨op, ta, w, co, on, gr, od, li, l, 0⟩ ts1 ts' k
 | .mk op ta w co on gr od li (a :: b :: _) => ∃ ts1 l ts2 r, xI a ts ts1 l /\ xI b ts1 ts2 r /\ Ig ⟨op, ta, w, co, on, gr, od, li, l, r⟩ ts2 ts' k
 termination_by SizeOf.sizeOf q
def vI (q : Query) : Prop :=
 match q with
 | .mk op ta w co on gr od li args => HW ⟨op, ta, w, co, on, gr, od, li, 0, 0⟩ /\ ∀ a ∈ args, vI a
 termination_by SizeOf.sizeOf q
def Steps (h : PH) (vs : List eO) (ts : List Step) : Prop := vs.length = ts.length /\ ∀ (i : Nat) t, ts[i]? = some t -> ∃ v, vs[i]? = some v /\ hU h t v
structure lF (m : MH) (h : PH) (cb mb : Nat) (s : Sl) (ts : List Step) : Prop where
 at_ : m cb = some (.cells #[.slice s.a s.len s.cap, .map (some mb)] 90 (0, 0))
 row : ∃ vs, fD m s 60 22 (vs.map eO.enc) /\ Steps h vs ts
 map_ : lX m mb (ts.mapIdx λ i t => ((keyOf t).val, .int .i64 i))
 nodup : (ts.map keyOf).Nodup
structure C4 (m m' : MH) (cb mb : Nat) (s s' : Sl) : Prop where
 other : ∀ b o, m b = some o -> b ≠ cb -> b ≠ mb -> (∀ i, s.a ≠ some ⟨b, i, none⟩) -> m' b = some o
 fresh : ∀ b i, s'.a = some ⟨b, i, none⟩ -> m b = none \/ ∃ i, s.a = some ⟨b, i, none⟩
def UN (N : Nat) : Vc.Spec := λ cvs m h K => ∃ v q cb mb s ts, cvs = [cP cb, aQ v] /\ cC h q v /\ SizeOf.sizeOf q < N /\ vI q /\ lF m h cb mb s ts /\ jV m /\ (ts.length : Int) + BQ q <= 1000000 /\
 ∀ ts' (k : Nat) s' m' h', PH.le h h' -> xI q ts ts' k -> lF m' h' cb mb s' ts' -> C4 m m' cb mb s s' -> K (cI k) m' h'
noncomputable def CL (N : Nat) (cb : Nat) (v : QV) : Ctx :=
 zD [(66, Oh), (67, Gz), (68, KF), (69, KE), (70, WL), (33, UN N)] []
  [(2, { A := eO × MH × PH, st := λ ⟨t, m, h⟩ => cD 89 91 [(0, pv cb), (3, .at (.ptr 3 0)), (5, .at (.ptr 5 0))] [(3, .cells 43 (v.enc.map .val)), (5, .cells 60 (t.enc.map .val))] m h }),
   (4, { A := eO × MH × PH, st := λ ⟨t, m, h⟩ => cD 89 91 [(0, pv cb), (3, .at (.ptr 3 0)), (5, .at (.ptr 5 0))] [(3, .cells 43 (v.enc.map .val)), (5, .cells 60 (t.enc.map .val))] m h }),
   (6, { A := eO × MH × PH, st := λ ⟨t, m, h⟩ => cD 89 91 [(0, pv cb), (5, .at (.ptr 5 0))] [(5, .cells 60 (t.enc.map .val))] m h })] [] [1047] [] false
def Mb (N : Nat) (cb : Nat) (v : QV) (m : MH) (h : PH) (K : CV -> MH -> PH -> Prop) : Prop :=
 ∃ (I : eO × MH × PH -> Prop), ((∃ (v_1 : PV) (p : Pred), [kK (PV.enc v.where_)] = [kK (PV.enc v_1)] /\ cX h p v_1 /\ ∀ (v' : PV) (h' : PH), h.le h' -> cX h' p v' -> (∃ (s :
 Sl) (l : List Int), [dO v.columns] = [dO s] /\ aU h' s l /\ ∀ (s' : Sl) (h'_1 : PH), h'.le h'_1 -> aU h'_1 s' l -> (∃ (s : Sl) (l : List (Int × Int)), [dO v.on] = [dO s] /\
 gM h'_1 s l /\ ∀ (s'_1 : Sl) (h' : PH), h'_1.le h' -> gM h' s'_1 l -> (∃ (s : Sl) (l : List Int), [dO v.group] = [dO s] /\ aU h' s l /\ ∀ (s'_2 : Sl) (h'_2 : PH), h'.le
 h'_2 -> aU h'_2 s'_2 l -> (∃ (s : Sl) (l : List (Int × Bool)), [dO v.order] = [dO s] /\ fU h'_2 s l /\ ∀ (s'_3 : Sl) (h' : PH), h'_2.le h' -> fU h' s'_3 l -> ∃ (x : eO ×
 MH × PH), I x /\ eQ (Qs cb 0) /\ eP 3 /\ eP 5 /\ eQ (oQ 43 (List.map At.val (QV.enc v))) /\ oQ 60 (bL v.op :: bL v.table :: pQ v' [gI s', gI s'_1, gI s'_2, gI s'_3, bL
 v.limit, bL 0, bL 0]) = oQ 60 (List.map At.val (eO.enc x.1)) /\ m = x.2.1 /\ h' = x.2.2 /\ True) /\ ∃ (s : Sl) (l : List (Int × Bool)), [dO v.order] = [dO s] /\ fU h'_2 s l
 /\ ∀ (s'_3 : Sl) (h' : PH), h'_2.le h' -> fU h' s'_3 l -> ∃ (x : eO × MH × PH), I x /\ eQ (Qs cb 0) /\ eP 3 /\ eP 5 /\ eQ (oQ 43 (List.map At.val (QV.enc v))) /\ oQ 60 (bL
 v.op :: bL v.table :: pQ v' [gI s', gI s'_1, gI s'_2, gI s'_3, bL v.limit, bL 0, bL 0]) = oQ 60 (List.map At.val (eO.enc x.1)) /\ m = x.2.1 /\ h' = x.2.2 /\ True) /\ ∃ (s
 : Sl) (l : List Int), [dO v.group] = [dO s] /\ aU h' s l /\ ∀ (s'_2 : Sl) (h'_2 : PH), h'.le h'_2 -> aU h'_2 s'_2 l -> ∃ (s : Sl) (l : List (Int × Bool)), [dO v.order] =
 [dO s] /\ fU h'_2 s l /\ ∀ (s'_3 : Sl) (h' : PH), h'_2.le h' -> fU h' s'_3 l -> ∃ (x : eO × MH × PH), I x /\ eQ (Qs cb 0) /\ eP 3 /\ eP 5 /\ eQ (oQ 43 (List.map At.val
 (QV.enc v))) /\ oQ 60 (bL v.op :: bL v.table :: pQ v' [gI s', gI s'_1, gI s'_2, gI s'_3, bL v.limit, bL 0, bL 0]) = oQ 60 (List.map At.val (eO.enc x.1)) /\ m = x.2.1 /\
 h' = x.2.2 /\ True) /\ ∃ (s : Sl) (l : List (Int × Int)), [dO v.on] = [dO s] /\ gM h'_1 s l /\ ∀ (s'_1 : Sl) (h' : PH), h'_1.le h' -> gM h' s'_1 l -> ∃ (s : Sl) (l : List
 Int), [dO v.group] = [dO s] /\ aU h' s l /\ ∀ (s'_2 : Sl) (h'_2 : PH), h'.le h'_2 -> aU h'_2 s'_2 l -> ∃ (s : Sl) (l : List (Int × Bool)), [dO v.order] = [dO s] /\ fU
 h'_2 s l /\ ∀ (s'_3 : Sl) (h' : PH), h'_2.le h' -> fU h' s'_3 l -> ∃ (x : eO × MH × PH), I x /\ eQ (Qs cb 0) /\ eP 3 /\ eP 5 /\ eQ (oQ 43 (List.map At.val (QV.enc v))) /\ oQ
 60 (bL v.op :: bL v.table :: pQ v' [gI s', gI s'_1, gI s'_2, gI s'_3, bL v.limit, bL 0, bL 0]) = oQ 60 (List.map At.val (eO.enc x.1)) /\ m = x.2.1 /\ h' = x.2.2 /\ True)
 /\ ∃ (s : Sl) (l : List Int), [dO v.columns] = [dO s] /\ aU h' s l /\ ∀ (s' : Sl) (h'_1 : PH), h'.le h'_1 -> aU h'_1 s' l -> ∃ (s : Sl) (l : List (Int × Int)), [dO v.on] =
 [dO s] /\ gM h'_1 s l /\ ∀ (s'_1 : Sl) (h' : PH), h'_1.le h' -> gM h' s'_1 l -> ∃ (s : Sl) (l : List Int), [dO v.group] = [dO s] /\ aU h' s l /\ ∀ (s'_2 : Sl) (h'_2 :
 PH), h'.le h'_2 -> aU h'_2 s'_2 l -> ∃ (s : Sl) (l : List (Int × Bool)), [dO v.order] = [dO s] /\ fU h'_2 s l /\ ∀ (s'_3 : Sl) (h' : PH), h'_2.le h' -> fU h' s'_3 l -> ∃
 (x : eO × MH × PH), I x /\ eQ (Qs cb 0) /\ eP 3 /\ eP 5 /\ eQ (oQ 43 (List.map At.val (QV.enc v))) /\ oQ 60 (bL v.op :: bL v.table :: pQ v' [gI s', gI s'_1, gI s'_2, gI
 s'_3, bL v.limit, bL 0, bL 0]) = oQ 60 (List.map At.val (eO.enc x.1)) /\ m = x.2.1 /\ h' = x.2.2 /\ True) /\ ∃ (v_1 : PV) (p : Pred), [kK (PV.enc v.where_)] = [kK (PV.enc
 v_1)] /\ cX h p v_1 /\ ∀ (v' : PV) (h' : PH), h.le h' -> cX h' p v' -> ∃ (s : Sl) (l : List Int), [dO v.columns] = [dO s] /\ aU h' s l /\ ∀ (s' : Sl) (h'_1 : PH), h'.le
 h'_1 -> aU h'_1 s' l -> ∃ (s : Sl) (l : List (Int × Int)), [dO v.on] = [dO s] /\ gM h'_1 s l /\ ∀ (s'_1 : Sl) (h' : PH), h'_1.le h' -> gM h' s'_1 l -> ∃ (s : Sl) (l :
 List Int), [dO v.group] = [dO s] /\ aU h' s l /\ ∀ (s'_2 : Sl) (h'_2 : PH), h'.le h'_2 -> aU h'_2 s'_2 l -> ∃ (s : Sl) (l : List (Int × Bool)), [dO v.order] = [dO s] /\
 fU h'_2 s l /\ ∀ (s'_3 : Sl) (h' : PH), h'_2.le h' -> fU h' s'_3 l -> ∃ (x : eO × MH × PH), I x /\ eQ (Qs cb 0) /\ eP 3 /\ eP 5 /\ eQ (oQ 43 (List.map At.val (QV.enc v)))
 /\ oQ 60 (bL v.op :: bL v.table :: pQ v' [gI s', gI s'_1, gI s'_2, gI s'_3, bL v.limit, bL 0, bL 0]) = oQ 60 (List.map At.val (eO.enc x.1)) /\ m = x.2.1 /\ h' = x.2.2 /\
 True) /\ ∀ (x : eO × MH × PH), I x -> ∃ (I : eO × MH × PH -> Prop), branch (decide ((↑v.args.len : Int) > 0)) (∃ (b off : Nat), v.args.a = some (Addr.mk b off none) /\ (0 : Int)
 <= 0 /\ 0 < (↑v.args.len : Int) /\ ∃ (y : QV), bI x.2.1 x.2.2 b (off + 0) (QV.enc y) /\ ∃ (v_1 : QV) (q : Query), ∃ (cb_1 mb : Nat) (s : Sl) (ts : List Step), [zN cb 0, kK
 (QV.enc y)] = [zN cb_1 0, kK (QV.enc v_1)] /\ cC x.2.2 q v_1 /\ SizeOf.sizeOf q < N /\ vI q /\ lF x.2.1 x.2.2 cb_1 mb s ts /\ jV x.2.1 /\ (↑ts.length : Int) + BQ q
 <= 1000000 /\ ∀ (ts' : List Step) (k : Nat) (s' : Sl) (m' : MH) (h' : PH), x.2.2.le h' -> xI q ts ts' k -> lF m' h' cb_1 mb s' ts' -> C4 x.2.1 m' cb_1 mb s s' -> ∃ (x_1 :
 eO × MH × PH), I x_1 /\ eQ (Qs cb 0) /\ eP 3 /\ eP 5 /\ eQ (oQ 43 (List.map At.val (QV.enc v))) /\ oQ 60 (bL x.1.op :: bL x.1.table :: pQ x.1.where_ [gI x.1.columns, gI
 x.1.on, gI x.1.group, gI x.1.order, bL x.1.limit, bL ↑k, bL x.1.right]) = oQ 60 (List.map At.val (eO.enc x_1.1)) /\ m' = x_1.2.1 /\ h' = x_1.2.2 /\ True) (∃ (x_1 : eO × MH ×
 PH), I x_1 /\ eQ (Qs cb 0) /\ eP 3 /\ eP 5 /\ eQ (oQ 43 (List.map At.val (QV.enc v))) /\ oQ 60 (List.map At.val (eO.enc x.1)) = oQ 60 (List.map At.val (eO.enc x_1.1)) /\ x.2.1 =
 x_1.2.1 /\ x.2.2 = x_1.2.2 /\ True) /\ ∀ (x : eO × MH × PH), I x -> ∃ (I : eO × MH × PH -> Prop), branch (decide ((↑v.args.len : Int) > 1)) (∃ (b off : Nat), v.args.a = some
 (Addr.mk b off none) /\ (0 : Int) <= 1 /\ 1 < (↑v.args.len : Int) /\ ∃ (y : QV), bI x.2.1 x.2.2 b (off + 21) (QV.enc y) /\ ∃ (v : QV) (q : Query), ∃ (cb_1 mb : Nat) (s : Sl) (ts
 : List Step), [zN cb 0, kK (QV.enc y)] = [zN cb_1 0, kK (QV.enc v)] /\ cC x.2.2 q v /\ SizeOf.sizeOf q < N /\ vI q /\ lF x.2.1 x.2.2 cb_1 mb s ts /\ jV x.2.1 /\
 (↑ts.length : Int) + BQ q <= 1000000 /\ ∀ (ts' : List Step) (k : Nat) (s' : Sl) (m' : MH) (h' : PH), x.2.2.le h' -> xI q ts ts' k -> lF m' h' cb_1 mb s' ts' -> C4 x.2.1 m'
 cb_1 mb s s' -> ∃ (x_1 : eO × MH × PH), I x_1 /\ eQ (Qs cb 0) /\ eP 5 /\ oQ 60 (bL x.1.op :: bL x.1.table :: pQ x.1.where_ [gI x.1.columns, gI x.1.on, gI x.1.group, gI
 x.1.order, bL x.1.limit, bL x.1.left, bL ↑k]) = oQ 60 (List.map At.val (eO.enc x_1.1)) /\ m' = x_1.2.1 /\ h' = x_1.2.2 /\ True) (∃ (x_1 : eO × MH × PH), I x_1 /\ eQ (Qs cb 0)
 /\ eP 5 /\ oQ 60 (List.map At.val (eO.enc x.1)) = oQ 60 (List.map At.val (eO.enc x_1.1)) /\ x.2.1 = x_1.2.1 /\ x.2.2 = x_1.2.2 /\ True) /\ ∀ (x : eO × MH × PH), I x -> ∃ (v_1 :
 eO) (t : Step), [kK (eO.enc x.1)] = [kK (eO.enc v_1)] /\ hU x.2.2 t v_1 /\ HW t /\ jV x.2.1 /\ ∃ (y : Nat), bI x.2.1 x.2.2 cb 1 [Value.map (some y)] /\ ∃ (kvs : List
 (Value × ((CL N cb v).dec 3).X)), ∃ (Ok : Value -> Prop), lX x.2.1 y (List.map (fun (p : Value × ((CL N cb v).dec 3).X) => (p.1, cZ p.2)) kvs) /\ KeyLaw Tryz.prog 129
 Ok /\ Ok (Value.agg (Array.mk [cZ t.op, cZ t.table, cZ t.limit, cZ t.left, cZ t.right, Value.string (ByteArray.mk (Array.mk (kH t.wher))), Value.string (ByteArray.mk
 (Array.mk (iB t.columns))), Value.string (ByteArray.mk (Array.mk (jN t.on))), Value.string (ByteArray.mk (Array.mk (iB t.group))), Value.string (ByteArray.mk (Array.mk
 (kL t.order)))])) /\ (∀ (e : Value × ((CL N cb v).dec 3).X), List.Mem e kvs -> Ok e.1) /\ ((∀ (e : Value × ((CL N cb v).dec 3).X), List.Mem e kvs -> e.1 = Value.agg
 (Array.mk [cZ t.op, cZ t.table, cZ t.limit, cZ t.left, cZ t.right, Value.string (ByteArray.mk (Array.mk (kH t.wher))), Value.string (ByteArray.mk (Array.mk (iB
 t.columns))), Value.string (ByteArray.mk (Array.mk (jN t.on))), Value.string (ByteArray.mk (Array.mk (iB t.group))), Value.string (ByteArray.mk (Array.mk (kL t.order)))])
 -> False) -> ∃ (y : Sl), bI x.2.1 x.2.2 cb 0 [nG y] /\ ∃ (y_1 : Sl), bI x.2.1 x.2.2 cb 0 [nG y_1] /\ bI x.2.1 x.2.2 cb 0 [nG y_1] /\ ∃ (xs : List (List Value)), fD x.2.1
 (Sl.mk y_1.a y_1.len y_1.cap) 60 22 xs /\ (xs.length + 1) * 272 <= 140737488355328 /\ xs.length < 140737488355328 /\ ∀ (s' : Sl) (m' : MH), jU x.2.1 m' (Sl.mk y_1.a y_1.len
 y_1.cap) s' 60 22 (xs ++ [(eO.enc x.1)]) -> ∃ (cs : Array Value) (E : TypeId), KB m' cb (Obj.cells cs E) /\ 0 < cs.size /\ ∀ (m'_1 : MH), gS m' m'_1 cb (Obj.cells (Array.mk
 (nG s' :: (List.drop 1 cs.toList))) E) -> ∃ (y_2 : Nat), bI m'_1 x.2.2 cb 1 [Value.map (some y_2)] /\ ∃ (kvs : List (Value × Value)) (Ok : Value -> Prop), lX m'_1 y_2 kvs /\
 KeyLaw Tryz.prog 129 Ok /\ Ok (Value.agg (Array.mk [cZ t.op, cZ t.table, cZ t.limit, cZ t.left, cZ t.right, Value.string (ByteArray.mk (Array.mk (kH t.wher))), Value.string
 (ByteArray.mk (Array.mk (iB t.columns))), Value.string (ByteArray.mk (Array.mk (jN t.on))), Value.string (ByteArray.mk (Array.mk (iB t.group))), Value.string (ByteArray.mk
 (Array.mk (kL t.order)))])) /\ (∀ (e : Value × Value), List.Mem e kvs -> Ok e.1) /\ (∀ (e : Value × Value), List.Mem e kvs -> e.1 = Value.agg (Array.mk [cZ t.op, cZ t.table,
 cZ t.limit, cZ t.left, cZ t.right, Value.string (ByteArray.mk (Array.mk (kH t.wher))), Value.string (ByteArray.mk (Array.mk (iB t.columns))), Value.string (ByteArray.mk
 (Array.mk (jN t.on))), Value.string (ByteArray.mk (Array.mk (iB t.group))), Value.string (ByteArray.mk (Array.mk (kL t.order)))]) -> False) /\ ∀ (m' : MH), Ew m'_1 m'
 y_2 -> lX m' y_2 (kvs ++ [(Value.agg (Array.mk [cZ t.op, cZ t.table, cZ t.limit, cZ t.left, cZ t.right, Value.string (ByteArray.mk (Array.mk (kH t.wher))), Value.string
 (ByteArray.mk (Array.mk (iB t.columns))), Value.string (ByteArray.mk (Array.mk (jN t.on))), Value.string (ByteArray.mk (Array.mk (iB t.group))), Value.string (ByteArray.mk
 (Array.mk (kL t.order)))]), cZ ↑y.len)]) -> K (fS ↑y.len) m' x.2.2) /\ ∀ (y : Int), List.Mem (Value.agg (Array.mk [cZ t.op, cZ t.table, cZ t.limit, cZ t.left, cZ
 t.right, Value.string (ByteArray.mk (Array.mk (kH t.wher))), Value.string (ByteArray.mk (Array.mk (iB t.columns))), Value.string (ByteArray.mk (Array.mk (jN t.on))),
 Value.string (ByteArray.mk (Array.mk (iB t.group))), Value.string (ByteArray.mk (Array.mk (kL t.order)))]), y) kvs -> K (fS y) x.2.1 x.2.2
theorem VY (N : Nat) (cb : Nat) (v : QV) (m : MH) (h : PH) (K : CV -> MH -> PH -> Prop) : Mb N cb v m h K = (cG (CL N cb v) Tryz.f33 (aE Tryz.f33) (entry Tryz.f33.ntmps [cP cb, aQ v] m h) K) := by kernel_rfl
def HY (args : List Query) (ts ts1 : List Step) (l : Nat) : Prop := match args with
 | [] => ts1 = ts /\ l = 0
 | a :: _ => xI a ts ts1 l
def Second (args : List Query) (ts ts1 : List Step) (r : Nat) : Prop := match args with
 | _ :: b :: _ => xI b ts ts1 r
 | _ => ts1 = ts /\ r = 0
theorem rA {op : Int} {on : List (Int × Int)} {args : List Query} {ts' : List Step} :
 xI (.mk op ta w co on gr od li args) ts ts' k ↔ ∃ ts1 l ts2 r, HY args ts ts1 l /\ Second args ts1 ts2 r /\ Ig ⟨op, ta, w, co, on, gr, od, li, (l : Nat), (r : Nat)⟩ ts2 ts' k := by
 rw [xI.eq_def]
 cases args with
 | nil =>
  simp only [HY, Second]
  constructor
  . intro h; exact ⟨ts, 0, ts, 0, ⟨rfl, rfl⟩, ⟨rfl, rfl⟩, h⟩
  . rintro ⟨_, _, _, _, ⟨rfl, rfl⟩, ⟨rfl, rfl⟩, h⟩; exact h
 | cons a args =>
  cases args with
  | nil =>
   simp only [HY, Second]
   constructor
   . rintro ⟨ts1, l, h1, h2⟩; exact ⟨ts1, l, ts1, 0, h1, ⟨rfl, rfl⟩, h2⟩
   . rintro ⟨ts1, l, _, _, h1, ⟨rfl, rfl⟩, h2⟩; exact ⟨_, l, h1, h2⟩
  | cons b args =>
   simp only [HY, Second]
theorem Sv {ts' : List Step} (h : Ig t ts ts' k) : ts'.length <= ts.length + 1 := by
 rcases h with ⟨_, _, _, rfl⟩ | ⟨_, rfl, _⟩
 . omega
 . simp
theorem uN : ∀ (q : Query) {ts ts' : List Step} {k : Nat}, xI q ts ts' k -> (ts'.length : Int) <= ts.length + BQ q
 | .mk op ta w co on gr od li args, ts, ts', k, h => by
  rw [rA] at h
  obtain ⟨ts1, l, ts2, r, h1, h2, h3⟩ := h
  have := Sv h3
  simp only [BQ]
  match args, h1, h2 with
  | [], h1, h2 =>
   obtain ⟨rfl, _⟩ := h1
   obtain ⟨rfl, _⟩ := h2
   simp only [kX]; omega
  | [a], h1, h2 =>
   obtain ⟨rfl, _⟩ := h2
   have := uN a h1
   simp only [kX]; omega
  | a :: b :: r, h1, h2 =>
   have := uN a h1
   have := uN b h2
   have := nH r
   simp only [kX]; omega
theorem La {op : Int} {on : List (Int × Int)} {args : List Query} :
 vI (.mk op ta w co on gr od li args) ↔ HW ⟨op, ta, w, co, on, gr, od, li, 0, 0⟩ /\ ∀ a ∈ args, vI a := by rw [vI.eq_def]
theorem fD.blk {s : Sl} {E : Nat} (h : fD m s E sz xs) (e : s.a = some ⟨b, i, none⟩) : ∃ cur, m b = some (.cells cur E (0, 0)) := by
 rcases h.ex with ⟨rfl, _⟩ | ⟨b', cap, cur, rfl, hm, _⟩
 . cases e
 . simp only [Option.some.injEq, Addr.mk.injEq] at e
   rw [<- e.1]; exact ⟨cur, hm⟩
theorem fD.slen {s : Sl} {E : Nat} (h : fD m s E sz xs) : s.len = xs.length := by
 rcases h.ex with ⟨rfl, rfl⟩ | ⟨b', cap, cur, rfl, hm, _⟩ <;> rfl
theorem fD.keep {s : Sl} {E : Nat} (h : fD m s E sz xs) (hk : ∀ b i, s.a = some ⟨b, i, none⟩ -> m' b = m b) : fD m' s E sz xs := by
 refine ⟨h.rows, ?_⟩
 rcases h.ex with h1 | ⟨b, cap, cur, rfl, hm, h2⟩
 . exact .inl h1
 . exact .inr ⟨b, cap, cur, rfl, by rw [hk b 0 rfl]; exact hm, h2⟩
theorem C4.refl (m : MH) (cb mb : Nat) (s : Sl) : C4 m m cb mb s s := ⟨λ _ _ h _ _ _ => h, λ b i h => .inr ⟨i, h⟩⟩
theorem C4.trans {m1 m2 : MH} {h1 : PH} {mb : Nat} {s s1 s2 : Sl} {ts1 : List Step} (a : C4 m m1 cb mb s s1) (c : lF m1 h1 cb mb s1 ts1) (b : C4 m1 m2 cb mb s1 s2) : C4 m m2 cb mb s s2 := by
 refine ⟨λ x o h n1 n2 n3 => b.other x o (a.other x o h n1 n2 n3) n1 n2 (λ i e => ?_), λ x i e => ?_⟩
 . rcases a.fresh x i e with h1 | ⟨j, h1⟩
   . rw [h1] at h; cases h
   . exact n3 j h1
 . rcases b.fresh x i e with h2 | ⟨j, h2⟩
   . by_cases hs : ∃ i, s.a = some ⟨x, i, none⟩
     . exact .inr hs
     . left
       cases hm : m x with
       | none => rfl
       | some o =>
        have n1 : x ≠ cb := λ e => by rw [e, c.at_] at h2; cases h2
        have n2 : x ≠ mb := λ e => by
         obtain ⟨es, cl, h3, _⟩ := c.map_.ex
         rw [e, h3] at h2; cases h2
        rw [a.other x o hm n1 n2 (λ i e => hs ⟨i, e⟩)] at h2
        cases h2
   . exact a.fresh x j h2
theorem lF.tab {mb : Nat} {s s' : Sl} (c : lF m h cb mb s ts) (g : C4 m m' cb mb s s') (ht : jV m) : jV m' := by
 obtain ⟨T, fz, n1, n2, e⟩ := ht
 refine ⟨T, fz, n1, n2, g.other 0 _ e (λ x => ?_) (λ x => ?_) (λ i x => ?_)⟩
 . rw [x, c.at_] at e
   simp only [Option.some.injEq, Obj.cells.injEq] at e
   exact n2 e.2.1.symm
 . obtain ⟨es, cl, h3, _⟩ := c.map_.ex
   rw [x, h3] at e; cases e
 . obtain ⟨vs, hr, _⟩ := c.row
   obtain ⟨cur, h3⟩ := fD.blk hr x
   rw [h3] at e
   simp only [Option.some.injEq, Obj.cells.injEq] at e
   exact n1 e.2.1.symm
theorem lF.mono {mb : Nat} {s : Sl} (c : lF m h cb mb s ts) (le : PH.le h h') : lF m h' cb mb s ts := by
 obtain ⟨vs, h1, h2, h3⟩ := c.row
 exact ⟨c.at_, ⟨vs, h1, h2, λ i t e => let ⟨v, e1, e2⟩ := h3 i t e; ⟨v, e1, e2.mono le⟩⟩, c.map_, c.nodup⟩
theorem Ov {ts : List Step} {k : Value} {y : Int} (h : (k, y) ∈ ts.mapIdx λ i t => ((keyOf t).val, (i : Int))) : ∃ (i : Nat) (t : Step), ts[i]? = some t /\ k = (keyOf t).val /\ y = i := by
 obtain ⟨i, hi, e⟩ := List.mem_mapIdx.1 h
 simp only [Prod.mk.injEq] at e
 exact ⟨i, ts[i], List.getElem?_eq_getElem hi, e.1.symm, e.2.symm⟩
theorem Su {m : MH} {h : PH} {cb mb : Nat} {s : Sl} {ts : List Step} {t : Step} {v : eO} {N : Nat} {w : QV} {K : CV -> MH -> PH -> Prop} (c : lF m h cb mb s ts) (ht : jV m) (hk : HW t) (hv : hU h t v) (hl : ts.length + 1 <= 1000001)
 (hK : ∀ ts' (k : Nat) s' m', Ig t ts ts' k -> lF m' h cb mb s' ts' -> C4 m m' cb mb s s' -> K (cI k) m' h) :
 ∃ (v_2 : eO) (t : Step), [CV.val (.agg ⟨v.enc⟩)] = [CV.val (.agg ⟨v_2.enc⟩)] /\ hU h t v_2 /\ HW t /\ jV m /\ ∃ y : Nat, bI m h cb 1 [Value.map (some y)] /\ ∃ (kvs : List (Value × Int)) (Ok : Value -> Prop), lX m y (kvs.map λ p => (p.1, .int .i64 p.2)) /\ KeyLaw Tryz.prog 129 Ok /\ Ok (.agg ⟨Lp t⟩) /\ (∀ e : Value × Int, List.Mem e kvs -> Ok e.1) /\
  ((∀ e : Value × Int, List.Mem e kvs -> e.1 = .agg ⟨Lp t⟩ -> False) -> ∃ y : Sl, bI m h cb 0 [.slice y.a y.len y.cap] /\ ∃ y_1 : Sl, bI m h cb 0 [.slice y_1.a y_1.len y_1.cap] /\ bI m h cb 0 [.slice y_1.a y_1.len y_1.cap] /\ ∃ xs, fD m ⟨y_1.a, y_1.len, y_1.cap⟩ 60 22 xs /\ (xs.length + 1) * 272 <= 140737488355328 /\ xs.length < 140737488355328 /\
   ∀ (s' : Sl) (m' : MH), jU m m' ⟨y_1.a, y_1.len, y_1.cap⟩ s' 60 22 (xs ++ [v.enc]) -> ∃ (cs : Array Value) (E : TypeId), KB m' cb (.cells cs E (0, 0)) /\ 0 < cs.size /\ ∀ m'_1 : MH, gS m' m'_1 cb (.cells ⟨.slice s'.a s'.len s'.cap :: ([] ++ cs.toList.drop 1)⟩ E (0, 0)) ->
    ∃ y_2 : Nat, bI m'_1 h cb 1 [Value.map (some y_2)] /\ ∃ (kvs : List (Value × Value)) (Ok : Value -> Prop), lX m'_1 y_2 kvs /\ KeyLaw Tryz.prog 129 Ok /\ Ok (.agg ⟨Lp t⟩) /\ (∀ e : Value × Value, List.Mem e kvs -> Ok e.1) /\ (∀ e : Value × Value, List.Mem e kvs -> e.1 = .agg ⟨Lp t⟩ -> False) /\
     ∀ m' : MH, Ew m'_1 m' y_2 -> lX m' y_2 (kvs ++ [(.agg ⟨Lp t⟩, .int .i64 y.len)]) -> K (.val (.int .i64 y.len)) m' h) /\
  ∀ y : Int, List.Mem (Value.agg ⟨Lp t⟩, y) kvs -> K (.val (.int .i64 y)) m h := by
 obtain ⟨vs, hr, hsl, hst⟩ := c.row
 have hlen := fD.slen hr
 rw [List.length_map, hsl] at hlen
 have hmap : (ts.mapIdx λ i t => ((keyOf t).val, (i : Int))).map (λ p => (p.1, Value.int .i64 p.2)) = ts.mapIdx λ i t => ((keyOf t).val, .int .i64 i) := by
  apply List.ext_getElem?
  intro i
  simp only [List.getElem?_map, List.getElem?_mapIdx, Option.map_map]
  rfl
 have rd1 : bI m h cb 1 [Value.map (some mb)] := .of_m c.at_ rfl
 have rd0 : bI m h cb 0 [.slice s.a s.len s.cap] := .of_m c.at_ rfl
 have ncb : ∀ b i, s.a = some ⟨b, i, none⟩ -> b ≠ cb := λ b i e e2 => by
  obtain ⟨cur, h3⟩ := fD.blk hr e
  rw [e2, c.at_] at h3; cases h3
 have cbmb : cb ≠ mb := λ e => by
  obtain ⟨es, cl, h3, _⟩ := c.map_.ex
  rw [<- e, c.at_] at h3; cases h3
 refine ⟨v, t, rfl, hv, hk, ht, mb, rd1, ts.mapIdx λ i t => ((keyOf t).val, (i : Int)), _, by rw [hmap]; exact c.map_, IC, ⟨keyOf t, rfl⟩, λ e he => ?_, λ hno => ?_, λ y hy => ?_⟩
 . obtain ⟨i, t', _, e1, _⟩ := Ov (k := e.1) (y := e.2) he
   exact ⟨keyOf t', e1⟩
 . have hno' : ∀ x ∈ ts, keyOf x ≠ keyOf t := by
    intro x hx e
    obtain ⟨i, hi⟩ := List.mem_iff_getElem?.1 hx
    have hil := (List.getElem?_eq_some_iff.1 hi).1
    refine hno ((keyOf x).val, (i : Int)) ?_ (by rw [e]; rfl)
    refine List.mem_mapIdx.2 ⟨i, hil, ?_⟩
    rw [List.getElem?_eq_getElem hil] at hi
    cases hi; rfl
   refine ⟨s, rd0, s, rd0, rd0, vs.map eO.enc, hr, by rw [List.length_map]; omega, by rw [List.length_map]; omega, λ s' m1 hg => ?_⟩
   have m1cb : m1 cb = some (.cells #[.slice s.a s.len s.cap, .map (some mb)] 90 (0, 0)) := hg.other cb _ c.at_ (λ i e => ncb cb i e rfl)
   refine ⟨_, _, ⟨m1cb⟩, by simp, λ m2 hu => ?_⟩
   have hu : gS m1 m2 cb (.cells #[.slice s'.a s'.len s'.cap, .map (some mb)] 90 (0, 0)) := hu
   obtain ⟨es, cl, hes, hkv⟩ := c.map_.ex
   have m1mb : m1 mb = some (.map es cl) := hg.other mb _ hes (λ i e => by
    obtain ⟨cur, h3⟩ := fD.blk hr e
    rw [hes] at h3; cases h3)
   have m2mb : m2 mb = some (.map es cl) := by rw [hu.other mb (Ne.symm cbmb)]; exact m1mb
   refine ⟨mb, .of_m hu.at_ rfl, ts.mapIdx λ i t => ((keyOf t).val, .int .i64 i), _, ⟨es, cl, m2mb, hkv⟩, IC, ⟨keyOf t, rfl⟩, λ e he => ?_, λ e he e2 => ?_, λ m3 hs3 hm3 => ?_⟩
   . obtain ⟨i, hi, e1⟩ := List.mem_mapIdx.1 he
     exact ⟨keyOf ts[i], by rw [<- e1]⟩
   . obtain ⟨i, hi, e1⟩ := List.mem_mapIdx.1 he
     rw [<- e1] at e2
     exact hno' ts[i] (List.getElem_mem hi) (KV.val_inj.1 e2)
   . rw [hlen] at hm3 ⊢
     have s'cb : ∀ b i, s'.a = some ⟨b, i, none⟩ -> b ≠ cb := λ b i e e2 => by
      obtain ⟨cur, h3⟩ := fD.blk hg.row e
      rw [e2, m1cb] at h3; cases h3
     have s'mb : ∀ b i, s'.a = some ⟨b, i, none⟩ -> b ≠ mb := λ b i e e2 => by
      obtain ⟨cur, h3⟩ := fD.blk hg.row e
      rw [e2, m1mb] at h3; cases h3
     refine hK (ts ++ [t]) ts.length s' m3 (.inr ⟨hno', rfl, rfl⟩) ⟨?_, ⟨vs ++ [v], ?_, ?_⟩, ?_, ?_⟩ ⟨?_, ?_⟩
     . rw [hs3.other cb cbmb]; exact hu.at_
     . rw [List.map_append]
       refine fD.keep hg.row (λ b i e => ?_)
       rw [hs3.other b (s'mb b i e), hu.other b (s'cb b i e)]
     . refine ⟨by simp [hsl], λ i x hx => ?_⟩
       by_cases hi : i < ts.length
       . rw [List.getElem?_append_left hi] at hx
         obtain ⟨u, e1, e2⟩ := hst i x hx
         exact ⟨u, by rw [List.getElem?_append_left (by omega)]; exact e1, e2⟩
       . rw [List.getElem?_append_right (by omega)] at hx
         have hil := (List.getElem?_eq_some_iff.1 hx).1
         simp at hil
         have : i = ts.length := by omega
         subst this
         simp at hx
         subst hx
         exact ⟨v, by rw [List.getElem?_append_right (by omega), hsl]; simp, hv⟩
     . rw [List.mapIdx_append]
       rw [<- QB] at hm3
       simpa using hm3
     . rw [List.map_append, List.nodup_append]
       refine ⟨c.nodup, by simp, λ a ha b hb => ?_⟩
       obtain ⟨x, hx, rfl⟩ := List.mem_map.1 ha
       simp at hb
       rw [hb]; exact hno' x hx
     . intro b o e n1 n2 n3
       rw [hs3.other b n2, hu.other b n1]
       exact hg.other b o e n3
     . exact hg.fresh
 . obtain ⟨i, t', hi, e1, rfl⟩ := Ov hy
   refine hK ts i s m (.inl ⟨t', hi, ?_, rfl⟩) c (.refl _ _ _ _)
   exact (KV.val_inj.1 (e1.symm.trans rfl : (keyOf t').val = (keyOf t).val))
theorem Pt : ∀ N, Sound Tryz.prog 33 (UN N)
 | 0 => by
  refine aI (fn := Tryz.f33) (c := aE Tryz.f33) Tryz.func33 rfl (by decide) ?_
  rintro cvs m h K ⟨v, q, cb, mb, s, ts, rfl, _, hN, _⟩
  omega
 | N + 1 => by
  refine aI (fn := Tryz.f33) (c := aE Tryz.f33) Tryz.func33 rfl (by decide) ?_
  rintro cvs m h K ⟨v, q, cb, mb, s, ts, rfl, hq, hN, hk, c, ht, hl, hK⟩
  refine ⟨CL N cb v, rfl, aD IP (aD EX (aD IN (aD IM (aD Q4 (aD (Pt N) aH))))), ?_⟩
  rw [<- VY N cb v m h K]
  dsimp only [Mb, push_cast]
  have hargs := @qS q
  obtain ⟨op, ta, w, co, on, gr, od, li, args⟩ := q
  have x := hq.parts
  have hal := x.args_.slen
  rw [La] at hk
  obtain ⟨hk, hka⟩ := hk
  simp only [BQ] at hl
  simp only [Query.args] at hargs
  refine ⟨λ ⟨t, mx, hx⟩ => mx = m /\ PH.le h hx /\ hU hx ⟨op, ta, w, co, on, gr, od, li, 0, 0⟩ t, ?_, ?_⟩
  . repeat' (first
     | (refine ⟨v.where_, w, rfl, x.where_, λ v1 h1 le1 r1 => ?_⟩)
     | (refine ⟨v.columns, co, rfl, x.columns_.mono le1, λ s2 h2 le2 r2 => ?_⟩)
     | (refine ⟨v.on, on, rfl, x.on_.mono (le1.trans le2), λ s3 h3 le3 r3 => ?_⟩)
     | (refine ⟨v.group, gr, rfl, x.group_.mono ((le1.trans le2).trans le3), λ s4 h4 le4 r4 => ?_⟩)
     | (refine ⟨v.order, od, rfl, x.order_.mono (((le1.trans le2).trans le3).trans le4), λ s5 h5 le5 r5 => ?_⟩)
     | (exact ⟨(⟨v.op, v.table, v1, s2, s3, s4, s5, v.limit, 0, 0⟩, m, h5), ⟨rfl, (((le1.trans le2).trans le3).trans le4).trans le5, ⟨x.op_, x.table_, r1.mono (((le2.trans le3).trans le4).trans le5), r2.mono ((le3.trans le4).trans le5), r3.mono (le4.trans le5), r4.mono le5, r5, x.limit_, rfl, rfl⟩⟩, MT⟩)
     | apply And.intro)
  rintro ⟨t, m0, hx⟩ ⟨rfl, hle, hr⟩
  dsimp only
  refine ⟨λ ⟨t, mx, hy⟩ => ∃ ts1 l s1, HY args ts ts1 l /\ (ts1.length : Int) + kX (args.drop 1) + 1 <= 1000000 /\ lF mx hy cb mb s1 ts1 /\ C4 m0 mx cb mb s s1 /\ PH.le h hy /\ hU hy ⟨op, ta, w, co, on, gr, od, li, (l : Nat), 0⟩ t, aC (λ hpos => ?_) (λ hneg => ?_), ?_⟩
  . obtain ⟨a, rs, rfl⟩ : ∃ a rs, args = a :: rs := by
     cases args with
     | nil => simp at hal; omega
     | cons a rs => exact ⟨a, rs, rfl⟩
    simp only [kX] at hl
    have hsa := nH rs
    obtain ⟨b1, o1, u, e1, r1, hru⟩ := (x.args_.mono hle).at (i := 0) (x := a) rfl
    refine ⟨b1, o1, e1, by omega, by omega, u, .imm (by simpa using r1), u, a, cb, mb, s, ts, rfl, hru, ?_, hka a (by simp), c.mono hle, ht, by omega, λ ts' k s' m' h' le' ha hc hg => ⟨(⟨t.op, t.table, t.where_, t.columns, t.on, t.group, t.order, t.limit, k, t.right⟩, m', h'), ⟨ts', k, s', ha, ?_, hc, hg, hle.trans le', ?_⟩, ?_⟩⟩
    . have := hargs (q := a) (by simp); omega
    . have := uN a ha; simp only [List.drop_succ_cons, List.drop_zero]; omega
    . have r := hr.mono le'; exact ⟨r.op_, r.table_, r.where_, r.columns_, r.on_, r.group_, r.order_, r.limit_, rfl, r.right_⟩
    . rw [hr.right_]; exact MT
  . obtain rfl : args = [] := by
     cases args with
     | nil => rfl
     | cons a rs => simp at hal; omega
    exact ⟨(t, m0, hx), ⟨ts, 0, s, ⟨rfl, rfl⟩, by simp [kX] at hl ⊢; omega, c.mono hle, .refl _ _ _ _, hle, hr⟩, MT⟩
  clear hr hle
  rintro ⟨t, m1, hy⟩ ⟨ts1, l, s1, hf, hl1, c1, g1, hle, hr⟩
  dsimp only
  have ht1 := c.tab g1 ht
  refine ⟨λ ⟨t, mx, hz⟩ => ∃ ts2 r s2, Second args ts1 ts2 r /\ ts2.length + 1 <= 1000000 /\ lF mx hz cb mb s2 ts2 /\ C4 m0 mx cb mb s s2 /\ PH.le h hz /\ hU hz ⟨op, ta, w, co, on, gr, od, li, (l : Nat), (r : Nat)⟩ t, aC (λ hpos => ?_) (λ hneg => ?_), ?_⟩
  . obtain ⟨a0, a, rs, rfl⟩ : ∃ a0 a rs, args = a0 :: a :: rs := by
     cases args with
     | nil => simp at hal; omega
     | cons a rs => cases rs with
      | nil => simp at hal; omega
      | cons b rs => exact ⟨a, b, rs, rfl⟩
    simp only [kX, List.drop_succ_cons, List.drop_zero] at hl1
    have hsa := nH rs
    obtain ⟨b1, o1, u, e1, r1, hru⟩ := (x.args_.mono hle).at (i := 1) (x := a) rfl
    refine ⟨b1, o1, e1, by omega, by omega, u, .imm (by simpa using r1), u, a, cb, mb, s1, ts1, rfl, hru, ?_, hka a (by simp), c1, ht1, by omega, λ ts' k s' m' h' le' ha hc hg => ⟨(⟨t.op, t.table, t.where_, t.columns, t.on, t.group, t.order, t.limit, t.left, k⟩, m', h'), ⟨ts', k, s', ha, ?_, hc, g1.trans c1 hg, hle.trans le', ?_⟩, ?_⟩⟩
    . have := hargs (q := a) (by simp); omega
    . have := uN a ha; omega
    . have r := hr.mono le'; exact ⟨r.op_, r.table_, r.where_, r.columns_, r.on_, r.group_, r.order_, r.limit_, r.left_, rfl⟩
    . exact MT
  . cases args with
    | nil => exact ⟨(t, m1, hy), ⟨ts1, 0, s1, ⟨rfl, rfl⟩, by simp [kX] at hl1; omega, c1, g1, hle, hr⟩, MT⟩
    | cons a rs => cases rs with
     | nil => exact ⟨(t, m1, hy), ⟨ts1, 0, s1, ⟨rfl, rfl⟩, by simp [kX] at hl1; omega, c1, g1, hle, hr⟩, MT⟩
     | cons b rs => simp at hal; omega
  clear hr
  rintro ⟨t, m2, hz⟩ ⟨ts2, r, s2, hf2, hl2, c2, g2, hle2, hr⟩
  dsimp only
  exact Su (N := N) (w := v) (t := ⟨op, ta, w, co, on, gr, od, li, (l : Nat), (r : Nat)⟩) c2 (c.tab g2 ht) ⟨hk.wher, hk.columns, hk.on, hk.group, hk.order⟩ hr (by omega) (λ ts' k s' m' ha hc hg => hK ts' k s' m' hz hle2 (rA.2 ⟨ts1, l, ts2, r, hf, hf2, ha⟩) hc (g2.trans c2 hg))
def uP : List Query -> List Step -> List Step -> List Nat -> Prop
 | [], ts, ts', ks => ts' = ts /\ ks = []
 | q :: qs, ts, ts', ks => ∃ ts1 k ks', xI q ts ts1 k /\ uP qs ts1 ts' ks' /\ ks = k :: ks'
noncomputable def lJ (s : oC) (qs : List Query) : Int := if 32 < qs.length then 2 else if cN s ≠ 0 then cN s else iS (qs.map λ q => (dV s [] q).2)
def M3 (p r : Sl) : CV := .val (.agg ⟨[.slice p.a p.len p.cap, .slice r.a r.len r.cap]⟩)
structure SG (h : PH) (p r : Sl) (ts : List Step) (ks : List Nat) : Prop where
 steps : ∃ vs, cW h p 22 (vs.map eO.enc) /\ Steps h vs ts
 roots : aU h r (ks.map fun (k : Nat) => (k : Int))
 nodup : (ts.map keyOf).Nodup
def H0 : Vc.Spec := λ cvs m h K => ∃ sc sl s qs, cvs = [aS sc, cS sl] /\ eW h s sc /\ sM h sl qs /\ jV m /\ (∀ q ∈ qs, (dV s [] q).2 = 0 -> vI q) /\
 (lJ s qs ≠ 0 -> K (.tup [M3 cA cA, cI (lJ s qs)]) m h) /\ (lJ s qs = 0 -> ∀ p r ts ks h', PH.le h h' -> uP qs [] ts ks -> SG h' p r ts ks -> K (.tup [M3 p r, cI 0]) m h')
def WO : Vc.Spec := λ cvs m h K => ∃ v q cb mb s ts, cvs = [cP cb, aQ v] /\ cC h q v /\ vI q /\ lF m h cb mb s ts /\ jV m /\ (ts.length : Int) + BQ q <= 1000000 /\
 ∀ ts' (k : Nat) s' m' h', PH.le h h' -> xI q ts ts' k -> lF m' h' cb mb s' ts' -> C4 m m' cb mb s s' -> K (cI k) m' h'
noncomputable def PK (sc : bH) (sl : Sl) (m0 : MH) : Ctx :=
 zD [(31, qA), (32, sN), (33, WO)]
  [(7, { A := Nat × PH, st := λ ⟨i, h⟩ => cD 64 66 [(1, sv sl), (2, .at (.ptr 2 0)), (4, .at (.ptr 4 0)), (25, sv sl), (26, iv sl.len), (27, iv i)] [(2, .cells 28 (sc.enc.map .val)), (4, .cells 49 [.val (.slice none 0 0), .val (.slice none 0 0)])] m0 h }),
   (16, { A := Nat × Nat × List Int × MH × PH, st := λ ⟨i, cb, ks, m, h⟩ => cD 64 66 [(4, .at (.ptr 4 0)), (11, pv cb), (12, .at (.lst 46)), (47, sv sl), (48, iv sl.len), (49, iv i)] [(4, .cells 49 [.val (.slice none 0 0), .val (.slice none 0 0)]), (46, .lst 3 1 (ks.map eI))] m h })] [] [] [90] [] false
abbrev qI  : Prop := eQ (oQ 49 (kJ uQ uQ))
noncomputable abbrev rX (a : oC) (b : List Int) (c : Query) : Int := (dV a b c).2
noncomputable abbrev qL (a : Nat × Nat × List Int × MH × PH) : List Int × MH × PH := a.2.2
noncomputable abbrev yA (a : Nat × Nat × List Int × MH × PH) : Nat -> Nat -> Option Value := (qL a).2.2
abbrev Gi (a : (List Step) -> Nat -> Sl -> Prop) : Prop := ∀ (x : List Step) (x1 : Nat) (x2 : Sl), a x x1 x2
abbrev rW (a : Nat) (b : List Value) : Prop := a < b.length
noncomputable abbrev oW (a : List (List Value)) (b : Int) (c : List Value) : List (List Value) := List.set a b.toNat c
attribute [push_cast] qI rX qL yA Gi rW oW
def HD (sc : bH) (sl : Sl) (m : MH) (h : PH) (K : CV -> MH -> PH -> Prop) : Prop :=
  fB (aF sl) 32 (K (CV.tup (cV (kK (kY j7 j7)) 2)) m h) (mX (λ v s => aA (cK (bK sc) (bK v)) (eW h s v) (dE (cN s) 0 (K (CV.tup (cV (kK (kY j7 j7)) (cN s))) m h) (G9 (λ I m1 => G5 (λ x => aA (I x) (aK sl) (aA (eP 2) (eP 4) (aA (aK sl) (cF sl) (aA (bO x.1) (bR sc) (aG qI (m = m) (h = x.2) True))))) (λ x => I x -> bE (↑x.1 : Int) (aF sl) (aY (λ b o => aG (bC sl.a b o) (0 <= (↑x.1 : Int)) ((↑x.1 : Int) < aF sl) (∃ (y : QV), bI m x.2 b (bZ o x.1 21) y.enc /\ rZ (λ s1 p v1 => sA (λ s2 p1 q => aA (bK sc :: bX Fj y.enc = bK s1 :: bX (dO p) v1.enc) (eW x.2 s2 s1) (aA (aU x.2 p p1) (cC x.2 q v1) (fM x.2 (dV s2 p1 q).1 (λ _ h1 => dE (rX s2 p1 q) 0 (K (CV.tup (lY (kK (kY j7 j7)) (CV.val (cZ (rX s2 p1
 q))))) m h1) (∃ (x1 : Nat × PH), aA (I x1) (m1 x1 < m1 x) (aA (aK sl) fL (aA (eP 4) (aK sl) (aA (cF sl) (aZ x.1 1 x1.1) (kN (bR sc) qI (m = m) h1 x1.2))))))))))))) (∀ (b : Nat) (m2 : MH), gX m x.2 b -> gS m m2 b (Obj.map (Array.mk []) 0) -> ∀ (b1 : Nat) (m3 : MH), gX m2 x.2 b1 -> hO m2 m3 b1 (kY j7 (Value.map Option.none)) 90 -> xB (λ c E => aA (KB m3 b1 (xJ c E 0)) (2 <= c.size) (∀ (m4 : MH), hO m3 m4 b1 (aL j7 (Value.map (Option.some b)) (List.drop 2 c.toList)) E -> aA (aW (aF sl)) (aF sl <= aF sl) (aA (kT (aF sl * 8)) (kT (aF sl)) (∃ (I1 : Nat × Nat × List Int × MH × PH -> Prop) (m5 : Nat × Nat × List Int × MH × PH -> Nat), (∃ (x1 : Nat × Nat × List Int × MH × PH), aA (I1 x1) (eP 4) (aA (i7 b1 x1.2.1) (eL 46) (aA (aK sl) (cF sl) (aA (bO x1.1) qI (aG
 (mT (List.replicate (aF sl).toNat yE) (qL x1).1) (bV m4 (qL x1).2) (x.2 = yA x1) True))))) /\ ∀ (x1 : Nat × Nat × List Int × MH × PH), I1 x1 -> bE (↑x1.1 : Int) (aF sl) (aY (λ b2 o => aG (bC sl.a b2 o) (0 <= (↑x1.1 : Int)) ((↑x1.1 : Int) < aF sl) (∃ (y : QV), bI (qL x1).2.1 (yA x1) b2 (bZ o x1.1 21) y.enc /\ kS (λ v1 q => aY (λ c1 m6 => ∃ (s1 : Sl) (t : List Step), aA (bX (eH x1.2.1) y.enc = bX (eH c1) v1.enc) (cC (yA x1) q v1) (aA (vI q) (lF (qL x1).2.1 (yA x1) c1 m6 s1 t) (aA (jV (qL x1).2.1) ((↑t.length : Int) + BQ q <= 1000000) (Gi (λ t1 k s2 => kD (λ m7 h1 => eU (yA x1) h1 (xI q t t1 k) (lF m7 h1 c1 m6 s2 t1 -> C4 (qL x1).2.1 m7 c1 m6 s1 s2 -> lC (↑x1.1 : Int) (bY (qL x1).1) (λ e => aA (fO (bY (qL
 x1).1) (↑x1.1 : Int) e) (rW 0 e) (∃ (x2 : Nat × Nat × List Int × MH × PH), aA (I1 x2) (m5 x2 < m5 x1) (aA (eP 4) (i7 x1.2.1 x2.2.1) (aA (eL 46) (aK sl) (aA (cF sl) (aZ x1.1 1 x2.1) (kN qI (mT (oW (bY (qL x1).1) (↑x1.1 : Int) (mL (cZ (↑k : Int)) 1 e)) (qL x2).1) (bV m7 (qL x2).2) h1 (yA x2)))))))))))))))))) (∃ (y : Sl), bI (qL x1).2.1 (yA x1) x1.2.1 0 (cT y) /\ bQ (yA x1) 1 (bY (qL x1).1) (λ s1 h1 => K (CV.tup (cV (gP y s1) 0)) (qL x1).2.1 h1)))))))))))))
theorem Wh (sc : bH) (sl : Sl) (m : MH) (h : PH) (K : CV -> MH -> PH -> Prop) : HD sc sl m h K = (cG (PK sc sl m) Tryz.f14 (aE Tryz.f14) (entry Tryz.f14.ntmps [aS sc, cS sl] m h) K) := by kernel_rfl
theorem Rn : Sound Tryz.prog 33 WO := gN Pt λ _ _ _ _ ⟨v, q, cb, mb, s, ts, e, h1, h2, h3, h4, h5, h6⟩ => ⟨SizeOf.sizeOf q + 1, v, q, cb, mb, s, ts, e, h1, by omega, h2, h3, h4, h5, h6⟩
theorem Cq : ∀ {qs : List Query} {q : Query} {ts ts' ts'' : List Step} {ks : List Nat} {k : Nat}, uP qs ts ts' ks -> xI q ts' ts'' k -> uP (qs ++ [q]) ts ts'' (ks ++ [k])
 | [], q, ts, ts', ts'', ks, k, h, h2 => by
  obtain ⟨rfl, rfl⟩ := h
  exact ⟨ts'', k, [], h2, ⟨rfl, rfl⟩, rfl⟩
 | p :: qs, q, ts, ts', ts'', ks, k, h, h2 => by
  obtain ⟨ts1, k1, ks1, h1, h3, rfl⟩ := h
  exact ⟨ts1, k1, _, h1, Cq h3 h2, rfl⟩
theorem BD.keep {r : CV} (hm : Sub m m') (le : PH.le h h') (hK : K r m h) : BD h K r m' h' :=
 λ _ => ⟨m, h, hm, .refl _, λ b i v e => .inl (le.le b i v e), hK⟩
theorem BA : ∀ {l : List Int} {i : Nat} {e : Int}, l[i]? = some e -> e ≠ 0 -> (∀ j x, j < i -> l[j]? = some x -> x = 0) -> iS l = e
 | [], _, _, h, _, _ => by simp at h
 | x :: r, 0, e, h, he, _ => by simp at h; subst h; simp [iS, he]
 | x :: r, i + 1, e, h, he, h0 => by
  have : x = 0 := h0 0 x (by omega) rfl
  subst this
  simp only [iS, if_true]
  exact BA (i := i) (by simpa using h) he (λ j y hj hy => h0 (j + 1) y (by omega) (by simpa using hy))
theorem Io (h : lK q = true) : BQ q <= 24 := by
 rw [<- Cw, (DO q 8 0 (by omega)).1] at h
 have := h.1
 omega
theorem FK (h : (dV s ps q).2 = 0) : lK q = true := by
 unfold dV at h
 split at h
 . split at h
   . split at h
     . assumption
     . simp [eX] at h
   . simp [eX] at h
 . rename_i h1; simp [eX] at h; exact (h1 h).elim
theorem R4 (m : MH) : fD m cA 60 22 (([] : List eO).map eO.enc) := ⟨⟨λ _ h => by simp at h, λ _ h => by simp at h⟩, .inl ⟨rfl, rfl⟩⟩
theorem RS {kk : List Nat} {n : Nat} (hn : kk.length < n) : ((kk.map fun (k : Nat) => (k : Int)) ++ List.replicate (n - kk.length) (0 : Int)).set kk.length (k : Int) = ((kk ++ [k]).map fun (k : Nat) => (k : Int)) ++ List.replicate (n - (kk.length + 1)) (0 : Int) := by
 have e : n - kk.length = (n - (kk.length + 1)) + 1 := by omega
 rw [e, List.replicate_succ]
 have h2 : kk.length = (kk.map fun (k : Nat) => (k : Int)).length := by simp
 rw [List.set_append, if_neg (by simp)]
 simp
theorem Rz : Sound Tryz.prog 14 H0 := by
 refine IH (fn := Tryz.f14) (c := aE Tryz.f14) Tryz.func14 rfl (by decide) ?_
 rintro cvs m h K ⟨sc, sl, s, qs, rfl, hs, hq, ht, hkey, hE, hK⟩
 refine ⟨PK sc sl m, rfl, aD E3 (aD Ro (aD Rn aH)), ?_⟩
 rw [<- Wh sc sl m h _]
 show HD sc sl m h (BD h K)
 dsimp only [HD, push_cast]
 have hl := hq.slen
 unfold lJ at hE hK
 refine aC (λ h1 => ?_) (λ h1 => ⟨sc, s, rfl, hs, aB (λ h2 => ?_) (λ h2 => ?_)⟩)
 . rw [if_pos (by omega)] at hE; exact BD.keep (Sub.refl m) (.refl _) (hE (by decide))
 . have h2 : cN s ≠ 0 := by simpa using h2
   rw [if_neg (by omega), if_pos h2] at hE
   exact BD.keep (Sub.refl m) (.refl _) (hE h2)
 have h2 : cN s = 0 := by simpa using h2
 rw [if_neg (by omega), if_neg (by simpa using h2)] at hE hK
 refine ⟨λ ⟨i, hx⟩ => i <= qs.length /\ PH.le h hx /\ ∀ j q, j < i -> qs[j]? = some q -> (dV s [] q).2 = 0, λ ⟨i, _⟩ => qs.length - i, ⟨(0, h), ⟨by omega, .refl _, λ j q hj => by omega⟩, MT⟩, ?_⟩
 rintro ⟨i, hx⟩ ⟨hi, hle, hall⟩
 dsimp only
 refine aC (λ hlt => ?_) (λ hge b m1 hb hu1 cb m2 hcb hu2 => ?_)
 . obtain ⟨q, hqi⟩ := fP hl hlt
   obtain ⟨b1, o1, u, e1, r1, hru⟩ := (hq.mono hle).at hqi
   refine ⟨b1, o1, e1, by omega, hlt, u, .imm r1, sc, cA, u, s, [], q, rfl, hs.mono hle, ⟨cW.nil _ _, by simp⟩, hru, λ s1 h1 le1 ri => aB (λ he => ?_) (λ he => ?_)⟩
   . have he : (dV s [] q).2 ≠ 0 := by simpa using he
     have hfe : iS (qs.map λ q => (dV s [] q).2) = (dV s [] q).2 := BA (i := i) (by simp [hqi]) he (λ j x hj hx => by
      rw [List.getElem?_map, Option.map_eq_some_iff] at hx
      obtain ⟨q', hq', rfl⟩ := hx
      exact hall j q' hj hq')
     rw [hfe] at hE
     exact BD.keep (Sub.refl m) (hle.trans le1) (hE he)
   . have he : (dV s [] q).2 = 0 := by simpa using he
     refine ⟨(i + 1, h1), ⟨by show i + 1 <= qs.length; omega, hle.trans le1, λ j q' hj hq' => ?_⟩, by show qs.length - (i + 1) < qs.length - i; omega, MT⟩
     by_cases hji : j = i
     . subst hji; rw [hqi] at hq'; cases hq'; exact he
     . exact hall j q' (by omega) hq'
 have hall' : ∀ q ∈ qs, (dV s [] q).2 = 0 := λ q hq' => by
  obtain ⟨j, hj⟩ := List.mem_iff_getElem?.1 hq'
  exact hall j q (by have := (List.getElem?_eq_some_iff.1 hj).1; omega) hj
 have hfe : iS (qs.map λ q => (dV s [] q).2) = 0 := qX _ (λ x hx => by
  obtain ⟨q, hq', rfl⟩ := List.mem_map.1 hx
  exact hall' q hq')
 have hK := hK hfe
 have cbb : cb ≠ b := λ e => by have := hcb.m_; rw [e, hu1.at_] at this; cases this
 refine ⟨_, _, ⟨hu2.at_⟩, by simp, λ m3 hu3 => ?_⟩
 have hu3 : gS m2 m3 cb (.cells #[.slice none 0 0, .map (some b)] 90 (0, 0)) := hu3
 have sub3 : Sub m m3 := λ x o e => by
  have n1 : x ≠ b := λ e' => by rw [e', hb.m_] at e; cases e
  have n2 : x ≠ cb := λ e' => by
   have := hcb.m_
   rw [<- e', hu1.other x n1, e] at this; cases this
  rw [hu3.other x n2, hu2.other x n2, hu1.other x n1]; exact e
 have c0 : lF m3 hx cb b cA [] := ⟨hu3.at_, ⟨[], R4 m3, rfl, λ i t e => by simp at e⟩, ⟨#[], 0, by rw [hu3.other b (Ne.symm cbb), hu2.other b (Ne.symm cbb)]; exact hu1.at_, rfl⟩, by simp⟩
 refine ⟨by omega, by omega, by omega, by omega, ?_⟩
 refine ⟨λ ⟨i, cb', ks, mx, hy⟩ => cb' = cb /\ i <= qs.length /\ PH.le hx hy /\ ∃ ts s1 kk, kk.length = i /\ ks = (kk.map fun (k : Nat) => (k : Int)) ++ List.replicate (qs.length - i) 0 /\ uP (qs.take i) [] ts kk /\ lF mx hy cb b s1 ts /\ C4 m3 mx cb b cA s1 /\ ts.length <= 24 * i, λ ⟨i, _, _, _, _⟩ => qs.length - i, ⟨(0, cb, List.replicate qs.length 0, m3, hx), ⟨rfl, by omega, .refl _, [], cA, [], rfl, by simp, ⟨rfl, rfl⟩, c0, .refl _ _ _ _, by simp⟩, ?_⟩, ?_⟩
 . have : List.map eI (List.replicate qs.length (0 : Int)) = List.replicate (Int.toNat (sl.len : Int)) [Value.int .i64 0] := by rw [List.map_replicate, Int.toNat_natCast, hl]; rfl
   rw [this]; exact MT
 clear hi hge hall i
 rintro ⟨i, cb', ks, mx, hy⟩ ⟨rfl, hi, hle2, ts, s1, kk, hkk, rfl, hadd, hc, hg, htl⟩
 dsimp only
 have htab : jV mx := c0.tab hg (ht.sub sub3)
 refine aC (λ hlt => ?_) (λ hge => ?_)
 . obtain ⟨q, hqi⟩ := fP hl hlt
   obtain ⟨b1, o1, u, e1, r1, hru⟩ := (hq.mono (hle.trans hle2)).at hqi
   have hq0 := hall' q (List.mem_of_getElem? hqi)
   have hsz := Io (FK hq0)
   refine ⟨b1, o1, e1, by omega, hlt, u, .imm r1, u, q, cb', b, s1, ts, rfl, hru, hkey q (List.mem_of_getElem? hqi) hq0, hc, htab, by omega, λ ts' k s' m' h' le' ha hc' hg' => ⟨by omega, ?_, eI 0, ?_, by simp [eI], (i + 1, cb', ((kk ++ [k]).map fun (k : Nat) => (k : Int)) ++ List.replicate (qs.length - (i + 1)) 0, m', h'), ⟨rfl, by omega, hle2.trans le', ts', s', kk ++ [k], by simp [hkk], rfl, ?_, hc', hg.trans hc hg', ?_⟩, by show qs.length - (i + 1) < qs.length - i; omega, ?_⟩⟩
   . simp [hkk]; omega
   . rw [List.getElem?_map, Int.toNat_natCast, List.getElem?_append_right (by simp [hkk]), List.getElem?_replicate, if_pos (by simp [hkk]; omega)]
     rfl
   . rw [List.take_add_one, hqi]; exact Cq hadd ha
   . have := uN q ha; omega
   . have e2 : (List.map eI ((kk.map fun (k : Nat) => (k : Int)) ++ List.replicate (qs.length - i) 0)).set (Int.toNat (i : Int)) (Value.int .i64 (k : Int) :: ([] ++ List.drop 1 (eI 0))) = List.map eI (((kk ++ [k]).map fun (k : Nat) => (k : Int)) ++ List.replicate (qs.length - (i + 1)) 0) := by
      subst hkk
      rw [<- RS (by omega), List.map_set, Int.toNat_natCast]; rfl
     rw [<- e2]
     exact MT
 . rw [List.take_of_length_le (by omega)] at hadd
   refine ⟨s1, .of_m hc.at_ rfl, λ r h' le' hr => ?_⟩
   have hz : qs.length - i = 0 := by omega
   rw [hz, List.replicate_zero, List.append_nil] at hr
   obtain ⟨vs, hrow, hst⟩ := hc.row
   intro hdis
   have subx : Sub m mx := λ x o e => hg.other x o (sub3 x o e) (λ e' => by
    have n1 : x ≠ b := λ e' => by rw [e', hb.m_] at e; cases e
    have := hcb.m_
    rw [<- e', hu1.other x n1, e] at this; cases this) (λ e' => by rw [e', hb.m_] at e; cases e) (λ i e' => by cases e')
   have hroots : aU h' r (kk.map fun (k : Nat) => (k : Int)) := ⟨hr, by simp; omega⟩
   rcases hrow.ex with ⟨e1, e2⟩ | ⟨g, cap, cur, e1, hm, hcap, _, hcs, htake⟩
   . refine ⟨m, h', subx, hle.trans (hle2.trans le'), λ b i v e => .inl e, hK s1 r ts kk h' (hle.trans (hle2.trans le')) hadd ⟨⟨vs, ?_, ?_⟩, hroots, hc.nodup⟩⟩
     . rw [e1, e2]; exact cW.nil _ _
     . exact ⟨hst.1, λ i t e => let ⟨v, k1, k2⟩ := hst.2 i t e; ⟨v, k1, k2.mono le'⟩⟩
   . have mg : m g = none := by
      cases e : m g with
      | none => rfl
      | some o =>
       rcases hg.fresh g 0 (by rw [e1]) with e' | ⟨_, e'⟩
       . rw [sub3 g o e] at e'; cases e'
       . cases e'
     have hg0 : ∀ i, h' g i = none := hdis g _ hm
     have hle3 : PH.le h' (λ x i => if x = g then cur[i]? else h' x i) := ⟨λ x i v e => by
      have : x ≠ g := λ e' => by rw [e', hg0 i] at e; cases e
      simp [this, e]⟩
     refine ⟨m, λ x i => if x = g then cur[i]? else h' x i, subx, (hle.trans (hle2.trans le')).trans hle3, λ x i v e => ?_, hK s1 r ts kk _ ((hle.trans (hle2.trans le')).trans hle3) hadd ⟨⟨vs, ?_, ?_⟩, hroots.mono hle3, hc.nodup⟩⟩
     . by_cases e' : x = g
       . subst e'
         simp at e
         exact .inr ⟨cur, 60, (0, 0), hm, e, mg⟩
       . simp [e'] at e; exact .inl e
     . refine ⟨by rw [e1], .inr ⟨g, 0, by rw [e1], λ i e hi => ⟨λ j v hj => ?_⟩⟩, by rw [e1]; exact hcap⟩
       have h1 := jS (xs := vs.map eO.enc) (sz := 22) (λ e he => by obtain ⟨x, _, rfl⟩ := List.mem_map.1 he; rfl) hi j v hj
       rw [<- htake, List.getElem?_take] at h1
       split at h1
       . simp only [if_true, Nat.zero_add]
         rw [<- Array.getElem?_toList]; exact h1
       . cases h1
     . exact ⟨hst.1, λ i t e => let ⟨v, k1, k2⟩ := hst.2 i t e; ⟨v, k1, k2.mono (le'.trans hle3)⟩⟩
structure xH (m : MH) (tb : Nat) (ws : List dJ) : Prop where
 ex : ∃ cur : Array Value, m tb = some (.cells cur 72 (0, 0)) /\ cur.toList.take (ws.length * 5) = (ws.map dJ.enc).flatten
def Qe : Vc.Spec := λ cvs m h K => ∃ ver tb n cap ws w cols, ∃ t : Nat, cvs = [aS ⟨ver, ⟨some ⟨tb, 0, none⟩, n, cap⟩⟩, cI t] /\ t < n /\ xH m tb ws /\ ws[t]? = some w /\ BP h w.columns cols /\ cols.length <= 8 /\
 ∀ sl h', PH.le h h' -> aU h' sl (cols.map oG.kind) -> K (cS sl) m h'
noncomputable def PA (cb : Nat) : Ctx :=
 zD [(12, zL), (10, Ez), (51, Qg), (52, Qe), (27, zJ)] []
  [(5, { A := Int × Int × MH × PH, st := λ ⟨n, id, m, h⟩ => cD 86 87 [(0, pv cb), (2, .at (.ptr 2 0)), (3, iv n), (4, iv id)] [(2, .cells 28 [.val (.int .i64 0), .val (.slice none 0 0)])] m h }),
   (9, { A := Int × bH × MH × PH, st := λ ⟨n, s, m, h⟩ => cD 86 87 [(0, pv cb), (2, .at (.ptr 2 0)), (3, iv n), (5, .at (.ptr 5 0))] [(2, .cells 28 [.val (.int .i64 0), .val (.slice none 0 0)]), (5, .cells 28 (s.enc.map .val))] m h }),
   (11, { A := Int × bH × MH × PH, st := λ ⟨n, s, m, h⟩ => cD 86 87 [(0, pv cb), (2, .at (.ptr 2 0)), (3, iv n), (5, .at (.ptr 5 0))] [(2, .cells 28 [.val (.int .i64 0), .val (.slice none 0 0)]), (5, .cells 28 (s.enc.map .val))] m h }),
   (13, { A := bH × MH × PH, st := λ ⟨s, m, h⟩ => cD 86 87 [(0, pv cb), (2, .at (.ptr 2 0)), (5, .at (.ptr 5 0))] [(2, .cells 28 [.val (.int .i64 0), .val (.slice none 0 0)]), (5, .cells 28 (s.enc.map .val))] m h }),
   (15, { A := bH × MH × PH, st := λ ⟨s, m, h⟩ => cD 86 87 [(2, .at (.ptr 2 0)), (5, .at (.ptr 5 0))] [(2, .cells 28 [.val (.int .i64 0), .val (.slice none 0 0)]), (5, .cells 28 (s.enc.map .val))] m h })] [] [26] [] false
def mE (id : Int) : List Et :=
 [⟨⟨⟨[112, 114, 111, 106, 101, 99, 116, 115]⟩⟩, [⟨⟨⟨[105, 100]⟩⟩, 4⟩, ⟨⟨⟨[111, 119, 110, 101, 114]⟩⟩, 4⟩], 1, [], []⟩,
  ⟨⟨⟨[116, 97, 115, 107, 115]⟩⟩, [⟨⟨⟨[105, 100]⟩⟩, id⟩, ⟨⟨⟨[112, 114, 111, 106, 101, 99, 116]⟩⟩, 4⟩, ⟨⟨⟨[116, 105, 116, 108, 101]⟩⟩, 5⟩, ⟨⟨⟨[100, 111, 110, 101]⟩⟩, 3⟩], 1, [], []⟩,
  ⟨⟨⟨[109, 101, 109, 98, 101, 114, 115]⟩⟩, [⟨⟨⟨[112, 114, 111, 106, 101, 99, 116]⟩⟩, 4⟩, ⟨⟨⟨[112, 101, 114, 115, 111, 110]⟩⟩, 4⟩], 2, [], []⟩,
  ⟨⟨⟨[97, 114, 99, 104, 105, 118, 101, 100]⟩⟩, [⟨⟨⟨[116, 97, 115, 107]⟩⟩, id⟩], 1, [], []⟩]
structure Gu (h : PH) (t : Et) (w : dJ) : Prop where
 name_ : w.name = t.name
 key_ : w.key = t.key
 cols_ : BP h w.columns t.columns
def N8 (h : PH) (id : Int) (ws : List dJ) : Prop := ws.length = 4 /\ ∀ (i : Nat) t, (mE id)[i]? = some t -> ∃ w, ws[i]? = some w /\ Gu h t w
structure Az (m0 : MH) (h0 : PH) (cb : Nat) (tb n : Nat) (id : Int) (ws : List dJ) (s : bH) (m : MH) (h : PH) : Prop where
 le_ : PH.le h0 h
 ver0 : 0 <= s.version
 ver1 : s.version <= 2
 case_ : aM m h cb
 n2 : 2 <= n
 n4 : n <= 4
 sl_ : ∃ cap, s.tables = ⟨some ⟨tb, 0, none⟩, n, cap⟩ /\ n <= cap
 id_ : id = 4 \/ id = 5
 new_ : m0 tb = none
 ne_ : tb ≠ cb
 row_ : xH m tb ws
 ws_ : N8 h id ws
 other_ : ∀ b, b ≠ cb -> b ≠ tb -> m b = m0 b
def P6 : Vc.Spec := λ cvs m h K => ∃ cb, cvs = [cP cb] /\ aM m h cb /\ ∀ tb n id ws s m' h', Az m h cb tb n id ws s m' h' -> K (aS s) m' h'
noncomputable def Sg : Ctx :=
 zD [(25, P6)] [(3, { A := Nat × bH × MH × PH, st := λ ⟨i, s, m, h⟩ => cD 25 26 [(2, .at (.ptr 2 0)), (3, .at (.ptr 3 0)), (9, iv s.tables.len), (10, iv i)] [(2, .cells 28 [.val (.int .i64 0), .val (.slice none 0 0)]), (3, .cells 28 (s.enc.map .val))] m h })] [] [] [26] [] false
def f52m_nice (v : bH) (t : Int) (m : MH) (h : PH) (K : CV -> MH -> PH -> Prop) : Prop :=
  bE t 0 (K Fj m h) (fI t (iR v) (K Fj m h) (aY (λ b o => aG (bC (lR v) b o) (0 <= t) (t < aF v.tables) (∃ (y : Sl), J4 m h b (iW o t 5) 1 (cT y) (λ I m1 => J2 (λ x => aA (I x) (eL 32) (aA (bW y (jB x)) (fN y (jB x)) (aA (bO x.1) (yW 3 1 (mU x)) (aA (m = m) (h = h) True)))) (λ x => I x -> bE (↑x.1 : Int) (aF (jB x)) (aY (λ b1 o1 => aG (bC (jB x).a b1 o1) (0 <= (↑x.1 : Int)) ((↑x.1 : Int) < aF (jB x)) (∃ (y1 : oG), aG (bI m h b1 (bZ o1 x.1 2) (tM y1.name y1.kind)) (fR (iV (bY (mU x)) 1 * 8)) (kR (bY (mU x))) (∃ (x1 : Nat × Sl × List Int), aA (I x1) (m1 x1 < m1 x) (aA (eL 32) (bW (jB x) (jB x1)) (aA (fN (jB x) (jB x1)) (aZ x.1 1 x1.1) (aA (uB (mU x) y1.kind (mU x1)) (m = m) (bG h
 h)))))))) (bQ h 1 (bY (mU x)) (λ s h1 => K (dO s) m h1))))))))
theorem f52m_vc (v : bH) (t : Int) (m : MH) (h : PH) (K : CV -> MH -> PH -> Prop) : f52m_nice v t m h K = (cG (f52_ctx m h) Tryz.f52 (aE Tryz.f52) (entry Tryz.f52.ntmps [aS v, cI t] m h) K) := by kernel_rfl
abbrev nB  : Prop := eQ (oQ 28 (kJ mF uQ))
noncomputable abbrev iI (a : Int × MH × PH) : Nat -> Nat -> Option Value := a.2.2
noncomputable abbrev rR (a : Int × MH × PH) : Nat -> Option Obj := a.2.1
abbrev yB (a : ByteArray) (b : Int) (c : ByteArray) (d : Int) (e : ByteArray -> Int -> Prop) : Prop := cV (nX a) b = cV (nX c) d /\ ∃ (x : ByteArray) (x1 : Int), e x x1
abbrev mK (a : Sl -> MH -> Prop) : Prop := ∀ (x : Sl) (x1 : MH), a x x1
noncomputable abbrev nT (a : Int × bH × MH × PH) : bH := a.2.1
noncomputable abbrev oZ (a : bH × MH × PH) : Nat -> Nat -> Option Value := a.2.2
noncomputable abbrev qG (a : Int × bH × MH × PH) : Nat -> Nat -> Option Value := oZ a.2
abbrev jP (a b : bH) : Prop := oQ 28 (kJ (bL a.version) (gI a.tables)) = oQ 28 (kJ (bL b.version) (gI b.tables))
attribute [push_cast] nB iI rR yB mK nT oZ qG jP
def Mi (cb : Nat) (m : MH) (h : PH) (K : CV -> MH -> PH -> Prop) : Prop :=
  eV cb 3 m h (λ c n k m1 => aW k -> k < n \/ k = 0 -> eC m m1 c h (∃ (I : Int × Int × MH × PH -> Prop), mS cb 5 m1 h (λ c1 r m2 => eC m1 m2 c1 h (branch r (∃ (x : Int × Int × MH × PH), aA (I x) (cH cb) (aA (eP 2) (bJ (eR 2 k) x.1) (aA (bJ 5 x.2.1) nB (aA (bV m2 x.2.2) (h = iI x.2) True)))) (∃ (x : Int × Int × MH × PH), aA (I x) (cH cb) (aA (eP 2) (bJ (eR 2 k) x.1) (aA (bJ 4 x.2.1) nB (aA (bV m2 x.2.2) (h = iI x.2) True)))))) /\ ∀ (x : Int × Int × MH × PH), I x -> eV cb 3 (rR x.2) (iI x.2) (λ c1 n1 k1 m2 => aW k1 -> k1 < n1 \/ k1 = 0 -> eC (rR x.2) m2 c1 (iI x.2) (∃ (n2 : ByteArray) (k2 : Int), yB (ByteArray.mk (Array.mk (AE 105 100))) 4 n2 k2 (λ n3 k3 => yB (ByteArray.mk (Array.mk (OfNat.ofNat 111 :: OfNat.ofNat 119 :: OfNat.ofNat 110 :: OfNat.ofNat 101
 :: B4 114))) 4 n3 k3 (λ n4 k4 => yB (ByteArray.mk (Array.mk (AE 105 100))) x.2.1 n4 k4 (λ n5 k5 => yB (ByteArray.mk (Array.mk (OfNat.ofNat 112 :: OfNat.ofNat 114 :: OfNat.ofNat 111 :: OfNat.ofNat 106 :: OfNat.ofNat 101 :: OfNat.ofNat 99 :: B4 116))) 4 n5 k5 (λ n6 k6 => yB (ByteArray.mk (Array.mk (OfNat.ofNat 116 :: OfNat.ofNat 105 :: OfNat.ofNat 116 :: OfNat.ofNat 108 :: B4 101))) 5 n6 k6 (λ n7 k7 => yB (ByteArray.mk (Array.mk (OfNat.ofNat 100 :: OfNat.ofNat 111 :: AE 110 101))) 3 n7 k7 (λ n8 k8 => yB (ByteArray.mk (Array.mk (OfNat.ofNat 112 :: OfNat.ofNat 114 :: OfNat.ofNat 111 :: OfNat.ofNat 106 :: OfNat.ofNat 101 :: OfNat.ofNat 99 :: B4 116))) 4 n8 k8 (λ n9 k9 => yB (ByteArray.mk (Array.mk (OfNat.ofNat 112 :: OfNat.ofNat 101 :: OfNat.ofNat 114 :: OfNat.ofNat 115 :: AE 111 110))) 4 n9 k9 (λ a a1 => cV (nX
 (ByteArray.mk (Array.mk (OfNat.ofNat 116 :: OfNat.ofNat 97 :: AE 115 107)))) x.2.1 = cV (nX a) a1 /\ bQ (iI x.2) 2 (mI (tM n2 k2) (tM n3 k3)) (λ s h1 => bQ h1 2 (tM n4 k4 :: tM n5 k5 :: mI (tM n6 k6) (tM n7 k7)) (λ s1 h2 => bQ h2 2 (mI (tM n8 k8) (tM n9 k9)) (λ s2 h3 => bQ h3 2 (jG (tM a a1)) (λ s3 h4 => mK (λ s4 m3 => nJ m2 m3 h4 s4 72 5 (aL (Value.string (ByteArray.mk (Array.mk (OfNat.ofNat 112 :: OfNat.ofNat 114 :: OfNat.ofNat 111 :: OfNat.ofNat 106 :: OfNat.ofNat 101 :: OfNat.ofNat 99 :: AE 116 115)))) (nG s) (aL (cZ 1) j7 eZ) :: aL (Value.string (ByteArray.mk (Array.mk (OfNat.ofNat 116 :: OfNat.ofNat 97 :: OfNat.ofNat 115 :: OfNat.ofNat 107 :: B4 115)))) (nG s1) (aL (cZ 1) j7 eZ) :: mI (aL (Value.string (ByteArray.mk (Array.mk (OfNat.ofNat 109 ::
 OfNat.ofNat 101 :: OfNat.ofNat 109 :: OfNat.ofNat 98 :: OfNat.ofNat 101 :: OfNat.ofNat 114 :: B4 115)))) (nG s2) (aL (cZ 2) j7 eZ)) (aL (Value.string (ByteArray.mk (Array.mk (OfNat.ofNat 97 :: OfNat.ofNat 114 :: OfNat.ofNat 99 :: OfNat.ofNat 104 :: OfNat.ofNat 105 :: OfNat.ofNat 118 :: AE 101 100)))) (nG s3) (aL (cZ 1) j7 eZ))) -> aA (aW x.1) (x.1 <= (↑s4.cap : Int)) (∃ (I1 : Int × bH × MH × PH -> Prop), mS cb 2 m3 h4 (λ c2 r m4 => eC m3 m4 c2 h4 (branch r (bQ h4 1 (jG (bT 1)) (λ s5 h5 => aY (λ b o => aG (bC s4.a b o) ((0 : Int) <= 1) (1 < (↑x.1.toNat : Int)) (bQ h5 2 (jG (kY (nG s5) aX)) (λ s6 h6 => pP m4 b (o + 5 + 3) (cT s6) (λ m5 => ∃ (x1 : Int × bH × MH × PH), aA (I1 x1) (cH cb) (aA (eP 2) (bJ x.1 x1.1) (aA eT nB (aA (oQ 28 (kJ (bL k1) (At.val (Value.slice s4.a
 x.1.toNat s4.cap))) = oQ 28 (kJ (bL (nT x1).version) (gI (nT x1).tables))) (bV m5 x1.2.2) (bG h6 (qG x1))))))))))) (∃ (x1 : Int × bH × MH × PH), aA (I1 x1) (cH cb) (aA (eP 2) (bJ x.1 x1.1) (aA eT nB (aA (oQ 28 (kJ (bL k1) (At.val (Value.slice s4.a x.1.toNat s4.cap))) = oQ 28 (kJ (bL (nT x1).version) (gI (nT x1).tables))) (bV m4 x1.2.2) (bG h4 (qG x1)))))))) /\ ∀ (x1 : Int × bH × MH × PH), I1 x1 -> ∃ (I2 : Int × bH × MH × PH -> Prop), fB x1.1 2 (mS cb 3 x1.2.2.1 (qG x1) (λ c2 r m4 => eC x1.2.2.1 m4 c2 (qG x1) (branch r (bQ (qG x1) 1 (jG yE) (λ s5 h5 => aY (λ b o => aG (bC (lR (nT x1)) b o) ((0 : Int) <= 2) (2 < aF (nT x1).tables) (bQ h5 2 (jG (kY (nG s5) aX)) (λ s6 h6 => pP m4 b (o + 10 + 3) (cT s6) (λ m5 => ∃ (x2 : Int
 × bH × MH × PH), aA (I2 x2) (cH cb) (aA (eP 2) (bJ x1.1 x2.1) (aA eT nB (aA (jP (nT x1) (nT x2)) (bV m5 x2.2.2) (bG h6 (qG x2))))))))))) (∃ (x2 : Int × bH × MH × PH), aA (I2 x2) (cH cb) (aA (eP 2) (bJ x1.1 x2.1) (aA eT nB (aA (jP (nT x1) (nT x2)) (bV m4 x2.2.2) (bG (qG x1) (qG x2))))))))) (∃ (x2 : Int × bH × MH × PH), aA (I2 x2) (cH cb) (aA (eP 2) (bJ x1.1 x2.1) (aA eT nB (aA (jP (nT x1) (nT x2)) (bV x1.2.2.1 x2.2.2) (bG (qG x1) (qG x2)))))) /\ ∀ (x2 : Int × bH × MH × PH), I2 x2 -> ∃ (I3 : bH × MH × PH -> Prop), fB x2.1 3 (mS cb 3 x2.2.2.1 (qG x2) (λ c2 r m4 => eC x2.2.2.1 m4 c2 (qG x2) (branch r (bQ (qG x2) 1 (jG yE) (λ s5 h5 => aY (λ b o => aG (bC (lR (nT x2)) b o) ((0
 : Int) <= 3) (3 < aF (nT x2).tables) (bQ h5 2 (jG (kY (nG s5) (cZ 1))) (λ s6 h6 => pP m4 b (o + 15 + 3) (cT s6) (λ m5 => ∃ (x3 : bH × MH × PH), aA (I3 x3) (cH cb) (aA (eP 2) (eP 5) (aA nB (jP (nT x2) x3.1) (aA (bV m5 x3.2) (h6 = oZ x3) True))))))))) (∃ (x3 : bH × MH × PH), aA (I3 x3) (cH cb) (aA (eP 2) (eP 5) (aA nB (jP (nT x2) x3.1) (aA (bV m4 x3.2) (qG x2 = oZ x3) True))))))) (∃ (x3 : bH × MH × PH), aA (I3 x3) (cH cb) (aA (eP 2) (eP 5) (aA nB (jP (nT x2) x3.1) (aA (bV x2.2.2.1 x3.2) (qG x2 = oZ x3) True)))) /\ ∀ (x3 : bH × MH × PH), I3 x3 -> ∃ (I4 : bH × MH × PH -> Prop), mS cb 3 x3.2.1 (oZ x3) (λ c2 r m4 => eC x3.2.1 m4 c2 (oZ x3) (branch r (∃ (v : Int), aY (λ t a2 => ∃ (c3 : Nat) (w : List dJ) (w1 : dJ) (c4 : List
 oG) (t1 : Nat), aA (cV (bK x3.1) 1 = mW (kK (kY (cZ v) (Value.slice (Option.some (Iz t 0)) a2 c3))) t1) (t1 < a2) (aA (xH m4 t w) (w[t1]? = Option.some w1) (aA (BP (oZ x3) w1.columns c4) (c4.length <= 8) (fM (oZ x3) (List.map oG.kind c4) (λ s5 h5 => tA (λ c5 s6 t2 c6 p d => aA (fG (zN cb 0) (dO s5) (cV Fj 1) = mZ c5 s6 t2 d) (aM m4 h5 c5) (aA (aU h5 s6 c6) (aU h5 t2 p) (aG (dX c6) (dX p) (nS d) (nD h5 m4 c5 (λ v1 m5 h6 => aY (λ b o => aG (bC (lR x3.1) b o) ((0 : Int) <= 1) (1 < aF x3.1.tables) (bQ h6 13 (jG v1.enc) (λ s7 h7 => pP m5 b (o + 5 + 4) (cT s7) (λ m6 => ∃ (x4 : bH × MH × PH), aA (I4 x4) fL (aA eT nB (aG (jP x3.1 x4.1) (bV m6 x4.2) (h7 = oZ x4) True))))))))))))))))) (∃ (x4 : bH × MH × PH), aA (I4 x4)
 fL (aA eT nB (aG (jP x3.1 x4.1) (bV m4 x4.2) (oZ x3 = oZ x4) True))))) /\ ∀ (x4 : bH × MH × PH), I4 x4 -> K (bK x4.1) x4.2.1 (oZ x4)))))))))))))))))))
theorem V6 (cb : Nat) (m : MH) (h : PH) (K : CV -> MH -> PH -> Prop) : Mi cb m h K = (cG (PA cb) Tryz.f25 (aE Tryz.f25) (entry Tryz.f25.ntmps [cP cb] m h) K) := by kernel_rfl
noncomputable abbrev vA (a : Nat × bH × MH × PH) : bH := a.2.1
attribute [push_cast] vA
def Kj (cb : Nat) (m : MH) (h : PH) (K : CV -> MH -> PH -> Prop) : Prop :=
  ∃ (c : Nat), aA (cK (eH cb) (eH c)) (aM m h c) (∀ (t n : Nat) (i : Int) (w : List dJ) (s : bH), kD (λ m1 h1 => Az m h c t n i w s m1 h1 -> ∃ (I : Nat × bH × MH × PH -> Prop) (m2 : Nat × bH × MH × PH -> Nat), (∃ (x : Nat × bH × MH × PH), aA (I x) fL (aA (eP 3) (fN s.tables (vA x).tables) (aA (bO x.1) nB (aA (jP s (vA x)) (bV m1 x.2.2) (bG h1 (oZ x.2)))))) /\ ∀ (x : Nat × bH × MH × PH), I x -> bE (↑x.1 : Int) (aF (vA x).tables) (aY (λ b o => aG (bC (lR (vA x)) b o) (0 <= (↑x.1 : Int)) ((↑x.1 : Int) < aF (vA x).tables) (pP x.2.2.1 b (bZ o x.1 5 + 3) eZ (λ m3 => aY (λ b1 o1 => aG (bC (lR (vA x)) b1 o1) (0 <= (↑x.1 : Int)) ((↑x.1 : Int) < aF (vA x).tables) (pP m3 b1 (bZ o1 x.1 5 + 4) eZ (λ m4 => ∃ (x1 : Nat × bH × MH
 × PH), aA (I x1) (m2 x1 < m2 x) (aA (eP 2) (eP 3) (aA (fN (vA x).tables (vA x1).tables) (aZ x.1 1 x1.1) (aA nB (jP (vA x) (vA x1)) (cQ (bV m4 x1.2.2) (oZ x.2) (oZ x1.2)))))))))))) (K (bK (vA x)) x.2.2.1 (oZ x.2))))
theorem WC (cb : Nat) (m : MH) (h : PH) (K : CV -> MH -> PH -> Prop) : Kj cb m h K = (cG Sg Tryz.f8 (aE Tryz.f8) (entry Tryz.f8.ntmps [cP cb] m h) K) := by kernel_rfl
theorem M8 {α : Type} (l : List α) (o : Nat) (x : α) (h : o < l.length) : splice l o [x] = l.set o x := by
 rw [List.set_eq_take_append_cons_drop, if_pos h]; simp [splice]
theorem flatten_set : ∀ (ws : List dJ) {i k : Nat} {w w' : dJ} {x : Value}, ws[i]? = some w -> k < 5 -> w'.enc = w.enc.set k x -> ((ws.map dJ.enc).flatten).set (i * 5 + k) x = ((ws.set i w').map dJ.enc).flatten
 | [], i, k, w, w', x, h, _, _ => by simp at h
 | u :: ws, 0, k, w, w', x, h, hk, e => by
  simp at h; subst h
  simp only [List.map_cons, List.flatten_cons, List.set_cons_zero, Nat.zero_mul, Nat.zero_add, e]
  rw [List.set_append_left _ _ (by simpa [dJ.enc] using hk)]
 | u :: ws, i + 1, k, w, w', x, h, hk, e => by
  simp only [List.map_cons, List.flatten_cons, List.set_cons_succ]
  have hl : u.enc.length = 5 := rfl
  rw [List.set_append_right _ _ (by rw [hl]; omega), hl, show (i + 1) * 5 + k - 5 = i * 5 + k by omega, flatten_set ws (by simpa using h) hk e]
theorem Sb (ws : List dJ) : ((ws.map dJ.enc).flatten).length = ws.length * 5 := by
 induction ws with
 | nil => rfl
 | cons w ws ih => simp only [List.map_cons, List.flatten_cons, List.length_append, ih, List.length_cons]; show 5 + _ = _; omega
theorem xH.big {tb : Nat} {ws : List dJ} {cs : Array Value} {E : TypeId} {fz : Nat × Nat} (h : xH m tb ws) (hm : m tb = some (.cells cs E fz)) : ws.length * 5 <= cs.size := by
 obtain ⟨cur, h1, h2⟩ := h.ex
 rw [h1] at hm
 simp only [Option.some.injEq, Obj.cells.injEq] at hm
 obtain ⟨rfl, _, _⟩ := hm
 have := congrArg List.length h2
 rw [Sb] at this
 simp at this
 omega
theorem xH.store {tb : Nat} {ws : List dJ} {w w' : dJ} {x : Value} (h : xH m tb ws) (hi : ws[i]? = some w) (hk : k < 5) (e : w'.enc = w.enc.set k x) {cs : Array Value} {E : TypeId} {fz : Nat × Nat} (hm : m tb = some (.cells cs E fz))
 (hu : m' tb = some (.cells (splice cs.toList (i * 5 + k) [x]).toArray E (0, 0))) : xH m' tb (ws.set i w') := by
 have hb := h.big hm
 have hil := (List.getElem?_eq_some_iff.1 hi).1
 obtain ⟨cur, h1, h2⟩ := h.ex
 rw [h1] at hm
 simp only [Option.some.injEq, Obj.cells.injEq] at hm
 obtain ⟨rfl, rfl, _⟩ := hm
 refine ⟨_, hu, ?_⟩
 rw [M8 _ _ _ (by simp; omega), List.length_set, List.toList_toArray, List.take_set, h2]
 exact flatten_set ws hi hk e
theorem xH.rd {tb : Nat} {ws : List dJ} (r : xH m tb ws) {j : Nat} {w : dJ} {x : Value} (hi : ws[i]? = some w) (hj : w.enc[j]? = some x) : bI m h tb (i * 5 + j) [x] := by
 obtain ⟨cur, h1, h2⟩ := r.ex
 refine .of_m h1 ?_
 have h3 := jS (xs := ws.map dJ.enc) (sz := 5) (λ e he => by obtain ⟨x, _, rfl⟩ := List.mem_map.1 he; rfl) (by rw [List.getElem?_map, hi]; rfl) j x hj
 rw [<- h2, List.getElem?_take] at h3
 split at h3
 . rw [drop_cons h3]; rfl
 . cases h3
theorem f52m_ok {ver : Int} {tb n cap : Nat} {ws : List dJ} {w : dJ} {cols : List oG} {t : Nat} (ht : t < n) (hr : xH m tb ws) (hw : ws[t]? = some w) (hc : BP h w.columns cols) (h8 : cols.length <= 8)
 (hK : ∀ sl h', PH.le h h' -> aU h' sl (cols.map oG.kind) -> K (cS sl) m h') : f52m_nice ⟨ver, ⟨some ⟨tb, 0, none⟩, n, cap⟩⟩ t m h K := by
 dsimp only [f52m_nice, push_cast]
 have hcl := iT.slen hc
 refine aC (λ h1 => by omega) (λ h1 => aC (λ h2 => by have h2 : (t : Int) >= (n : Int) := h2; omega) (λ h2 => ?_))
 refine ⟨tb, 0, rfl, by omega, by show (t : Int) < (n : Int); omega, w.columns, ?_, λ ⟨i, sl, l⟩ => sl = w.columns /\ i <= cols.length /\ l = (cols.take i).map oG.kind, λ ⟨i, _, _⟩ => cols.length - i, ⟨(0, w.columns, []), ⟨rfl, by simp, by simp⟩, MT⟩, ?_⟩
 . rw [Nat.zero_add, Int.toNat_natCast]; exact hr.rd hw rfl
 rintro ⟨i, _, _⟩ ⟨rfl, hi, rfl⟩
 dsimp only
 refine aC (λ hlt => ?_) (λ hge sl h' hle hrow => ?_)
 . obtain ⟨c, hx⟩ := fP hcl hlt
   obtain ⟨b, o, e, r⟩ := BP.at hc hx
   refine ⟨b, o, e, by omega, hlt, c, .imm r, ?_, ?_, (i + 1, w.columns, (cols.take (i + 1)).map oG.kind), ⟨rfl, by omega, rfl⟩, by show cols.length - (i + 1) < cols.length - i; omega, ?_⟩
   . simp; omega
   . simp; omega
   . rw [gJ hx, List.map_append]
     exact MT
 . rw [List.take_of_length_le (by omega)] at hrow
   exact hK sl h' hle ⟨hrow, by simp; omega⟩
theorem f52m_sound : Sound Tryz.prog 52 Qe := by
 refine aI (fn := Tryz.f52) (c := aE Tryz.f52) Tryz.func52 rfl (by decide) ?_
 rintro cvs m h K ⟨ver, tb, n, cap, ws, w, cols, t, rfl, h1, h2, h3, h4, h5, h6⟩
 refine ⟨f52_ctx m h, rfl, aH, ?_⟩
 rw [<- f52m_vc]
 exact f52m_ok h1 h2 h3 h4 h5 h6
theorem Gu.mono {t : Et} {w : dJ} (x : Gu h t w) (le : PH.le h h') : Gu h' t w := ⟨x.name_, x.key_, iT.mono x.cols_ le λ _ _ e => e⟩
theorem N8.mono {id : Int} {ws : List dJ} (x : N8 h id ws) (le : PH.le h h') : N8 h' id ws := ⟨x.1, λ i t e => let ⟨w, e1, e2⟩ := x.2 i t e; ⟨w, e1, e2.mono le⟩⟩
theorem N8.set {id : Int} {ws : List dJ} {w w' : dJ} (x : N8 h id ws) (hi : ws[i]? = some w) (e1 : w'.name = w.name) (e2 : w'.key = w.key) (e3 : w'.columns = w.columns) : N8 h id (ws.set i w') := by
 refine ⟨by rw [List.length_set]; exact x.1, λ j t e => ?_⟩
 obtain ⟨u, h1, h2⟩ := x.2 j t e
 by_cases hj : i = j
 . subst hj
   rw [hi] at h1; cases h1
   exact ⟨w', by rw [List.getElem?_set_self (List.getElem?_eq_some_iff.1 hi).1], ⟨by rw [e1]; exact h2.name_, by rw [e2]; exact h2.key_, by rw [e3]; exact h2.cols_⟩⟩
 . exact ⟨u, by rw [List.getElem?_set_ne hj]; exact h1, h2⟩
theorem Az.on {m0 m1 : MH} {h0 h1 : PH} {tb n : Nat} {id : Int} {ws : List dJ} {s : bH} (x : Az m0 h0 cb tb n id ws s m h) (le : PH.le h h1) (ho : bP m m1 cb) (hc : aM m1 h1 cb) : Az m0 h0 cb tb n id ws s m1 h1 := by
 refine ⟨x.le_.trans le, x.ver0, x.ver1, hc, x.n2, x.n4, x.sl_, x.id_, x.new_, x.ne_, ?_, x.ws_.mono le, λ b n1 n2 => by rw [ho.other b n1]; exact x.other_ b n1 n2⟩
 obtain ⟨cur, e1, e2⟩ := x.row_.ex
 exact ⟨cur, by rw [ho.other tb x.ne_]; exact e1, e2⟩
theorem Az.store {m0 : MH} {h0 : PH} {tb n : Nat} {id : Int} {ws : List dJ} {s : bH} (x : Az m0 h0 cb tb n id ws s m h) {o : Nat} {w w' : dJ} {y : Value} (hi : ws[i]? = some w) (hk : k < 5) (ho : o = i * 5 + k) (e : w'.enc = w.enc.set k y) (e1 : w'.name = w.name) (e2 : w'.key = w.key) (e3 : w'.columns = w.columns) {Q : MH -> Prop}
 (hQ : ∀ m2, Az m0 h0 cb tb n id (ws.set i w') s m2 h -> Q m2) : ∃ (cs : Array Value) (E : TypeId), KB m tb (.cells cs E (0, 0)) /\ o < cs.size /\ ∀ m2 : MH, gS m m2 tb (.cells (splice cs.toList o [y]).toArray E (0, 0)) -> Q m2 := by
 obtain ⟨cur, h1, h2⟩ := x.row_.ex
 have hil := (List.getElem?_eq_some_iff.1 hi).1
 refine ⟨cur, 72, ⟨h1⟩, by have := x.row_.big h1; omega, λ m2 hu => hQ m2 ?_⟩
 subst ho
 refine ⟨x.le_, x.ver0, x.ver1, ?_, x.n2, x.n4, x.sl_, x.id_, x.new_, x.ne_, x.row_.store hi hk e h1 hu.at_, x.ws_.set hi e1 e2 e3, λ b n1 n2 => by rw [hu.other b n2]; exact x.other_ b n1 n2⟩
 obtain ⟨r, q, cs, k, q1, q2⟩ := x.case_
 exact ⟨r, q, cs, k, by rw [hu.other cb x.ne_.symm]; exact q1, q2⟩
theorem Eo {h : PH} {s : Sl} {l : List oG} (r : cW h s 2 (l.map oG.enc)) (hl : l.length <= 8) : BP h s l := ⟨⟨l, r, rfl, λ i x e => ⟨x, e, rfl⟩⟩, by omega⟩
theorem nJ.tabs {m m' : MH} {h : PH} {s : Sl} {w : dJ} {ws : List dJ} (x : nJ m m' h s 72 5 ((w :: ws).map dJ.enc)) : ∃ tb cap, s = ⟨some ⟨tb, 0, none⟩, ws.length + 1, cap⟩ /\ ws.length + 1 <= cap /\ xH m' tb (w :: ws) /\ gX m h tb /\ ∀ b, b ≠ tb -> m' b = m b := by
 rcases x.row.ex with ⟨_, e⟩ | ⟨b, cap, cur, e, hm, h1, _, h3, h4⟩
 . cases e
 . subst e
   refine ⟨b, cap, by simp, by simpa using h1, ⟨cur, hm, by simpa using h4⟩, x.fresh b 0 rfl, λ c hc => x.other c (λ i e => by simp only [Option.some.injEq, Addr.mk.injEq] at e; exact hc e.1.symm)⟩
theorem Rr : Sound Tryz.prog 25 P6 := by
 refine aI (fn := Tryz.f25) (c := aE Tryz.f25) Tryz.func25 rfl (by decide) ?_
 rintro cvs m h K ⟨cb, rfl, hc, hK⟩
 refine ⟨PA cb, rfl, aD Cg (aD sJ (aD f51_sound (aD f52m_sound (aD CM aH)))), ?_⟩
 rw [<- V6 cb m h K]
 dsimp only [Mi, push_cast]
 refine ⟨cb, 3, rfl, hc, λ k m1 k0 k1 o1 c1 => ?_⟩
 have hk2 : IntKind.i64.wrap (2 + k) = 2 + k := dP (by omega) (by omega)
 rw [hk2]
 refine ⟨λ ⟨n, id, mx, hx⟩ => 2 <= n /\ n <= 4 /\ (id = 4 \/ id = 5) /\ hx = h /\ bP m mx cb /\ aM mx h cb, ⟨cb, 5, rfl, by omega, by omega, c1, λ r m2 o2 c2 => aB (λ _ => ⟨(2 + k, 5, m2, h), ⟨by show 2 <= 2 + k; omega, by show 2 + k <= 4; omega, .inr rfl, rfl, o1.trans o2, c2⟩, MT⟩) (λ _ => ⟨(2 + k, 4, m2, h), ⟨by show 2 <= 2 + k; omega, by show 2 + k <= 4; omega, .inl rfl, rfl, o1.trans o2, c2⟩, MT⟩)⟩, ?_⟩
 clear o1 c1 m1 hk2 k0 k1 k
 rintro ⟨n, id, m1, hx⟩ ⟨n2, n4, hid, rfl, o1, c1⟩
 dsimp only
 refine ⟨cb, 3, rfl, c1, λ k m2 k0 k1 o2 c2 => ?_⟩
 refine ⟨_, _, rfl, _, _, rfl, _, _, rfl, _, _, rfl, _, _, rfl, _, _, rfl, _, _, rfl, _, _, rfl, _, _, rfl, λ s1 h1 le1 r1 s2 h2 le2 r2 s3 h3 le3 r3 s4 h4 le4 r4 tl m3 hnew => ?_⟩
 obtain ⟨tb, cap, rfl, hcap, hrow, hun, hoth⟩ := nJ.tabs (w := ⟨_, s1, 1, cA, cA⟩) (ws := [⟨_, s2, 1, cA, cA⟩, ⟨_, s3, 2, cA, cA⟩, ⟨_, s4, 1, cA, cA⟩]) hnew
 simp only [List.length_cons, List.length_nil] at hcap
 have hle : PH.le hx h4 := ((le1.trans le2).trans le3).trans le4
 have tbcb : tb ≠ cb := λ e => by
  obtain ⟨r, q, cs, j, q1, _⟩ := c2
  have := hun.m_
  rw [e, q1] at this; cases this
 have hm0 : m tb = none := by rw [<- o1.other tb tbcb, <- o2.other tb tbcb]; exact hun.m_
 have c3 : aM m3 h4 cb := by
  obtain ⟨r, q, cs, j, q1, q2, q3⟩ := c2
  exact ⟨r, q, cs, j, by rw [hoth cb tbcb.symm]; exact q1, q2.mono hle, q3⟩
 have S0 : Az m hx cb tb n.toNat id _ ⟨k, ⟨some ⟨tb, 0, none⟩, n.toNat, cap⟩⟩ m3 h4 := ⟨hle, k0, by show k <= 2; omega, c3, by omega, by omega, ⟨cap, rfl, by omega⟩, hid, hm0, tbcb, hrow, ⟨rfl, λ i t e => ?_⟩, λ b n1 n2 => by rw [hoth b n2, o2.other b n1, o1.other b n1]⟩
 rotate_left
 . match i, e with
   | 0, e => cases e; exact ⟨_, rfl, ⟨rfl, rfl, Eo (l := [⟨_, _⟩, ⟨_, _⟩]) (r1.mono ((le2.trans le3).trans le4)) (by decide)⟩⟩
   | 1, e => cases e; exact ⟨_, rfl, ⟨rfl, rfl, Eo (l := [⟨_, _⟩, ⟨_, _⟩, ⟨_, _⟩, ⟨_, _⟩]) (r2.mono (le3.trans le4)) (by simp)⟩⟩
   | 2, e => cases e; exact ⟨_, rfl, ⟨rfl, rfl, Eo (l := [⟨_, _⟩, ⟨_, _⟩]) (r3.mono le4) (by decide)⟩⟩
   | 3, e => cases e; exact ⟨_, rfl, ⟨rfl, rfl, Eo (l := [⟨_, _⟩]) r4 (by simp)⟩⟩
   | i + 4, e => simp [mE] at e
 generalize hws : (dJ.mk _ s1 1 cA cA :: _) = ws0 at S0
 clear hws hrow hnew r1 r2 r3 r4
 have getw : ∀ {ws : List dJ} {i : Nat}, ws.length = 4 -> i < 4 -> ∃ w, ws[i]? = some w := λ hl hi => ⟨_, List.getElem?_eq_getElem (by omega)⟩
 refine ⟨by omega, by show n <= (cap : Int); omega, λ ⟨n', s, mx, hy⟩ => n' = n /\ ∃ ws, Az m hx cb tb n.toNat id ws s mx hy, ⟨cb, 2, rfl, by omega, by omega, c3, λ r m4 o4 c4 => aB (λ _ s5 h5 le5 r5 => ⟨tb, 0, rfl, by omega, by omega, λ s6 h6 le6 r6 => ?_⟩) (λ _ => ⟨(n, ⟨k, ⟨some ⟨tb, 0, none⟩, n.toNat, cap⟩⟩, m4, h4), ⟨rfl, _, S0.on (.refl _) o4 c4⟩, MT⟩)⟩, ?_⟩
 . obtain ⟨w, hw⟩ := getw (i := 1) S0.ws_.1 (by omega)
   exact (S0.on (le5.trans le6) o4 (c4.mono (le5.trans le6))).store (k := 3) (w' := { w with references := s6 }) hw (by omega) rfl rfl rfl rfl rfl λ m5 x5 => ⟨(n, ⟨k, ⟨some ⟨tb, 0, none⟩, n.toNat, cap⟩⟩, m5, h6), ⟨rfl, _, x5⟩, MT⟩
 clear S0 c3 hoth hun hm0 hcap hle le1 le2 le3 le4 o1 o2 c1 c2
 rintro ⟨n', s, m4, h5⟩ ⟨rfl, ws, S0⟩
 dsimp only
 obtain ⟨cap, hsl, _⟩ := S0.sl_
 have hsa : s.tables.a = some ⟨tb, 0, none⟩ := by rw [hsl]
 have hsn : s.tables.len = n'.toNat := by rw [hsl]
 refine ⟨λ ⟨n, s, mx, hy⟩ => n = n' /\ ∃ ws, Az m hx cb tb n.toNat id ws s mx hy, aC (λ hn => ⟨cb, 3, rfl, by omega, by omega, S0.case_, λ r m5 o5 c5 => aB (λ _ s7 h7 le7 r7 => ⟨tb, 0, hsa, by omega, by omega, λ s8 h8 le8 r8 => ?_⟩) (λ _ => ⟨(n', s, m5, h5), ⟨rfl, _, S0.on (.refl _) o5 c5⟩, MT⟩)⟩) (λ _ => ⟨(n', s, m4, h5), ⟨rfl, _, S0⟩, MT⟩), ?_⟩
 . obtain ⟨w, hw⟩ := getw (i := 2) S0.ws_.1 (by omega)
   exact (S0.on (le7.trans le8) o5 (c5.mono (le7.trans le8))).store (k := 3) (w' := { w with references := s8 }) hw (by omega) rfl rfl rfl rfl rfl λ m5 x5 => ⟨(n', s, m5, h8), ⟨rfl, _, x5⟩, MT⟩
 clear S0 hsa hsn hsl
 rintro ⟨n'', s, m4, h5⟩ ⟨rfl, ws, S0⟩
 dsimp only
 obtain ⟨cap, hsl, _⟩ := S0.sl_
 have hsa : s.tables.a = some ⟨tb, 0, none⟩ := by rw [hsl]
 have hsn : s.tables.len = n''.toNat := by rw [hsl]
 refine ⟨λ ⟨s, mx, hy⟩ => ∃ ws, Az m hx cb tb n''.toNat id ws s mx hy, aC (λ hn => ⟨cb, 3, rfl, by omega, by omega, S0.case_, λ r m5 o5 c5 => aB (λ _ s7 h7 le7 r7 => ⟨tb, 0, hsa, by omega, by omega, λ s8 h8 le8 r8 => ?_⟩) (λ _ => ⟨(s, m5, h5), ⟨_, S0.on (.refl _) o5 c5⟩, MT⟩)⟩) (λ _ => ⟨(s, m4, h5), ⟨_, S0⟩, MT⟩), ?_⟩
 . obtain ⟨w, hw⟩ := getw (i := 3) S0.ws_.1 (by omega)
   exact (S0.on (le7.trans le8) o5 (c5.mono (le7.trans le8))).store (k := 3) (w' := { w with references := s8 }) hw (by omega) rfl rfl rfl rfl rfl λ m5 x5 => ⟨(s, m5, h8), ⟨_, x5⟩, MT⟩
 clear S0 hsa hsn hsl
 rintro ⟨s, m4, h5⟩ ⟨ws, S0⟩
 dsimp only
 obtain ⟨cap, hsl, _⟩ := S0.sl_
 have hsa : s.tables.a = some ⟨tb, 0, none⟩ := by rw [hsl]
 have hsn : s.tables.len = n''.toNat := by rw [hsl]
 refine ⟨λ ⟨s, mx, hy⟩ => ∃ ws, Az m hx cb tb n''.toNat id ws s mx hy, ⟨cb, 3, rfl, by omega, by omega, S0.case_, λ r m5 o5 c5 => aB (λ _ => ?_) (λ _ => ⟨(s, m5, h5), ⟨_, S0.on (.refl _) o5 c5⟩, MT⟩)⟩, λ ⟨s, m4, h5⟩ ⟨ws, S0⟩ => hK _ _ _ _ _ _ _ S0⟩
 have S1 := S0.on (.refl _) o5 c5
 obtain ⟨w, hw, hhalf⟩ := S1.ws_.2 1 _ rfl
 refine ⟨s.version, tb, n''.toNat, cap, ws, w, _, 1, by rw [hsl]; rfl, by omega, S1.row_, hw, hhalf.cols_, by simp, λ sl h6 le6 hi6 => ?_⟩
 refine ⟨cb, sl, cA, _, [], 1, rfl, c5.mono le6, hi6, ⟨cW.nil _ _, by simp⟩, by simp, by simp, by omega, λ pvv p m6 h7 le7 hp hpw o6 c6 => ⟨tb, 0, hsa, by omega, by omega, λ s8 h8 le8 r8 => ?_⟩⟩
 exact (S1.on ((le6.trans le7).trans le8) o6 (c6.mono le8)).store (k := 4) (w' := { w with checks := s8 }) hw (by omega) rfl rfl rfl rfl rfl λ m5 x5 => ⟨(s, m5, h8), ⟨_, x5⟩, MT⟩
structure HU (s : oC) : Prop where
 ex : ∃ ver n id, 0 <= ver /\ ver <= 2 /\ 2 <= n /\ n <= 4 /\ (id = 4 \/ id = 5) /\ s = ⟨ver, (mE id).take n⟩
def SH : Vc.Spec := λ cvs m h K => ∃ cb, cvs = [cP cb] /\ aM m h cb /\ ∀ s v m' h', HU s -> eW h' s v -> PH.le h h' -> bP m m' cb -> aM m' h' cb -> K (aS v) m' h'
theorem Sf : Sound Tryz.prog 8 SH := by
 refine IH (fn := Tryz.f8) (c := aE Tryz.f8) Tryz.func8 rfl (by decide) ?_
 rintro cvs m h K ⟨cb, rfl, hc, hK⟩
 refine ⟨Sg, rfl, aD Rr aH, ?_⟩
 rw [<- WC cb m h _]
 show Kj cb m h (BD h K)
 dsimp only [Kj, push_cast]
 refine ⟨cb, rfl, hc, λ tb n id ws s m1 h1 S1 => ?_⟩
 refine ⟨λ ⟨i, s', mx, hx⟩ => s' = s /\ hx = h1 /\ i <= n /\ ∃ ws, Az m h cb tb n id ws s mx h1 /\ ∀ j w, j < i -> ws[j]? = some w -> w.references = cA /\ w.checks = cA, λ ⟨i, _, _, _⟩ => n - i, ⟨(0, s, m1, h1), ⟨rfl, rfl, by omega, ws, S1, λ j w hj => by omega⟩, MT⟩, ?_⟩
 clear S1 ws m1
 rintro ⟨i, s', m1, hx⟩ ⟨rfl, rfl, hi, ws, S1, hnil⟩
 dsimp only
 obtain ⟨cap, hsl, hscap⟩ := S1.sl_
 have hsa : s'.tables.a = some ⟨tb, 0, none⟩ := by rw [hsl]
 have hsn : s'.tables.len = n := by rw [hsl]
 have hn4 := S1.n4
 refine aC (λ hlt => ⟨tb, 0, hsa, by omega, hlt, ?_⟩) (λ hge hdis => ?_)
 . obtain ⟨w, hw⟩ : ∃ w, ws[i]? = some w := ⟨_, List.getElem?_eq_getElem (by have := S1.ws_.1; have := S1.n4; omega)⟩
   refine S1.store (i := i) (k := 3) (w' := { w with references := cA }) hw (by omega) (by omega) rfl rfl rfl rfl λ m2 S2 => ⟨tb, 0, hsa, by omega, hlt, ?_⟩
   have hil := (List.getElem?_eq_some_iff.1 hw).1
   have hw2 : (ws.set i { w with references := cA })[i]? = some { w with references := cA } := List.getElem?_set_self hil
   refine S2.store (i := i) (k := 4) (w' := { w with references := cA, checks := cA }) hw2 (by omega) (by omega) rfl rfl rfl rfl λ m3 S3 => ⟨(i + 1, s', m3, hx), ⟨rfl, rfl, by show i + 1 <= n; omega, _, S3, λ j u hj hu => ?_⟩, by show n - (i + 1) < n - i; omega, MT⟩
   by_cases e : i = j
   . subst e
     rw [List.getElem?_set_self (by rw [List.length_set]; exact hil)] at hu
     cases hu; exact ⟨rfl, rfl⟩
   . rw [List.getElem?_set_ne e, List.getElem?_set_ne e] at hu
     exact hnil j u (by omega) hu
 . have hdis := hdis
   obtain ⟨cur, hcur, htake⟩ := S1.row_.ex
   have hg0 : ∀ i, hx tb i = none := hdis tb _ hcur
   have hle3 : PH.le hx (λ x i => if x = tb then cur[i]? else hx x i) := ⟨λ x i v e => by
    have : x ≠ tb := λ e' => by rw [e', hg0 i] at e; cases e
    simp [this, e]⟩
   refine ⟨λ b => if b = tb then none else m1 b, λ x i => if x = tb then cur[i]? else hx x i, λ b o e => ?_, S1.le_.trans hle3, λ x i v e => ?_, hK ⟨s'.version, (mE id).take n⟩ s' _ _ ⟨⟨_, _, _, S1.ver0, S1.ver1, S1.n2, S1.n4, S1.id_, rfl⟩⟩ ⟨rfl, ?_⟩ (S1.le_.trans hle3) ⟨λ b hb => ?_⟩ ?_⟩
   . by_cases e' : b = tb
     . simp [e'] at e
     . simpa [e'] using e
   . by_cases e' : x = tb
     . subst e'
       simp at e
       exact .inr ⟨cur, 72, (0, 0), hcur, e, by simp⟩
     . simp [e'] at e; exact .inl e
   . have hws4 := S1.ws_.1
     have hn4 := S1.n4
     refine ⟨⟨ws.take n, ⟨by rw [hsn]; simp; omega, .inr ⟨tb, 0, hsa, λ i e hi => ⟨λ j v hj => ?_⟩⟩, by rw [hsl]; exact hscap⟩, by simp [mE]; omega, λ i t e => ?_⟩, by simp [mE]; omega⟩
     . rw [List.map_take, List.getElem?_take] at hi
       split at hi
       . have h1 := jS (xs := ws.map dJ.enc) (sz := 5) (λ e he => by obtain ⟨x, _, rfl⟩ := List.mem_map.1 he; rfl) hi j v hj
         rw [<- htake, List.getElem?_take] at h1
         split at h1
         . simp only [if_true, Nat.zero_add]
           rw [<- Array.getElem?_toList]; exact h1
         . cases h1
       . cases hi
     . rw [List.getElem?_take] at e
       split at e
       . rename_i hin
         obtain ⟨w, e1, e2⟩ := S1.ws_.2 i t e
         obtain ⟨z1, z2⟩ := hnil i w (by omega) e1
         have hh := e2.mono hle3
         have hnorc : t.refs = [] /\ t.checks = [] := by
          match i, e with
          | 0, e => cases e; exact ⟨rfl, rfl⟩
          | 1, e => cases e; exact ⟨rfl, rfl⟩
          | 2, e => cases e; exact ⟨rfl, rfl⟩
          | 3, e => cases e; exact ⟨rfl, rfl⟩
          | i + 4, e => simp [mE] at e
         refine ⟨w, by rw [List.getElem?_take, if_pos hin]; exact e1, ⟨hh.name_, hh.cols_, hh.key_, by rw [z1, hnorc.1]; exact iT.nil _ _ _ _, by rw [z2, hnorc.2]; exact iT.nil _ _ _ _⟩⟩
       . cases e
   . by_cases e' : b = tb
     . subst e'; simp [S1.new_]
     . simp [e']; exact S1.other_ b hb e'
   . obtain ⟨r, q, cs, k, q1, q2, q3⟩ := S1.case_
     exact ⟨r, q, cs, k, by simp [S1.ne_.symm]; exact q1, q2.mono hle3, q3⟩
def QW (q : Query) : Prop :=
 match q with
 | .mk _ _ w _ _ _ _ _ args => pI w /\ ∀ a ∈ args, QW a
 termination_by SizeOf.sizeOf q
theorem JT {op : Int} {on : List (Int × Int)} {args : List Query} :
 QW (.mk op ta w co on gr od li args) ↔ pI w /\ ∀ a ∈ args, QW a := by rw [QW.eq_def]
def KQ (K : CV -> MH -> PH -> Prop) (m : MH) (h : PH) (cb : Nat) : Prop := ∀ w q m' h', PH.le h h' -> cC h' q w -> QW q -> bP m m' cb -> aM m' h' cb -> K (aQ w) m' h'
def P5 : Vc.Spec := λ cvs m h K => ∃ cb sc p k v s ps ks q, cvs = [cP cb, aS sc, cS p, cS k, aQ v] /\ aM m h cb /\ eW h s sc /\ iH s /\ s.tables.length <= 1000 /\ aU h p ps /\ ps.length <= 1000 /\ aU h k ks /\ ks.length <= 1000 /\ cC h q v /\ QW q /\ KQ K m h cb
noncomputable def Po (cb : Nat) (sc : bH) (p k : Sl) (v : QV) : Ctx :=
 cO [(12, zL), (52, uO), (37, SC), (10, Ez), (27, zJ)]
  [(3, { A := Int × Nat × MH × PH, st := λ ⟨f, n, m, h⟩ => cD 112 117 [(0, pv cb), (2, sv p), (3, sv k), (6, .at (.ptr 6 0)), (9, .at (.ptr 9 0)), (10, .at (.ptr 10 0)), (11, iv f), (12, iv n)] [(6, .cells 28 (sc.enc.map .val)), (9, .cells 43 (v.enc.map .val)), (10, .cells 43 (iP.enc.map .val))] m h }),
   (9, { A := Int × Nat × Int × Sl × List Int × Nat × MH × PH, st := λ ⟨f, n, t, have_, cols, i, m, h⟩ => cD 112 117 [(0, pv cb), (2, sv p), (3, sv k), (6, .at (.ptr 6 0)), (9, .at (.ptr 9 0)), (10, .at (.ptr 10 0)), (11, iv f), (12, iv n), (13, iv t), (14, sv have_), (15, .at (.lst 75)), (45, sv k), (46, iv k.len), (47, iv i)] [(6, .cells 28 (sc.enc.map .val)), (9, .cells 43 (v.enc.map .val)), (10, .cells 43 (iP.enc.map .val)), (75, .lst 3 1 (cols.map eI))] m h }),
   (13, { A := Int × Nat × Int × Sl × List Int × Nat × Int × Int × Nat × MH × PH, st := λ ⟨f, n, t, have_, cols, i, kind, fr, j, m, h⟩ => cD 112 117 [(0, pv cb), (2, sv p), (3, sv k), (6, .at (.ptr 6 0)), (9, .at (.ptr 9 0)), (10, .at (.ptr 10 0)), (11, iv f), (12, iv n), (13, iv t), (14, sv have_), (15, .at (.lst 75)), (17, iv kind), (18, iv fr), (45, sv k), (46, iv k.len), (47, iv i), (56, iv have_.len), (57, iv j)] [(6, .cells 28 (sc.enc.map .val)), (9, .cells 43 (v.enc.map .val)), (10, .cells 43 (iP.enc.map .val)), (75, .lst 3 1 (cols.map eI))] m h })] [] [] false
abbrev lB  : Prop := eP 10
noncomputable abbrev sW (a : Int × Nat × MH × PH) : Nat -> Nat -> Option Value := a.2.2.2
noncomputable abbrev yC (a : Int × Nat × Int × Sl × List Int × Nat × MH × PH) : Sl := a.2.2.2.1
noncomputable abbrev mJ (a : Int × Nat × Int × Sl × List Int × Nat × MH × PH) : Nat × MH × PH := a.2.2.2.2.2
noncomputable abbrev yD (a : Int × Nat × Int × Sl × List Int × Nat × MH × PH) : List Int := a.2.2.2.2.1
noncomputable abbrev nW (a : Nat × MH × PH) : Nat -> Option Obj := a.2.1
noncomputable abbrev lO (a : Int × Nat × Int × Sl × List Int × Nat × MH × PH) : Nat -> Nat -> Option Value := (mJ a).2.2
noncomputable abbrev oK (a : Int × Nat × Int × Sl × List Int × Nat × Int × Int × Nat × MH × PH) : Sl := a.2.2.2.1
noncomputable abbrev w7 (a : Int × Nat × Int × Sl × List Int × Nat × Int × Int × Nat × MH × PH) : Nat × Int × Int × Nat × MH × PH := a.2.2.2.2.2
noncomputable abbrev Ae (a : Int × Nat × Int × Sl × List Int × Nat × Int × Int × Nat × MH × PH) : Int := (w7 a).2.2.1
noncomputable abbrev lN (a : Int × Nat × Int × Sl × List Int × Nat × Int × Int × Nat × MH × PH) : Nat × MH × PH := (w7 a).2.2.2
noncomputable abbrev Bo (a : Int × Nat × Int × Sl × List Int × Nat × Int × Int × Nat × MH × PH) : List Int := a.2.2.2.2.1
attribute [push_cast] lB sW yC mJ yD nW lO oK w7 Ae lN Bo
def L8 (cb : Nat) (sc : bH) (p k : Sl) (v : QV) (m : MH) (h : PH) (K : CV -> MH -> PH -> Prop) : Prop :=
  eV cb (eR (iR sc) 1) m h (λ c n k1 m1 => aW k1 -> k1 < n \/ k1 = 0 -> eC m m1 c h (∃ (I : Int × Nat × MH × PH -> Prop) (m2 : Int × Nat × MH × PH -> Nat), (∃ (x : Int × Nat × MH × PH), aA (I x) (cH cb) (aA (aK p) (aK k) (aA dZ (eP 9) (aA lB (bJ k1 x.1) (aA (bO x.2.1) (bR sc) (aA (dD v) dA (cQ (bV m1 x.2.2) h (sW x)))))))) /\ ∀ (x : Int × Nat × MH × PH), I x -> bE (↑x.2.1 : Int) (aF sc.tables) (tI (iR sc = 0) /\ mX (λ v1 s => ∃ (t : Int), aG (cV (bK sc) (Int.tmod (eR x.1 (↑x.2.1 : Int)) (iR sc)) = cV (bK v1) t) (eW (sW x) s v1) (iH s) (fM (sW x) (j5 s t) (λ s1 h1 => ∃ (I1 : Int × Nat × Int × Sl × List Int × Nat × MH × PH -> Prop) (m3 : Int × Nat × Int × Sl × List Int × Nat × MH × PH -> Nat), (∃ (x1 : Int × Nat × Int × Sl × List Int × Nat × MH ×
 PH), aA (I1 x1) (cH cb) (aA (aK p) (aK k) (aA dZ (eP 9) (aA lB (bJ x.1 x1.1) (aA (dG x.2.1 x1.2.1) (bJ (Int.tmod (eR x.1 (↑x.2.1 : Int)) (iR sc)) x1.2.2.1) (aA (bW s1 (yC x1)) oI (aA (aK k) (cF k) (aA (bO (mJ x1).1) (bR sc) (aA (dD v) dA (aA (yW 3 1 (yD x1)) (bV (nW x.2) (mJ x1).2) (bG h1 (lO x1)))))))))))) /\ ∀ (x1 : Int × Nat × Int × Sl × List Int × Nat × MH × PH), I1 x1 -> bE (↑(mJ x1).1 : Int) (aF k) (aY (λ b o => aG (bC k.a b o) (0 <= (↑(mJ x1).1 : Int)) ((↑(mJ x1).1 : Int) < aF k) (∃ (y : Int), bI (nW (mJ x1)) (lO x1) b (bZ o (mJ x1).1 1) (bT y) /\ eV cb (aF (yC x1)) (nW (mJ x1)) (lO x1) (λ c1 n1 k2 m4 => aW k2 -> k2 < n1 \/ k2 = 0 -> eC (nW (mJ x1)) m4 c1 (lO
 x1) (∃ (I2 : Int × Nat × Int × Sl × List Int × Nat × Int × Int × Nat × MH × PH -> Prop) (m5 : Int × Nat × Int × Sl × List Int × Nat × Int × Int × Nat × MH × PH -> Nat), (∃ (x2 : Int × Nat × Int × Sl × List Int × Nat × Int × Int × Nat × MH × PH), aA (I2 x2) (cH cb) (aA (aK p) (aK k) (aA dZ (eP 9) (aA lB (bJ x1.1 x2.1) (aA (dG x1.2.1 x2.2.1) (bJ x1.2.2.1 x2.2.2.1) (aA (bW (yC x1) (oK x2)) oI (aA (bJ y (w7 x2).2.1) (bJ k2 (Ae x2)) (aA (aK k) (cF k) (aA (dG (mJ x1).1 (w7 x2).1) (fN (yC x1) (oK x2)) (aA (bO (lN x2).1) (bR sc) (aA (dD v) dA (aA (jK (yD x1) (Bo x2)) (bV m4 (lN x2).2) (bG (lO x1) (lN x2).2.2))))))))))))) /\ ∀ (x2 : Int × Nat × Int × Sl × List Int × Nat × Int × Int × Nat × MH × PH), I2 x2 -> bE (↑(lN
 x2).1 : Int) (aF (oK x2)) (tI (aF (oK x2) = 0) /\ aY (λ b1 o1 => aG (bC (oK x2).a b1 o1) (0 <= Int.tmod (eR (Ae x2) (↑(lN x2).1 : Int)) (aF (oK x2))) (Int.tmod (eR (Ae x2) (↑(lN x2).1 : Int)) (aF (oK x2)) < aF (oK x2)) (∃ (y1 : Int), bI (nW (lN x2)) (lN x2).2.2 b1 (iW o1 (Int.tmod (eR (Ae x2) (↑(lN x2).1 : Int)) (aF (oK x2))) 1) (bT y1) /\ dW y1 (w7 x2).2.1 (oO (bY (Bo x2)) 8 (∃ (x3 : Int × Nat × Int × Sl × List Int × Nat × MH × PH), aA (I1 x3) (m3 x3 < m3 x1) (aA (cH cb) (aK p) (aA (aK k) dZ (aA (eP 9) lB (aA (bJ x2.1 x3.1) (dG x2.2.1 x3.2.1) (aA (bJ x2.2.2.1 x3.2.2.1) (bW (oK x2) (yC x3)) (aA oI (aK k) (aA (cF k) (aZ (w7 x2).1 1 (mJ x3).1) (aA (bR sc) (dD v)
 (aA dA (uB (Bo x2) (Int.tmod (eR (Ae x2) (↑(lN x2).1 : Int)) (aF (oK x2))) (yD x3)) (cQ (bV (nW (lN x2)) (mJ x3).2) (lN x2).2.2 (lO x3))))))))))))) (∃ (x3 : Int × Nat × Int × Sl × List Int × Nat × Int × Int × Nat × MH × PH), aA (I2 x3) (m5 x3 < m5 x2) (aA (cH cb) (aK p) (aA (aK k) dZ (aA (eP 9) lB (aA (bJ x2.1 x3.1) (dG x2.2.1 x3.2.1) (aA (bJ x2.2.2.1 x3.2.2.1) (bW (oK x2) (oK x3)) (aA oI (bJ (w7 x2).2.1 (w7 x3).2.1) (aA (bJ (Ae x2) (Ae x3)) (aK k) (aA (cF k) (dG (w7 x2).1 (w7 x3).1) (aA (fN (oK x2) (oK x3)) (aZ (lN x2).1 1 (lN x3).1) (aA (bR sc) (dD v) (aA dA (jK (Bo x2) (Bo x3)) (cQ (bV (nW (lN x2)) (lN x3).2) (lN x2).2.2 (lN
 x3).2.2)))))))))))))))) (∃ (x3 : Int × Nat × Int × Sl × List Int × Nat × MH × PH), aA (I1 x3) (m3 x3 < m3 x1) (aA (cH cb) (aK p) (aA (aK k) dZ (aA (eP 9) lB (aA (bJ x2.1 x3.1) (dG x2.2.1 x3.2.1) (aA (bJ x2.2.2.1 x3.2.2.1) (bW (oK x2) (yC x3)) (aA oI (aK k) (aA (cF k) (aZ (w7 x2).1 1 (mJ x3).1) (aA (bR sc) (dD v) (aA dA (jK (Bo x2) (yD x3)) (cQ (bV (nW (lN x2)) (mJ x3).2) (lN x2).2.2 (lO x3))))))))))))))))) (dW x1.1 (iR sc) (∃ (x2 : Int × Nat × MH × PH), aA (I x2) (m2 x2 < m2 x) (aA (cH cb) (aK p) (aA (aK k) dZ (aA (eP 9) lB (aA (bJ x1.1 x2.1) (aZ x1.2.1 1 x2.2.1) (aA (bR sc) (dD v) (aG dA (bV (nW (mJ x1)) x2.2.2) (lO x1 = sW x2) True))))))) (bE (↑(bY (yD
 x1)).length : Int) (aF k) (∃ (x2 : Int × Nat × MH × PH), aA (I x2) (m2 x2 < m2 x) (aA (cH cb) (aK p) (aA (aK k) dZ (aA (eP 9) lB (aA (bJ x1.1 x2.1) (aZ x1.2.1 1 x2.2.1) (aA (bR sc) (dD v) (aG dA (bV (nW (mJ x1)) x2.2.2) (lO x1 = sW x2) True))))))) (rD x1.2.2.1 (λ t1 => mS cb 2 (nW (mJ x1)) (lO x1) (λ c1 r m4 => eC (nW (mJ x1)) m4 c1 (lO x1) (branch r (tA (λ c2 s2 t2 c3 p1 d => aA (fG (zN cb 0) (dO (yC x1)) (gG p 1) = mZ c2 s2 t2 d) (aM m4 (lO x1) c2) (aA (aU (lO x1) s2 c3) (aU (lO x1) t2 p1) (aG (dX c3) (dX p1) (nS d) (nD (lO x1) m4 c2 (λ v2 m5 h2 => bQ h2 21 (jG (qJ (cZ 1) (cZ t1) j7 eZ)) (λ s3 h3 => bQ h3 1 (bY (yD x1)) (λ s4 h4 => bQ h4 21 (jG (aL (cZ
 2) aX (aL (cZ v2.op) (cZ v2.cmp) (aL (tC v2) (tD v2) (aL (cZ (kP v2)) (tE v2) (An v2 j7 j7 j7 j7 aX s3)))))) (λ s5 h5 => K (kK (qJ (cZ 3) aX (nG s4) (cT s5))) m5 h5)))))))) /\ tA (λ c2 s2 t2 c3 p1 d => aA (fG (zN cb 0) (dO (yC x1)) (gG p 1) = mZ c2 s2 t2 d) (aM m4 (lO x1) c2) (aA (aU (lO x1) s2 c3) (aU (lO x1) t2 p1) (aG (dX c3) (dX p1) (nS d) (nD (lO x1) m4 c2 (λ v2 m5 h2 => bQ h2 21 (jG (qJ (cZ 1) (cZ t1) j7 eZ)) (λ s3 h3 => bQ h3 1 (bY (yD x1)) (λ s4 h4 => bQ h4 21 (jG (aL (cZ 2) aX (aL (cZ v2.op) (cZ v2.cmp) (aL (tC v2) (tD v2) (aL (cZ (kP v2)) (tE v2) (An v2 j7 j7 j7 j7 aX s3)))))) (λ s5 h5 => K (kK (qJ (cZ 3) aX (nG s4) (cT s5))) m5 h5))))))))) (bQ
 (lO x1) 1 (bY (yD x1)) (λ s2 h2 => bQ h2 21 (jG (qJ (cZ 1) (cZ t1) j7 eZ)) (λ s3 h3 => K (kK (qJ (cZ 3) aX (nG s2) (cT s3))) m4 h3))))))))))))) (tA (λ c1 s t c2 p1 d => aA (fG (zN cb 0) (dO k) (gG p 1) = mZ c1 s t d) (aM (nW x.2) (sW x) c1) (aA (aU (sW x) s c2) (aU (sW x) t p1) (aG (dX c2) (dX p1) (nS d) (nD (sW x) (nW x.2) c1 (λ v1 m3 h1 => bQ h1 21 (jG v.enc) (λ s1 h2 => K (kK (aL (cZ 2) aX (aL (cZ v1.op) (cZ v1.cmp) (aL (tC v1) (tD v1) (aL (cZ (kP v1)) (tE v1) (An v1 j7 j7 j7 j7 aX s1)))))) m3 h2)))))) /\ tA (λ c1 s t c2 p1 d => aA (fG (zN cb 0) (dO k) (gG p 1) = mZ c1 s t d) (aM (nW x.2) (sW x) c1) (aA (aU (sW x) s c2) (aU (sW x) t p1) (aG (dX c2)
 (dX p1) (nS d) (nD (sW x) (nW x.2) c1 (λ v1 m3 h1 => bQ h1 21 (jG v.enc) (λ s1 h2 => K (kK (aL (cZ 2) aX (aL (cZ v1.op) (cZ v1.cmp) (aL (tC v1) (tD v1) (aL (cZ (kP v1)) (tE v1) (An v1 j7 j7 j7 j7 aX s1)))))) m3 h2)))))))))
theorem VR (cb : Nat) (sc : bH) (p k : Sl) (v : QV) (m : MH) (h : PH) (K : CV -> MH -> PH -> Prop) : L8 cb sc p k v m h K = (cG (Po cb sc p k v) Tryz.f39 (aE Tryz.f39) (entry Tryz.f39.ntmps [cP cb, aS sc, cS p, cS k, aQ v] m h) K) := by kernel_rfl
theorem jH (h : PH) : aU h cA [] := ⟨cW.nil _ _, by simp⟩
theorem nK (h : PH) : gM h cA [] := ⟨cW.nil _ _, by simp⟩
theorem pJ (h : PH) : fU h cA [] := ⟨cW.nil _ _, by simp⟩
theorem yN (h : PH) : cX h gD fV := AP (v := fV) rfl
theorem uX {h : PH} {s : Sl} {v : QV} {q : Query} (r : cW h s 21 [QV.enc v]) (hq : cC h q v) : sM h s [q] := ⟨⟨[v], r, rfl, λ i x e => by
 match i, e with
 | 0, e => simp at e; subst e; exact ⟨v, rfl, hq⟩
 | i + 1, e => simp at e⟩, by simp⟩
theorem AL (h : PH) (t : Int) : cC h (.mk 1 t gD [] [] [] [] 0 []) ⟨1, t, fV, cA, cA, cA, cA, 0, cA⟩ :=
 iU.rep ⟨rfl, rfl, yN h, jH h, nK h, jH h, pJ h, rfl, iT.nil _ _ _ _⟩
theorem BB {v : PV} {s : Sl} (hp : cX h p v) (hq : sM h s [q]) : cC h (.mk 2 0 p [] [] [] [] 0 [q]) ⟨2, 0, v, cA, cA, cA, cA, 0, s⟩ :=
 iU.rep ⟨rfl, rfl, hp, jH h, nK h, jH h, pJ h, rfl, hq⟩
theorem FM {h : PH} {c s : Sl} {cols : List Int} {q : Query} (hc : aU h c cols) (hq : sM h s [q]) : cC h (.mk 3 0 gD cols [] [] [] 0 [q]) ⟨3, 0, fV, c, cA, cA, cA, 0, s⟩ :=
 iU.rep ⟨rfl, rfl, yN h, hc, nK h, jH h, pJ h, rfl, hq⟩
theorem Ba : pI gD := ⟨gZ, gZ, trivial⟩
theorem GQ {op : Int} {on : List (Int × Int)} (hw : pI w) (hq : QW q) : QW (.mk op ta w co on gr od li [q]) := JT.2 ⟨hw, λ a ha => by simp at ha; subst ha; exact hq⟩
theorem DZ (t : Int) : QW (.mk 1 t gD [] [] [] [] 0 []) := JT.2 ⟨Ba, λ a ha => by simp at ha⟩
theorem S5 {a : Int} {n : Nat} (h0 : 0 <= a) (hn : 0 < n) : 0 <= a.tmod (n : Int) /\ a.tmod (n : Int) < (n : Int) := by
 rw [Int.tmod_eq_emod_of_nonneg h0]
 exact ⟨Int.emod_nonneg _ (by omega), Int.emod_lt_of_pos _ (by omega)⟩
theorem Rk : Sound Tryz.prog 39 P5 := by
 refine aI (fn := Tryz.f39) (c := aE Tryz.f39) Tryz.func39 rfl (by decide) ?_
 rintro cvs m h K ⟨cb, sc, p, k, v, s, ps, ks, q, rfl, hc, hs, h8, hts, hp, hpl, hk, hkl, hq, hqw, hK⟩
 refine ⟨Po cb sc p k v, rfl, aD Cg (aD f52_sound (aD IU (aD sJ (aD CM aH)))), ?_⟩
 rw [<- VR cb sc p k v m h K]
 have htl := hs.tables.slen
 have hkn := hk.slen
 have hw : IntKind.i64.wrap ((sc.tables.len : Int) + 1) = (sc.tables.len : Int) + 1 := dP (by omega) (by omega)
 dsimp only [L8, push_cast]
 rw [hw]
 refine ⟨cb, _, rfl, hc, λ f m1 f0 f1 o1 c1 => ?_⟩
 refine ⟨λ ⟨f, n, mx, hx⟩ => 0 <= f /\ f <= sc.tables.len /\ n <= sc.tables.len /\ PH.le h hx /\ bP m mx cb /\ aM mx hx cb, λ ⟨_, n, _, _⟩ => sc.tables.len - n, ⟨(f, 0, m1, h), ⟨f0, by show f <= (sc.tables.len : Int); omega, by omega, .refl _, o1, c1⟩, MT⟩, ?_⟩
 clear f0 f1 o1 c1 m1 hw
 rintro ⟨f, n, m1, hx⟩ ⟨f0, f1, hn, hle, o1, c1⟩
 dsimp only
 have pred : ∀ (kk : Sl) (kl : List Int) (mx : MH) (hx : PH) (Q : PV -> Pred -> MH -> PH -> Prop), aU hx kk kl -> kl.length <= 1000 -> PH.le h hx -> aM mx hx cb -> (∀ v p m' h', PH.le hx h' -> cX h' p v -> pI p -> bP mx m' cb -> aM m' h' cb -> Q v p m' h') ->
  ∃ (cb_2 : Nat) (s t : Sl) (cols params : List Int) (deep : Nat), [CV.val (.pointer (some ⟨cb, 0, none⟩)), CV.val (.slice kk.a kk.len kk.cap), CV.val (.slice p.a p.len p.cap), CV.val (.int .i64 1)] = [CV.val (.pointer (some ⟨cb_2, 0, none⟩)), CV.val (.slice s.a s.len s.cap), CV.val (.slice t.a t.len t.cap), CV.val (.int .i64 deep)] /\ aM mx hx cb_2 /\ aU hx s cols /\ aU hx t params /\ cols.length <= 1000 /\ params.length <= 1000 /\ deep <= 1000 /\
   ∀ (v : PV) (p : Pred) (m' : MH) (h' : PH), PH.le hx h' -> cX h' p v -> pI p -> bP mx m' cb_2 -> aM m' h' cb_2 -> Q v p m' h' := λ kk kl mx hx Q h1 h2 h3 h4 h5 =>
  ⟨cb, kk, p, kl, ps, 1, rfl, h4, h1, hp.mono h3, h2, hpl, by omega, λ v p m' h' q1 q2 qp q3 q4 => h5 v p m' h' q1 q2 qp q3 q4⟩
 refine aC (λ hlt => ?_) (λ hge => ?_)
 rotate_left
 . have fin : ∀ (w : PV) (p : Pred) (m' : MH) (h' : PH), PH.le hx h' -> cX h' p w -> pI p -> bP m1 m' cb -> aM m' h' cb -> ∀ (s : Sl) (h'_1 : PH), PH.le h' h'_1 -> cW h'_1 s 21 [QV.enc v] -> K (aQ ⟨2, 0, w, cA, cA, cA, cA, 0, s⟩) m' h'_1 := λ w p m' h' q1 q2 qp q3 q4 s h2 q5 q6 =>
    hK _ _ m' h2 ((hle.trans q1).trans q5) (BB (q2.mono q5) (uX q6 (hq.mono ((hle.trans q1).trans q5)))) (GQ qp hqw) (o1.trans q3) (q4.mono q5)
   exact ⟨pred k ks m1 hx _ (hk.mono hle) hkl hle c1 fin, pred k ks m1 hx _ (hk.mono hle) hkl hle c1 fin⟩
 have hw2 : IntKind.i64.wrap (f + (n : Int)) = f + (n : Int) := dP (by omega) (by omega)
 rw [hw2]
 refine ⟨by omega, sc, s, _, rfl, hs.mono hle, h8, λ hv h2 le2 hhv => ?_⟩
 have hvn := hhv.slen
 have hv8 : (j5 s ((f + (n : Int)).tmod (sc.tables.len : Int))).length <= 8 := by
  unfold j5
  split
  . simp
  . split
    . simp
    . rename_i t ht
      simpa using h8 t (List.mem_of_getElem? ht)
 generalize j5 s ((f + (n : Int)).tmod (sc.tables.len : Int)) = kt at hhv hvn hv8
 refine ⟨λ ⟨f', n', t, have_, cols, i, mx, hx⟩ => f' = f /\ n' = n /\ have_ = hv /\ i <= ks.length /\ cols.length <= i /\ PH.le h2 hx /\ bP m mx cb /\ aM mx hx cb, λ ⟨_, _, _, _, _, i, _, _⟩ => ks.length - i, ⟨(f, n, (f + (n : Int)).tmod (sc.tables.len : Int), hv, [], 0, m1, h2), ⟨rfl, rfl, rfl, by omega, by simp, .refl _, o1, c1.mono le2⟩, MT⟩, ?_⟩
 rintro ⟨f', n', t, hv, cols, i, m2, h3⟩ ⟨rfl, rfl, rfl, hi, hcl, le3, o2, c2⟩
 dsimp only
 have hle3 : PH.le h h3 := (hle.trans le2).trans le3
 refine aC (λ hlt2 => ?_) (λ hge2 => ?_)
 . obtain ⟨x, hx⟩ := fP hkn hlt2
   obtain ⟨b1, of1, e1, r1⟩ := (hk.mono hle3).at hx
   refine ⟨b1, of1, e1, by omega, hlt2, x, .imm (by simpa using r1), cb, _, rfl, c2, λ fr m3 fr0 fr1 o3 c3 => ?_⟩
   refine ⟨λ ⟨f2, n2, t2, have_, cols2, i2, kind, fr', j, mx, hy⟩ => f2 = f' /\ n2 = n' /\ have_ = hv /\ cols2 = cols /\ i2 = i /\ mx = m3 /\ hy = h3 /\ j <= hv.len /\ fr' = fr, λ ⟨_, _, _, _, _, _, _, _, j, _, _⟩ => hv.len - j, ⟨(f', n', t, hv, cols, i, x, fr, 0, m3, h3), ⟨rfl, rfl, rfl, rfl, rfl, rfl, rfl, by omega, rfl⟩, MT⟩, ?_⟩
   rintro ⟨f2, n2, t2, hv, cols, i, kind, fr', j, m3, h3⟩ ⟨rfl, rfl, rfl, rfl, rfl, rfl, rfl, hj, rfl⟩
   dsimp only
   refine aC (λ hlt3 => ?_) (λ hge3 => ⟨(f2, n2, t2, _, _, _, _, _), ⟨rfl, rfl, rfl, by show i + 1 <= ks.length; omega, by show cols.length <= i + 1; omega, le3, o2.trans o3, c3⟩, by show ks.length - (i + 1) < ks.length - i; omega, MT⟩)
   have hw3 : IntKind.i64.wrap (fr' + (j : Int)) = fr' + (j : Int) := dP (by omega) (by omega)
   rw [hw3]
   have hm := S5 (a := fr' + (j : Int)) (n := Sl.len _) (by omega) (show 0 < hv.len by omega)
   obtain ⟨b2, of2, e2, r2⟩ := (hhv.mono le3).inb (n := (fr' + (j : Int)).tmod (hv.len : Int)) hm.1 (by rw [<- hvn]; exact hm.2)
   refine ⟨by omega, b2, of2, e2, hm.1, hm.2, _, .imm (by simpa using r2), aB (λ _ => ⟨by simp; omega, by simp; omega, (f2, n2, t2, _, cols ++ [(fr' + (j : Int)).tmod (hv.len : Int)], i + 1, _, _), ⟨rfl, rfl, rfl, by show i + 1 <= ks.length; omega, by simp; omega, le3, o2.trans o3, c3⟩, by show ks.length - (i + 1) < ks.length - i; omega, ?_⟩) (λ _ => ⟨(f2, n2, t2, hv, cols, i, kind, fr', j + 1, m3, h3), ⟨rfl, rfl, rfl, rfl, rfl, rfl, rfl, by show j + 1 <= hv.len; omega, rfl⟩, by show hv.len - (j + 1) < hv.len - j; omega, MT⟩)⟩
   rw [List.map_append]; exact MT
 . have hn1 : n' + 1 <= sc.tables.len := by omega
   refine aB (λ _ => ⟨(f', n' + 1, m2, h3), ⟨f0, f1, hn1, hle3, o2, c2⟩, by show sc.tables.len - (n' + 1) < sc.tables.len - n'; omega, MT⟩) (λ _ => aC (λ _ => ⟨(f', n' + 1, m2, h3), ⟨f0, f1, hn1, hle3, o2, c2⟩, by show sc.tables.len - (n' + 1) < sc.tables.len - n'; omega, MT⟩) (λ _ => ⟨t, rfl, cb, 2, rfl, by omega, by omega, c2, λ r m4 o4 c4 => aB (λ _ => ?_) (λ _ s1 h5 le5 r5 s2 h6 le6 r6 => ?_)⟩))
   . have fin : ∀ (w : PV) (p : Pred) (m' : MH) (h' : PH), PH.le h3 h' -> cX h' p w -> pI p -> bP m4 m' cb -> aM m' h' cb -> ∀ (s : Sl) (h'_1 : PH), PH.le h' h'_1 -> cW h'_1 s 21 [QV.enc ⟨1, t, fV, cA, cA, cA, cA, 0, cA⟩] -> ∀ (s_1 : Sl) (h'_2 : PH), PH.le h'_1 h'_2 -> cW h'_2 s_1 1 (cols.map eI) -> ∀ (s_2 : Sl) (h'_3 : PH), PH.le h'_2 h'_3 -> cW h'_3 s_2 21 [QV.enc ⟨2, 0, w, cA, cA, cA, cA, 0, s⟩] -> K (aQ ⟨3, 0, fV, s_1, cA, cA, cA, 0, s_2⟩) m' h'_3 := λ w p m' h' q1 q2 qp q3 q4 s h5 q5 q6 s1 h6 q7 q8 s2 h7 q9 q10 =>
      hK _ _ m' h7 ((((hle3.trans q1).trans q5).trans q7).trans q9) (FM (cols := cols) ⟨q8.mono q9, by omega⟩ (uX q10 (BB (q2.mono ((q5.trans q7).trans q9)) (uX (q6.mono (q7.trans q9)) (AL _ t))))) (GQ Ba (GQ qp (DZ t))) ((o2.trans o4).trans q3) (q4.mono ((q5.trans q7).trans q9))
     exact ⟨pred hv kt m4 h3 _ (hhv.mono le3) (by omega) hle3 c4 fin, pred hv kt m4 h3 _ (hhv.mono le3) (by omega) hle3 c4 fin⟩
   . exact hK _ _ m4 h6 ((hle3.trans le5).trans le6) (FM (cols := cols) ⟨r5.mono le6, by omega⟩ (uX (v := ⟨1, t, fV, cA, cA, cA, cA, 0, cA⟩) r6 (AL _ t))) (GQ Ba (DZ t)) (o2.trans o4) (c4.mono (le5.trans le6))
def W6 (K : CV -> MH -> PH -> Prop) (m : MH) (h : PH) (cb : Nat) (s : oC) (ps : List Int) : Prop := ∀ w q m' h', PH.le h h' -> cC h' q w -> QW q -> (dV s ps q).2 = 0 -> bP m m' cb -> aM m' h' cb -> K (aQ w) m' h'
def Oc (N : Nat) : Vc.Spec := λ cvs m h K => ∃ cb sc p s ps deep, cvs = [cP cb, aS sc, cS p, cI deep] /\ aM m h cb /\ eW h s sc /\ cN s = 0 /\ s.tables ≠ [] /\ aU h p ps /\ ps.length <= 1000 /\ ps.all dR = true /\ -1 <= deep /\ deep <= 1000 /\ (deep + 1).toNat < N /\ W6 K m h cb s ps
noncomputable def PG (N : Nat) (cb : Nat) (sc : bH) (p : Sl) : Ctx :=
 zD [(12, zL), (37, SC), (26, sN), (38, SJ), (39, P5), (40, UB), (27, zJ), (18, Oc N)]
  [(11, { A := QV × QV × Sl × Int × MH × PH, st := λ ⟨a, q, k, n, m, h⟩ => cD 171 175 [(0, pv cb), (2, sv p), (5, .at (.ptr 5 0)), (8, .at (.ptr 8 0)), (10, .at (.ptr 10 0)), (11, sv k), (13, .at (.ptr 13 0)), (14, iv n)] [(5, .cells 28 (sc.enc.map .val)), (8, .cells 43 (iP.enc.map .val)), (10, .cells 43 (a.enc.map .val)), (13, .cells 43 (q.enc.map .val))] m h })]
  [(7, { A := Int × Int × QV × QV × Sl × MH × PH, st := λ ⟨d, op, a, q, k, m, h⟩ => cD 171 175 [(0, pv cb), (2, sv p), (3, iv d), (5, .at (.ptr 5 0)), (8, .at (.ptr 8 0)), (9, iv op), (10, .at (.ptr 10 0)), (11, sv k), (13, .at (.ptr 13 0))] [(5, .cells 28 (sc.enc.map .val)), (8, .cells 43 (iP.enc.map .val)), (10, .cells 43 (a.enc.map .val)), (13, .cells 43 (q.enc.map .val))] m h }),
   (16, { A := Int × Int × QV × QV × Sl × Bool × MH × PH, st := λ ⟨d, op, a, q, k, t, m, h⟩ => cD 171 175 [(0, pv cb), (2, sv p), (3, iv d), (5, .at (.ptr 5 0)), (8, .at (.ptr 8 0)), (9, iv op), (10, .at (.ptr 10 0)), (11, sv k), (13, .at (.ptr 13 0)), (59, iv op), (84, bv t)] [(5, .cells 28 (sc.enc.map .val)), (8, .cells 43 (iP.enc.map .val)), (10, .cells 43 (a.enc.map .val)), (13, .cells 43 (q.enc.map .val))] m h }),
   (24, { A := Int × QV × QV × Sl × Bool × MH × PH, st := λ ⟨op, a, q, k, t, m, h⟩ => cD 171 175 [(0, pv cb), (2, sv p), (5, .at (.ptr 5 0)), (8, .at (.ptr 8 0)), (10, .at (.ptr 10 0)), (11, sv k), (13, .at (.ptr 13 0)), (59, iv op), (122, bv t)] [(5, .cells 28 (sc.enc.map .val)), (8, .cells 43 (iP.enc.map .val)), (10, .cells 43 (a.enc.map .val)), (13, .cells 43 (q.enc.map .val))] m h }),
   (20, { A := QV × QV × QV × Sl × Sl × MH × PH, st := λ ⟨a, b, q, k, l, m, h⟩ => cD 171 175 [(0, pv cb), (2, sv p), (5, .at (.ptr 5 0)), (8, .at (.ptr 8 0)), (10, .at (.ptr 10 0)), (11, sv k), (13, .at (.ptr 13 0)), (15, .at (.ptr 15 0)), (16, sv l)] [(5, .cells 28 (sc.enc.map .val)), (8, .cells 43 (iP.enc.map .val)), (10, .cells 43 (a.enc.map .val)), (13, .cells 43 (q.enc.map .val)), (15, .cells 43 (b.enc.map .val))] m h }),
   (30, { A := QV × QV × MH × PH, frz := true, st := λ ⟨a, q, m, h⟩ => cD 171 175 [(2, sv p), (5, .at (.ptr 5 0)), (8, .at (.ptr 8 0)), (10, .at (.ptr 10 0)), (13, .at (.ptr 13 0))] [(5, .cells 28 (sc.enc.map .val)), (8, .cells 43 (iP.enc.map .val)), (10, .cells 43 (a.enc.map .val)), (13, .cells 43 (q.enc.map .val))] m h })] [] [23, 1023, 1039] [] false
abbrev CC (a : oC) : Prop := a.tables = []
abbrev EN (a : QV -> Query -> Prop) : Prop := ∀ (x : QV) (x1 : Query), a x x1
noncomputable abbrev qH (a : Int × Int × QV × QV × Sl × MH × PH) : Sl × MH × PH := a.2.2.2.2
abbrev jZ  : Prop := eP 13
abbrev fC (a b : QV) : Prop := Db 43 a.enc = Db 43 b.enc
abbrev nE (a : List At) (b : QV) : Prop := oQ 43 a = Db 43 b.enc
abbrev Af (a : Prop) (b : Nat) (c d e : Sl) (g : Prop) : Prop := aA a (cH b) (aA (aK c) eT (aA (eP 8) lB (aA (bW d e) jZ g)))
noncomputable abbrev nO (a : QV × QV × Sl × Int × MH × PH) : Int × MH × PH := a.2.2.2
noncomputable abbrev tF (a : QV × QV × Sl × Int × MH × PH) : QV := a.2.1
noncomputable abbrev tX (a : QV × QV × MH × PH) : Nat -> Option Obj := a.2.2.1
noncomputable abbrev pV (a : QV × QV × MH × PH) : Nat -> Nat -> Option Value := a.2.2.2
noncomputable abbrev mV (a : Int × QV × QV × Sl × Bool × MH × PH) : Sl := a.2.2.2.1
noncomputable abbrev Ag (a : Int × QV × QV × Sl × Bool × MH × PH) : Bool := a.2.2.2.2.1
noncomputable abbrev lP (a : Int × QV × QV × Sl × Bool × MH × PH) : QV := a.2.1
noncomputable abbrev AF (a : Int × QV × QV × Sl × Bool × MH × PH) : QV := a.2.2.1
noncomputable abbrev rT (a : Int × Int × QV × QV × Sl × Bool × MH × PH) : QV := AF a.2
noncomputable abbrev B7 (a : Int × QV × QV × Sl × Bool × MH × PH) : MH × PH := a.2.2.2.2.2
noncomputable abbrev gO (a : Int × QV × QV × Sl × Bool × MH × PH) : Nat -> Nat -> Option Value := (B7 a).2
noncomputable abbrev rJ (a : Int × QV × QV × Sl × Bool × MH × PH) : Nat -> Option Obj := (B7 a).1
noncomputable abbrev nU (a : QV × QV × QV × Sl × Sl × MH × PH) : Sl × Sl × MH × PH := a.2.2.2
noncomputable abbrev oX (a : QV × QV × QV × Sl × Sl × MH × PH) : QV := a.2.2.1
noncomputable abbrev pU (a : QV × QV × QV × Sl × Sl × MH × PH) : Nat -> Nat -> Option Value := (nU a).2.2.2
noncomputable abbrev D4 (a : QV × QV × QV × Sl × Sl × MH × PH) : Sl := (oX a).args
abbrev As (a : Prop) (b : MH) (c : PH) (d : (QV × QV × MH × PH) -> Prop) : Prop := a -> Gd b c -> ∃ (x : QV × QV × MH × PH), d x
attribute [push_cast] CC EN qH jZ fC nE Af nO tF tX pV mV Ag lP AF rT B7 gO rJ nU oX pU D4 As
def Mm (N : Nat) (cb : Nat) (sc : bH) (p : Sl) (deep : Int) (m : MH) (h : PH) (K : CV -> MH -> PH -> Prop) : Prop :=
  eV cb 12 m h (λ c n k m1 => aW k -> k < n \/ k = 0 -> eC m m1 c h (bE deep 1 (eV cb (ite (iR sc > 1) (iR sc) 1) m1 h (λ c1 n1 k1 m2 => aW k1 -> k1 < n1 \/ k1 = 0 -> eC m1 m2 c1 h (rD k1 (λ t => K (kK (qJ (cZ 1) (cZ t) j7 eZ)) m2 h)))) (dT (eR 1 k == 1) (eV cb (ite (iR sc > 1) (iR sc) 1) m1 h (λ c1 n1 k1 m2 => aW k1 -> k1 < n1 \/ k1 = 0 -> eC m1 m2 c1 h (rD k1 (λ t => K (kK (qJ (cZ 1) (cZ t) j7 eZ)) m2 h)))) (iR sc == 0) (eV cb (ite (iR sc > 1) (iR sc) 1) m1 h (λ c1 n1 k1 m2 => aW k1 -> k1 < n1 \/ k1 = 0 -> eC m1 m2 c1 h (rD k1 (λ t => K (kK (qJ (cZ 1) (cZ t) j7 eZ)) m2 h)))) (∃ (c1 : Nat), xA (λ s p1 => Da (λ s1 p2 => ∃ (d : Int), aA (fG (zN cb 0) (bK sc) (gG p (jY deep)) = fG (zN c1 0) (bK s) (gG p1 d))
 (aM m1 h c1) (aA (eW h s1 s) (cN s1 = 0) (aA (tI (CC s1)) (aU h p1 p2) (aA (dX p2) (qU (wZ p2)) (aG (Int.negSucc 0 <= d) (d <= 1000) ((d + 1).toNat < N) (EN (λ w q => kD (λ m2 h1 => eU h h1 (cC h1 q w) (QW q -> rX s1 p2 q = 0 -> eC m1 m2 c1 h1 (rZ (λ s2 p3 v => sA (λ s3 p4 q1 => aA (bK sc :: bX (dO p) w.enc = bK s2 :: bX (dO p3) v.enc) (eW h1 s3 s2) (aA (aU h1 p3 p4) (cC h1 q1 v) (fM h1 (dV s3 p4 q1).1 (λ s4 h2 => ∃ (I : Int × Int × QV × QV × Sl × MH × PH -> Prop), mK (λ s5 m3 => nJ m2 m3 h2 s5 43 21 (jG w.enc) -> ∃ (x : Int × Int × QV × QV × Sl × MH × PH), aA (I x) (cH cb) (aA (aK p) (bJ deep x.1) (aA eT (eP 8) (aA (bJ (eR 1 k) x.2.1) lB (aA (bW s4 (qH x).1) jZ (aA (bR sc) dA (aA (fC w x.2.2.1) (nE
 (bB (bL (eR 1 k)) (bL 0) (bB (bL 0) (bL 0) (bB (bL 0) (bL 0) (bB (bL 0) (bL 0) (bB yL mF (bB mF mF (bB (bL 0) yL (bB uQ uQ (bB uQ uQ (bB uQ mF (iQ (gI s5)))))))))))) x.2.2.2.1) (aA (bV m3 (qH x).2) (h2 = (qH x).2.2) True)))))))) /\ ∀ (x : Int × Int × QV × QV × Sl × MH × PH), I x -> ∃ (I1 : QV × QV × MH × PH -> Prop), dW x.2.1 3 (eV cb 3 (qH x).2.1 (qH x).2.2 (λ c2 n1 k1 m3 => aW k1 -> k1 < n1 \/ k1 = 0 -> eC (qH x).2.1 m3 c2 (qH x).2.2 (∃ (I2 : QV × QV × Sl × Int × MH × PH -> Prop) (m4 : QV × QV × Sl × Int × MH × PH -> Nat), (∃ (x1 : QV × QV × Sl × Int × MH × PH), Af (I2 x1) cb p (qH x).1 x1.2.2.1 (aA (bJ k1 (nO x1).1) (bR sc) (aA dA (fC x.2.2.1 x1.1) (aG (fC x.2.2.2.1 (tF x1)) (bV m3 (nO x1).2) ((qH x).2.2 = iI (nO x1))
 True)))) /\ ∀ (x1 : QV × QV × Sl × Int × MH × PH), I2 x1 -> fI (nO x1).1 0 (eV cb (aF x1.2.2.1) (rR (nO x1)) (iI (nO x1)) (λ c3 n2 k2 m5 => aW k2 -> k2 < n2 \/ k2 = 0 -> eC (rR (nO x1)) m5 c3 (iI (nO x1)) (∃ (x2 : List (List Value)), aG (fD m5 (D3 (tF x1)) 3 1 x2) (fR (iV x2 1 * 8)) (kR x2) (mK (λ s5 m6 => jU m5 m6 (D3 (tF x1)) s5 3 1 (iK x2 (bT k2)) -> ∃ (x3 : QV × QV × Sl × Int × MH × PH), aA (I2 x3) (m4 x3 < m4 x1) (aA (cH cb) (aK p) (aA eT (eP 8) (aA lB (bW x1.2.2.1 x3.2.2.1) (aA jZ (bJ (jY (nO x1).1) (nO x3).1) (aA (bR sc) dA (aA (fC x1.1 x3.1) (nE (bB (bL (tF x1).op) (tO (tF x1)) (pQ (tF x1).where_ (bB (gI s5) (gI (tF x1).on) (bB (gI (tF x1).group) (gI (tF x1).order)
 (kJ (AD (tF x1)) (gI (tF x1).args)))))) (tF x3)) (aA (bV m6 (nO x3).2) (iI (nO x1) = iI (nO x3)) True)))))))))))) (Gd (rR (nO x1)) (iI (nO x1)) -> ∃ (x2 : QV × QV × MH × PH), aA (I1 x2) (aK p) (aA (eP 5) (eP 8) (aA lB jZ (aA (bR sc) dA (aG (fC x1.1 x2.1) (fC (tF x1) x2.2.1) (A2 (rR (nO x1)) (iI (nO x1)) (tX x2) (pV x2)) True)))))))) (∃ (I2 : Int × Int × QV × QV × Sl × Bool × MH × PH -> Prop), dW x.2.1 4 (∃ (x1 : Int × Int × QV × QV × Sl × Bool × MH × PH), aA (I2 x1) (cH cb) (aA (aK p) (bJ x.1 x1.1) (aA eT (eP 8) (aA (bJ x.2.1 x1.2.1) lB (aA (bW (qH x).1 (mV x1.2)) jZ (aA (bJ x.2.1 x1.2.1) (vD (Ag x1.2)) (aA (bR sc) dA (aA (fC x.2.2.1 (lP x1.2)) (fC x.2.2.2.1 (rT
 x1)) (cQ (bV (qH x).2.1 (B7 x1.2)) (qH x).2.2 (gO x1.2)))))))))) (∃ (x1 : Int × Int × QV × QV × Sl × Bool × MH × PH), aA (I2 x1) (cH cb) (aA (aK p) (bJ x.1 x1.1) (aA eT (eP 8) (aA (bJ x.2.1 x1.2.1) lB (aA (bW (qH x).1 (mV x1.2)) jZ (aA (bJ x.2.1 x1.2.1) (gQ (x.2.1 == 5) (Ag x1.2)) (aA (bR sc) dA (aA (fC x.2.2.1 (lP x1.2)) (fC x.2.2.2.1 (rT x1)) (cQ (bV (qH x).2.1 (B7 x1.2)) (qH x).2.2 (gO x1.2)))))))))) /\ ∀ (x1 : Int × Int × QV × QV × Sl × Bool × MH × PH), eJ (I2 x1) (Ag x1.2) (∃ (c2 : Nat), xA (λ s5 p5 => Da (λ s6 p6 => ∃ (d1 : Int), aA (fG (zN cb 0) (bK sc) (gG p (y9 (x1.1 - 2))) = fG (zN c2 0) (bK s5) (gG p5 d1)) (aM (rJ x1.2) (gO x1.2) c2) (aA (eW (gO x1.2) s6 s5) (cN s6
 = 0) (aA (tI (CC s6)) (aU (gO x1.2) p5 p6) (aA (dX p6) (qU (wZ p6)) (aG (Int.negSucc 0 <= d1) (d1 <= 1000) ((d1 + 1).toNat < N) (EN (λ w1 q2 => kD (λ m3 h3 => eU (gO x1.2) h3 (cC h3 q2 w1) (QW q2 -> rX s6 p6 q2 = 0 -> eC (rJ x1.2) m3 c2 h3 (rZ (λ s7 p7 v1 => sA (λ s8 p8 q3 => aA (bK sc :: bX (dO p) w1.enc = bK s7 :: bX (dO p7) v1.enc) (eW h3 s8 s7) (aA (aU h3 p7 p8) (cC h3 q3 v1) (fM h3 (dV s8 p8 q3).1 (λ s9 h4 => ∃ (I3 : QV × QV × QV × Sl × Sl × MH × PH -> Prop), dW x1.2.1 4 (fB (eR (aF (mV x1.2)) (aF s9)) 8 (∃ (x2 : QV × QV × QV × Sl × Sl × MH × PH), Af (I3 x2) cb p (mV x1.2) (nU x2).1 (aA (eP 15) (bW s9 (nU x2).2.1) (aA (bR sc) dA (aA (fC (lP x1.2) x2.1) (nE (bB (bL 5) (tO (rT x1)) (wX (rT
 x1) (rT x1).on (gI (rT x1).group) (gI (rT x1).order) (kJ (AD (rT x1)) (gI (rT x1).args)))) (oX x2)) (aA (fC w1 x2.2.1) (bV m3 (nU x2).2.2) (bG h4 (pU x2))))))) (∃ (x2 : QV × QV × QV × Sl × Sl × MH × PH), Af (I3 x2) cb p (mV x1.2) (nU x2).1 (aA (eP 15) (bW s9 (nU x2).2.1) (aA (bR sc) dA (aA (fC (lP x1.2) x2.1) (fC (rT x1) (oX x2)) (aA (fC w1 x2.2.1) (bV m3 (nU x2).2.2) (bG h4 (pU x2)))))))) (∃ (x2 : QV × QV × QV × Sl × Sl × MH × PH), Af (I3 x2) cb p (mV x1.2) (nU x2).1 (aA (eP 15) (bW s9 (nU x2).2.1) (aA (bR sc) dA (aA (fC (lP x1.2) x2.1) (fC (rT x1) (oX x2)) (aA (fC w1 x2.2.1) (bV m3 (nU x2).2.2) (bG h4 (pU x2))))))) /\ ∀ (x2 : QV × QV × QV × Sl × Sl × MH × PH), I3 x2 -> (∃ (c3 :
 Nat) (a : Sl), xK (λ t a1 b => aA (eH cb :: dL (dO (nU x2).1) (nU x2).2.1 = eH c3 :: dL (dO a) t) (aM (nU x2).2.2.1 (pU x2) c3) (aA (aU (pU x2) a a1) (aU (pU x2) t b) (aA (dX a1) (dX b) (∀ (o : Sl) (o1 : List (Int × Int)), kD (λ m4 h5 => eU (pU x2) h5 (gM h5 o o1) (o1.length <= 10 -> bP (nU x2).2.2.1 m4 c3 -> lU m4 h5 c3 (mK (λ a2 m5 => nJ m4 m5 h5 a2 43 21 (jG x2.2.1.enc) -> ∃ (x3 : List (List Value)), Bl (fD m5 (fK (D4 x2)) 43 21 x3) (λ y => aA (dK 21 y) (A0 m5 h5 (fK a2) 21 y) (aA (vC x3 y 280) (pW x3 y) (mK (λ a3 m6 => As (jU m5 m6 (fK (D4 x2)) a3 43 21 (x3 ++ y)) m6 h5 (λ x4 => aA (I1 x4) (aK p) (aA (eP 5) (eP 8) (aA lB jZ (aA (bR sc) dA (aG (fC x2.1 x4.1) (nE (bB
 (bL (oX x2).op) (tO (oX x2)) (wX (oX x2) o (gI (oX x2).group) (gI (oX x2).order) (kJ (AD (oX x2)) (gI a3)))) x4.2.1) (A2 m6 h5 (tX x4) (pV x4)) True)))))))))))))))))) /\ mK (λ a m4 => nJ (nU x2).2.2.1 m4 (pU x2) a 43 21 (jG x2.2.1.enc) -> ∃ (c3 : Nat) (a1 : Sl), xK (λ t a2 b => aA (eH cb :: dL (dO (nU x2).1) (nU x2).2.1 = eH c3 :: dL (dO a1) t) (aM m4 (pU x2) c3) (aA (aU (pU x2) a1 a2) (aU (pU x2) t b) (aA (dX a2) (dX b) (∀ (o : Sl) (o1 : List (Int × Int)), kD (λ m5 h5 => eU (pU x2) h5 (gM h5 o o1) (o1.length <= 10 -> bP m4 m5 c3 -> lU m5 h5 c3 (∃ (x3 : List (List Value)), Bl (fD m5 (fK (D4 x2)) 43 21 x3) (λ y => aA (dK 21 y) (A0 m5 h5 (fK a) 21 y) (aA (vC x3 y 280) (pW x3 y)
 (mK (λ a3 m6 => As (jU m5 m6 (fK (D4 x2)) a3 43 21 (x3 ++ y)) m6 h5 (λ x4 => aA (I1 x4) (aK p) (aA (eP 5) (eP 8) (aA lB jZ (aA (bR sc) dA (aG (fC x2.1 x4.1) (nE (bB (bL (oX x2).op) (tO (oX x2)) (wX (oX x2) o (gI (oX x2).group) (gI (oX x2).order) (kJ (AD (oX x2)) (gI a3)))) x4.2.1) (A2 m6 h5 (tX x4) (pV x4)) True)))))))))))))))))))))))))))))))))) (∃ (I3 : Int × QV × QV × Sl × Bool × MH × PH -> Prop), dT (x1.2.1 == 6) (∃ (x2 : Int × QV × QV × Sl × Bool × MH × PH), Af (I3 x2) cb p (mV x1.2) (mV x2) (aA (bJ x1.2.1 x2.1) (vD (Ag x2)) (aA (bR sc) dA (aA (fC (lP x1.2) (lP x2)) (fC (rT x1) (AF x2)) (aA (bV (rJ x1.2) (B7 x2)) (gO x1.2 = gO x2) True))))) (x1.2.1 == 7) (∃ (x2 : Int × QV × QV
 × Sl × Bool × MH × PH), Af (I3 x2) cb p (mV x1.2) (mV x2) (aA (bJ x1.2.1 x2.1) (vD (Ag x2)) (aA (bR sc) dA (aA (fC (lP x1.2) (lP x2)) (fC (rT x1) (AF x2)) (aA (bV (rJ x1.2) (B7 x2)) (gO x1.2 = gO x2) True))))) (∃ (x2 : Int × QV × QV × Sl × Bool × MH × PH), Af (I3 x2) cb p (mV x1.2) (mV x2) (aA (bJ x1.2.1 x2.1) (gQ (x1.2.1 == 8) (Ag x2)) (aA (bR sc) dA (aA (fC (lP x1.2) (lP x2)) (fC (rT x1) (AF x2)) (aA (bV (rJ x1.2) (B7 x2)) (gO x1.2 = gO x2) True))))) /\ ∀ (x2 : Int × QV × QV × Sl × Bool × MH × PH), I3 x2 -> dT (Ag x2) (∃ (c2 : Nat) (s5 : bH), gW (λ p5 k1 => ∃ (v1 : QV), Da (λ s6 p6 => ∃ (k2 : List Int) (q2 : Query), aA (fG (zN cb 0) (bK sc) (dO p :: bX (dO (mV x2)) (lP
 x2).enc) = fG (zN c2 0) (bK s5) (dO p5 :: bX (dO k1) v1.enc)) (aM (rJ x2) (gO x2) c2) (aA (eW (gO x2) s6 s5) (iH s6) (aA (nS s6.tables.length) (aU (gO x2) p5 p6) (aA (dX p6) (aU (gO x2) k1 k2) (aG (dX k2) (cC (gO x2) q2 v1) (QW q2) (EN (λ w1 q3 => kD (λ m3 h3 => eU (gO x2) h3 (cC h3 q3 w1) (QW q3 -> bP (rJ x2) m3 c2 -> lU m3 h3 c2 (mK (λ s7 m4 => nJ m3 m4 h3 s7 43 21 (jG w1.enc) -> ∃ (x3 : List (List Value)), Bl (fD m4 (fK (AF x2).args) 43 21 x3) (λ y => aA (dK 21 y) (A0 m4 h3 (fK s7) 21 y) (aA (vC x3 y 280) (pW x3 y) (mK (λ s8 m5 => As (jU m4 m5 (fK (AF x2).args) s8 43 21 (x3 ++ y)) m5 h3 (λ x4 => aA (I1 x4) (aK p) (aA (eP 5) (eP 8) (aA lB jZ (aA (bR sc) dA (aG (fC (lP
 x2) x4.1) (nE (qQ (AF x2) (gI s8)) x4.2.1) (A2 m5 h3 (tX x4) (pV x4)) True)))))))))))))))))))))) (x2.1 == 9) (∃ (c2 : Nat) (v1 : QV), yY (λ s5 k1 => aA (eH cb :: dL (eN (AF x2)) (mV x2) = eH c2 :: dL (kK (aL (cZ v1.op) (tP v1) (aL (vF v1) (cZ (vG v1)) (aL (hX (eM v1)) (hZ (eM v1)) (aL (cZ (iA (eM v1))) (iE (eM v1)) (aL (gL (eM v1)) (hX (dU v1)) (aL (hZ (dU v1)) (iD (dU v1)) (aL (iE (dU v1)) (gL (dU v1)) (aL (w9 v1) (xD v1) (aL (nG v1.on) j7 (aL j7 (vB v1) (cT v1.args)))))))))))) s5) (aM (rJ x2) (gO x2) c2) (aA (aU (gO x2) s5 k1) (dX k1) (∀ (g o : Sl) (k2 : Int) (g1 : List Int) (o1 : List (Int × Bool)), kD (λ m3 h3 => eU (gO x2) h3 (aU h3 g g1) (fU h3 o o1 -> xC g1
 k1.length -> o1.length <= k1.length -> aW k2 -> k2 <= 3 -> bP (rJ x2) m3 c2 -> As (aM m3 h3 c2) m3 h3 (λ x3 => aA (I1 x3) (aK p) (aA (eP 5) (eP 8) (aA lB jZ (aA (bR sc) dA (aG (fC (lP x2) x3.1) (nE (bB (bL v1.op) (tO v1) (wX v1 v1.on (gI g) (gI o) (kJ (bL k2) (gI v1.args)))) x3.2.1) (A2 m3 h3 (tX x3) (pV x3)) True))))))))))) (dW x2.1 10 (∃ (c2 : Nat) (v1 : QV), yY (λ s5 k1 => aA (eH cb :: dL (eN (AF x2)) (mV x2) = eH c2 :: dL (kK (aL (cZ v1.op) (tP v1) (aL (vF v1) (cZ (vG v1)) (aL (hX (eM v1)) (hZ (eM v1)) (aL (cZ (iA (eM v1))) (iE (eM v1)) (aL (gL (eM v1)) (hX (dU v1)) (aL (hZ (dU v1)) (iD (dU v1)) (aL (iE (dU v1)) (gL (dU v1)) (aL (w9 v1) (xD v1) (aL
 (nG v1.on) j7 (aL j7 (vB v1) (cT v1.args)))))))))))) s5) (aM (rJ x2) (gO x2) c2) (aA (aU (gO x2) s5 k1) (dX k1) (∀ (g o : Sl) (k2 : Int) (g1 : List Int) (o1 : List (Int × Bool)), kD (λ m3 h3 => eU (gO x2) h3 (aU h3 g g1) (fU h3 o o1 -> xC g1 k1.length -> o1.length <= k1.length -> aW k2 -> k2 <= 3 -> bP (rJ x2) m3 c2 -> lU m3 h3 c2 (∃ (c3 : Nat) (s6 : bH), gW (λ p5 k3 => ∃ (v2 : QV), Da (λ s7 p6 => ∃ (k4 : List Int) (q2 : Query), aA (fG (zN cb 0) (bK sc) (dO p :: bX (dO (mV x2)) (lP x2).enc) = fG (zN c3 0) (bK s6) (dO p5 :: bX (dO k3) v2.enc)) (aM m3 h3 c3) (aA (eW h3 s7 s6) (iH s7) (aA (nS s7.tables.length) (aU h3 p5 p6) (aA (dX p6) (aU h3 k3 k4) (aG (dX k4) (cC h3 q2 v2) (QW q2) (EN (λ w1 q3 => kD (λ m4 h4 => eU
 h3 h4 (cC h4 q3 w1) (QW q3 -> bP m3 m4 c3 -> lU m4 h4 c3 (mK (λ s8 m5 => nJ m4 m5 h4 s8 43 21 (jG w1.enc) -> ∃ (x3 : List (List Value)), Bl (fD m5 (fK v1.args) 43 21 x3) (λ y => aA (dK 21 y) (A0 m5 h4 (fK s8) 21 y) (aA (vC x3 y 280) (pW x3 y) (mK (λ s9 m6 => As (jU m5 m6 (fK v1.args) s9 43 21 (x3 ++ y)) m6 h4 (λ x4 => aA (I1 x4) (aK p) (aA (eP 5) (eP 8) (aA lB jZ (aA (bR sc) dA (aG (fC (lP x2) x4.1) (nE (bB (bL v1.op) (tO v1) (wX v1 v1.on (gI g) (gI o) (kJ (bL k2) (gI s9)))) x4.2.1) (A2 m6 h4 (tX x4) (pV x4)) True)))))))))))))))))))))))))))) (tA (λ c2 s5 t c3 p5 d1 => aA (fG (zN cb 0) (dO (mV x2)) (gG p 2) = mZ c2 s5 t d1) (aM (rJ x2) (gO x2) c2) (aA (aU (gO x2) s5 c3) (aU (gO x2) t p5)
 (aG (dX c3) (dX p5) (nS d1) (nD (gO x2) (rJ x2) c2 (λ v1 m3 h3 => mK (λ s6 m4 => As (nJ m3 m4 h3 s6 43 21 (jG (lP x2).enc)) m4 h3 (λ x3 => aA (I1 x3) (aK p) (aA (eP 5) (eP 8) (aA lB jZ (aA (bR sc) dA (aG (fC (lP x2) x3.1) (nE (bB (bL 2) mF (pQ v1 (bB uQ uQ (bB uQ uQ (kJ mF (gI s6)))))) x3.2.1) (A2 m4 h3 (tX x3) (pV x3)) True))))))))))) /\ mK (λ s5 m3 => nJ (rJ x2) m3 (gO x2) s5 43 21 (jG (lP x2).enc) -> tA (λ c2 s6 t c3 p5 d1 => aA (fG (zN cb 0) (dO (mV x2)) (gG p 2) = mZ c2 s6 t d1) (aM m3 (gO x2) c2) (aA (aU (gO x2) s6 c3) (aU (gO x2) t p5) (aG (dX c3) (dX p5) (nS d1) (∀ (v1 : PV) (p6 : Pred), kD (λ m4 h3 => eU (gO x2) h3 (cX h3 p6 v1) (pI p6 -> bP m3
 m4 c2 -> As (aM m4 h3 c2) m4 h3 (λ x3 => aA (I1 x3) (aK p) (aA (eP 5) (eP 8) (aA lB jZ (aA (bR sc) dA (aG (fC (lP x2) x3.1) (nE (bB (bL 2) mF (pQ v1 (bB uQ uQ (bB uQ uQ (kJ mF (gI s5)))))) x3.2.1) (A2 m4 h3 (tX x3) (pV x3)) True)))))))))))))))) /\ ∀ (x1 : QV × QV × MH × PH), I1 x1 -> rZ (λ s5 p5 v1 => sA (λ s6 p6 q2 => aA (bK sc :: bX (dO p) x1.2.1.enc = bK s5 :: bX (dO p5) v1.enc) (eW (pV x1) s6 s5) (aA (aU (pV x1) p5 p6) (cC (pV x1) q2 v1) (fM (pV x1) (dV s6 p6 q2).1 (λ _ h3 => dE (rX s6 p6 q2) 0 (K (eN x1.1) (tX x1) h3) (K (eN x1.2.1) (tX x1) h3))))))))))))))))))))))))))
theorem We (N : Nat) (cb : Nat) (sc : bH) (p : Sl) (deep : Int) (m : MH) (h : PH) (K : CV -> MH -> PH -> Prop) : Mm N cb sc p deep m h K = (cG (PG N cb sc p) Tryz.f18 (aE Tryz.f18) (entry Tryz.f18.ntmps [cP cb, aS sc, cS p, cI deep] m h) K) := by kernel_rfl
structure oD (m0 m : MH) (s : Sl) (E : TypeId) (sz : Nat) (xs : List (List Value)) : Prop where
 row : fD m s E sz xs
 fresh : ∀ b i, s.a = some ⟨b, i, none⟩ -> m0 b = none
def Kept (m0 m : MH) (cb : Nat) : Prop := ∀ b o, m0 b = some o -> b ≠ cb -> m b = some o
theorem Kept.of {m0 : MH} (h : bP m0 m cb) : Kept m0 m cb := λ b o e n => by rw [h.other b n]; exact e
theorem Kept.on {m0 : MH} (k : Kept m0 m cb) (h : bP m m' cb) : Kept m0 m' cb := λ b o e n => by rw [h.other b n]; exact k b o e n
theorem aM.blk (c : aM m h cb) : ∃ cs, m cb = some (.cells cs 68 (0, 0)) := by
 obtain ⟨r, q, cs, k, q1, _⟩ := c
 exact ⟨_, q1⟩
theorem aM.keep (c : aM m h cb) (e : m' cb = m cb) (le : PH.le h h') : aM m' h' cb := by
 obtain ⟨r, q, cs, k, q1, q2, q3⟩ := c
 exact ⟨r, q, cs, k, by rw [e]; exact q1, q2.mono le, q3⟩
theorem Kept.free {m0 : MH} (k : Kept m0 m cb) (c : aM m h cb) (hb : m b = none) : m0 b = none := by
 cases e : m0 b with
 | none => rfl
 | some o =>
  by_cases hc : b = cb
  . obtain ⟨cs, e2⟩ := c.blk
    rw [hc, e2] at hb; cases hb
  . rw [k b o e hc] at hb; cases hb
theorem fD.nil (m : MH) (E : TypeId) (sz : Nat) : fD m cA E sz [] := ⟨⟨λ _ h => by simp at h, λ _ h => by simp at h⟩, .inl ⟨rfl, rfl⟩⟩
theorem oD.nil (m0 m : MH) (E : TypeId) (sz : Nat) : oD m0 m cA E sz [] := ⟨fD.nil m E sz, λ b i e => by cases e⟩
theorem oD.on {m0 : MH} {s : Sl} {E : TypeId} (r : oD m0 m s E sz xs) (o : bP m m' cb) (c : aM m h cb) (hE : E ≠ 68) : oD m0 m' s E sz xs := by
 refine ⟨fD.keep r.row (λ b i e => o.other b (λ e2 => ?_)), r.fresh⟩
 obtain ⟨cur, h1⟩ := fD.blk r.row e
 obtain ⟨cs, h2⟩ := c.blk
 rw [e2, h2] at h1
 simp only [Option.some.injEq, Obj.cells.injEq] at h1
 exact hE h1.2.1.symm
theorem oD.new {m0 : MH} {s t : Sl} {E E' : TypeId} {sz' : Nat} {ys : List (List Value)} (r : oD m0 m s E sz xs) (x : nJ m m' h t E' sz' ys) : oD m0 m' s E sz xs := by
 refine ⟨fD.keep r.row (λ b i e => x.other b (λ j e2 => ?_)), r.fresh⟩
 obtain ⟨cur, h1⟩ := fD.blk r.row e
 rw [(x.fresh b j e2).m_] at h1; cases h1
theorem nJ.frow {m0 : MH} {s : Sl} {E : TypeId} (x : nJ m m' h s E sz xs) (k : Kept m0 m cb) (c : aM m h cb) : oD m0 m' s E sz xs := ⟨x.row, λ b i e => k.free c (x.fresh b i e).m_⟩
theorem nJ.at_cb {s : Sl} {E : TypeId} (x : nJ m m' h s E sz xs) (c : aM m h cb) : m' cb = m cb := x.other cb (λ i e => by
 obtain ⟨cs, e2⟩ := c.blk
 rw [(x.fresh cb i e).m_] at e2; cases e2)
theorem Kept.new {m0 : MH} {s : Sl} {E : TypeId} (k : Kept m0 m cb) (x : nJ m m' h s E sz xs) : Kept m0 m' cb := λ b o e n => by
 rw [x.other b (λ i e2 => by have := (x.fresh b i e2).m_; rw [k b o e n] at this; cases this)]; exact k b o e n
theorem oD.grown {m0 : MH} {s s' : Sl} {E : TypeId} {zs : List (List Value)} (r : oD m0 m s E sz xs) (x : jU m m' s s' E sz zs) (k : Kept m0 m cb) (c : aM m h cb) : oD m0 m' s' E sz zs :=
 ⟨x.row, λ b i e => by
  rcases x.fresh b i e with h1 | ⟨j, h1⟩
  . exact k.free c h1
  . exact r.fresh b j h1⟩
theorem oD.apart {m0 : MH} {s t t' : Sl} {E E' : TypeId} {sz' : Nat} {ys zs : List (List Value)} (r : oD m0 m s E sz xs) (q : oD m0 m t E' sz' ys) (x : jU m m' t t' E' sz' zs) (hE : E ≠ E') : oD m0 m' s E sz xs := by
 refine ⟨fD.keep r.row (λ b i e => ?_), r.fresh⟩
 obtain ⟨cur, h1⟩ := fD.blk r.row e
 rw [h1]
 refine x.other b _ h1 (λ j e2 => ?_)
 obtain ⟨cur2, h2⟩ := fD.blk q.row e2
 rw [h1] at h2
 simp only [Option.some.injEq, Obj.cells.injEq] at h2
 exact hE h2.2.1
theorem Kept.grown {m0 : MH} {s s' : Sl} {E : TypeId} {zs : List (List Value)} (k : Kept m0 m cb) (r : oD m0 m s E sz xs) (x : jU m m' s s' E sz zs) : Kept m0 m' cb := λ b o e n => x.other b o (k b o e n) (λ i e2 => by rw [r.fresh b i e2] at e; cases e)
theorem jU.at_cb {m0 : MH} {s s' : Sl} {E : TypeId} {zs : List (List Value)} (x : jU m m' s s' E sz zs) (r : oD m0 m s E sz xs) (c : aM m h cb) (hE : E ≠ 68) : m' cb = m cb := by
 obtain ⟨cs, e⟩ := c.blk
 rw [e]
 refine x.other cb _ e (λ i e2 => ?_)
 obtain ⟨cur, h1⟩ := fD.blk r.row e2
 rw [e] at h1
 simp only [Option.some.injEq, Obj.cells.injEq] at h1
 exact hE h1.2.1.symm
theorem K6 {sz : Nat} : ∀ {xs : List (List Value)}, (∀ e ∈ xs, e.length = sz) -> xs.flatten.length = xs.length * sz
 | [], _ => by simp
 | x :: xs, h => by
  simp only [List.flatten_cons, List.length_append, List.length_cons]
  rw [K6 (λ e he => h e (by simp [he])), h x (by simp), Nat.add_mul]; omega
theorem fD.src {s : Sl} {E : TypeId} {x : List Value} (r : fD m s E sz (x :: xs)) : A0 m h s sz (x :: xs) := by
 rcases r.ex with ⟨_, e⟩ | ⟨b, cap, cur, rfl, hm, _, _, _, ht⟩
 . cases e
 . exact .lent b 0 cur E (0, 0) rfl rfl hm (by rw [List.drop_zero, K6 r.rows.len]; exact ht)
def sI (m0 m : MH) : MH := λ b => match m0 b with | some _ => m b | none => none
def zR (m0 m : MH) (h : PH) : PH := λ b i => match m0 b, m b with | none, some (.cells cs _ _) => cs[i]? | _, _ => h b i
theorem EV {m0 m : MH} {h : PH} (d : Gd m h) : PH.le h (zR m0 m h) := ⟨λ b i v e => by
 unfold zR
 split
 . rename_i cs E fz h1 h2
   rw [d.disj b _ h2 i] at e; cases e
 . exact e⟩
theorem QE {m0 : MH} (d : Gd m h) : A2 m h (sI m0 m) (zR m0 m h) := by
 refine ⟨λ b o e => ?_, EV d, λ b i v e => ?_⟩
 . unfold sI at e
   split at e
   . exact e
   . cases e
 . unfold zR at e
   split at e
   . rename_i cs E fz h1 h2
     exact .inr ⟨cs, E, fz, h2, e, by unfold sI; rw [h1]⟩
   . exact .inl e
theorem FT {p : Prop} (h : p := by repeat' (first | with_reducible rfl | exact trivial | exact QE (by assumption) | refine ⟨?_, ?_⟩ | rfl)) : p := h
theorem oD.ice {m0 : MH} {s : Sl} {E : TypeId} (r : oD m0 m s E sz xs) : cW (zR m0 m h) s sz xs := by
 rcases r.row.ex with ⟨rfl, rfl⟩ | ⟨b, cap, cur, rfl, hm, hcp, _, _, ht⟩
 . exact cW.nil _ _
 . have h0 := r.fresh b 0 rfl
   refine ⟨rfl, .inr ⟨b, 0, rfl, λ i e hi => ⟨λ j v hj => ?_⟩⟩, hcp⟩
   have h1 := jS r.row.rows.len hi j v hj
   rw [<- ht, List.getElem?_take] at h1
   split at h1
   . unfold zR
     rw [h0, hm]
     simp only [Nat.zero_add]
     rw [<- Array.getElem?_toList]; exact h1
   . cases h1
theorem keep_other {m0 : MH} (k : Kept m0 m cb) : bP m0 (sI m0 m) cb := ⟨λ b hb => by
 unfold sI
 cases e : m0 b with
 | none => rfl
 | some o => exact k b o e hb⟩
theorem ID {m0 : MH} (c : aM m h cb) (h0 : m0 cb ≠ none) (d : Gd m h) : aM (sI m0 m) (zR m0 m h) cb := c.keep (by
 unfold sI
 cases e : m0 cb with
 | none => exact (h0 e).elim
 | some o => rfl) (EV d)
structure QM (m0 m : MH) (h : PH) (v : QV) (vs : List QV) : Prop where
 wher : ∃ w, cX h w v.where_ /\ pI w
 cols : ∃ co : List Int, oD m0 m v.columns 3 1 (co.map eI) /\ co.length <= 1000
 on_ : ∃ l, gM h v.on l
 group_ : ∃ l, aU h v.group l
 order_ : ∃ l, fU h v.order l
 args_ : oD m0 m v.args 43 21 (vs.map QV.enc)
 len_ : vs.length <= 10
 reps : ∀ v ∈ vs, ∃ q, cC h q v /\ QW q
theorem K8 {h : PH} : ∀ {vs : List QV}, (∀ v ∈ vs, ∃ q, cC h q v /\ QW q) -> ∃ qs : List Query, qs.length = vs.length /\ (∀ q ∈ qs, QW q) /\ ∀ (i : Nat) q, qs[i]? = some q -> ∃ v, vs[i]? = some v /\ cC h q v
 | [], _ => ⟨[], rfl, λ q hq => by simp at hq, λ i q e => by simp at e⟩
 | v :: vs, h1 => by
  obtain ⟨q, hq, hqw⟩ := h1 v (by simp)
  obtain ⟨qs, e1, ew, e2⟩ := K8 (vs := vs) (λ u hu => h1 u (by simp [hu]))
  refine ⟨q :: qs, by simp [e1], λ x hx => by rcases List.mem_cons.1 hx with rfl | hx; exact hqw; exact ew x hx, λ i x e => ?_⟩
  cases i with
  | zero => simp at e; subst e; exact ⟨v, rfl, hq⟩
  | succ i => simpa using e2 i x (by simpa using e)
theorem QM.ice {m0 : MH} {vs : List QV} (x : QM m0 m h v vs) (d : Gd m h) : ∃ q, cC (zR m0 m h) q v /\ QW q := by
 obtain ⟨w, hw, hww⟩ := x.wher
 obtain ⟨co, hc, hcl⟩ := x.cols
 obtain ⟨on, ho⟩ := x.on_
 obtain ⟨gr, hg⟩ := x.group_
 obtain ⟨od, hod⟩ := x.order_
 obtain ⟨qs, e1, ew, e2⟩ := K8 x.reps
 have le := EV (m0 := m0) d
 have hl := x.len_
 exact ⟨_, iU.rep ⟨rfl, rfl, hw.mono le, ⟨hc.ice, by omega⟩, ho.mono le, hg.mono le, hod.mono le, rfl, ⟨⟨vs, x.args_.ice, e1, λ i q e => let ⟨v, k1, k2⟩ := e2 i q e; ⟨v, k1, k2.mono le⟩⟩, by omega⟩⟩, JT.2 ⟨hww, ew⟩⟩
theorem QM.on {m0 : MH} {vs : List QV} (x : QM m0 m h v vs) (o : bP m m' cb) (c : aM m h cb) (le : PH.le h h') : QM m0 m' h' v vs := by
 obtain ⟨w, hw, hww⟩ := x.wher
 obtain ⟨co, hc, hcl⟩ := x.cols
 obtain ⟨on, ho⟩ := x.on_
 obtain ⟨gr, hg⟩ := x.group_
 obtain ⟨od, hod⟩ := x.order_
 exact ⟨⟨w, hw.mono le, hww⟩, ⟨co, hc.on o c (by decide), hcl⟩, ⟨on, ho.mono le⟩, ⟨gr, hg.mono le⟩, ⟨od, hod.mono le⟩, x.args_.on o c (by decide), x.len_, λ v hv => let ⟨q, e, ew⟩ := x.reps v hv; ⟨q, e.mono le, ew⟩⟩
theorem QM.new {m0 : MH} {vs : List QV} {t : Sl} {E : TypeId} {ys : List (List Value)} (x : QM m0 m h v vs) (n : nJ m m' h' t E sz ys) (le : PH.le h h') : QM m0 m' h' v vs := by
 obtain ⟨w, hw, hww⟩ := x.wher
 obtain ⟨co, hc, hcl⟩ := x.cols
 obtain ⟨on, ho⟩ := x.on_
 obtain ⟨gr, hg⟩ := x.group_
 obtain ⟨od, hod⟩ := x.order_
 exact ⟨⟨w, hw.mono le, hww⟩, ⟨co, hc.new n, hcl⟩, ⟨on, ho.mono le⟩, ⟨gr, hg.mono le⟩, ⟨od, hod.mono le⟩, x.args_.new n, x.len_, λ v hv => let ⟨q, e, ew⟩ := x.reps v hv; ⟨q, e.mono le, ew⟩⟩
theorem QM.grow {m0 : MH} {v' : QV} {vs : List QV} {s' : Sl} {u : QV} (x : QM m0 m h v vs) (g : jU m m' v.args s' 43 21 (vs.map QV.enc ++ [u.enc])) (k : Kept m0 m cb) (c : aM m h cb) (hu : ∃ q, cC h q u /\ QW q) (hl : vs.length <= 9)
 (ew : v'.where_ = v.where_) (ec : v'.columns = v.columns) (eo : ∃ l, gM h v'.on l) (eg : ∃ l, aU h v'.group l) (ed : ∃ l, fU h v'.order l) (ea : v'.args = s') : QM m0 m' h v' (vs ++ [u]) := by
 obtain ⟨co, hc, hcl⟩ := x.cols
 refine ⟨by rw [ew]; exact x.wher, ⟨co, by rw [ec]; exact hc.apart x.args_ g (by decide), hcl⟩, eo, eg, ed, by rw [ea, List.map_append]; exact x.args_.grown g k c, by simp; omega, λ v hv => ?_⟩
 rcases List.mem_append.1 hv with h1 | h1
 . exact x.reps v h1
 . simp at h1; subst h1; exact hu
theorem Oo (h : cN s = 0) : zI s := Classical.byContradiction λ hn => by rw [oH hn] at h; cases h
theorem GM (h : cN s = 0) : iH s := λ t ht => by
 obtain ⟨i, hi⟩ := List.mem_iff_getElem?.1 ht
 have := (Oo h).2 i t hi
 exact this.1
theorem M9 (h : cN s = 0) : s.tables.length <= 8 := (Oo h).1
theorem Dm (s : oC) (ps : List Int) (q : Query) : (dV s ps q).1.length <= 12 := by
 unfold dV
 split
 . split
   . split
     . exact zC s ps q
     . simp [eX]
   . simp [eX]
 . simp [eX]
theorem Ge {t : Int} (he : cN s = 0) (hp : ps.all dR = true) (h0 : 0 <= t) (h1 : t < s.tables.length) : (dV s ps (.mk 1 t gD [] [] [] [] 0 [])).2 = 0 := by
 have h8 := GM he
 have hk : (j5 s t).length <= 12 := by
  unfold j5
  split
  . simp
  . split
    . simp
    . rename_i x hx
      have := h8 x (List.mem_of_getElem? hx)
      simp; omega
 have e1 : dH s ps (.mk 1 t gD [] [] [] [] 0 []) = fF s ps (.mk 1 t gD [] [] [] [] 0 []) [] [] := by simp [dH, jE, arity]
 have e2 : lK (.mk 1 t gD [] [] [] [] 0 []) = true := by rfl
 unfold dV
 rw [if_pos he, if_pos hp, if_pos e2, e1]
 unfold fF
 rw [if_neg (by simp [arity, dM])]
 simp only [if_true]
 rw [if_pos ⟨h0, h1⟩]
 unfold lH
 rw [if_pos hk]
structure WK (m0 : MH) (h3 : PH) (cb : Nat) (a q : QV) (mx : MH) : Prop where
 case_ : aM mx h3 cb
 kept : Kept m0 mx cb
 ex : ∃ o args, q = ⟨o, 0, fV, cA, cA, cA, cA, 0, args⟩ /\ oD m0 mx args 43 21 ([a].map QV.enc)
theorem WK.qm {m0 mx : MH} {h3 : PH} {a q : QV} (x : WK m0 h3 cb a q mx) (hr : ∃ qa, cC h3 qa a /\ QW qa) : QM m0 mx h3 q [a] := by
 obtain ⟨o, args, rfl, hf⟩ := x.ex
 exact ⟨⟨_, yN h3, Ba⟩, ⟨[], oD.nil _ _ _ _, by simp⟩, ⟨_, nK _⟩, ⟨_, jH _⟩, ⟨_, pJ _⟩, hf, by simp, λ v hv => by simp at hv; subst hv; exact hr⟩
theorem PI : ∀ N, Sound Tryz.prog 18 (Oc N)
 | 0 => by
  refine aI (fn := Tryz.f18) (c := aE Tryz.f18) Tryz.func18 rfl (by decide) ?_
  rintro cvs m h K ⟨cb, sc, p, s, ps, deep, rfl, _, _, _, _, _, _, _, _, _, hN, _⟩
  omega
 | N + 1 => by
  refine aI (fn := Tryz.f18) (c := aE Tryz.f18) Tryz.func18 rfl (by decide) ?_
  rintro cvs m h K ⟨cb, sc, p, s, ps, deep, rfl, hc, hs, he, hne, hp, hpl, hpk, d0, d1, hN, hK⟩
  refine ⟨PG N cb sc p, rfl, aD Cg (aD IU (aD E6 (aD Rl (aD Rk (aD Rj (aD CM (aD (PI N) aH))))))), ?_⟩
  rw [<- We N cb sc p deep m h K]
  have htl := hs.tables.slen
  have h8 := GM he
  have ht8 := M9 he
  have htp : 0 < s.tables.length := List.length_pos_iff.2 hne
  have hif : (if (sc.tables.len : Int) > 1 then (sc.tables.len : Int) else 1) = (sc.tables.len : Int) := by split <;> omega
  have hm0 : m cb ≠ none := by obtain ⟨cs, e⟩ := hc.blk; rw [e]; simp
  dsimp only [Mm, push_cast]
  rw [hif]
  refine ⟨cb, 12, rfl, hc, λ k m1 k0 k1 o1 c1 => ?_⟩
  refine aC (λ hd => ?_) (λ hd => aB (λ _ => ?_) (λ _ => aB (λ _ => ?_) (λ _ => ?_)))
  . exact ⟨cb, _, rfl, c1, λ k2 m2 k20 k21 o2 c2 => ⟨k2, rfl, hK _ _ m2 h (.refl _) (AL h k2) (DZ k2) (Ge he hpk k20 (by omega)) (o1.trans o2) c2⟩⟩
  . exact ⟨cb, _, rfl, c1, λ k2 m2 k20 k21 o2 c2 => ⟨k2, rfl, hK _ _ m2 h (.refl _) (AL h k2) (DZ k2) (Ge he hpk k20 (by omega)) (o1.trans o2) c2⟩⟩
  . exact ⟨cb, _, rfl, c1, λ k2 m2 k20 k21 o2 c2 => ⟨k2, rfl, hK _ _ m2 h (.refl _) (AL h k2) (DZ k2) (Ge he hpk k20 (by omega)) (o1.trans o2) c2⟩⟩
  have hw1 : IntKind.i64.wrap (deep - 1) = deep - 1 := dP (by omega) (by omega)
  have hw2 : IntKind.i64.wrap (deep - 2) = deep - 2 := dP (by omega) (by omega)
  rw [hw1]
  refine ⟨cb, sc, p, s, ps, deep - 1, rfl, c1, hs, he, hne, hp, hpl, hpk, by omega, by omega, by omega, λ a qa m2 h2 le2 ra qaw qa0 o2 c2 => ⟨sc, p, a, s, ps, qa, rfl, hs.mono le2, hp.mono le2, ra, λ kk h3 le3 ik => ?_⟩⟩
  have hkl := Dm s ps qa
  generalize hks : (dV s ps qa).fst = ks at ik hkl
  clear hks
  have hle3 : PH.le h h3 := le2.trans le3
  have ra3 : cC h3 qa a := ra.mono le3
  refine ⟨λ ⟨d, op, a', q, k', mx, hx⟩ => d = deep /\ a' = a /\ k' = kk /\ hx = h3 /\ WK m h3 cb a q mx, λ s1 m3 hnew => ⟨(deep, IntKind.i64.wrap (1 + k), a, ⟨IntKind.i64.wrap (1 + k), 0, fV, cA, cA, cA, cA, 0, s1⟩, kk, m3, h3), ⟨rfl, rfl, rfl, rfl, ?_⟩, MT⟩, ?_⟩
  . have k2 := (Kept.of o1).on o2
    have c3 := c2.mono le3
    exact ⟨c3.keep (nJ.at_cb hnew c3) (.refl _), k2.new hnew, _, _, rfl, nJ.frow hnew k2 c3⟩
  rintro ⟨deep, op, a', q, k', mx, hx⟩ ⟨rfl, rfl, rfl, rfl, mid⟩
  dsimp only
  have reach : ∀ (q : QV) (vs : List QV) (my : MH) (hy : PH), PH.le hx hy -> Kept m my cb -> aM my hy cb -> QM m my hy q vs -> Gd my hy -> PH.le hx (zR m my hy) /\ bP m (sI m my) cb /\ aM (sI m my) (zR m my hy) cb /\ ∃ qq, cC (zR m my hy) qq q /\ QW qq := λ q vs my hy l k c x d => ⟨l.trans (EV d), keep_other k, ID c hm0 d, x.ice d⟩
  have join : ∀ (q : QV) (u : QV) (s1 : Sl) (my : MH) (hy : PH) (Q : Sl -> MH -> Prop), PH.le hx hy -> Kept m my cb -> aM my hy cb -> QM m my hy q [a'] -> oD m my s1 43 21 [u.enc] -> (∃ qu, cC hy qu u /\ QW qu) ->
   (∀ s' m', (∀ q' : QV, q'.where_ = q.where_ -> q'.columns = q.columns -> (∃ l, gM hy q'.on l) -> (∃ l, aU hy q'.group l) -> (∃ l, fU hy q'.order l) -> q'.args = s' -> QM m m' hy q' [a', u]) -> Kept m m' cb -> aM m' hy cb -> Q s' m') ->
   ∃ xs, fD my ⟨q.args.a, q.args.len, q.args.cap⟩ 43 21 xs /\ ∃ ys, dK 21 ys /\ A0 my hy ⟨s1.a, s1.len, s1.cap⟩ 21 ys /\ (xs.length + ys.length) * 280 <= 140737488355328 /\ xs.length + ys.length <= 140737488355328 /\ ∀ (s' : Sl) (m' : MH), jU my m' ⟨q.args.a, q.args.len, q.args.cap⟩ s' 43 21 (xs ++ ys) -> Q s' m' :=
   λ q u s1 my hy Q l k c x f hu hQ => ⟨_, x.args_.row, [u.enc], RV [u], fD.src f.row, by simp, by simp, λ s' m' g => hQ s' m' (λ q' e1 e2 e3 e4 e5 e6 => x.grow g k c hu (by simp) e1 e2 e3 e4 e5 e6) (k.grown x.args_ g) (c.keep (jU.at_cb g x.args_ c (by decide)) (.refl _))⟩
  refine ⟨λ ⟨a2, q, my, hy⟩ => a2 = a' /\ PH.le hx hy /\ bP m my cb /\ aM my hy cb /\ ∃ qq, cC hy qq q /\ QW qq, aB (λ _ => ?_) (λ _ => ?_), ?_⟩
  ·
   refine ⟨cb, 3, rfl, mid.case_, λ n m3 n0 n1 o3 c3 => ?_⟩
   refine ⟨λ ⟨a2, q, k2, n, my, hy⟩ => a2 = a' /\ k2 = k' /\ hy = hx /\ -1 <= n /\ n <= 2 /\ aM my hx cb /\ Kept m my cb /\ QM m my hx q [a'] /\ ∃ co : List Int, oD m my q.columns 3 1 (co.map eI) /\ (co.length : Int) <= 2 - n, λ ⟨_, _, _, n, _, _⟩ => (n + 1).toNat, ⟨(a', q, k', n, m3, hx), ⟨rfl, rfl, rfl, by show -1 <= n; omega, by show n <= 2; omega, c3, mid.kept.on o3, (mid.qm ⟨qa, ra3, qaw⟩).on o3 mid.case_ (.refl _), [], ?_, by simp; omega⟩, MT⟩, ?_⟩
   . obtain ⟨o, args, rfl, hf⟩ := mid.ex
     exact oD.nil _ _ _ _
   clear mid q c3 o3 m3 n0 n1 n
   rintro ⟨a2, q, k2, n, my, hy⟩ ⟨rfl, rfl, rfl, n0, n1, cy, ky, qm, co, fco, hcol⟩
   dsimp only
   refine aC (λ hn => ⟨cb, _, rfl, cy, λ c m4 _ _ o4 c4 => ⟨_, (fco.on o4 cy (by decide)).row, by simp; omega, by simp; omega, λ s' m5 g => ?_⟩⟩) (λ hn d => ⟨(a2, q, sI m my, zR m my hy), ⟨rfl, reach q _ my hy (.refl _) ky cy qm d⟩, FT⟩)
   have f4 := fco.on o4 cy (by decide)
   have q4 := qm.on o4 cy (.refl _)
   have k4 := ky.on o4
   have f5 : oD m m5 s' 3 1 ((co ++ [c]).map eI) := by rw [List.map_append]; exact f4.grown g k4 c4
   have hw3 : IntKind.i64.wrap (n - 1) = n - 1 := dP (by omega) (by omega)
   rw [hw3]
   refine ⟨(a2, { q with columns := s' }, k2, n - 1, m5, hy), ⟨rfl, rfl, rfl, by show -1 <= n - 1; omega, by show n - 1 <= 2; omega, c4.keep (jU.at_cb g f4 c4 (by decide)) (.refl _), k4.grown f4 g, ⟨q4.wher, ⟨_, f5, by simp; omega⟩, q4.on_, q4.group_, q4.order_, q4.args_.apart f4 g (by decide), q4.len_, q4.reps⟩, _, f5, by simp; omega⟩, by show (n - 1 + 1).toNat < (n + 1).toNat; omega, MT⟩
  . refine ⟨λ ⟨d, op, a2, q, k2, t, my, hy⟩ => d = deep /\ a2 = a' /\ k2 = k' /\ hy = hx /\ WK m hx cb a' q my, aB (λ _ => ⟨(deep, op, a', q, k', true, mx, hx), ⟨rfl, rfl, rfl, rfl, mid⟩, MT⟩) (λ _ => ⟨(deep, op, a', q, k', op == 5, mx, hx), ⟨rfl, rfl, rfl, rfl, mid⟩, MT⟩), ?_⟩
    clear mid q mx
    rintro ⟨deep, op, a', q, k', t, mx, hx⟩ ⟨rfl, rfl, rfl, rfl, mid⟩
    dsimp only
    refine aB (λ _ => ?_) (λ _ => ?_)
    ·
     rw [hw2]
     refine ⟨cb, sc, p, s, ps, deep - 2, rfl, mid.case_, hs.mono hle3, he, hne, hp.mono hle3, hpl, hpk, by show -1 <= deep - 2; omega, by omega, by omega, λ b qb m5 h5 le5 rb qbw _ o5 c5 => ⟨sc, p, b, s, ps, qb, rfl, hs.mono (hle3.trans le5), hp.mono (hle3.trans le5), rb, λ l h6 le6 il => ?_⟩⟩
     have hll := Dm s ps qb
     generalize hls : (dV s ps qb).fst = ls at il hll
     have q6 : QM m m5 h6 q [a'] := (mid.qm ⟨qa, ra3, qaw⟩).on o5 mid.case_ (le5.trans le6)
     have k6 := mid.kept.on o5
     have c6 := c5.mono le6
     refine ⟨λ ⟨a2, b2, q, k2, l2, my, hy⟩ => a2 = a' /\ b2 = b /\ k2 = k' /\ l2 = l /\ hy = h6 /\ aM my h6 cb /\ Kept m my cb /\ QM m my h6 q [a'], aB (λ _ => aC (λ _ => ⟨(a', b, { q with op := 5 }, k', l, m5, h6), ⟨rfl, rfl, rfl, rfl, rfl, c6, k6, ⟨q6.wher, q6.cols, q6.on_, q6.group_, q6.order_, q6.args_, q6.len_, q6.reps⟩⟩, MT⟩) (λ _ => ⟨(a', b, q, k', l, m5, h6), ⟨rfl, rfl, rfl, rfl, rfl, c6, k6, q6⟩, MT⟩)) (λ _ => ⟨(a', b, q, k', l, m5, h6), ⟨rfl, rfl, rfl, rfl, rfl, c6, k6, q6⟩, MT⟩), ?_⟩
     have rb6 := rb.mono le6
     have hx6 : PH.le hx h6 := le5.trans le6
     clear q6 k6 c6 o5 c5 rb le5 mid q
     rintro ⟨a2, b, q, k2, l, my, h6⟩ ⟨rfl, rfl, rfl, rfl, rfl, c6, k6, q6⟩
     dsimp only
     refine ⟨⟨cb, k2, l, ks, ls, rfl, c6, ik.mono hx6, il, by omega, by omega, λ o on m7 h7 le7 hon _ o7 c7 s1 m8 hnew => ?_⟩, λ s1 m7 hnew => ⟨cb, k2, l, ks, ls, rfl, c6.keep (nJ.at_cb hnew c6) (.refl _), ik.mono hx6, il, by omega, by omega, λ o on m8 h7 le7 hon _ o8 c8 => ?_⟩⟩
     . have k7 := k6.on o7
       refine join q b s1 m8 h7 _ (hx6.trans le7) (k7.new hnew) (c7.keep (nJ.at_cb hnew c7) (.refl _)) ((q6.on o7 c6 le7).new hnew (.refl _)) (nJ.frow hnew k7 c7) ⟨qb, rb6.mono le7, qbw⟩ (λ s' m9 hq k9 c9 d => ?_)
       exact ⟨(a2, { q with on := o, args := s' }, sI m m9, zR m m9 h7), ⟨rfl, reach _ _ m9 h7 (hx6.trans le7) k9 c9 (hq { q with on := o, args := s' } rfl rfl ⟨on, hon⟩ (let ⟨l, e⟩ := q6.group_; ⟨l, e.mono le7⟩) (let ⟨l, e⟩ := q6.order_; ⟨l, e.mono le7⟩) rfl) d⟩, FT⟩
     . have k7 := k6.new hnew
       have c7 : aM m7 h6 cb := c6.keep (nJ.at_cb hnew c6) (.refl _)
       have k8 := k7.on o8
       refine join q b s1 m8 h7 _ (hx6.trans le7) k8 c8 ((q6.new hnew (.refl _)).on o8 c7 le7) ((nJ.frow hnew k6 c6).on o8 c7 (by decide)) ⟨qb, rb6.mono le7, qbw⟩ (λ s' m9 hq k9 c9 d => ?_)
       exact ⟨(a2, { q with on := o, args := s' }, sI m m9, zR m m9 h7), ⟨rfl, reach _ _ m9 h7 (hx6.trans le7) k9 c9 (hq { q with on := o, args := s' } rfl rfl ⟨on, hon⟩ (let ⟨l, e⟩ := q6.group_; ⟨l, e.mono le7⟩) (let ⟨l, e⟩ := q6.order_; ⟨l, e.mono le7⟩) rfl) d⟩, FT⟩
    . refine ⟨λ ⟨op, a2, q, k2, t, my, hy⟩ => a2 = a' /\ k2 = k' /\ hy = hx /\ WK m hx cb a' q my, aB (λ _ => ⟨(op, a', q, k', true, mx, hx), ⟨rfl, rfl, rfl, mid⟩, MT⟩) (λ _ => aB (λ _ => ⟨(op, a', q, k', true, mx, hx), ⟨rfl, rfl, rfl, mid⟩, MT⟩) (λ _ => ⟨(op, a', q, k', op == 8, mx, hx), ⟨rfl, rfl, rfl, mid⟩, MT⟩)), ?_⟩
      clear mid q mx
      rintro ⟨op, a', q, k', t, mx, hx⟩ ⟨rfl, rfl, rfl, mid⟩
      dsimp only
      have q3 := mid.qm ⟨qa, ra3, qaw⟩
      refine aB (λ _ => ?_) (λ _ => aB (λ _ => ?_) (λ _ => aB (λ _ => ?_) (λ _ => ?_)))
      ·
       refine ⟨cb, sc, p, k', a', s, ps, ks, qa, rfl, mid.case_, hs.mono hle3, h8, by omega, hp.mono hle3, hpl, ik, by omega, ra3, qaw, λ w qw m5 h5 le5 rw5 qww o5 c5 s1 m6 hnew => ?_⟩
       have k5 := mid.kept.on o5
       refine join q w s1 m6 h5 _ le5 (k5.new hnew) (c5.keep (nJ.at_cb hnew c5) (.refl _)) ((q3.on o5 mid.case_ le5).new hnew (.refl _)) (nJ.frow hnew k5 c5) ⟨qw, rw5, qww⟩ (λ s' m9 hq k9 c9 d => ?_)
       have q5 := q3.on o5 mid.case_ le5
       exact ⟨(a', { q with args := s' }, sI m m9, zR m m9 h5), ⟨rfl, reach _ _ m9 h5 le5 k9 c9 (hq { q with args := s' } rfl rfl q5.on_ q5.group_ q5.order_ rfl) d⟩, FT⟩
      ·
       obtain ⟨o, args, rfl, hf⟩ := mid.ex
       refine ⟨cb, ⟨o, 0, fV, cA, cA, cA, cA, 0, args⟩, k', ks, rfl, mid.case_, ik, by omega, λ g od kk gr odl m5 h5 le5 hg hod _ _ _ _ o5 c5 d => ?_⟩
       have q5 := q3.on o5 mid.case_ le5
       exact ⟨(a', ⟨o, 0, fV, cA, cA, g, od, kk, args⟩, sI m m5, zR m m5 h5), ⟨rfl, reach _ [a'] m5 h5 le5 (mid.kept.on o5) c5 ⟨q5.wher, q5.cols, q5.on_, ⟨gr, hg⟩, ⟨odl, hod⟩, q5.args_, q5.len_, q5.reps⟩ d⟩, FT⟩
      ·
       obtain ⟨o, args, rfl, hf⟩ := mid.ex
       refine ⟨cb, ⟨o, 0, fV, cA, cA, cA, cA, 0, args⟩, k', ks, rfl, mid.case_, ik, by omega, λ g od kk gr odl m5 h5 le5 hg hod _ _ _ _ o5 c5 => ?_⟩
       have q5 := q3.on o5 mid.case_ le5
       have q5' : QM m m5 h5 ⟨o, 0, fV, cA, cA, g, od, kk, args⟩ [a'] := ⟨q5.wher, q5.cols, q5.on_, ⟨gr, hg⟩, ⟨odl, hod⟩, q5.args_, q5.len_, q5.reps⟩
       refine ⟨cb, sc, p, k', a', s, ps, ks, qa, rfl, c5, hs.mono (hle3.trans le5), h8, by omega, hp.mono (hle3.trans le5), hpl, ik.mono le5, by omega, ra3.mono le5, qaw, λ w qw m6 h6 le6 rw6 qww o6 c6 s1 m7 hnew => ?_⟩
       have k6 := (mid.kept.on o5).on o6
       refine join ⟨o, 0, fV, cA, cA, g, od, kk, args⟩ w s1 m7 h6 _ (le5.trans le6) (k6.new hnew) (c6.keep (nJ.at_cb hnew c6) (.refl _)) ((q5'.on o6 c5 le6).new hnew (.refl _)) (nJ.frow hnew k6 c6) ⟨qw, rw6, qww⟩ (λ s' m9 hq k9 c9 d => ?_)
       exact ⟨(a', ⟨o, 0, fV, cA, cA, g, od, kk, s'⟩, sI m m9, zR m m9 h6), ⟨rfl, reach _ _ m9 h6 (le5.trans le6) k9 c9 (hq ⟨o, 0, fV, cA, cA, g, od, kk, s'⟩ rfl rfl ⟨_, nK _⟩ ⟨gr, hg.mono le6⟩ ⟨odl, hod.mono le6⟩ rfl) d⟩, FT⟩
      ·
       refine ⟨⟨cb, k', p, ks, ps, 2, rfl, mid.case_, ik, hp.mono hle3, by omega, hpl, by omega, λ pv pp m5 h5 le5 rp rpw o5 c5 s1 m6 hnew d => ?_⟩, λ s1 m5 hnew => ⟨cb, k', p, ks, ps, 2, rfl, mid.case_.keep (nJ.at_cb hnew mid.case_) (.refl _), ik, hp.mono hle3, by omega, hpl, by omega, λ pv pp m6 h5 le5 rp rpw o6 c6 d => ?_⟩⟩
       . have k5 := mid.kept.on o5
         exact ⟨(a', ⟨2, 0, pv, cA, cA, cA, cA, 0, s1⟩, sI m m6, zR m m6 h5), ⟨rfl, reach _ [a'] m6 h5 le5 (k5.new hnew) (c5.keep (nJ.at_cb hnew c5) (.refl _)) ⟨⟨pp, rp, rpw⟩, ⟨[], oD.nil _ _ _ _, by simp⟩, ⟨_, nK _⟩, ⟨_, jH _⟩, ⟨_, pJ _⟩, nJ.frow hnew k5 c5, by simp, λ v hv => by simp at hv; subst hv; exact ⟨qa, ra3.mono le5, qaw⟩⟩ d⟩, FT⟩
       . have k5 := mid.kept.new hnew
         have c5 : aM m5 hx cb := mid.case_.keep (nJ.at_cb hnew mid.case_) (.refl _)
         exact ⟨(a', ⟨2, 0, pv, cA, cA, cA, cA, 0, s1⟩, sI m m6, zR m m6 h5), ⟨rfl, reach _ [a'] m6 h5 le5 (k5.on o6) c6 ⟨⟨pp, rp, rpw⟩, ⟨[], oD.nil _ _ _ _, by simp⟩, ⟨_, nK _⟩, ⟨_, jH _⟩, ⟨_, pJ _⟩, (nJ.frow hnew mid.kept mid.case_).on o6 c5 (by decide), by simp, λ v hv => by simp at hv; subst hv; exact ⟨qa, ra3.mono le5, qaw⟩⟩ d⟩, FT⟩
  . rintro ⟨a2, q, my, hy⟩ ⟨rfl, ley, oy, cy, qq, rq, rqw⟩
    dsimp only
    refine ⟨sc, p, q, s, ps, qq, rfl, hs.mono (hle3.trans ley), hp.mono (hle3.trans ley), rq, λ sl h5 le5 _ => aB (λ e => ?_) (λ e => ?_)⟩
    . exact hK a2 qa my h5 ((hle3.trans ley).trans le5) ((ra3.mono ley).mono le5) qaw qa0 oy (cy.mono le5)
    . exact hK q qq my h5 ((hle3.trans ley).trans le5) (rq.mono le5) rqw (by simpa using e) oy (cy.mono le5)
def Ie (q : Query) : Prop :=
 match q with
 | .mk op _ _ _ _ _ _ _ args => (args.length : Int) = arity op /\ ∀ a ∈ args, Ie a
 termination_by SizeOf.sizeOf q
theorem MQ {op : Int} {on : List (Int × Int)} {args : List Query} :
 Ie (.mk op ta w co on gr od li args) ↔ (args.length : Int) = arity op /\ ∀ a ∈ args, Ie a := by rw [Ie.eq_def]
theorem AX (op : Int) : arity op <= 2 := by
 unfold arity
 repeat' split
 all_goals omega
theorem IB {x : Step} (h : keyOf x = keyOf t) : x.op = t.op /\ x.left = t.left /\ x.right = t.right := by
 simp only [keyOf, KV.mk.injEq] at h
 exact ⟨h.1, h.2.2.2.1, h.2.2.2.2.1⟩
theorem zG {ts' : List Step} (hn : (ts.map keyOf).Nodup) (h : Ig t ts ts' k) : (ts'.map keyOf).Nodup /\ ts <+: ts' := by
 rcases h with ⟨_, _, _, rfl⟩ | ⟨hno, rfl, _⟩
 . exact ⟨hn, List.prefix_refl _⟩
 . refine ⟨?_, List.prefix_append _ _⟩
   rw [List.map_append, List.nodup_append]
   refine ⟨hn, by simp, λ a ha b hb => ?_⟩
   obtain ⟨x, hx, rfl⟩ := List.mem_map.1 ha
   simp at hb
   rw [hb]; exact hno x hx
theorem sC : ∀ (q : Query) {ts ts' : List Step} {k : Nat}, (ts.map keyOf).Nodup -> xI q ts ts' k -> (ts'.map keyOf).Nodup /\ ts <+: ts'
 | .mk op ta w co on gr od li args, ts, ts', k, hn, h => by
  rw [rA] at h
  obtain ⟨ts1, l, ts2, r, h1, h2, h3⟩ := h
  match args, h1, h2 with
  | [], h1, h2 =>
   obtain ⟨rfl, rfl⟩ := h1
   obtain ⟨rfl, rfl⟩ := h2
   exact zG hn h3
  | [a], h1, h2 =>
   obtain ⟨rfl, rfl⟩ := h2
   obtain ⟨n1, p1⟩ := sC a hn h1
   obtain ⟨n2, p2⟩ := zG n1 h3
   exact ⟨n2, p1.trans p2⟩
  | a :: b :: rest, h1, h2 =>
   obtain ⟨n1, p1⟩ := sC a hn h1
   obtain ⟨n2, p2⟩ := sC b n1 h2
   obtain ⟨n3, p3⟩ := zG n2 h3
   exact ⟨n3, (p1.trans p2).trans p3⟩
theorem Dn {α : Type} {l l' : List α} (h : l <+: l') {x : α} (hx : l[i]? = some x) : l'[i]? = some x := by
 obtain ⟨r, rfl⟩ := h
 rw [List.getElem?_append_left (List.getElem?_eq_some_iff.1 hx).1]; exact hx
theorem Qy (hn : (ts.map keyOf).Nodup) {j : Nat} {x y : Step} (hx : ts[i]? = some x) (hy : ts[j]? = some y) (e : keyOf x = keyOf y) : i = j := by
 have hi := (List.getElem?_eq_some_iff.1 hx)
 have hj := (List.getElem?_eq_some_iff.1 hy)
 obtain ⟨hi, ex⟩ := hi
 obtain ⟨hj, ey⟩ := hj
 have h1 : (ts.map keyOf)[i]'(by simpa using hi) = (ts.map keyOf)[j]'(by simpa using hj) := by simp [ex, ey, e]
 exact (List.getElem_inj hn).1 h1
theorem again : ∀ (q : Query) {ts ts' tt t3 : List Step} {k k3 : Nat}, (ts.map keyOf).Nodup -> xI q ts ts' k -> ts' <+: tt -> (tt.map keyOf).Nodup -> xI q tt t3 k3 -> t3 = tt /\ k3 = k
 | .mk op ta w co on gr od li args, ts, ts', tt, t3, k, k3, hn, h, hp, hnt, g => by
  rw [rA] at h g
  obtain ⟨ts1, l, ts2, r, h1, h2, h3⟩ := h
  obtain ⟨us1, l', us2, r', g1, g2, g3⟩ := g
  have key : ∀ (ts2 : List Step) (l r : Nat), (ts2.map keyOf).Nodup -> Ig ⟨op, ta, w, co, on, gr, od, li, (l : Nat), (r : Nat)⟩ ts2 ts' k -> Ig ⟨op, ta, w, co, on, gr, od, li, (l : Nat), (r : Nat)⟩ tt t3 k3 -> t3 = tt /\ k3 = k := by
   intro ts2 l r hn2 h3 g3
   have hx : ∃ x, ts'[k]? = some x /\ keyOf x = keyOf ⟨op, ta, w, co, on, gr, od, li, (l : Nat), (r : Nat)⟩ := by
    rcases h3 with ⟨x, hx, e, rfl⟩ | ⟨_, rfl, rfl⟩
    . exact ⟨x, hx, e⟩
    . exact ⟨_, by simp, rfl⟩
   obtain ⟨x, hx, e⟩ := hx
   have hx' := Dn hp hx
   rcases g3 with ⟨y, hy, e', rfl⟩ | ⟨hno, _, _⟩
   . exact ⟨rfl, Qy hnt hy hx' (e'.trans e.symm)⟩
   . exact (hno x (List.mem_of_getElem? hx') e).elim
  match args, h1, h2, g1, g2 with
  | [], h1, h2, g1, g2 =>
   obtain ⟨rfl, rfl⟩ := h1
   obtain ⟨rfl, rfl⟩ := h2
   obtain ⟨rfl, rfl⟩ := g1
   obtain ⟨rfl, rfl⟩ := g2
   exact key _ _ _ hn h3 g3
  | [a], h1, h2, g1, g2 =>
   obtain ⟨rfl, rfl⟩ := h2
   obtain ⟨rfl, rfl⟩ := g2
   obtain ⟨n1, p1⟩ := sC a hn h1
   obtain ⟨n2, p2⟩ := zG n1 h3
   obtain ⟨rfl, rfl⟩ := again a hn h1 (p2.trans hp) hnt g1
   exact key _ _ _ n1 h3 g3
  | a :: b :: rest, h1, h2, g1, g2 =>
   obtain ⟨n1, p1⟩ := sC a hn h1
   obtain ⟨n2, p2⟩ := sC b n1 h2
   obtain ⟨n3, p3⟩ := zG n2 h3
   obtain ⟨rfl, rfl⟩ := again a hn h1 ((p2.trans p3).trans hp) hnt g1
   obtain ⟨rfl, rfl⟩ := again b n1 h2 (p3.trans hp) hnt g2
   exact key _ _ _ n2 h3 g3
theorem EJ : ∀ (n : Nat) {l : List Nat}, l.Nodup -> (∀ x ∈ l, x < n) -> l.length <= n
 | 0, l, _, h => by
  cases l with
  | nil => simp
  | cons x l => have := h x (by simp); omega
 | n + 1, l, hn, h => by
  by_cases hm : n ∈ l
  . have h1 := List.length_erase_of_mem hm
    have h2 := EJ n (hn.erase n) (λ x hx => by
     have h3 := (hn.mem_erase_iff).1 hx
     have := h x h3.2
     have := h3.1
     omega)
    have := List.length_pos_of_mem hm
    omega
  . have := EJ n hn (λ x hx => by
     have h1 := h x hx
     have : x ≠ n := λ e => hm (by rw [<- e]; exact hx)
     omega)
    omega
theorem Lu {α : Type} {T : List α -> α -> Prop} {l : List α} {f : α -> Int} {n : Nat} (h : Good T l) (hin : ∀ pre x, T pre x -> 0 <= f x /\ f x < n) (hd : ∀ pre x, T pre x -> ∀ y ∈ pre, f y ≠ f x) : l.length <= n := by
 have h1 : (l.map λ x => (f x).toNat).Nodup := by
  rw [List.nodup_iff_pairwise_ne, List.pairwise_iff_getElem]
  intro i j hi hj hij
  simp only [List.length_map] at hi hj
  simp only [List.getElem_map]
  have ti := h i l[i] (List.getElem?_eq_getElem hi)
  have tj := h j l[j] (List.getElem?_eq_getElem hj)
  have := hd _ _ tj l[i] (List.mem_take_iff_getElem.2 ⟨i, by omega, rfl⟩)
  have := hin _ _ ti
  have := hin _ _ tj
  omega
 have := EJ n h1 (λ x hx => by
  obtain ⟨y, hy, rfl⟩ := List.mem_map.1 hx
  obtain ⟨i, hi⟩ := List.mem_iff_getElem?.1 hy
  have := hin _ _ (h i y hi)
  omega)
 simpa using this
mutual
def Sy : Pred -> Prop
 | .mk _ _ l r args => l.value.text.size <= 64 /\ r.value.text.size <= 64 /\ Kv args
def Kv : List Pred -> Prop
 | [] => True
 | p :: ps => Sy p /\ Kv ps
end
theorem Lg (o : OV) (h : o.value.text.size <= 64) : (B0 o).length <= 200 := by
 have h1 := kM [o.kind, o.index]
 have h2 := kM [o.value.kind]
 have h3 := kM [(o.value.text.size : Int)]
 have h4 := kM [o.value.int]
 have h5 : iB [o.value.int] = j6 o.value.int ++ [32] := by unfold iB; rw [List.flatMap_cons, List.flatMap_nil, List.append_nil]
 rw [h5] at h4
 have h6 : o.value.text.data.toList.length = o.value.text.size := by rw [Array.length_toList]; rfl
 simp only [B0, F2, List.length_append, List.length_cons, List.length_nil] at *
 omega
mutual
theorem EI : ∀ p : Pred, Sy p -> ((kH p).length : Int) <= 1000 * F7 p
 | .mk op cmp l r args, h => by
  obtain ⟨h1, h2, h3⟩ := h
  have e1 := Lg l h1
  have e2 := Lg r h2
  have e3 := GU args h3
  have e4 := kM [op, cmp]
  have e5 := kM [(args.length : Int)]
  simp only [kH, F7, List.length_append, List.length_cons, List.length_nil] at *
  omega
theorem GU : ∀ ps : List Pred, Kv ps -> ((lA ps).length : Int) <= 1000 * zO ps
 | [], _ => by simp [lA, zO]
 | p :: ps, h => by
  have := EI p h.1
  have := GU ps h.2
  simp only [lA, zO, List.length_append]
  omega
end
theorem KS {t : ByteArray} (h : t.toList = (⟨#[]⟩ : ByteArray).toList) : t.size <= 64 := by rw [mN h]; decide
theorem Dq {t : ByteArray} (h : EL t = true) : t.size <= 64 := KS (by simp only [EL, beq_iff_eq] at h; rw [h, ByteArray.toList_eq])
theorem MG {v : VV} (h : Sn v zeroV = true) : v.text.size <= 64 := by
 simp only [Sn, Bool.and_eq_true, beq_iff_eq] at h
 exact KS h.2.2.1
theorem Eh {o : OV} (h : N3 o cR = true) : o.value.text.size <= 64 := by
 simp only [N3, Bool.and_eq_true, beq_iff_eq] at h
 exact MG h.2.2.1
theorem KN {v : VV} (h : AA v = true) : v.text.size <= 64 := by
 unfold AA at h
 split at h
 . simp only [Bool.and_eq_true] at h; exact Dq h.2
 . split at h
   . simp only [Bool.and_eq_true] at h; exact Dq h.2
   . split at h
     . exact Dq h
     . split at h
       . simp at h; omega
       . cases h
theorem F3 {o : OV} (h : qP l o ≠ 0) : o.value.text.size <= 64 := by
 unfold qP at h
 split at h
 . exact (h rfl).elim
 . rename_i h1
   simp only [Bool.or_eq_true, not_or, Bool.not_eq_true', Bool.not_eq_false] at h1
   exact MG h1.2
theorem FV {cols params : List Int} {o : OV} (h : kindOf cols params o ≠ 0) : o.value.text.size <= 64 := by
 unfold kindOf at h
 split at h
 . split at h
   . exact (h rfl).elim
   . rename_i h1
     simp only [Bool.or_eq_true, not_or, Bool.not_eq_true', Bool.not_eq_false, C6, Bool.and_eq_true] at h1
     exact KN h1.2.1
 . split at h
   . exact F3 h
   . split at h
     . exact F3 h
     . exact (h rfl).elim
mutual
theorem FA {cols params : List Int} : ∀ p : Pred, i6 cols params p = true -> Sy p
 | .mk op cmp l r args, h => by
  unfold i6 at h
  split at h
  . simp only [Bool.and_eq_true, Dp, beq_iff_eq] at h
    have : args = [] := List.eq_nil_of_length_eq_zero h.2
    subst this
    exact ⟨Eh h.1.1.2, Eh h.1.2, trivial⟩
  . split at h
    . simp only [Bool.and_eq_true, beq_iff_eq, bne_iff_ne, ne_eq, decide_eq_true_eq] at h
      have : args = [] := List.eq_nil_of_length_eq_zero h.1.1.1.1
      subst this
      exact ⟨FV h.1.2, FV (cols := cols) (params := params) (by rw [<- h.2]; exact h.1.2), trivial⟩
    . split at h
      . simp only [Bool.and_eq_true, Dp] at h
        exact ⟨Eh h.1.1.2, Eh h.1.2, DP args h.2⟩
      . cases h
theorem DP {cols params : List Int} : ∀ ps : List Pred, xR cols params ps = true -> Kv ps
 | [], _ => trivial
 | p :: ps, h => by
  simp only [xR, Bool.and_eq_true] at h
  exact ⟨FA p h.1, DP ps h.2⟩
end
theorem RZ {cols params : List Int} (h : fE cols params p = 0) : (kH p).length <= 1000000000 := by
 unfold fE at h
 split at h
 . cases h
 . split at h
   . cases h
   . rename_i h1
     split at h
     . cases h
     . rename_i h2
       have hv : i6 cols params p = true := by simpa using h2
       have hl := EI p (FA p hv)
       simp only [Bool.or_eq_true, not_or, decide_eq_true_eq] at h1
       have h3 := Cz p 0 (by omega)
       have : F7 p <= 24 := by
        by_cases h4 : (0 : Int) + F7 p <= 24
        . omega
        . have := h3.2 (by omega); omega
       omega
theorem RL : (kH gD).length <= 1000000000 := by
 have := EI gD ⟨by decide, by decide, trivial⟩
 have e : F7 gD = 1 := rfl
 omega
theorem Bt {s : oC} {ps : List Int} : ∀ (qs : List Query), ∀ k ∈ (jE s ps qs).1, k.length <= 12
 | [], k, h => by simp [jE] at h
 | q :: qs, k, h => by
  simp only [jE] at h
  split at h
  . split at h
    . simp only [List.mem_cons] at h
      rcases h with rfl | h
      . exact zC s ps q
      . exact Bt qs k h
    . simp at h
  . simp at h
theorem Lw (h : ∀ k ∈ ks, k.length <= 12) (j : Nat) : (ks.getD j []).length <= 12 := by
 rw [List.getD_eq_getElem?_getD]
 cases e : ks[j]? with
 | none => simp
 | some k => exact h k (List.mem_of_getElem? e)
theorem Dd {s : oC} {ps : List Int} : ∀ {qs : List Query} {ks : List (List Int)}, jE s ps qs = (ks, 0) -> ks.length = qs.length /\ ∀ q ∈ qs, (dH s ps q).2 = 0
 | [], ks, h => by simp [jE] at h; subst h; simp
 | q :: qs, ks, h => by
  simp only [jE] at h
  split at h
  . rename_i h1
    split at h
    . rename_i h2
      have e : jE s ps qs = ((jE s ps qs).1, 0) := Prod.ext rfl h2
      obtain ⟨h3, h4⟩ := Dd e
      simp only [Prod.mk.injEq] at h
      rw [<- h.1]
      refine ⟨by simp [h3], λ x hx => ?_⟩
      rcases List.mem_cons.1 hx with rfl | hx
      . exact h1
      . exact h4 x hx
    . rename_i h2; simp at h; exact (h2 h.2).elim
  . rename_i h1; simp at h; exact (h1 h.2).elim
theorem uI {op : Int} {on : List (Int × Int)} {args : List Query} (h : (dH s ps (.mk op ta w co on gr od li args)).2 = 0) :
 (∀ a ∈ args, (dH s ps a).2 = 0) /\ (args.length : Int) = arity op /\ ∃ a b, a.length <= 12 /\ b.length <= 12 /\ (fF s ps (.mk op ta w co on gr od li args) a b).2 = 0 := by
 simp only [dH] at h
 split at h
 . rename_i h1
   have e : jE s ps args = ((jE s ps args).1, 0) := Prod.ext rfl h1
   obtain ⟨h3, h4⟩ := Dd e
   split at h
   . rename_i h2
     refine ⟨h4, by rw [<- h3]; exact h2, _, _, ?_, ?_, h⟩
     . exact Lw (Bt args) 0
     . exact Lw (Bt args) 1
   . simp [eX] at h
 . rename_i h1; simp [eX] at h; exact (h1 h).elim
theorem R3 {op : Int} {on : List (Int × Int)} {args : List Query} {b : List Int} (ha : a.length <= 12) (h : (fF s ps (.mk op ta w co on gr od li args) a b).2 = 0) :
 HW ⟨op, ta, w, co, on, gr, od, li, 0, 0⟩ := by
 unfold fF at h
 dsimp only at h
 split at h
 . simp [eX] at h
 . rename_i h0
   rw [not_or] at h0
   have hu : dM (.mk op ta w co on gr od li args) := Classical.not_not.1 h0.2
   obtain ⟨_, u2, u3, u4, u5⟩ := hu
   have lim : ∀ l : List Int, (lH l).2 = 0 -> l.length <= 12 := λ l e => by
    unfold lH at e
    split at e
    . assumption
    . cases e
   have p1 : (kH w).length <= 1000000000 := by
    rcases u2 with rfl | rfl
    . simp only [show ¬ ((2 : Int) = 1) by decide, if_false, if_true] at h
      split at h
      . rename_i e; exact RZ e
      . rename_i e; simp [eX] at h; exact (e h).elim
    . exact RL
   have p2 : co.length <= 1000000000 := by
    rcases u3 with rfl | rfl
    . simp only [show ¬ ((3 : Int) = 1) by decide, show ¬ ((3 : Int) = 2) by decide, if_false, if_true] at h
      split at h
      . have := lim _ h; simp at this; omega
      . simp [eX] at h
    . simp
   have p3 : on.length <= 1000000000 := by
    have pig : Good (sO a b) on -> on.length <= 1000000000 := λ g => by
     have := Lu (f := λ p => p.1) (n := a.length) g (λ pre x t => by have := t.1; rw [eE] at this; exact this) (λ pre x t y hy => (t.2.2.2 y hy).1)
     omega
    rcases u4 with rfl | rfl | rfl
    . simp only [show ¬ ((4 : Int) = 1) by decide, show ¬ ((4 : Int) = 2) by decide, show ¬ ((4 : Int) = 3) by decide, if_false, if_true] at h
      split at h
      . rename_i e; exact pig e
      . simp [eX] at h
    . simp only [show ¬ ((5 : Int) = 1) by decide, show ¬ ((5 : Int) = 2) by decide, show ¬ ((5 : Int) = 3) by decide, show ¬ ((5 : Int) = 4) by decide, if_false, if_true] at h
      split at h
      . rename_i e; exact pig e
      . simp [eX] at h
    . simp
   have p4 : gr.length <= 1000000000 /\ od.length <= 1000000000 := by
    have pig : nF a gr od li -> gr.length <= 1000000000 /\ od.length <= 1000000000 := λ r => by
     have := Lu (f := λ p => p) (n := a.length) r.group_ (λ pre x t => by have := t.1; rw [eE] at this; exact this) (λ pre x t y hy e => t.2 (by rw [<- e]; exact hy))
     have := r.len_
     omega
    rcases u5 with rfl | rfl | ⟨rfl, rfl, _⟩
    . simp only [show ¬ ((9 : Int) = 1) by decide, show ¬ ((9 : Int) = 2) by decide, show ¬ ((9 : Int) = 3) by decide, show ¬ ((9 : Int) = 4) by decide, show ¬ ((9 : Int) = 5) by decide, if_false, if_true] at h
      split at h
      . rename_i e; exact pig e
      . simp [eX] at h
    . simp only [show ¬ ((10 : Int) = 1) by decide, show ¬ ((10 : Int) = 2) by decide, show ¬ ((10 : Int) = 3) by decide, show ¬ ((10 : Int) = 4) by decide, show ¬ ((10 : Int) = 5) by decide, show ¬ ((10 : Int) = 9) by decide, if_false, if_true] at h
      split at h
      . rename_i e; exact pig e.2
      . simp [eX] at h
    . simp
   exact ⟨p1, p2, p3, p4.1, p4.2⟩
theorem CF {s : oC} {ps : List Int} : ∀ q : Query, (dH s ps q).2 = 0 -> vI q /\ Ie q
 | .mk op ta w co on gr od li args, h => by
  obtain ⟨h1, h2, a, b, ha, _, h3⟩ := uI h
  rw [La, MQ]
  exact ⟨⟨R3 ha h3, λ q hq => (CF q (h1 q hq)).1⟩, h2, λ q hq => (CF q (h1 q hq)).2⟩
theorem zY (h : (dV s ps q).2 = 0) : cN s = 0 /\ ps.all dR = true /\ lK q = true /\ (dH s ps q).2 = 0 := by
 unfold dV at h
 split at h
 . rename_i h1
   split at h
   . rename_i h2
     split at h
     . rename_i h3; exact ⟨h1, h2, h3, h⟩
     . simp [eX] at h
   . simp [eX] at h
 . rename_i h1; simp [eX] at h; exact (h1 h).elim
theorem Qv (h : (dV s ps q).2 = 0) : vI q := (CF q (zY h).2.2.2).1
theorem RY (h : (dV s ps q).2 = 0) : Ie q := (CF q (zY h).2.2.2).2
theorem Kk : ∀ (u : Nat) (b : UInt8), b ∈ Lib.decDigits u -> 48 <= b.toNat /\ b.toNat <= 57 := by
 intro u
 induction u using Nat.strongRecOn with
 | _ u ih =>
  intro b hb
  rw [Lib.decDigits] at hb
  have one : ∀ k, k < 10 -> 48 <= (UInt8.ofNat (48 + k)).toNat /\ (UInt8.ofNat (48 + k)).toNat <= 57 := λ k hk => by
   rw [UInt8.toNat_ofNat']; omega
  split at hb
  . rename_i h
    rw [List.mem_singleton] at hb; subst hb; exact one u h
  . rcases List.mem_append.1 hb with h1 | h1
    . exact ih (u / 10) (by omega) b h1
    . rw [List.mem_singleton] at h1; subst h1; exact one (u % 10) (by omega)
theorem PT : ∀ (u v : Nat), Lib.decDigits u = Lib.decDigits v -> u = v := by
 intro u
 induction u using Nat.strongRecOn with
 | _ u ih =>
  intro v h
  have hl := congrArg List.length h
  rw [Lib.decDigits_length, Lib.decDigits_length] at hl
  have one : ∀ a b, a < 10 -> b < 10 -> UInt8.ofNat (48 + a) = UInt8.ofNat (48 + b) -> a = b := λ a b ha hb e => by
   have := congrArg UInt8.toNat e
   rw [UInt8.toNat_ofNat', UInt8.toNat_ofNat'] at this
   omega
  by_cases hu : u < 10
  . have hv : v < 10 := by
     apply Classical.byContradiction
     intro hv
     rw [Lib.nDigits_small hu, Lib.nDigits_big hv] at hl
     have := Lib.nDigits_pos (v / 10)
     omega
    rw [Lib.decDigits.eq_def u, Lib.decDigits.eq_def v, dif_pos hu, dif_pos hv] at h
    simp only [List.cons.injEq, and_true] at h
    exact one u v hu hv h
  . have hv : ¬ v < 10 := λ hv => by
     rw [Lib.nDigits_small hv, Lib.nDigits_big hu] at hl
     have := Lib.nDigits_pos (u / 10)
     omega
    rw [Lib.decDigits.eq_def u, Lib.decDigits.eq_def v, dif_neg hu, dif_neg hv] at h
    have h2 := List.append_inj' h rfl
    have h3 := ih (u / 10) (by omega) (v / 10) h2.1
    simp only [List.cons.injEq, and_true] at h2
    have h4 := one (u % 10) (v % 10) (by omega) (by omega) h2.2
    omega
theorem Qi {n : Int} (h0 : 0 <= n) (h1 : n < 18446744073709551616) : IntKind.u64.wrap n = n := by
 rw [IntKind.wrap_u64]; omega
theorem Qj {n : Int} (h0 : n < 0) (h1 : -9223372036854775808 <= n) : IntKind.u64.wrap (0 - IntKind.u64.wrap n) = -n := by
 rw [IntKind.wrap_u64, IntKind.wrap_u64]; omega
theorem AQ {n : Int} (h : wN n) (h0 : 0 <= n) : j6 n = Lib.decDigits n.toNat := by
 unfold j6
 rw [if_neg (by omega), Qi h0 (by have := h.2; omega)]
theorem AR {n : Int} (h : wN n) (h0 : n < 0) : j6 n = 45 :: Lib.decDigits (-n).toNat := by
 unfold j6
 rw [if_pos h0, Qj h0 h.1]
theorem IE {n : Int} (h : wN n) {b : UInt8} (hb : b ∈ j6 n) : b ≠ 32 := by
 intro e
 subst e
 by_cases h0 : 0 <= n
 . rw [AQ h h0] at hb
   have := Kk _ _ hb
   simp at this
 . rw [AR h (by omega)] at hb
   rcases List.mem_cons.1 hb with h1 | h1
   . cases h1
   . have := Kk _ _ h1
     simp at this
theorem QC {m n : Int} (hm : wN m) (hn : wN n) (h : j6 m = j6 n) : m = n := by
 have no45 : ∀ u r, Lib.decDigits u = 45 :: r -> False := λ u r e => by
  have := Kk u 45 (by rw [e]; simp)
  simp at this
 by_cases h0 : 0 <= m <;> by_cases h1 : 0 <= n
 . rw [AQ hm h0, AQ hn h1] at h
   have := PT _ _ h
   omega
 . rw [AQ hm h0, AR hn (by omega)] at h
   exact (no45 _ _ h).elim
 . rw [AR hm (by omega), AQ hn h1] at h
   exact (no45 _ _ h.symm).elim
 . rw [AR hm (by omega), AR hn (by omega)] at h
   have := PT _ _ (List.cons.inj h).2
   omega
theorem K2 {α : Type} {x : α} : ∀ {a b r r' : List α}, x ∉ a -> x ∉ b -> a ++ x :: r = b ++ x :: r' -> a = b /\ r = r'
 | [], [], r, r', _, _, h => ⟨rfl, (List.cons.inj h).2⟩
 | [], c :: b, r, r', _, hb, h => by
  have := (List.cons.inj h).1
  exact (hb (by rw [this]; simp)).elim
 | c :: a, [], r, r', ha, _, h => by
  have := (List.cons.inj h).1
  exact (ha (by rw [<- this]; simp)).elim
 | c :: a, d :: b, r, r', ha, hb, h => by
  have h1 := List.cons.inj h
  obtain ⟨e1, e2⟩ := K2 (λ m => ha (by simp [m])) (λ m => hb (by simp [m])) h1.2
  exact ⟨by rw [h1.1, e1], e2⟩
theorem nL (n : Int) (l : List Int) : iB (n :: l) = j6 n ++ 32 :: iB l := by unfold iB; rw [List.flatMap_cons, List.append_assoc]; rfl
theorem kI {m n : Int} {r r' : List UInt8} (hm : wN m) (hn : wN n) (h : j6 m ++ 32 :: r = j6 n ++ 32 :: r') : m = n /\ r = r' := by
 obtain ⟨h1, h2⟩ := K2 (λ hb => IE hm hb rfl) (λ hb => IE hn hb rfl) h
 exact ⟨QC hm hn h1, h2⟩
theorem CG (n : Int) (r : List UInt8) : j6 n ++ 32 :: r ≠ [] := by simp
theorem GZ : ∀ {l l' : List Int}, (∀ n ∈ l, wN n) -> (∀ n ∈ l', wN n) -> iB l = iB l' -> l = l'
 | [], [], _, _, _ => rfl
 | [], n :: l', _, _, h => by rw [nL] at h; exact (CG _ _ h.symm).elim
 | n :: l, [], _, _, h => by rw [nL] at h; exact (CG _ _ h).elim
 | n :: l, n' :: l', h1, h2, h => by
  rw [nL, nL] at h
  obtain ⟨e1, e2⟩ := kI (h1 n (by simp)) (h2 n' (by simp)) h
  rw [e1, GZ (λ x hx => h1 x (by simp [hx])) (λ x hx => h2 x (by simp [hx])) e2]
theorem zZ (p : Int × Int) (l : List (Int × Int)) : jN (p :: l) = j6 p.1 ++ 32 :: (j6 p.2 ++ 32 :: jN l) := by
 show iB [p.1, p.2] ++ jN l = _
 rw [nL, nL, List.append_assoc, List.cons_append, List.append_assoc]; rfl
theorem zW (p : Int × Bool) (l : List (Int × Bool)) : kL (p :: l) = j6 p.1 ++ 32 :: (j6 (if p.2 then 1 else 0) ++ 32 :: kL l) := by
 show iB [p.1, if p.2 then 1 else 0] ++ kL l = _
 rw [nL, nL, List.append_assoc, List.cons_append, List.append_assoc]; rfl
theorem GX : ∀ {l l' : List (Int × Int)}, (∀ p ∈ l, wN p.1 /\ wN p.2) -> (∀ p ∈ l', wN p.1 /\ wN p.2) -> jN l = jN l' -> l = l'
 | [], [], _, _, _ => rfl
 | [], p :: l', _, _, h => by rw [zZ] at h; exact (CG _ _ h.symm).elim
 | p :: l, [], _, _, h => by rw [zZ] at h; exact (CG _ _ h).elim
 | p :: l, p' :: l', h1, h2, h => by
  rw [zZ, zZ] at h
  obtain ⟨e1, e2⟩ := kI (h1 p (by simp)).1 (h2 p' (by simp)).1 h
  obtain ⟨e3, e4⟩ := kI (h1 p (by simp)).2 (h2 p' (by simp)).2 e2
  rw [Prod.ext e1 e3, GX (λ x hx => h1 x (by simp [hx])) (λ x hx => h2 x (by simp [hx])) e4]
theorem GH : ∀ {l l' : List (Int × Bool)}, (∀ p ∈ l, wN p.1) -> (∀ p ∈ l', wN p.1) -> kL l = kL l' -> l = l'
 | [], [], _, _, _ => rfl
 | [], p :: l', _, _, h => by rw [zW] at h; exact (CG _ _ h.symm).elim
 | p :: l, [], _, _, h => by rw [zW] at h; exact (CG _ _ h).elim
 | p :: l, p' :: l', h1, h2, h => by
  have ib : ∀ b : Bool, wN (if b = true then (1 : Int) else 0) := λ b => by cases b <;> exact ⟨by decide, by decide⟩
  rw [zW, zW] at h
  obtain ⟨e1, e2⟩ := kI (h1 p (by simp)) (h2 p' (by simp)) h
  obtain ⟨e3, e4⟩ := kI (ib p.2) (ib p'.2) e2
  have e5 : p.2 = p'.2 := by cases h5 : p.2 <;> cases h6 : p'.2 <;> simp_all
  rw [Prod.ext e1 e5, GH (λ x hx => h1 x (by simp [hx])) (λ x hx => h2 x (by simp [hx])) e4]
structure MZ (o : OV) : Prop where
 kind_ : wN o.kind
 index_ : wN o.index
 vkind_ : wN o.value.kind
 int_ : wN o.value.int
 text_ : o.value.text.size <= 64
mutual
def wV : Pred -> Prop
 | .mk op cmp l r args => wN op /\ wN cmp /\ MZ l /\ MZ r /\ args.length <= 1000000 /\ DF args
def DF : List Pred -> Prop
 | [] => True
 | p :: ps => wV p /\ DF ps
end
theorem Gp {n : Nat} (h : n <= 1000000) : wN (n : Int) := ⟨by omega, by omega⟩
theorem GY {o o' : OV} {r r' : List UInt8} (h1 : MZ o) (h2 : MZ o') (h : B0 o ++ r = B0 o' ++ r') : o = o' /\ r = r' := by
 have e0 : iB [] = [] := rfl
 simp only [B0, F2, nL, e0, List.append_assoc, List.cons_append, List.nil_append] at h
 obtain ⟨a1, h⟩ := kI h1.kind_ h2.kind_ h
 obtain ⟨a2, h⟩ := kI h1.index_ h2.index_ h
 obtain ⟨a3, h⟩ := kI h1.vkind_ h2.vkind_ h
 obtain ⟨a4, h⟩ := kI h1.int_ h2.int_ h
 obtain ⟨a5, h⟩ := kI (Gp (by have := h1.text_; omega)) (Gp (by have := h2.text_; omega)) h
 have a5 : o.value.text.size = o'.value.text.size := by omega
 obtain ⟨a6, a7⟩ := List.append_inj h (by rw [Array.length_toList, Array.length_toList]; exact a5)
 refine ⟨?_, a7⟩
 obtain ⟨k, i, ⟨vk, vi, vt⟩⟩ := o
 obtain ⟨k', i', ⟨vk', vi', vt'⟩⟩ := o'
 obtain ⟨vt⟩ := vt
 obtain ⟨vt'⟩ := vt'
 simp only at a1 a2 a3 a4 a6
 have a6 : vt = vt' := Array.toList_inj.1 a6
 subst a1 a2 a3 a4 a6
 rfl
mutual
theorem FO : ∀ {p p' : Pred} {r r' : List UInt8}, wV p -> wV p' -> kH p ++ r = kH p' ++ r' -> p = p' /\ r = r'
 | .mk op cmp l rr args, .mk op' cmp' l' rr' args', r, r', h1, h2, h => by
  obtain ⟨p1, p2, p3, p4, p5, p6⟩ := h1
  obtain ⟨q1, q2, q3, q4, q5, q6⟩ := h2
  have e0 : iB [] = [] := rfl
  simp only [kH, nL, e0, List.append_assoc, List.cons_append, List.nil_append] at h
  obtain ⟨a1, h⟩ := kI p1 q1 h
  obtain ⟨a2, h⟩ := kI p2 q2 h
  obtain ⟨a3, h⟩ := GY p3 q3 h
  obtain ⟨a4, h⟩ := GY p4 q4 h
  obtain ⟨a5, h⟩ := kI (Gp p5) (Gp q5) h
  obtain ⟨a6, hr⟩ := D0 p6 q6 (by omega) h
  subst a1 a2 a3 a4 a6
  exact ⟨rfl, hr⟩
theorem D0 : ∀ {ps ps' : List Pred} {r r' : List UInt8}, DF ps -> DF ps' -> ps.length = ps'.length -> lA ps ++ r = lA ps' ++ r' -> ps = ps' /\ r = r'
 | [], [], r, r', _, _, _, h => ⟨rfl, by simpa [lA] using h⟩
 | [], _ :: _, _, _, _, _, hl, _ => by simp at hl
 | _ :: _, [], _, _, _, _, hl, _ => by simp at hl
 | p :: ps, p' :: ps', r, r', h1, h2, hl, h => by
  simp only [lA, List.append_assoc] at h
  obtain ⟨a1, h⟩ := FO h1.1 h2.1 h
  obtain ⟨a2, hr⟩ := D0 h1.2 h2.2 (by simpa using hl) h
  subst a1 a2
  exact ⟨rfl, hr⟩
end
structure zH (t : Step) : Prop where
 wher : wV t.wher
 cols : ∀ n ∈ t.columns, wN n
 on_ : ∀ p ∈ t.on, wN p.1 /\ wN p.2
 group_ : ∀ n ∈ t.group, wN n
 order_ : ∀ p ∈ t.order, wN p.1
theorem key_inj {x : Step} (hx : zH x) (ht : zH t) (h : keyOf x = keyOf t) : x = t := by
 obtain ⟨op, ta, w, co, on, gr, od, li, le, ri⟩ := x
 obtain ⟨op', ta', w', co', on', gr', od', li', le', ri'⟩ := t
 simp only [keyOf, KV.mk.injEq, ByteArray.mk.injEq] at h
 obtain ⟨h1, h2, h3, h4, h5, h6, h7, h8, h9, h10⟩ := h
 have tol : ∀ {a b : List UInt8}, a.toArray = b.toArray -> a = b := λ e => by simpa using e
 have e6 := (FO (r := []) (r' := []) hx.wher ht.wher (by simpa using tol h6)).1
 have e7 := GZ hx.cols ht.cols (tol h7)
 have e8 := GX hx.on_ ht.on_ (tol h8)
 have e9 := GZ hx.group_ ht.group_ (tol h9)
 have e10 := GH hx.order_ ht.order_ (tol h10)
 simp only at e6 e7 e8 e9 e10
 subst h1 h2 h3 h4 h5 e6 e7 e8 e9 e10
 rfl
theorem jW {n : Int} (h0 : -1000000 <= n) (h1 : n <= 1000000) : wN n := ⟨by omega, by omega⟩
theorem FX : wN 0 := ⟨by decide, by decide⟩
theorem pN : MZ cR := ⟨FX, FX, FX, FX, by decide⟩
theorem Sm {v : VV} (h : Sn v zeroV = true) : v = zeroV := PQ.1 h
theorem MP {o : OV} (h : qP l o ≠ 0) (hl : l.length <= 1000000) (hk : wN o.kind) : MZ o := by
 unfold qP at h
 split at h
 . exact (h rfl).elim
 . rename_i h1
   simp only [Bool.or_eq_true, not_or, Bool.not_eq_true', Bool.not_eq_false, decide_eq_true_eq] at h1
   have e := Sm h1.2
   refine ⟨hk, jW (by omega) (by omega), ?_, ?_, ?_⟩
   all_goals rw [e]
   . exact pN.vkind_
   . exact pN.int_
   . exact pN.text_
theorem Lo {cols params : List Int} {o : OV} (h : kindOf cols params o ≠ 0) (hc : cols.length <= 1000000) (hp : params.length <= 1000000) (hv : xG o.value) : MZ o := by
 unfold kindOf at h
 split at h
 . rename_i hk
   have hk : o.kind = 3 := by simpa using hk
   split at h
   . exact (h rfl).elim
   . rename_i h1
     simp only [Bool.or_eq_true, not_or, Bool.not_eq_true', Bool.not_eq_false, bne_iff_ne, ne_eq, Classical.not_not, C6, Bool.and_eq_true, decide_eq_true_eq] at h1
     refine ⟨jW (by omega) (by omega), jW (by omega) (by omega), ?_, hv.int_, hv.text_⟩
     have h2 := h1.2.1
     unfold AA at h2
     split at h2
     . rename_i e; simp at e; exact jW (by omega) (by omega)
     . split at h2
       . rename_i e; simp at e; exact jW (by omega) (by omega)
       . split at h2
         . rename_i e; simp at e; exact jW (by omega) (by omega)
         . split at h2
           . rename_i e; simp at e; exact jW (by omega) (by omega)
           . cases h2
 . split at h
   . rename_i hk; simp at hk; exact MP h hp (jW (by omega) (by omega))
   . split at h
     . rename_i hk; simp at hk; exact MP h hc (jW (by omega) (by omega))
     . exact (h rfl).elim
theorem BV : ∀ ps : List Pred, (ps.length : Int) <= zO ps
 | [] => by simp [zO]
 | p :: ps => by
  have := BV ps
  have : 1 <= F7 p := by cases p; rename_i a; have := BV a; simp only [F7]; omega
  simp only [zO, List.length_cons]; omega
theorem S6 (p : Pred) : 1 <= F7 p := by cases p; rename_i a; have := BV a; simp only [F7]; omega
mutual
theorem KO {cols params : List Int} (hc : cols.length <= 1000000) (hp : params.length <= 1000000) : ∀ p : Pred, i6 cols params p = true -> pI p -> F7 p <= 1000 -> wV p
 | .mk op cmp l r args, h, w, hs => by
  have hl := BV args
  simp only [F7] at hs
  unfold i6 at h
  split at h
  . rename_i e
    simp only [Bool.and_eq_true, Dp, beq_iff_eq] at h
    have : args = [] := List.eq_nil_of_length_eq_zero h.2
    subst this
    have e1 := mA.1 h.1.1.2
    have e2 := mA.1 h.1.2
    subst e1 e2
    have ho : op = 1 \/ op = 2 := by simpa using e
    exact ⟨jW (by omega) (by omega), by rw [h.1.1.1]; exact FX, pN, pN, by simp, trivial⟩
  . split at h
    . rename_i e
      simp only [Bool.and_eq_true, beq_iff_eq, bne_iff_ne, ne_eq, decide_eq_true_eq] at h
      have : args = [] := List.eq_nil_of_length_eq_zero h.1.1.1.1
      subst this
      have ho : op = 3 := by simpa using e
      exact ⟨jW (by omega) (by omega), jW (by omega) (by omega), Lo h.1.2 hc hp w.1, Lo (cols := cols) (params := params) (by rw [<- h.2]; exact h.1.2) hc hp w.2.1, by simp, trivial⟩
    . split at h
      . rename_i e
        simp only [Bool.and_eq_true, Dp, beq_iff_eq] at h
        have e1 := mA.1 h.1.1.2
        have e2 := mA.1 h.1.2
        subst e1 e2
        have ho : op = 4 \/ op = 5 \/ op = 6 := by
         simp only [Bool.or_eq_true, Bool.and_eq_true, beq_iff_eq] at e
         omega
        exact ⟨jW (by omega) (by omega), by rw [h.1.1.1]; exact FX, pN, pN, by omega, Im hc hp args h.2 w.2.2 (by omega)⟩
      . cases h
theorem Im {cols params : List Int} (hc : cols.length <= 1000000) (hp : params.length <= 1000000) : ∀ ps : List Pred, xR cols params ps = true -> BF ps -> zO ps <= 1000 -> DF ps
 | [], _, _, _ => trivial
 | p :: ps, h, w, hs => by
  simp only [xR, Bool.and_eq_true] at h
  have h1 := S6 p
  have h2 := BV ps
  simp only [zO] at hs
  exact ⟨KO hc hp p h.1 w.1 (by omega), Im hc hp ps h.2 w.2 (by omega)⟩
end
theorem UW {cols params : List Int} (h : fE cols params p = 0) (hc : cols.length <= 1000000) (hp : params.length <= 1000000) (w : pI p) : wV p := by
 unfold fE at h
 split at h
 . cases h
 . split at h
   . cases h
   . rename_i h1
     split at h
     . cases h
     . rename_i h2
       have hv : i6 cols params p = true := by simpa using h2
       simp only [Bool.or_eq_true, not_or, decide_eq_true_eq] at h1
       have h3 := Cz p 0 (by omega)
       have : F7 p <= 24 := by
        by_cases h4 : (0 : Int) + F7 p <= 24
        . omega
        . have := h3.2 (by omega); omega
       exact KO hc hp p hv w (by omega)
theorem UO : wV gD := ⟨FX, FX, pN, pN, by decide, trivial⟩
def SL : Query -> Prop
 | .mk _ _ w co on gr od _ _ => wV w /\ (∀ n ∈ co, wN n) /\ (∀ p ∈ on, wN p.1 /\ wN p.2) /\ (∀ n ∈ gr, wN n) /\ ∀ p ∈ od, wN p.1
def QI (q : Query) : Prop :=
 match q with
 | .mk op ta w co on gr od li args => SL (.mk op ta w co on gr od li []) /\ ∀ a ∈ args, QI a
 termination_by SizeOf.sizeOf q
theorem GR {op : Int} {on : List (Int × Int)} {args : List Query} :
 QI (.mk op ta w co on gr od li args) ↔ SL (.mk op ta w co on gr od li []) /\ ∀ a ∈ args, QI a := by rw [QI.eq_def]
theorem D8 {α : Type} {T : List α -> α -> Prop} {l : List α} {P : α -> Prop} (h : Good T l) (hT : ∀ pre x, T pre x -> P x) : ∀ x ∈ l, P x := λ x hx => by
 obtain ⟨j, hj⟩ := List.mem_iff_getElem?.1 hx
 exact hT _ _ (h j x hj)
theorem Ls {n : Int} (hl : l.length <= 1000) (h : Df l n = true) : wN n := by
 have := eE.1 h
 exact jW (by omega) (by omega)
theorem UX {op : Int} {on : List (Int × Int)} {args : List Query} {b : List Int} (ha : a.length <= 12) (hb : b.length <= 12) (hps : ps.length <= 1000) (hw : pI w) (h : (fF s ps (.mk op ta w co on gr od li args) a b).2 = 0) :
 SL (.mk op ta w co on gr od li []) := by
 unfold fF at h
 dsimp only at h
 split at h
 . simp [eX] at h
 . rename_i h0
   rw [not_or] at h0
   have hu : dM (.mk op ta w co on gr od li args) := Classical.not_not.1 h0.2
   obtain ⟨_, u2, u3, u4, u5⟩ := hu
   have p1 : wV w := by
    rcases u2 with rfl | rfl
    . simp only [show ¬ ((2 : Int) = 1) by decide, if_false, if_true] at h
      split at h
      . rename_i e; exact UW e (by omega) (by omega) hw
      . rename_i e; simp [eX] at h; exact (e h).elim
    . exact UO
   have p2 : ∀ n ∈ co, wN n := by
    rcases u3 with rfl | rfl
    . simp only [show ¬ ((3 : Int) = 1) by decide, show ¬ ((3 : Int) = 2) by decide, if_false, if_true] at h
      split at h
      . rename_i e; exact D8 e.2 λ pre x t => Ls (by omega) t
      . simp [eX] at h
    . intro n hn; cases hn
   have p3 : ∀ p ∈ on, wN p.1 /\ wN p.2 := by
    have pig : Good (sO a b) on -> ∀ p ∈ on, wN p.1 /\ wN p.2 := λ g => D8 g λ pre x t => ⟨Ls (by omega) t.1, Ls (by omega) t.2.1⟩
    rcases u4 with rfl | rfl | rfl
    . simp only [show ¬ ((4 : Int) = 1) by decide, show ¬ ((4 : Int) = 2) by decide, show ¬ ((4 : Int) = 3) by decide, if_false, if_true] at h
      split at h
      . rename_i e; exact pig e
      . simp [eX] at h
    . simp only [show ¬ ((5 : Int) = 1) by decide, show ¬ ((5 : Int) = 2) by decide, show ¬ ((5 : Int) = 3) by decide, show ¬ ((5 : Int) = 4) by decide, if_false, if_true] at h
      split at h
      . rename_i e; exact pig e
      . simp [eX] at h
    . intro n hn; cases hn
   have p4 : (∀ n ∈ gr, wN n) /\ ∀ p ∈ od, wN p.1 := by
    have pig : nF a gr od li -> (∀ n ∈ gr, wN n) /\ ∀ p ∈ od, wN p.1 := λ r => ⟨D8 r.group_ λ pre x t => Ls (by omega) t.1, D8 r.order_ λ pre x t => Ls (by omega) t⟩
    rcases u5 with rfl | rfl | ⟨rfl, rfl, _⟩
    . simp only [show ¬ ((9 : Int) = 1) by decide, show ¬ ((9 : Int) = 2) by decide, show ¬ ((9 : Int) = 3) by decide, show ¬ ((9 : Int) = 4) by decide, show ¬ ((9 : Int) = 5) by decide, if_false, if_true] at h
      split at h
      . rename_i e; exact pig e
      . simp [eX] at h
    . simp only [show ¬ ((10 : Int) = 1) by decide, show ¬ ((10 : Int) = 2) by decide, show ¬ ((10 : Int) = 3) by decide, show ¬ ((10 : Int) = 4) by decide, show ¬ ((10 : Int) = 5) by decide, show ¬ ((10 : Int) = 9) by decide, if_false, if_true] at h
      split at h
      . rename_i e; exact pig e.2
      . simp [eX] at h
    . exact ⟨λ n hn => (by cases hn), λ n hn => (by cases hn)⟩
   exact ⟨p1, p2, p3, p4.1, p4.2⟩
theorem Ow {s : oC} {ps : List Int} (hps : ps.length <= 1000) : ∀ q : Query, (dH s ps q).2 = 0 -> QW q -> QI q
 | .mk op ta w co on gr od li args, h, hw => by
  obtain ⟨h1, h2, a, b, ha, hb, h3⟩ := uI h
  rw [JT] at hw
  rw [GR]
  exact ⟨UX ha hb hps hw.1 h3, λ q hq => Ow hps q (h1 q hq) (hw.2 q hq)⟩
end Go.Ps
