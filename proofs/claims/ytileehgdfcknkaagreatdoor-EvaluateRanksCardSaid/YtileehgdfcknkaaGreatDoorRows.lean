/-
  NARROWER THAN 'FOR EVERY INPUT', by the rows' own cells (each row's printed sentence says how): EvaluateRows: loops, laid · EvaluateSets: laid · EvaluateFilters: laid · EvaluateRanks: laid · EvaluateJoins: laid · EvaluateProjects: laid · EvaluateScans: laid · EvaluateGrows: laid.
  DERIVED. THE GIVEN ROWS OF THIS SEAT. 8 by the template 'for every input the law returns true; each argument reads behind the call as it read before'; 0 by the template 'total and deterministic' (their statements: YtileehgdfcknkaaGreatDoorTotals.lean).
  GIVEN WITH THE SEED: the statements are not yours to turn. If you find one false, say at which input.
  Laid BY PROGRAM, IN A SANDBOX (cutbox-rows.mjs): the forced cells as the released guide's own fill.sh prints them over the translation 3568c6a9e6028e4e… (all of the seat's roots in one cut). By AI agents, Wed Nov 11 2026. No macro, syntax, notation, axiom, sorry.
-/
import Derived.Test.YtileehgdfcknkaaGreatDoorChecked
import GoSem.Claim
import GoSem.ClaimJoined
import GoSem.ClaimMapViews
import Derived.JoinedTies
import Derived.KernelRfl
namespace Go.Proofs.YtileehgdfcknkaaGreatDoor
/- THE CELL 'sum', in the pinned program and in every row, IS THE sha256 OF THE DUMP (.gsa) THAT YtileehgdfcknkaaGreatDoorProg.lean LOADS. Nothing in Lean hashes anything: it is a label: what it is worth is what the hold of that sum in a sandbox is worth. -/
noncomputable def Tryz.pinned : Pinned := { name := "ytileehgdfcknkaagreatdoor", sum := "3568c6a9e6028e4ec788d734913ac4b6f2769abfe23d9d5cff9142ffbf4c32e5", checked := Tryz.checked }
namespace Rows
def none {H : Type} : Left H := { results := [], args := [] }

/- WHAT THE LISTED PACKAGE-LEVEL VARIABLES READ AS WHEN THE CALL BEGINS. Each datum BY PROGRAM (the guide's laid-datum.mjs) off the statement by which the dump's own 'gosem.cut.vars' lays the variable. In a bare row this is a premise. The card (YtileehgdfcknkaaGreatDoorCards.lean) ties it to the program's text. -/
def laid_math_bits_deBruijn32tab {H : Type} : DataW H := .agg [.lit (.int .u8 0), .lit (.int .u8 1), .lit (.int .u8 28), .lit (.int .u8 2), .lit (.int .u8 29), .lit (.int .u8 14), .lit (.int .u8 24), .lit (.int .u8 3), .lit (.int .u8 30), .lit (.int .u8 22), .lit (.int .u8 20), .lit (.int .u8 15), .lit (.int .u8 25), .lit (.int .u8 17), .lit (.int .u8 4), .lit (.int .u8 8), .lit (.int .u8 31), .lit (.int .u8 27), .lit (.int .u8 13), .lit (.int .u8 23), .lit (.int .u8 21), .lit (.int .u8 19), .lit (.int .u8 16), .lit (.int .u8 7), .lit (.int .u8 26), .lit (.int .u8 12), .lit (.int .u8 18), .lit (.int .u8 6), .lit (.int .u8 11), .lit (.int .u8 5), .lit (.int .u8 10), .lit (.int .u8 9)]
def laid_math_bits_deBruijn64tab {H : Type} : DataW H := .agg [.lit (.int .u8 0), .lit (.int .u8 1), .lit (.int .u8 56), .lit (.int .u8 2), .lit (.int .u8 57), .lit (.int .u8 49), .lit (.int .u8 28), .lit (.int .u8 3), .lit (.int .u8 61), .lit (.int .u8 58), .lit (.int .u8 42), .lit (.int .u8 50), .lit (.int .u8 38), .lit (.int .u8 29), .lit (.int .u8 17), .lit (.int .u8 4), .lit (.int .u8 62), .lit (.int .u8 47), .lit (.int .u8 59), .lit (.int .u8 36), .lit (.int .u8 45), .lit (.int .u8 43), .lit (.int .u8 51), .lit (.int .u8 22), .lit (.int .u8 53), .lit (.int .u8 39), .lit (.int .u8 33), .lit (.int .u8 30), .lit (.int .u8 24), .lit (.int .u8 18), .lit (.int .u8 12), .lit (.int .u8 5), .lit (.int .u8 63), .lit (.int .u8 55), .lit (.int .u8 48), .lit (.int .u8 27), .lit (.int .u8 60), .lit (.int .u8 41), .lit (.int .u8 37), .lit (.int .u8 16), .lit (.int .u8 46), .lit (.int .u8 35), .lit (.int .u8 44), .lit (.int .u8 21), .lit (.int .u8 52), .lit (.int .u8 32), .lit (.int .u8 23), .lit (.int .u8 11), .lit (.int .u8 54), .lit (.int .u8 26), .lit (.int .u8 40), .lit (.int .u8 15), .lit (.int .u8 34), .lit (.int .u8 20), .lit (.int .u8 31), .lit (.int .u8 10), .lit (.int .u8 25), .lit (.int .u8 14), .lit (.int .u8 19), .lit (.int .u8 9), .lit (.int .u8 13), .lit (.int .u8 8), .lit (.int .u8 7), .lit (.int .u8 6)]
def laid_internal_strconv_uint64pow10 {H : Type} : DataW H := .agg [.lit (.int .u64 1), .lit (.int .u64 10), .lit (.int .u64 100), .lit (.int .u64 1000), .lit (.int .u64 10000), .lit (.int .u64 100000), .lit (.int .u64 1000000), .lit (.int .u64 10000000), .lit (.int .u64 100000000), .lit (.int .u64 1000000000), .lit (.int .u64 10000000000), .lit (.int .u64 100000000000), .lit (.int .u64 1000000000000), .lit (.int .u64 10000000000000), .lit (.int .u64 100000000000000), .lit (.int .u64 1000000000000000), .lit (.int .u64 10000000000000000), .lit (.int .u64 100000000000000000), .lit (.int .u64 1000000000000000000), .lit (.int .u64 10000000000000000000)]

/-- 'partsynclaw11.EvaluateRows': WHATEVER THE INPUT: true; the input reads as it did. -/
def evaluateRowsSpec : ChangeSpec := { name := "evaluateRows", fn := fun _ => fun
  | [d1, d2, d3] => { results := [.lit (.bool true)], args := [d1, d2, d3] }
  | _ => none }
def evaluateRowsRow : OpenClaim := { program := "ytileehgdfcknkaagreatdoor", sum := "3568c6a9e6028e4ec788d734913ac4b6f2769abfe23d9d5cff9142ffbf4c32e5", func := "partsync/partsynclaw11.EvaluateRows", spec := "evaluateRows", inPlace := ["internal/bytealg.abigen_runtime_cmpstring"], unfollowed := true, recurses := true, named := ["internal/strconv.uint64pow10", "math/bits.deBruijn32tab", "math/bits.deBruijn64tab"], loops := true, apart := false, laid := [("math/bits.deBruijn32tab", laid_math_bits_deBruijn32tab), ("math/bits.deBruijn64tab", laid_math_bits_deBruijn64tab), ("internal/strconv.uint64pow10", laid_internal_strconv_uint64pow10)] }
def EvaluateRowsSaid : Prop := evaluateRowsRow.holds Tryz.pinned (OpenSpec.ofChange evaluateRowsSpec)

/-- ITS FALSE NEIGHBOUR: 'it returns false'. Refute it at one input. -/
def evaluateRowsWrong : ChangeSpec := { name := "evaluateRows", fn := fun _ => fun
  | [d1, d2, d3] => { results := [.lit (.bool false)], args := [d1, d2, d3] }
  | _ => none }
def EvaluateRowsWrongFalsely : Prop := evaluateRowsRow.holds Tryz.pinned (OpenSpec.ofChange evaluateRowsWrong)

/-- 'partsynclaw11.EvaluateSets': WHATEVER THE INPUT: true; the input reads as it did. -/
def evaluateSetsSpec : ChangeSpec := { name := "evaluateSets", fn := fun _ => fun
  | [d] => { results := [.lit (.bool true)], args := [d] }
  | _ => none }
def evaluateSetsRow : OpenClaim := { program := "ytileehgdfcknkaagreatdoor", sum := "3568c6a9e6028e4ec788d734913ac4b6f2769abfe23d9d5cff9142ffbf4c32e5", func := "partsync/partsynclaw11.EvaluateSets", spec := "evaluateSets", inPlace := ["internal/bytealg.abigen_runtime_cmpstring"], unfollowed := true, recurses := true, named := ["internal/strconv.uint64pow10", "math/bits.deBruijn32tab", "math/bits.deBruijn64tab"], apart := false, laid := [("math/bits.deBruijn32tab", laid_math_bits_deBruijn32tab), ("math/bits.deBruijn64tab", laid_math_bits_deBruijn64tab), ("internal/strconv.uint64pow10", laid_internal_strconv_uint64pow10)] }
def EvaluateSetsSaid : Prop := evaluateSetsRow.holds Tryz.pinned (OpenSpec.ofChange evaluateSetsSpec)

/-- ITS FALSE NEIGHBOUR: 'it returns false'. Refute it at one input. -/
def evaluateSetsWrong : ChangeSpec := { name := "evaluateSets", fn := fun _ => fun
  | [d] => { results := [.lit (.bool false)], args := [d] }
  | _ => none }
def EvaluateSetsWrongFalsely : Prop := evaluateSetsRow.holds Tryz.pinned (OpenSpec.ofChange evaluateSetsWrong)

/-- 'partsynclaw11.EvaluateFilters': WHATEVER THE INPUT: true; the input reads as it did. -/
def evaluateFiltersSpec : ChangeSpec := { name := "evaluateFilters", fn := fun _ => fun
  | [d] => { results := [.lit (.bool true)], args := [d] }
  | _ => none }
def evaluateFiltersRow : OpenClaim := { program := "ytileehgdfcknkaagreatdoor", sum := "3568c6a9e6028e4ec788d734913ac4b6f2769abfe23d9d5cff9142ffbf4c32e5", func := "partsync/partsynclaw11.EvaluateFilters", spec := "evaluateFilters", inPlace := ["internal/bytealg.abigen_runtime_cmpstring"], unfollowed := true, recurses := true, named := ["internal/strconv.uint64pow10", "math/bits.deBruijn32tab", "math/bits.deBruijn64tab"], apart := false, laid := [("math/bits.deBruijn32tab", laid_math_bits_deBruijn32tab), ("math/bits.deBruijn64tab", laid_math_bits_deBruijn64tab), ("internal/strconv.uint64pow10", laid_internal_strconv_uint64pow10)] }
def EvaluateFiltersSaid : Prop := evaluateFiltersRow.holds Tryz.pinned (OpenSpec.ofChange evaluateFiltersSpec)

/-- ITS FALSE NEIGHBOUR: 'it returns false'. Refute it at one input. -/
def evaluateFiltersWrong : ChangeSpec := { name := "evaluateFilters", fn := fun _ => fun
  | [d] => { results := [.lit (.bool false)], args := [d] }
  | _ => none }
def EvaluateFiltersWrongFalsely : Prop := evaluateFiltersRow.holds Tryz.pinned (OpenSpec.ofChange evaluateFiltersWrong)

/-- 'partsynclaw11.EvaluateRanks': WHATEVER THE INPUT: true; the input reads as it did. -/
def evaluateRanksSpec : ChangeSpec := { name := "evaluateRanks", fn := fun _ => fun
  | [d] => { results := [.lit (.bool true)], args := [d] }
  | _ => none }
def evaluateRanksRow : OpenClaim := { program := "ytileehgdfcknkaagreatdoor", sum := "3568c6a9e6028e4ec788d734913ac4b6f2769abfe23d9d5cff9142ffbf4c32e5", func := "partsync/partsynclaw11.EvaluateRanks", spec := "evaluateRanks", inPlace := ["internal/bytealg.abigen_runtime_cmpstring"], unfollowed := true, recurses := true, named := ["internal/strconv.uint64pow10", "math/bits.deBruijn32tab", "math/bits.deBruijn64tab"], apart := false, laid := [("math/bits.deBruijn32tab", laid_math_bits_deBruijn32tab), ("math/bits.deBruijn64tab", laid_math_bits_deBruijn64tab), ("internal/strconv.uint64pow10", laid_internal_strconv_uint64pow10)] }
def EvaluateRanksSaid : Prop := evaluateRanksRow.holds Tryz.pinned (OpenSpec.ofChange evaluateRanksSpec)

/-- ITS FALSE NEIGHBOUR: 'it returns false'. Refute it at one input. -/
def evaluateRanksWrong : ChangeSpec := { name := "evaluateRanks", fn := fun _ => fun
  | [d] => { results := [.lit (.bool false)], args := [d] }
  | _ => none }
def EvaluateRanksWrongFalsely : Prop := evaluateRanksRow.holds Tryz.pinned (OpenSpec.ofChange evaluateRanksWrong)

/-- 'partsynclaw11.EvaluateJoins': WHATEVER THE INPUT: true; the input reads as it did. -/
def evaluateJoinsSpec : ChangeSpec := { name := "evaluateJoins", fn := fun _ => fun
  | [d] => { results := [.lit (.bool true)], args := [d] }
  | _ => none }
def evaluateJoinsRow : OpenClaim := { program := "ytileehgdfcknkaagreatdoor", sum := "3568c6a9e6028e4ec788d734913ac4b6f2769abfe23d9d5cff9142ffbf4c32e5", func := "partsync/partsynclaw11.EvaluateJoins", spec := "evaluateJoins", inPlace := ["internal/bytealg.abigen_runtime_cmpstring"], unfollowed := true, recurses := true, named := ["internal/strconv.uint64pow10", "math/bits.deBruijn32tab", "math/bits.deBruijn64tab"], apart := false, laid := [("math/bits.deBruijn32tab", laid_math_bits_deBruijn32tab), ("math/bits.deBruijn64tab", laid_math_bits_deBruijn64tab), ("internal/strconv.uint64pow10", laid_internal_strconv_uint64pow10)] }
def EvaluateJoinsSaid : Prop := evaluateJoinsRow.holds Tryz.pinned (OpenSpec.ofChange evaluateJoinsSpec)

/-- ITS FALSE NEIGHBOUR: 'it returns false'. Refute it at one input. -/
def evaluateJoinsWrong : ChangeSpec := { name := "evaluateJoins", fn := fun _ => fun
  | [d] => { results := [.lit (.bool false)], args := [d] }
  | _ => none }
def EvaluateJoinsWrongFalsely : Prop := evaluateJoinsRow.holds Tryz.pinned (OpenSpec.ofChange evaluateJoinsWrong)

/-- 'partsynclaw11.EvaluateProjects': WHATEVER THE INPUT: true; the input reads as it did. -/
def evaluateProjectsSpec : ChangeSpec := { name := "evaluateProjects", fn := fun _ => fun
  | [d] => { results := [.lit (.bool true)], args := [d] }
  | _ => none }
def evaluateProjectsRow : OpenClaim := { program := "ytileehgdfcknkaagreatdoor", sum := "3568c6a9e6028e4ec788d734913ac4b6f2769abfe23d9d5cff9142ffbf4c32e5", func := "partsync/partsynclaw11.EvaluateProjects", spec := "evaluateProjects", inPlace := ["internal/bytealg.abigen_runtime_cmpstring"], unfollowed := true, recurses := true, named := ["internal/strconv.uint64pow10", "math/bits.deBruijn32tab", "math/bits.deBruijn64tab"], apart := false, laid := [("math/bits.deBruijn32tab", laid_math_bits_deBruijn32tab), ("math/bits.deBruijn64tab", laid_math_bits_deBruijn64tab), ("internal/strconv.uint64pow10", laid_internal_strconv_uint64pow10)] }
def EvaluateProjectsSaid : Prop := evaluateProjectsRow.holds Tryz.pinned (OpenSpec.ofChange evaluateProjectsSpec)

/-- ITS FALSE NEIGHBOUR: 'it returns false'. Refute it at one input. -/
def evaluateProjectsWrong : ChangeSpec := { name := "evaluateProjects", fn := fun _ => fun
  | [d] => { results := [.lit (.bool false)], args := [d] }
  | _ => none }
def EvaluateProjectsWrongFalsely : Prop := evaluateProjectsRow.holds Tryz.pinned (OpenSpec.ofChange evaluateProjectsWrong)

/-- 'partsynclaw11.EvaluateScans': WHATEVER THE INPUT: true; the input reads as it did. -/
def evaluateScansSpec : ChangeSpec := { name := "evaluateScans", fn := fun _ => fun
  | [d] => { results := [.lit (.bool true)], args := [d] }
  | _ => none }
def evaluateScansRow : OpenClaim := { program := "ytileehgdfcknkaagreatdoor", sum := "3568c6a9e6028e4ec788d734913ac4b6f2769abfe23d9d5cff9142ffbf4c32e5", func := "partsync/partsynclaw11.EvaluateScans", spec := "evaluateScans", inPlace := ["internal/bytealg.abigen_runtime_cmpstring"], unfollowed := true, recurses := true, named := ["internal/strconv.uint64pow10", "math/bits.deBruijn32tab", "math/bits.deBruijn64tab"], apart := false, laid := [("math/bits.deBruijn32tab", laid_math_bits_deBruijn32tab), ("math/bits.deBruijn64tab", laid_math_bits_deBruijn64tab), ("internal/strconv.uint64pow10", laid_internal_strconv_uint64pow10)] }
def EvaluateScansSaid : Prop := evaluateScansRow.holds Tryz.pinned (OpenSpec.ofChange evaluateScansSpec)

/-- ITS FALSE NEIGHBOUR: 'it returns false'. Refute it at one input. -/
def evaluateScansWrong : ChangeSpec := { name := "evaluateScans", fn := fun _ => fun
  | [d] => { results := [.lit (.bool false)], args := [d] }
  | _ => none }
def EvaluateScansWrongFalsely : Prop := evaluateScansRow.holds Tryz.pinned (OpenSpec.ofChange evaluateScansWrong)

/-- 'partsynclaw11.EvaluateGrows': WHATEVER THE INPUT: true; the input reads as it did. -/
def evaluateGrowsSpec : ChangeSpec := { name := "evaluateGrows", fn := fun _ => fun
  | [d] => { results := [.lit (.bool true)], args := [d] }
  | _ => none }
def evaluateGrowsRow : OpenClaim := { program := "ytileehgdfcknkaagreatdoor", sum := "3568c6a9e6028e4ec788d734913ac4b6f2769abfe23d9d5cff9142ffbf4c32e5", func := "partsync/partsynclaw11.EvaluateGrows", spec := "evaluateGrows", inPlace := ["internal/bytealg.abigen_runtime_cmpstring"], unfollowed := true, recurses := true, named := ["internal/strconv.uint64pow10", "math/bits.deBruijn32tab", "math/bits.deBruijn64tab"], apart := false, laid := [("math/bits.deBruijn32tab", laid_math_bits_deBruijn32tab), ("math/bits.deBruijn64tab", laid_math_bits_deBruijn64tab), ("internal/strconv.uint64pow10", laid_internal_strconv_uint64pow10)] }
def EvaluateGrowsSaid : Prop := evaluateGrowsRow.holds Tryz.pinned (OpenSpec.ofChange evaluateGrowsSpec)

/-- ITS FALSE NEIGHBOUR: 'it returns false'. Refute it at one input. -/
def evaluateGrowsWrong : ChangeSpec := { name := "evaluateGrows", fn := fun _ => fun
  | [d] => { results := [.lit (.bool false)], args := [d] }
  | _ => none }
def EvaluateGrowsWrongFalsely : Prop := evaluateGrowsRow.holds Tryz.pinned (OpenSpec.ofChange evaluateGrowsWrong)

/- THE SECOND FORM. 'bulk': how many values and letters a reading holds, each counted each time it is reached (what is shared counts as often as it is met; a slice's spare places count too). A statement '..UptoSaid' is the law's where the arguments, and the package variables that the reading takes, are together of bulk at most 1048576: NARROWER than '..Said'. Prove '..Said' where nothing that the law and all that it calls make is longer than what came in: it says more and counts as full. Else prove '..UptoSaid'. A law counts once. -/
mutual
def uptoBulk {H : Type} : DataW H → Nat
  | .lit (.string bytes) => bytes.length + 1
  | .lit _ => 1
  | .nil => 1
  | .ptr d => uptoBulk d + 1
  | .slice elems spare => uptoBulkAll elems + uptoBulkAll spare + 1
  | .agg parts => uptoBulkAll parts + 1
  | .iface _ d => uptoBulk d + 1
  | .map entries => uptoBulkEntries entries + 1
  | .held _ => 1
def uptoBulkAll {H : Type} : List (DataW H) → Nat
  | [] => 0
  | d :: r => uptoBulk d + uptoBulkAll r
def uptoBulkEntries {H : Type} : List (Lit × DataW H) → Nat
  | [] => 0
  | x :: r => uptoBulkEntry x + uptoBulkEntries r
def uptoBulkEntry {H : Type} : Lit × DataW H → Nat
  | (.string bytes, d) => bytes.length + uptoBulk d + 1
  | (_, d) => uptoBulk d + 1
 end
def uptoSmall : (H : Type) → List (DataW H) → Bool := fun _ ds => decide (uptoBulkAll ds ≤ 1048576)
def OpenSpec.upto (s : _root_.Go.ChangeSpec) : _root_.Go.OpenSpec := { _root_.Go.OpenSpec.ofChange s with cond := some uptoSmall }

/-- 'partsynclaw11.EvaluateRows', WHERE WHAT IT READS IS OF BULK AT MOST 1048576: true; the input reads as it did. -/
def evaluateRowsUptoRow : OpenClaim := { program := "ytileehgdfcknkaagreatdoor", sum := "3568c6a9e6028e4ec788d734913ac4b6f2769abfe23d9d5cff9142ffbf4c32e5", func := "partsync/partsynclaw11.EvaluateRows", spec := "evaluateRows", inPlace := ["internal/bytealg.abigen_runtime_cmpstring"], unfollowed := true, recurses := true, named := ["internal/strconv.uint64pow10", "math/bits.deBruijn32tab", "math/bits.deBruijn64tab"], loops := true, apart := false, laid := [("math/bits.deBruijn32tab", laid_math_bits_deBruijn32tab), ("math/bits.deBruijn64tab", laid_math_bits_deBruijn64tab), ("internal/strconv.uint64pow10", laid_internal_strconv_uint64pow10)], narrowed := true }
def EvaluateRowsUptoSaid : Prop := evaluateRowsUptoRow.holds Tryz.pinned (OpenSpec.upto evaluateRowsSpec)

/-- 'partsynclaw11.EvaluateSets', WHERE WHAT IT READS IS OF BULK AT MOST 1048576: true; the input reads as it did. -/
def evaluateSetsUptoRow : OpenClaim := { program := "ytileehgdfcknkaagreatdoor", sum := "3568c6a9e6028e4ec788d734913ac4b6f2769abfe23d9d5cff9142ffbf4c32e5", func := "partsync/partsynclaw11.EvaluateSets", spec := "evaluateSets", inPlace := ["internal/bytealg.abigen_runtime_cmpstring"], unfollowed := true, recurses := true, named := ["internal/strconv.uint64pow10", "math/bits.deBruijn32tab", "math/bits.deBruijn64tab"], apart := false, laid := [("math/bits.deBruijn32tab", laid_math_bits_deBruijn32tab), ("math/bits.deBruijn64tab", laid_math_bits_deBruijn64tab), ("internal/strconv.uint64pow10", laid_internal_strconv_uint64pow10)], narrowed := true }
def EvaluateSetsUptoSaid : Prop := evaluateSetsUptoRow.holds Tryz.pinned (OpenSpec.upto evaluateSetsSpec)

/-- 'partsynclaw11.EvaluateFilters', WHERE WHAT IT READS IS OF BULK AT MOST 1048576: true; the input reads as it did. -/
def evaluateFiltersUptoRow : OpenClaim := { program := "ytileehgdfcknkaagreatdoor", sum := "3568c6a9e6028e4ec788d734913ac4b6f2769abfe23d9d5cff9142ffbf4c32e5", func := "partsync/partsynclaw11.EvaluateFilters", spec := "evaluateFilters", inPlace := ["internal/bytealg.abigen_runtime_cmpstring"], unfollowed := true, recurses := true, named := ["internal/strconv.uint64pow10", "math/bits.deBruijn32tab", "math/bits.deBruijn64tab"], apart := false, laid := [("math/bits.deBruijn32tab", laid_math_bits_deBruijn32tab), ("math/bits.deBruijn64tab", laid_math_bits_deBruijn64tab), ("internal/strconv.uint64pow10", laid_internal_strconv_uint64pow10)], narrowed := true }
def EvaluateFiltersUptoSaid : Prop := evaluateFiltersUptoRow.holds Tryz.pinned (OpenSpec.upto evaluateFiltersSpec)

/-- 'partsynclaw11.EvaluateRanks', WHERE WHAT IT READS IS OF BULK AT MOST 1048576: true; the input reads as it did. -/
def evaluateRanksUptoRow : OpenClaim := { program := "ytileehgdfcknkaagreatdoor", sum := "3568c6a9e6028e4ec788d734913ac4b6f2769abfe23d9d5cff9142ffbf4c32e5", func := "partsync/partsynclaw11.EvaluateRanks", spec := "evaluateRanks", inPlace := ["internal/bytealg.abigen_runtime_cmpstring"], unfollowed := true, recurses := true, named := ["internal/strconv.uint64pow10", "math/bits.deBruijn32tab", "math/bits.deBruijn64tab"], apart := false, laid := [("math/bits.deBruijn32tab", laid_math_bits_deBruijn32tab), ("math/bits.deBruijn64tab", laid_math_bits_deBruijn64tab), ("internal/strconv.uint64pow10", laid_internal_strconv_uint64pow10)], narrowed := true }
def EvaluateRanksUptoSaid : Prop := evaluateRanksUptoRow.holds Tryz.pinned (OpenSpec.upto evaluateRanksSpec)

/-- 'partsynclaw11.EvaluateJoins', WHERE WHAT IT READS IS OF BULK AT MOST 1048576: true; the input reads as it did. -/
def evaluateJoinsUptoRow : OpenClaim := { program := "ytileehgdfcknkaagreatdoor", sum := "3568c6a9e6028e4ec788d734913ac4b6f2769abfe23d9d5cff9142ffbf4c32e5", func := "partsync/partsynclaw11.EvaluateJoins", spec := "evaluateJoins", inPlace := ["internal/bytealg.abigen_runtime_cmpstring"], unfollowed := true, recurses := true, named := ["internal/strconv.uint64pow10", "math/bits.deBruijn32tab", "math/bits.deBruijn64tab"], apart := false, laid := [("math/bits.deBruijn32tab", laid_math_bits_deBruijn32tab), ("math/bits.deBruijn64tab", laid_math_bits_deBruijn64tab), ("internal/strconv.uint64pow10", laid_internal_strconv_uint64pow10)], narrowed := true }
def EvaluateJoinsUptoSaid : Prop := evaluateJoinsUptoRow.holds Tryz.pinned (OpenSpec.upto evaluateJoinsSpec)

/-- 'partsynclaw11.EvaluateProjects', WHERE WHAT IT READS IS OF BULK AT MOST 1048576: true; the input reads as it did. -/
def evaluateProjectsUptoRow : OpenClaim := { program := "ytileehgdfcknkaagreatdoor", sum := "3568c6a9e6028e4ec788d734913ac4b6f2769abfe23d9d5cff9142ffbf4c32e5", func := "partsync/partsynclaw11.EvaluateProjects", spec := "evaluateProjects", inPlace := ["internal/bytealg.abigen_runtime_cmpstring"], unfollowed := true, recurses := true, named := ["internal/strconv.uint64pow10", "math/bits.deBruijn32tab", "math/bits.deBruijn64tab"], apart := false, laid := [("math/bits.deBruijn32tab", laid_math_bits_deBruijn32tab), ("math/bits.deBruijn64tab", laid_math_bits_deBruijn64tab), ("internal/strconv.uint64pow10", laid_internal_strconv_uint64pow10)], narrowed := true }
def EvaluateProjectsUptoSaid : Prop := evaluateProjectsUptoRow.holds Tryz.pinned (OpenSpec.upto evaluateProjectsSpec)

/-- 'partsynclaw11.EvaluateScans', WHERE WHAT IT READS IS OF BULK AT MOST 1048576: true; the input reads as it did. -/
def evaluateScansUptoRow : OpenClaim := { program := "ytileehgdfcknkaagreatdoor", sum := "3568c6a9e6028e4ec788d734913ac4b6f2769abfe23d9d5cff9142ffbf4c32e5", func := "partsync/partsynclaw11.EvaluateScans", spec := "evaluateScans", inPlace := ["internal/bytealg.abigen_runtime_cmpstring"], unfollowed := true, recurses := true, named := ["internal/strconv.uint64pow10", "math/bits.deBruijn32tab", "math/bits.deBruijn64tab"], apart := false, laid := [("math/bits.deBruijn32tab", laid_math_bits_deBruijn32tab), ("math/bits.deBruijn64tab", laid_math_bits_deBruijn64tab), ("internal/strconv.uint64pow10", laid_internal_strconv_uint64pow10)], narrowed := true }
def EvaluateScansUptoSaid : Prop := evaluateScansUptoRow.holds Tryz.pinned (OpenSpec.upto evaluateScansSpec)

/-- 'partsynclaw11.EvaluateGrows', WHERE WHAT IT READS IS OF BULK AT MOST 1048576: true; the input reads as it did. -/
def evaluateGrowsUptoRow : OpenClaim := { program := "ytileehgdfcknkaagreatdoor", sum := "3568c6a9e6028e4ec788d734913ac4b6f2769abfe23d9d5cff9142ffbf4c32e5", func := "partsync/partsynclaw11.EvaluateGrows", spec := "evaluateGrows", inPlace := ["internal/bytealg.abigen_runtime_cmpstring"], unfollowed := true, recurses := true, named := ["internal/strconv.uint64pow10", "math/bits.deBruijn32tab", "math/bits.deBruijn64tab"], apart := false, laid := [("math/bits.deBruijn32tab", laid_math_bits_deBruijn32tab), ("math/bits.deBruijn64tab", laid_math_bits_deBruijn64tab), ("internal/strconv.uint64pow10", laid_internal_strconv_uint64pow10)], narrowed := true }
def EvaluateGrowsUptoSaid : Prop := evaluateGrowsUptoRow.holds Tryz.pinned (OpenSpec.upto evaluateGrowsSpec)

end Rows
end Go.Proofs.YtileehgdfcknkaaGreatDoor
