/-
  DERIVED. GIVEN WITH THE SEED: THE CARDS: each row of YtileehgdfcknkaaGreatDoorRows.lean that lists a variable, with what it lists TIED to the program's text (the seventh form; the later family's looks); each row that meets fmt, with fmt's text TOLD by the authors' own Lean function (tested against real Go, not proved from fmt's source: count such statements apart). THE CARD IS WHAT COUNTS. Prove the row's statement (the work); the ties are given (YtileehgdfcknkaaGreatDoorTie.lean); close each card by the builder's one call (the guide's Derived/Test/ToyasCard.lean, 'card_holds'). Laid BY PROGRAM, IN A SANDBOX (cutbox-door.mjs). By AI agents, Wed Nov 11 2026. No macro, syntax, notation, axiom, sorry.
-/
import Derived.Test.YtileehgdfcknkaaGreatDoorRows
import GoSem.ClaimSeven
namespace Go.Proofs.YtileehgdfcknkaaGreatDoor
namespace Rows

/-- THE TIED CARD OF 'partsynclaw11.EvaluateRows'. -/
def evaluateRowsCard : Claim7 := { stood := { row := evaluateRowsRow, standIns := [], harness := (true, "67610d13e2ea34adfcc0eae48a65627d85c679c7a12650a7eb91432585cd1227"), looks := false }, kinds := [], alts := [], laidByText := true, laidKinds := [.data, .data, .data], laidTests := true, laidLooks := .later }
def EvaluateRowsCardSaid : Prop := Claim7.holds Tryz.pinned (.plain (OpenSpec.ofChange evaluateRowsSpec)) evaluateRowsCard

/-- THE TIED CARD OF 'partsynclaw11.EvaluateSets'. -/
def evaluateSetsCard : Claim7 := { stood := { row := evaluateSetsRow, standIns := [], harness := (true, "67610d13e2ea34adfcc0eae48a65627d85c679c7a12650a7eb91432585cd1227"), looks := false }, kinds := [], alts := [], laidByText := true, laidKinds := [.data, .data, .data], laidTests := true, laidLooks := .later }
def EvaluateSetsCardSaid : Prop := Claim7.holds Tryz.pinned (.plain (OpenSpec.ofChange evaluateSetsSpec)) evaluateSetsCard

/-- THE TIED CARD OF 'partsynclaw11.EvaluateFilters'. -/
def evaluateFiltersCard : Claim7 := { stood := { row := evaluateFiltersRow, standIns := [], harness := (true, "67610d13e2ea34adfcc0eae48a65627d85c679c7a12650a7eb91432585cd1227"), looks := false }, kinds := [], alts := [], laidByText := true, laidKinds := [.data, .data, .data], laidTests := true, laidLooks := .later }
def EvaluateFiltersCardSaid : Prop := Claim7.holds Tryz.pinned (.plain (OpenSpec.ofChange evaluateFiltersSpec)) evaluateFiltersCard

/-- THE TIED CARD OF 'partsynclaw11.EvaluateRanks'. -/
def evaluateRanksCard : Claim7 := { stood := { row := evaluateRanksRow, standIns := [], harness := (true, "67610d13e2ea34adfcc0eae48a65627d85c679c7a12650a7eb91432585cd1227"), looks := false }, kinds := [], alts := [], laidByText := true, laidKinds := [.data, .data, .data], laidTests := true, laidLooks := .later }
def EvaluateRanksCardSaid : Prop := Claim7.holds Tryz.pinned (.plain (OpenSpec.ofChange evaluateRanksSpec)) evaluateRanksCard

/-- THE TIED CARD OF 'partsynclaw11.EvaluateJoins'. -/
def evaluateJoinsCard : Claim7 := { stood := { row := evaluateJoinsRow, standIns := [], harness := (true, "67610d13e2ea34adfcc0eae48a65627d85c679c7a12650a7eb91432585cd1227"), looks := false }, kinds := [], alts := [], laidByText := true, laidKinds := [.data, .data, .data], laidTests := true, laidLooks := .later }
def EvaluateJoinsCardSaid : Prop := Claim7.holds Tryz.pinned (.plain (OpenSpec.ofChange evaluateJoinsSpec)) evaluateJoinsCard

/-- THE TIED CARD OF 'partsynclaw11.EvaluateProjects'. -/
def evaluateProjectsCard : Claim7 := { stood := { row := evaluateProjectsRow, standIns := [], harness := (true, "67610d13e2ea34adfcc0eae48a65627d85c679c7a12650a7eb91432585cd1227"), looks := false }, kinds := [], alts := [], laidByText := true, laidKinds := [.data, .data, .data], laidTests := true, laidLooks := .later }
def EvaluateProjectsCardSaid : Prop := Claim7.holds Tryz.pinned (.plain (OpenSpec.ofChange evaluateProjectsSpec)) evaluateProjectsCard

/-- THE TIED CARD OF 'partsynclaw11.EvaluateScans'. -/
def evaluateScansCard : Claim7 := { stood := { row := evaluateScansRow, standIns := [], harness := (true, "67610d13e2ea34adfcc0eae48a65627d85c679c7a12650a7eb91432585cd1227"), looks := false }, kinds := [], alts := [], laidByText := true, laidKinds := [.data, .data, .data], laidTests := true, laidLooks := .later }
def EvaluateScansCardSaid : Prop := Claim7.holds Tryz.pinned (.plain (OpenSpec.ofChange evaluateScansSpec)) evaluateScansCard

/-- THE TIED CARD OF 'partsynclaw11.EvaluateGrows'. -/
def evaluateGrowsCard : Claim7 := { stood := { row := evaluateGrowsRow, standIns := [], harness := (true, "67610d13e2ea34adfcc0eae48a65627d85c679c7a12650a7eb91432585cd1227"), looks := false }, kinds := [], alts := [], laidByText := true, laidKinds := [.data, .data, .data], laidTests := true, laidLooks := .later }
def EvaluateGrowsCardSaid : Prop := Claim7.holds Tryz.pinned (.plain (OpenSpec.ofChange evaluateGrowsSpec)) evaluateGrowsCard

/-- THE SECOND FORM's CARD OF 'partsynclaw11.EvaluateRows'. -/
def evaluateRowsUptoCard : Claim7 := { stood := { row := evaluateRowsUptoRow, standIns := [], harness := (true, "67610d13e2ea34adfcc0eae48a65627d85c679c7a12650a7eb91432585cd1227"), looks := false }, kinds := [], alts := [], laidByText := true, laidKinds := [.data, .data, .data], laidTests := true, laidLooks := .later }
def EvaluateRowsUptoCardSaid : Prop := Claim7.holds Tryz.pinned (.plain (OpenSpec.upto evaluateRowsSpec)) evaluateRowsUptoCard

/-- THE SECOND FORM's CARD OF 'partsynclaw11.EvaluateSets'. -/
def evaluateSetsUptoCard : Claim7 := { stood := { row := evaluateSetsUptoRow, standIns := [], harness := (true, "67610d13e2ea34adfcc0eae48a65627d85c679c7a12650a7eb91432585cd1227"), looks := false }, kinds := [], alts := [], laidByText := true, laidKinds := [.data, .data, .data], laidTests := true, laidLooks := .later }
def EvaluateSetsUptoCardSaid : Prop := Claim7.holds Tryz.pinned (.plain (OpenSpec.upto evaluateSetsSpec)) evaluateSetsUptoCard

/-- THE SECOND FORM's CARD OF 'partsynclaw11.EvaluateFilters'. -/
def evaluateFiltersUptoCard : Claim7 := { stood := { row := evaluateFiltersUptoRow, standIns := [], harness := (true, "67610d13e2ea34adfcc0eae48a65627d85c679c7a12650a7eb91432585cd1227"), looks := false }, kinds := [], alts := [], laidByText := true, laidKinds := [.data, .data, .data], laidTests := true, laidLooks := .later }
def EvaluateFiltersUptoCardSaid : Prop := Claim7.holds Tryz.pinned (.plain (OpenSpec.upto evaluateFiltersSpec)) evaluateFiltersUptoCard

/-- THE SECOND FORM's CARD OF 'partsynclaw11.EvaluateRanks'. -/
def evaluateRanksUptoCard : Claim7 := { stood := { row := evaluateRanksUptoRow, standIns := [], harness := (true, "67610d13e2ea34adfcc0eae48a65627d85c679c7a12650a7eb91432585cd1227"), looks := false }, kinds := [], alts := [], laidByText := true, laidKinds := [.data, .data, .data], laidTests := true, laidLooks := .later }
def EvaluateRanksUptoCardSaid : Prop := Claim7.holds Tryz.pinned (.plain (OpenSpec.upto evaluateRanksSpec)) evaluateRanksUptoCard

/-- THE SECOND FORM's CARD OF 'partsynclaw11.EvaluateJoins'. -/
def evaluateJoinsUptoCard : Claim7 := { stood := { row := evaluateJoinsUptoRow, standIns := [], harness := (true, "67610d13e2ea34adfcc0eae48a65627d85c679c7a12650a7eb91432585cd1227"), looks := false }, kinds := [], alts := [], laidByText := true, laidKinds := [.data, .data, .data], laidTests := true, laidLooks := .later }
def EvaluateJoinsUptoCardSaid : Prop := Claim7.holds Tryz.pinned (.plain (OpenSpec.upto evaluateJoinsSpec)) evaluateJoinsUptoCard

/-- THE SECOND FORM's CARD OF 'partsynclaw11.EvaluateProjects'. -/
def evaluateProjectsUptoCard : Claim7 := { stood := { row := evaluateProjectsUptoRow, standIns := [], harness := (true, "67610d13e2ea34adfcc0eae48a65627d85c679c7a12650a7eb91432585cd1227"), looks := false }, kinds := [], alts := [], laidByText := true, laidKinds := [.data, .data, .data], laidTests := true, laidLooks := .later }
def EvaluateProjectsUptoCardSaid : Prop := Claim7.holds Tryz.pinned (.plain (OpenSpec.upto evaluateProjectsSpec)) evaluateProjectsUptoCard

/-- THE SECOND FORM's CARD OF 'partsynclaw11.EvaluateScans'. -/
def evaluateScansUptoCard : Claim7 := { stood := { row := evaluateScansUptoRow, standIns := [], harness := (true, "67610d13e2ea34adfcc0eae48a65627d85c679c7a12650a7eb91432585cd1227"), looks := false }, kinds := [], alts := [], laidByText := true, laidKinds := [.data, .data, .data], laidTests := true, laidLooks := .later }
def EvaluateScansUptoCardSaid : Prop := Claim7.holds Tryz.pinned (.plain (OpenSpec.upto evaluateScansSpec)) evaluateScansUptoCard

/-- THE SECOND FORM's CARD OF 'partsynclaw11.EvaluateGrows'. -/
def evaluateGrowsUptoCard : Claim7 := { stood := { row := evaluateGrowsUptoRow, standIns := [], harness := (true, "67610d13e2ea34adfcc0eae48a65627d85c679c7a12650a7eb91432585cd1227"), looks := false }, kinds := [], alts := [], laidByText := true, laidKinds := [.data, .data, .data], laidTests := true, laidLooks := .later }
def EvaluateGrowsUptoCardSaid : Prop := Claim7.holds Tryz.pinned (.plain (OpenSpec.upto evaluateGrowsSpec)) evaluateGrowsUptoCard
end Rows
end Go.Proofs.YtileehgdfcknkaaGreatDoor
