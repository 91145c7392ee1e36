/-
  DERIVED. GIVEN WITH THE SEED: THE CARDS: each row of YtjpjambjoceofaaGreatDoorRows.lean that lists a variable, with what it lists TIED to the program's text (the seventh form; the later family's looks); each row that meets fmt, with fmt's text TOLD by the authors' own Lean function (tested against real Go, not proved from fmt's source: count such statements apart). THE CARD IS WHAT COUNTS. Prove the row's statement (the work); the ties are given (YtjpjambjoceofaaGreatDoorTie.lean); close each card by the builder's one call (the guide's Derived/Test/ToyasCard.lean, 'card_holds'). Laid BY PROGRAM, IN A SANDBOX (cutbox-door.mjs). By AI agents, Wed Nov 11 2026. No macro, syntax, notation, axiom, sorry.
-/
import Derived.Test.YtjpjambjoceofaaGreatDoorRows
import GoSem.ClaimSeven
namespace Go.Proofs.YtjpjambjoceofaaGreatDoor
namespace Rows

/-- THE TIED CARD OF 'partsynclaw11.EvaluateRows'. -/
def evaluateRowsCard : Claim7 := { stood := { row := evaluateRowsRow, standIns := [], harness := (true, "55f79ff3a52720a939e9b34d8aecaeaf59a45006f95fd471e89f6055de8d8270"), looks := false }, kinds := [], alts := [], laidByText := true, laidKinds := [.data, .data, .data], laidTests := true, laidLooks := .later }
def EvaluateRowsCardSaid : Prop := Claim7.holds Tryz.pinned (.plain (OpenSpec.ofChange evaluateRowsSpec)) evaluateRowsCard

/-- THE TIED CARD OF 'partsynclaw12.PlanRuns'. -/
def planRunsCard : Claim7 := { stood := { row := planRunsRow, standIns := [], harness := (true, "55f79ff3a52720a939e9b34d8aecaeaf59a45006f95fd471e89f6055de8d8270"), looks := false }, kinds := [], alts := [], laidByText := true, laidKinds := [.data, .data, .data], laidTests := true, laidLooks := .later }
def PlanRunsCardSaid : Prop := Claim7.holds Tryz.pinned (.plain (OpenSpec.ofChange planRunsSpec)) planRunsCard

/-- THE TIED CARD OF 'partsynclaw14.NeedEnvelopes'. -/
def needEnvelopesCard : Claim7 := { stood := { row := needEnvelopesRow, standIns := [], harness := (true, "55f79ff3a52720a939e9b34d8aecaeaf59a45006f95fd471e89f6055de8d8270"), looks := false }, kinds := [], alts := [], laidByText := true, laidKinds := [.data, .data, .data], laidTests := true, laidLooks := .later }
def NeedEnvelopesCardSaid : Prop := Claim7.holds Tryz.pinned (.plain (OpenSpec.ofChange needEnvelopesSpec)) needEnvelopesCard

/-- THE TIED CARD OF 'partsynclaw14.NeedRows'. -/
def needRowsCard : Claim7 := { stood := { row := needRowsRow, standIns := [], harness := (true, "55f79ff3a52720a939e9b34d8aecaeaf59a45006f95fd471e89f6055de8d8270"), looks := false }, kinds := [], alts := [], laidByText := true, laidKinds := [.data, .data, .data], laidTests := true, laidLooks := .later }
def NeedRowsCardSaid : Prop := Claim7.holds Tryz.pinned (.plain (OpenSpec.ofChange needRowsSpec)) needRowsCard

/-- THE TIED CARD OF 'partsynclaw14.NeedPlanErrors'. -/
def needPlanErrorsCard : Claim7 := { stood := { row := needPlanErrorsRow, standIns := [], harness := (true, "55f79ff3a52720a939e9b34d8aecaeaf59a45006f95fd471e89f6055de8d8270"), looks := false }, kinds := [], alts := [], laidByText := true, laidKinds := [.data, .data, .data], laidTests := true, laidLooks := .later }
def NeedPlanErrorsCardSaid : Prop := Claim7.holds Tryz.pinned (.plain (OpenSpec.ofChange needPlanErrorsSpec)) needPlanErrorsCard

/-- THE SECOND FORM's CARD OF 'partsynclaw11.EvaluateRows'. -/
def evaluateRowsUptoCard : Claim7 := { stood := { row := evaluateRowsUptoRow, standIns := [], harness := (true, "55f79ff3a52720a939e9b34d8aecaeaf59a45006f95fd471e89f6055de8d8270"), looks := false }, kinds := [], alts := [], laidByText := true, laidKinds := [.data, .data, .data], laidTests := true, laidLooks := .later }
def EvaluateRowsUptoCardSaid : Prop := Claim7.holds Tryz.pinned (.plain (OpenSpec.upto evaluateRowsSpec)) evaluateRowsUptoCard

/-- THE SECOND FORM's CARD OF 'partsynclaw12.PlanRuns'. -/
def planRunsUptoCard : Claim7 := { stood := { row := planRunsUptoRow, standIns := [], harness := (true, "55f79ff3a52720a939e9b34d8aecaeaf59a45006f95fd471e89f6055de8d8270"), looks := false }, kinds := [], alts := [], laidByText := true, laidKinds := [.data, .data, .data], laidTests := true, laidLooks := .later }
def PlanRunsUptoCardSaid : Prop := Claim7.holds Tryz.pinned (.plain (OpenSpec.upto planRunsSpec)) planRunsUptoCard

/-- THE SECOND FORM's CARD OF 'partsynclaw14.NeedEnvelopes'. -/
def needEnvelopesUptoCard : Claim7 := { stood := { row := needEnvelopesUptoRow, standIns := [], harness := (true, "55f79ff3a52720a939e9b34d8aecaeaf59a45006f95fd471e89f6055de8d8270"), looks := false }, kinds := [], alts := [], laidByText := true, laidKinds := [.data, .data, .data], laidTests := true, laidLooks := .later }
def NeedEnvelopesUptoCardSaid : Prop := Claim7.holds Tryz.pinned (.plain (OpenSpec.upto needEnvelopesSpec)) needEnvelopesUptoCard

/-- THE SECOND FORM's CARD OF 'partsynclaw14.NeedRows'. -/
def needRowsUptoCard : Claim7 := { stood := { row := needRowsUptoRow, standIns := [], harness := (true, "55f79ff3a52720a939e9b34d8aecaeaf59a45006f95fd471e89f6055de8d8270"), looks := false }, kinds := [], alts := [], laidByText := true, laidKinds := [.data, .data, .data], laidTests := true, laidLooks := .later }
def NeedRowsUptoCardSaid : Prop := Claim7.holds Tryz.pinned (.plain (OpenSpec.upto needRowsSpec)) needRowsUptoCard

/-- THE SECOND FORM's CARD OF 'partsynclaw14.NeedPlanErrors'. -/
def needPlanErrorsUptoCard : Claim7 := { stood := { row := needPlanErrorsUptoRow, standIns := [], harness := (true, "55f79ff3a52720a939e9b34d8aecaeaf59a45006f95fd471e89f6055de8d8270"), looks := false }, kinds := [], alts := [], laidByText := true, laidKinds := [.data, .data, .data], laidTests := true, laidLooks := .later }
def NeedPlanErrorsUptoCardSaid : Prop := Claim7.holds Tryz.pinned (.plain (OpenSpec.upto needPlanErrorsSpec)) needPlanErrorsUptoCard
end Rows
end Go.Proofs.YtjpjambjoceofaaGreatDoor
