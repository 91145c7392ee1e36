/-
  DERIVED. GIVEN WITH THE SEED: THE CARDS: each row of YtmecdlibgejboaaGreatDoorRows.lean that lists a variable, with what it lists TIED to the program's text (the seventh form; the later family's looks); each row that meets fmt, with fmt's text TOLD by the authors' own Lean function (tested against real Go, not proved from fmt's source: count such statements apart). THE CARD IS WHAT COUNTS. Prove the row's statement (the work); the ties are given (YtmecdlibgejboaaGreatDoorTie.lean); close each card by the builder's one call (the guide's Derived/Test/ToyasCard.lean, 'card_holds'). Laid BY PROGRAM, IN A SANDBOX (cutbox-door.mjs). By AI agents, Wed Nov 11 2026. No macro, syntax, notation, axiom, sorry.
-/
import Derived.Test.YtmecdlibgejboaaGreatDoorRows
import GoSem.ClaimSeven
namespace Go.Proofs.YtmecdlibgejboaaGreatDoor
namespace Rows

/-- THE TIED CARD OF 'partsynclaw14.NeedEnvelopes'. -/
def needEnvelopesCard : Claim7 := { stood := { row := needEnvelopesRow, standIns := [], harness := (true, "f962bef47fa4ca97f70961a4f8e53637776c44aff6390ccf96dedb0492a3af60"), looks := false }, kinds := [], alts := [], laidByText := true, laidKinds := [.data, .data, .data], laidTests := true, laidLooks := .later }
def NeedEnvelopesCardSaid : Prop := Claim7.holds Tryz.pinned (.plain (OpenSpec.ofChange needEnvelopesSpec)) needEnvelopesCard

/-- THE TIED CARD OF 'partsynclaw14.NeedPlanErrors'. -/
def needPlanErrorsCard : Claim7 := { stood := { row := needPlanErrorsRow, standIns := [], harness := (true, "f962bef47fa4ca97f70961a4f8e53637776c44aff6390ccf96dedb0492a3af60"), looks := false }, kinds := [], alts := [], laidByText := true, laidKinds := [.data, .data, .data], laidTests := true, laidLooks := .later }
def NeedPlanErrorsCardSaid : Prop := Claim7.holds Tryz.pinned (.plain (OpenSpec.ofChange needPlanErrorsSpec)) needPlanErrorsCard

/-- THE TIED CARD OF 'partsynclaw14.NeedFilters'. -/
def needFiltersCard : Claim7 := { stood := { row := needFiltersRow, standIns := [], harness := (true, "f962bef47fa4ca97f70961a4f8e53637776c44aff6390ccf96dedb0492a3af60"), looks := false }, kinds := [], alts := [], laidByText := true, laidKinds := [.data, .data, .data], laidTests := true, laidLooks := .later }
def NeedFiltersCardSaid : Prop := Claim7.holds Tryz.pinned (.plain (OpenSpec.ofChange needFiltersSpec)) needFiltersCard

/-- THE TIED CARD OF 'partsynclaw12.PlanEvaluates'. -/
def planEvaluatesCard : Claim7 := { stood := { row := planEvaluatesRow, standIns := [], harness := (true, "f962bef47fa4ca97f70961a4f8e53637776c44aff6390ccf96dedb0492a3af60"), looks := false }, kinds := [], alts := [], laidByText := true, laidKinds := [.data, .data, .data], laidTests := true, laidLooks := .later }
def PlanEvaluatesCardSaid : Prop := Claim7.holds Tryz.pinned (.plain (OpenSpec.ofChange planEvaluatesSpec)) planEvaluatesCard

/-- THE SECOND FORM's CARD OF 'partsynclaw14.NeedEnvelopes'. -/
def needEnvelopesUptoCard : Claim7 := { stood := { row := needEnvelopesUptoRow, standIns := [], harness := (true, "f962bef47fa4ca97f70961a4f8e53637776c44aff6390ccf96dedb0492a3af60"), looks := false }, kinds := [], alts := [], laidByText := true, laidKinds := [.data, .data, .data], laidTests := true, laidLooks := .later }
def NeedEnvelopesUptoCardSaid : Prop := Claim7.holds Tryz.pinned (.plain (OpenSpec.upto needEnvelopesSpec)) needEnvelopesUptoCard

/-- THE SECOND FORM's CARD OF 'partsynclaw14.NeedPlanErrors'. -/
def needPlanErrorsUptoCard : Claim7 := { stood := { row := needPlanErrorsUptoRow, standIns := [], harness := (true, "f962bef47fa4ca97f70961a4f8e53637776c44aff6390ccf96dedb0492a3af60"), looks := false }, kinds := [], alts := [], laidByText := true, laidKinds := [.data, .data, .data], laidTests := true, laidLooks := .later }
def NeedPlanErrorsUptoCardSaid : Prop := Claim7.holds Tryz.pinned (.plain (OpenSpec.upto needPlanErrorsSpec)) needPlanErrorsUptoCard

/-- THE SECOND FORM's CARD OF 'partsynclaw14.NeedFilters'. -/
def needFiltersUptoCard : Claim7 := { stood := { row := needFiltersUptoRow, standIns := [], harness := (true, "f962bef47fa4ca97f70961a4f8e53637776c44aff6390ccf96dedb0492a3af60"), looks := false }, kinds := [], alts := [], laidByText := true, laidKinds := [.data, .data, .data], laidTests := true, laidLooks := .later }
def NeedFiltersUptoCardSaid : Prop := Claim7.holds Tryz.pinned (.plain (OpenSpec.upto needFiltersSpec)) needFiltersUptoCard

/-- THE SECOND FORM's CARD OF 'partsynclaw12.PlanEvaluates'. -/
def planEvaluatesUptoCard : Claim7 := { stood := { row := planEvaluatesUptoRow, standIns := [], harness := (true, "f962bef47fa4ca97f70961a4f8e53637776c44aff6390ccf96dedb0492a3af60"), looks := false }, kinds := [], alts := [], laidByText := true, laidKinds := [.data, .data, .data], laidTests := true, laidLooks := .later }
def PlanEvaluatesUptoCardSaid : Prop := Claim7.holds Tryz.pinned (.plain (OpenSpec.upto planEvaluatesSpec)) planEvaluatesUptoCard
end Rows
end Go.Proofs.YtmecdlibgejboaaGreatDoor
