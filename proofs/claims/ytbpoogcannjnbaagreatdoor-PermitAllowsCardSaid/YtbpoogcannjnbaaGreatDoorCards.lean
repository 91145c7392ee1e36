/-
  DERIVED. GIVEN WITH THE SEED: THE CARDS: each row of YtbpoogcannjnbaaGreatDoorRows.lean that lists a variable, with what it lists TIED to the program's text (the seventh form; the later family's looks); each row that meets fmt, with fmt's text TOLD by the authors' own Lean function (tested against real Go, not proved from fmt's source: count such statements apart). THE CARD IS WHAT COUNTS. Prove the row's statement (the work); the ties are given (YtbpoogcannjnbaaGreatDoorTie.lean); close each card by the builder's one call (the guide's Derived/Test/ToyasCard.lean, 'card_holds'). Laid BY PROGRAM, IN A SANDBOX (cutbox-door.mjs). By AI agents, Wed Nov 11 2026. No macro, syntax, notation, axiom, sorry.
-/
import Derived.Test.YtbpoogcannjnbaaGreatDoorRows
import GoSem.ClaimSeven
namespace Go.Proofs.YtbpoogcannjnbaaGreatDoor
namespace Rows

/-- THE TIED CARD OF 'partsynclaw17.PermitDenies'. -/
def permitDeniesCard : Claim7 := { stood := { row := permitDeniesRow, standIns := [], harness := (true, "7a0c9e52c4a8129ba774b8ae5170a70d5619dbb65c2673d9dd831e731d299c3e"), looks := false }, kinds := [], alts := [], laidByText := true, laidKinds := [.data, .data, .data], laidTests := true, laidLooks := .later }
def PermitDeniesCardSaid : Prop := Claim7.holds Tryz.pinned (.plain (OpenSpec.ofChange permitDeniesSpec)) permitDeniesCard

/-- THE TIED CARD OF 'partsynclaw17.PermitAllows'. -/
def permitAllowsCard : Claim7 := { stood := { row := permitAllowsRow, standIns := [], harness := (true, "7a0c9e52c4a8129ba774b8ae5170a70d5619dbb65c2673d9dd831e731d299c3e"), looks := false }, kinds := [], alts := [], laidByText := true, laidKinds := [.data, .data, .data], laidTests := true, laidLooks := .later }
def PermitAllowsCardSaid : Prop := Claim7.holds Tryz.pinned (.plain (OpenSpec.ofChange permitAllowsSpec)) permitAllowsCard

/-- THE TIED CARD OF 'partsynclaw17.PermitGrows'. -/
def permitGrowsCard : Claim7 := { stood := { row := permitGrowsRow, standIns := [], harness := (true, "7a0c9e52c4a8129ba774b8ae5170a70d5619dbb65c2673d9dd831e731d299c3e"), looks := false }, kinds := [], alts := [], laidByText := true, laidKinds := [.data, .data, .data], laidTests := true, laidLooks := .later }
def PermitGrowsCardSaid : Prop := Claim7.holds Tryz.pinned (.plain (OpenSpec.ofChange permitGrowsSpec)) permitGrowsCard

/-- THE TIED CARD OF 'partsynclaw17.PermitTogether'. -/
def permitTogetherCard : Claim7 := { stood := { row := permitTogetherRow, standIns := [], harness := (true, "7a0c9e52c4a8129ba774b8ae5170a70d5619dbb65c2673d9dd831e731d299c3e"), looks := false }, kinds := [], alts := [], laidByText := true, laidKinds := [.data, .data, .data], laidTests := true, laidLooks := .later }
def PermitTogetherCardSaid : Prop := Claim7.holds Tryz.pinned (.plain (OpenSpec.ofChange permitTogetherSpec)) permitTogetherCard

/-- THE SECOND FORM's CARD OF 'partsynclaw17.PermitDenies'. -/
def permitDeniesUptoCard : Claim7 := { stood := { row := permitDeniesUptoRow, standIns := [], harness := (true, "7a0c9e52c4a8129ba774b8ae5170a70d5619dbb65c2673d9dd831e731d299c3e"), looks := false }, kinds := [], alts := [], laidByText := true, laidKinds := [.data, .data, .data], laidTests := true, laidLooks := .later }
def PermitDeniesUptoCardSaid : Prop := Claim7.holds Tryz.pinned (.plain (OpenSpec.upto permitDeniesSpec)) permitDeniesUptoCard

/-- THE SECOND FORM's CARD OF 'partsynclaw17.PermitAllows'. -/
def permitAllowsUptoCard : Claim7 := { stood := { row := permitAllowsUptoRow, standIns := [], harness := (true, "7a0c9e52c4a8129ba774b8ae5170a70d5619dbb65c2673d9dd831e731d299c3e"), looks := false }, kinds := [], alts := [], laidByText := true, laidKinds := [.data, .data, .data], laidTests := true, laidLooks := .later }
def PermitAllowsUptoCardSaid : Prop := Claim7.holds Tryz.pinned (.plain (OpenSpec.upto permitAllowsSpec)) permitAllowsUptoCard

/-- THE SECOND FORM's CARD OF 'partsynclaw17.PermitGrows'. -/
def permitGrowsUptoCard : Claim7 := { stood := { row := permitGrowsUptoRow, standIns := [], harness := (true, "7a0c9e52c4a8129ba774b8ae5170a70d5619dbb65c2673d9dd831e731d299c3e"), looks := false }, kinds := [], alts := [], laidByText := true, laidKinds := [.data, .data, .data], laidTests := true, laidLooks := .later }
def PermitGrowsUptoCardSaid : Prop := Claim7.holds Tryz.pinned (.plain (OpenSpec.upto permitGrowsSpec)) permitGrowsUptoCard

/-- THE SECOND FORM's CARD OF 'partsynclaw17.PermitTogether'. -/
def permitTogetherUptoCard : Claim7 := { stood := { row := permitTogetherUptoRow, standIns := [], harness := (true, "7a0c9e52c4a8129ba774b8ae5170a70d5619dbb65c2673d9dd831e731d299c3e"), looks := false }, kinds := [], alts := [], laidByText := true, laidKinds := [.data, .data, .data], laidTests := true, laidLooks := .later }
def PermitTogetherUptoCardSaid : Prop := Claim7.holds Tryz.pinned (.plain (OpenSpec.upto permitTogetherSpec)) permitTogetherUptoCard
end Rows
end Go.Proofs.YtbpoogcannjnbaaGreatDoor
