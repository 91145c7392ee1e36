/-
  DERIVED. GIVEN WITH THE SEED: THE CARDS: each row of YtogokeienebdfaaGreatDoorRows.lean that lists a variable, with what it lists TIED to the program's text (the seventh form; the later family's looks); each row that meets fmt, with fmt's text TOLD by the authors' own Lean function (tested against real Go, not proved from fmt's source: count such statements apart). THE CARD IS WHAT COUNTS. Prove the row's statement (the work); the ties are given (YtogokeienebdfaaGreatDoorTie.lean); close each card by the builder's one call (the guide's Derived/Test/ToyasCard.lean, 'card_holds'). Laid BY PROGRAM, IN A SANDBOX (cutbox-door.mjs). By AI agents, Wed Nov 11 2026. No macro, syntax, notation, axiom, sorry.
-/
import Derived.Test.YtogokeienebdfaaGreatDoorRows
import GoSem.ClaimSeven
namespace Go.Proofs.YtogokeienebdfaaGreatDoor
namespace Rows

/-- THE TIED CARD OF 'partsynclaw12.PlanCompiles'. -/
def planCompilesCard : Claim7 := { stood := { row := planCompilesRow, standIns := [], harness := (true, "c86d44fb5b2a0a98fd17092f0b190986421161bc1e3a220361b80a426708c50e"), looks := false }, kinds := [], alts := [], laidByText := true, laidKinds := [.data, .data, .data], laidTests := true, laidLooks := .later }
def PlanCompilesCardSaid : Prop := Claim7.holds Tryz.pinned (.plain (OpenSpec.ofChange planCompilesSpec)) planCompilesCard

/-- THE TIED CARD OF 'partsynclaw12.PlanShares'. -/
def planSharesCard : Claim7 := { stood := { row := planSharesRow, standIns := [], harness := (true, "c86d44fb5b2a0a98fd17092f0b190986421161bc1e3a220361b80a426708c50e"), looks := false }, kinds := [], alts := [], laidByText := true, laidKinds := [.data, .data, .data], laidTests := true, laidLooks := .later }
def PlanSharesCardSaid : Prop := Claim7.holds Tryz.pinned (.plain (OpenSpec.ofChange planSharesSpec)) planSharesCard

/-- THE TIED CARD OF 'partsynclaw12.PlanExpands'. -/
def planExpandsCard : Claim7 := { stood := { row := planExpandsRow, standIns := [], harness := (true, "c86d44fb5b2a0a98fd17092f0b190986421161bc1e3a220361b80a426708c50e"), looks := false }, kinds := [], alts := [], laidByText := true, laidKinds := [.data, .data, .data], laidTests := true, laidLooks := .later }
def PlanExpandsCardSaid : Prop := Claim7.holds Tryz.pinned (.plain (OpenSpec.ofChange planExpandsSpec)) planExpandsCard

/-- THE TIED CARD OF 'partsynclaw12.PlanReturns'. -/
def planReturnsCard : Claim7 := { stood := { row := planReturnsRow, standIns := [], harness := (true, "c86d44fb5b2a0a98fd17092f0b190986421161bc1e3a220361b80a426708c50e"), looks := false }, kinds := [], alts := [], laidByText := true, laidKinds := [.data, .data, .data], laidTests := true, laidLooks := .later }
def PlanReturnsCardSaid : Prop := Claim7.holds Tryz.pinned (.plain (OpenSpec.ofChange planReturnsSpec)) planReturnsCard

/-- THE SECOND FORM's CARD OF 'partsynclaw12.PlanCompiles'. -/
def planCompilesUptoCard : Claim7 := { stood := { row := planCompilesUptoRow, standIns := [], harness := (true, "c86d44fb5b2a0a98fd17092f0b190986421161bc1e3a220361b80a426708c50e"), looks := false }, kinds := [], alts := [], laidByText := true, laidKinds := [.data, .data, .data], laidTests := true, laidLooks := .later }
def PlanCompilesUptoCardSaid : Prop := Claim7.holds Tryz.pinned (.plain (OpenSpec.upto planCompilesSpec)) planCompilesUptoCard

/-- THE SECOND FORM's CARD OF 'partsynclaw12.PlanShares'. -/
def planSharesUptoCard : Claim7 := { stood := { row := planSharesUptoRow, standIns := [], harness := (true, "c86d44fb5b2a0a98fd17092f0b190986421161bc1e3a220361b80a426708c50e"), looks := false }, kinds := [], alts := [], laidByText := true, laidKinds := [.data, .data, .data], laidTests := true, laidLooks := .later }
def PlanSharesUptoCardSaid : Prop := Claim7.holds Tryz.pinned (.plain (OpenSpec.upto planSharesSpec)) planSharesUptoCard

/-- THE SECOND FORM's CARD OF 'partsynclaw12.PlanExpands'. -/
def planExpandsUptoCard : Claim7 := { stood := { row := planExpandsUptoRow, standIns := [], harness := (true, "c86d44fb5b2a0a98fd17092f0b190986421161bc1e3a220361b80a426708c50e"), looks := false }, kinds := [], alts := [], laidByText := true, laidKinds := [.data, .data, .data], laidTests := true, laidLooks := .later }
def PlanExpandsUptoCardSaid : Prop := Claim7.holds Tryz.pinned (.plain (OpenSpec.upto planExpandsSpec)) planExpandsUptoCard

/-- THE SECOND FORM's CARD OF 'partsynclaw12.PlanReturns'. -/
def planReturnsUptoCard : Claim7 := { stood := { row := planReturnsUptoRow, standIns := [], harness := (true, "c86d44fb5b2a0a98fd17092f0b190986421161bc1e3a220361b80a426708c50e"), looks := false }, kinds := [], alts := [], laidByText := true, laidKinds := [.data, .data, .data], laidTests := true, laidLooks := .later }
def PlanReturnsUptoCardSaid : Prop := Claim7.holds Tryz.pinned (.plain (OpenSpec.upto planReturnsSpec)) planReturnsUptoCard
end Rows
end Go.Proofs.YtogokeienebdfaaGreatDoor
