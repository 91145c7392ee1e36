/-
  DERIVED. GIVEN WITH THE SEED: THE CARDS: each row of YtafjlhgalgfiaaaGreatDoorRows.lean that lists a variable, with what it lists TIED to the program's text (the seventh form; the later family's looks); each row that meets fmt, with fmt's text TOLD by the authors' own Lean function (tested against real Go, not proved from fmt's source: count such statements apart). THE CARD IS WHAT COUNTS. Prove the row's statement (the work); the ties are given (YtafjlhgalgfiaaaGreatDoorTie.lean); close each card by the builder's one call (the guide's Derived/Test/ToyasCard.lean, 'card_holds'). Laid BY PROGRAM, IN A SANDBOX (cutbox-door.mjs). By AI agents, Wed Nov 11 2026. No macro, syntax, notation, axiom, sorry.
-/
import Derived.Test.YtafjlhgalgfiaaaGreatDoorRows
import GoSem.ClaimSeven
namespace Go.Proofs.YtafjlhgalgfiaaaGreatDoor
namespace Rows

/-- THE TIED CARD OF 'partsynclaw14.NeedPlans'. -/
def needPlansCard : Claim7 := { stood := { row := needPlansRow, standIns := [], harness := (true, "f3831a3bb8a806f6051fbaeb5634a4016377ceaacc9262d5c008508828e08bbb"), looks := false }, kinds := [], alts := [], laidByText := true, laidKinds := [.data, .data, .data], laidTests := true, laidLooks := .later }
def NeedPlansCardSaid : Prop := Claim7.holds Tryz.pinned (.plain (OpenSpec.ofChange needPlansSpec)) needPlansCard

/-- THE TIED CARD OF 'partsynclaw14.NeedOnly'. -/
def needOnlyCard : Claim7 := { stood := { row := needOnlyRow, standIns := [], harness := (true, "f3831a3bb8a806f6051fbaeb5634a4016377ceaacc9262d5c008508828e08bbb"), looks := false }, kinds := [], alts := [], laidByText := true, laidKinds := [.data, .data, .data], laidTests := true, laidLooks := .later }
def NeedOnlyCardSaid : Prop := Claim7.holds Tryz.pinned (.plain (OpenSpec.ofChange needOnlySpec)) needOnlyCard

/-- THE TIED CARD OF 'partsynclaw14.NeedRanks'. -/
def needRanksCard : Claim7 := { stood := { row := needRanksRow, standIns := [], harness := (true, "f3831a3bb8a806f6051fbaeb5634a4016377ceaacc9262d5c008508828e08bbb"), looks := false }, kinds := [], alts := [], laidByText := true, laidKinds := [.data, .data, .data], laidTests := true, laidLooks := .later }
def NeedRanksCardSaid : Prop := Claim7.holds Tryz.pinned (.plain (OpenSpec.ofChange needRanksSpec)) needRanksCard

/-- THE TIED CARD OF 'partsynclaw14.NeedCovers'. -/
def needCoversCard : Claim7 := { stood := { row := needCoversRow, standIns := [], harness := (true, "f3831a3bb8a806f6051fbaeb5634a4016377ceaacc9262d5c008508828e08bbb"), looks := false }, kinds := [], alts := [], laidByText := true, laidKinds := [.data, .data, .data], laidTests := true, laidLooks := .later }
def NeedCoversCardSaid : Prop := Claim7.holds Tryz.pinned (.plain (OpenSpec.ofChange needCoversSpec)) needCoversCard

/-- THE TIED CARD OF 'partsynclaw14.NeedSuffices'. -/
def needSufficesCard : Claim7 := { stood := { row := needSufficesRow, standIns := [], harness := (true, "f3831a3bb8a806f6051fbaeb5634a4016377ceaacc9262d5c008508828e08bbb"), looks := false }, kinds := [], alts := [], laidByText := true, laidKinds := [.data, .data, .data], laidTests := true, laidLooks := .later }
def NeedSufficesCardSaid : Prop := Claim7.holds Tryz.pinned (.plain (OpenSpec.ofChange needSufficesSpec)) needSufficesCard

/-- THE SECOND FORM's CARD OF 'partsynclaw14.NeedPlans'. -/
def needPlansUptoCard : Claim7 := { stood := { row := needPlansUptoRow, standIns := [], harness := (true, "f3831a3bb8a806f6051fbaeb5634a4016377ceaacc9262d5c008508828e08bbb"), looks := false }, kinds := [], alts := [], laidByText := true, laidKinds := [.data, .data, .data], laidTests := true, laidLooks := .later }
def NeedPlansUptoCardSaid : Prop := Claim7.holds Tryz.pinned (.plain (OpenSpec.upto needPlansSpec)) needPlansUptoCard

/-- THE SECOND FORM's CARD OF 'partsynclaw14.NeedOnly'. -/
def needOnlyUptoCard : Claim7 := { stood := { row := needOnlyUptoRow, standIns := [], harness := (true, "f3831a3bb8a806f6051fbaeb5634a4016377ceaacc9262d5c008508828e08bbb"), looks := false }, kinds := [], alts := [], laidByText := true, laidKinds := [.data, .data, .data], laidTests := true, laidLooks := .later }
def NeedOnlyUptoCardSaid : Prop := Claim7.holds Tryz.pinned (.plain (OpenSpec.upto needOnlySpec)) needOnlyUptoCard

/-- THE SECOND FORM's CARD OF 'partsynclaw14.NeedRanks'. -/
def needRanksUptoCard : Claim7 := { stood := { row := needRanksUptoRow, standIns := [], harness := (true, "f3831a3bb8a806f6051fbaeb5634a4016377ceaacc9262d5c008508828e08bbb"), looks := false }, kinds := [], alts := [], laidByText := true, laidKinds := [.data, .data, .data], laidTests := true, laidLooks := .later }
def NeedRanksUptoCardSaid : Prop := Claim7.holds Tryz.pinned (.plain (OpenSpec.upto needRanksSpec)) needRanksUptoCard

/-- THE SECOND FORM's CARD OF 'partsynclaw14.NeedCovers'. -/
def needCoversUptoCard : Claim7 := { stood := { row := needCoversUptoRow, standIns := [], harness := (true, "f3831a3bb8a806f6051fbaeb5634a4016377ceaacc9262d5c008508828e08bbb"), looks := false }, kinds := [], alts := [], laidByText := true, laidKinds := [.data, .data, .data], laidTests := true, laidLooks := .later }
def NeedCoversUptoCardSaid : Prop := Claim7.holds Tryz.pinned (.plain (OpenSpec.upto needCoversSpec)) needCoversUptoCard

/-- THE SECOND FORM's CARD OF 'partsynclaw14.NeedSuffices'. -/
def needSufficesUptoCard : Claim7 := { stood := { row := needSufficesUptoRow, standIns := [], harness := (true, "f3831a3bb8a806f6051fbaeb5634a4016377ceaacc9262d5c008508828e08bbb"), looks := false }, kinds := [], alts := [], laidByText := true, laidKinds := [.data, .data, .data], laidTests := true, laidLooks := .later }
def NeedSufficesUptoCardSaid : Prop := Claim7.holds Tryz.pinned (.plain (OpenSpec.upto needSufficesSpec)) needSufficesUptoCard
end Rows
end Go.Proofs.YtafjlhgalgfiaaaGreatDoor
