/-
  DERIVED. GIVEN WITH THE SEED: THE CARDS: each row of YtligdjefbiebjaaGreatDoorRows.lean that lists a variable, with what it lists TIED to the program's text (the seventh form; the later family's looks); each row that meets fmt, with fmt's text TOLD by the authors' own Lean function (tested against real Go, not proved from fmt's source: count such statements apart). THE CARD IS WHAT COUNTS. Prove the row's statement (the work); the ties are given (YtligdjefbiebjaaGreatDoorTie.lean); close each card by the builder's one call (the guide's Derived/Test/ToyasCard.lean, 'card_holds'). Laid BY PROGRAM, IN A SANDBOX (cutbox-door.mjs). By AI agents, Wed Nov 11 2026. No macro, syntax, notation, axiom, sorry.
-/
import Derived.Test.YtligdjefbiebjaaGreatDoorRows
import GoSem.ClaimSeven
namespace Go.Proofs.YtligdjefbiebjaaGreatDoor
namespace Rows

/-- THE TIED CARD OF 'tidewaylaw09.SafetyPermits'. -/
def safetyPermitsCard : Claim7 := { stood := { row := safetyPermitsRow, standIns := [], harness := (true, "40eca1826668e1b7f8bff3fe006aea5df0142f34d3ae0853981c1b7f6ee5a298"), looks := false }, kinds := [], alts := [], laidByText := true, laidKinds := [.data, .data, .data], laidTests := true, laidLooks := .later }
def SafetyPermitsCardSaid : Prop := Claim7.holds Tryz.pinned (.plain (OpenSpec.ofChange safetyPermitsSpec)) safetyPermitsCard

/-- THE TIED CARD OF 'tidewaylaw09.SafetyIssues'. -/
def safetyIssuesCard : Claim7 := { stood := { row := safetyIssuesRow, standIns := [], harness := (true, "40eca1826668e1b7f8bff3fe006aea5df0142f34d3ae0853981c1b7f6ee5a298"), looks := false }, kinds := [], alts := [], laidByText := true, laidKinds := [.data, .data, .data], laidTests := true, laidLooks := .later }
def SafetyIssuesCardSaid : Prop := Claim7.holds Tryz.pinned (.plain (OpenSpec.ofChange safetyIssuesSpec)) safetyIssuesCard

/-- THE TIED CARD OF 'tidewaylaw09.SafetyEarliest'. -/
def safetyEarliestCard : Claim7 := { stood := { row := safetyEarliestRow, standIns := [], harness := (true, "40eca1826668e1b7f8bff3fe006aea5df0142f34d3ae0853981c1b7f6ee5a298"), looks := false }, kinds := [], alts := [], laidByText := true, laidKinds := [.data, .data, .data], laidTests := true, laidLooks := .later }
def SafetyEarliestCardSaid : Prop := Claim7.holds Tryz.pinned (.plain (OpenSpec.ofChange safetyEarliestSpec)) safetyEarliestCard

/-- THE TIED CARD OF 'tidewaylaw09.SafetyCases'. -/
def safetyCasesCard : Claim7 := { stood := { row := safetyCasesRow, standIns := [], harness := (true, "40eca1826668e1b7f8bff3fe006aea5df0142f34d3ae0853981c1b7f6ee5a298"), looks := false }, kinds := [], alts := [], laidByText := true, laidKinds := [.data, .data, .data], laidTests := true, laidLooks := .later }
def SafetyCasesCardSaid : Prop := Claim7.holds Tryz.pinned (.plain (OpenSpec.ofChange safetyCasesSpec)) safetyCasesCard

/-- THE TIED CARD OF 'tidewaylaw09.SafetyChanges'. -/
def safetyChangesCard : Claim7 := { stood := { row := safetyChangesRow, standIns := [], harness := (true, "40eca1826668e1b7f8bff3fe006aea5df0142f34d3ae0853981c1b7f6ee5a298"), looks := false }, kinds := [], alts := [], laidByText := true, laidKinds := [.data, .data, .data], laidTests := true, laidLooks := .later }
def SafetyChangesCardSaid : Prop := Claim7.holds Tryz.pinned (.plain (OpenSpec.ofChange safetyChangesSpec)) safetyChangesCard

/-- THE TIED CARD OF 'tidewaylaw09.SafetyWaits'. -/
def safetyWaitsCard : Claim7 := { stood := { row := safetyWaitsRow, standIns := [], harness := (true, "40eca1826668e1b7f8bff3fe006aea5df0142f34d3ae0853981c1b7f6ee5a298"), looks := false }, kinds := [], alts := [], laidByText := true, laidKinds := [.data, .data, .data], laidTests := true, laidLooks := .later }
def SafetyWaitsCardSaid : Prop := Claim7.holds Tryz.pinned (.plain (OpenSpec.ofChange safetyWaitsSpec)) safetyWaitsCard

/-- THE TIED CARD OF 'tidewaylaw09.SafetyRenews'. -/
def safetyRenewsCard : Claim7 := { stood := { row := safetyRenewsRow, standIns := [], harness := (true, "40eca1826668e1b7f8bff3fe006aea5df0142f34d3ae0853981c1b7f6ee5a298"), looks := false }, kinds := [], alts := [], laidByText := true, laidKinds := [.data, .data, .data], laidTests := true, laidLooks := .later }
def SafetyRenewsCardSaid : Prop := Claim7.holds Tryz.pinned (.plain (OpenSpec.ofChange safetyRenewsSpec)) safetyRenewsCard

/-- THE TIED CARD OF 'tidewaylaw09.SafetySupports'. -/
def safetySupportsCard : Claim7 := { stood := { row := safetySupportsRow, standIns := [], harness := (true, "40eca1826668e1b7f8bff3fe006aea5df0142f34d3ae0853981c1b7f6ee5a298"), looks := false }, kinds := [], alts := [], laidByText := true, laidKinds := [.data, .data, .data], laidTests := true, laidLooks := .later }
def SafetySupportsCardSaid : Prop := Claim7.holds Tryz.pinned (.plain (OpenSpec.ofChange safetySupportsSpec)) safetySupportsCard

/-- THE TIED CARD OF 'tidewaylaw09.SafetyRests'. -/
def safetyRestsCard : Claim7 := { stood := { row := safetyRestsRow, standIns := [], harness := (true, "40eca1826668e1b7f8bff3fe006aea5df0142f34d3ae0853981c1b7f6ee5a298"), looks := false }, kinds := [], alts := [], laidByText := true, laidKinds := [.data, .data, .data], laidTests := true, laidLooks := .later }
def SafetyRestsCardSaid : Prop := Claim7.holds Tryz.pinned (.plain (OpenSpec.ofChange safetyRestsSpec)) safetyRestsCard

/-- THE TIED CARD OF 'tidewaylaw09.SafetyLists'. -/
def safetyListsCard : Claim7 := { stood := { row := safetyListsRow, standIns := [], harness := (true, "40eca1826668e1b7f8bff3fe006aea5df0142f34d3ae0853981c1b7f6ee5a298"), looks := false }, kinds := [], alts := [], laidByText := true, laidKinds := [.data, .data, .data], laidTests := true, laidLooks := .later }
def SafetyListsCardSaid : Prop := Claim7.holds Tryz.pinned (.plain (OpenSpec.ofChange safetyListsSpec)) safetyListsCard

/-- THE TIED CARD OF 'tidewaylaw09.SafetyApart'. -/
def safetyApartCard : Claim7 := { stood := { row := safetyApartRow, standIns := [], harness := (true, "40eca1826668e1b7f8bff3fe006aea5df0142f34d3ae0853981c1b7f6ee5a298"), looks := false }, kinds := [], alts := [], laidByText := true, laidKinds := [.data, .data, .data], laidTests := true, laidLooks := .later }
def SafetyApartCardSaid : Prop := Claim7.holds Tryz.pinned (.plain (OpenSpec.ofChange safetyApartSpec)) safetyApartCard

/-- THE SECOND FORM's CARD OF 'tidewaylaw09.SafetyPermits'. -/
def safetyPermitsUptoCard : Claim7 := { stood := { row := safetyPermitsUptoRow, standIns := [], harness := (true, "40eca1826668e1b7f8bff3fe006aea5df0142f34d3ae0853981c1b7f6ee5a298"), looks := false }, kinds := [], alts := [], laidByText := true, laidKinds := [.data, .data, .data], laidTests := true, laidLooks := .later }
def SafetyPermitsUptoCardSaid : Prop := Claim7.holds Tryz.pinned (.plain (OpenSpec.upto safetyPermitsSpec)) safetyPermitsUptoCard

/-- THE SECOND FORM's CARD OF 'tidewaylaw09.SafetyIssues'. -/
def safetyIssuesUptoCard : Claim7 := { stood := { row := safetyIssuesUptoRow, standIns := [], harness := (true, "40eca1826668e1b7f8bff3fe006aea5df0142f34d3ae0853981c1b7f6ee5a298"), looks := false }, kinds := [], alts := [], laidByText := true, laidKinds := [.data, .data, .data], laidTests := true, laidLooks := .later }
def SafetyIssuesUptoCardSaid : Prop := Claim7.holds Tryz.pinned (.plain (OpenSpec.upto safetyIssuesSpec)) safetyIssuesUptoCard

/-- THE SECOND FORM's CARD OF 'tidewaylaw09.SafetyEarliest'. -/
def safetyEarliestUptoCard : Claim7 := { stood := { row := safetyEarliestUptoRow, standIns := [], harness := (true, "40eca1826668e1b7f8bff3fe006aea5df0142f34d3ae0853981c1b7f6ee5a298"), looks := false }, kinds := [], alts := [], laidByText := true, laidKinds := [.data, .data, .data], laidTests := true, laidLooks := .later }
def SafetyEarliestUptoCardSaid : Prop := Claim7.holds Tryz.pinned (.plain (OpenSpec.upto safetyEarliestSpec)) safetyEarliestUptoCard

/-- THE SECOND FORM's CARD OF 'tidewaylaw09.SafetyCases'. -/
def safetyCasesUptoCard : Claim7 := { stood := { row := safetyCasesUptoRow, standIns := [], harness := (true, "40eca1826668e1b7f8bff3fe006aea5df0142f34d3ae0853981c1b7f6ee5a298"), looks := false }, kinds := [], alts := [], laidByText := true, laidKinds := [.data, .data, .data], laidTests := true, laidLooks := .later }
def SafetyCasesUptoCardSaid : Prop := Claim7.holds Tryz.pinned (.plain (OpenSpec.upto safetyCasesSpec)) safetyCasesUptoCard

/-- THE SECOND FORM's CARD OF 'tidewaylaw09.SafetyChanges'. -/
def safetyChangesUptoCard : Claim7 := { stood := { row := safetyChangesUptoRow, standIns := [], harness := (true, "40eca1826668e1b7f8bff3fe006aea5df0142f34d3ae0853981c1b7f6ee5a298"), looks := false }, kinds := [], alts := [], laidByText := true, laidKinds := [.data, .data, .data], laidTests := true, laidLooks := .later }
def SafetyChangesUptoCardSaid : Prop := Claim7.holds Tryz.pinned (.plain (OpenSpec.upto safetyChangesSpec)) safetyChangesUptoCard

/-- THE SECOND FORM's CARD OF 'tidewaylaw09.SafetyWaits'. -/
def safetyWaitsUptoCard : Claim7 := { stood := { row := safetyWaitsUptoRow, standIns := [], harness := (true, "40eca1826668e1b7f8bff3fe006aea5df0142f34d3ae0853981c1b7f6ee5a298"), looks := false }, kinds := [], alts := [], laidByText := true, laidKinds := [.data, .data, .data], laidTests := true, laidLooks := .later }
def SafetyWaitsUptoCardSaid : Prop := Claim7.holds Tryz.pinned (.plain (OpenSpec.upto safetyWaitsSpec)) safetyWaitsUptoCard

/-- THE SECOND FORM's CARD OF 'tidewaylaw09.SafetyRenews'. -/
def safetyRenewsUptoCard : Claim7 := { stood := { row := safetyRenewsUptoRow, standIns := [], harness := (true, "40eca1826668e1b7f8bff3fe006aea5df0142f34d3ae0853981c1b7f6ee5a298"), looks := false }, kinds := [], alts := [], laidByText := true, laidKinds := [.data, .data, .data], laidTests := true, laidLooks := .later }
def SafetyRenewsUptoCardSaid : Prop := Claim7.holds Tryz.pinned (.plain (OpenSpec.upto safetyRenewsSpec)) safetyRenewsUptoCard

/-- THE SECOND FORM's CARD OF 'tidewaylaw09.SafetySupports'. -/
def safetySupportsUptoCard : Claim7 := { stood := { row := safetySupportsUptoRow, standIns := [], harness := (true, "40eca1826668e1b7f8bff3fe006aea5df0142f34d3ae0853981c1b7f6ee5a298"), looks := false }, kinds := [], alts := [], laidByText := true, laidKinds := [.data, .data, .data], laidTests := true, laidLooks := .later }
def SafetySupportsUptoCardSaid : Prop := Claim7.holds Tryz.pinned (.plain (OpenSpec.upto safetySupportsSpec)) safetySupportsUptoCard

/-- THE SECOND FORM's CARD OF 'tidewaylaw09.SafetyRests'. -/
def safetyRestsUptoCard : Claim7 := { stood := { row := safetyRestsUptoRow, standIns := [], harness := (true, "40eca1826668e1b7f8bff3fe006aea5df0142f34d3ae0853981c1b7f6ee5a298"), looks := false }, kinds := [], alts := [], laidByText := true, laidKinds := [.data, .data, .data], laidTests := true, laidLooks := .later }
def SafetyRestsUptoCardSaid : Prop := Claim7.holds Tryz.pinned (.plain (OpenSpec.upto safetyRestsSpec)) safetyRestsUptoCard

/-- THE SECOND FORM's CARD OF 'tidewaylaw09.SafetyLists'. -/
def safetyListsUptoCard : Claim7 := { stood := { row := safetyListsUptoRow, standIns := [], harness := (true, "40eca1826668e1b7f8bff3fe006aea5df0142f34d3ae0853981c1b7f6ee5a298"), looks := false }, kinds := [], alts := [], laidByText := true, laidKinds := [.data, .data, .data], laidTests := true, laidLooks := .later }
def SafetyListsUptoCardSaid : Prop := Claim7.holds Tryz.pinned (.plain (OpenSpec.upto safetyListsSpec)) safetyListsUptoCard

/-- THE SECOND FORM's CARD OF 'tidewaylaw09.SafetyApart'. -/
def safetyApartUptoCard : Claim7 := { stood := { row := safetyApartUptoRow, standIns := [], harness := (true, "40eca1826668e1b7f8bff3fe006aea5df0142f34d3ae0853981c1b7f6ee5a298"), looks := false }, kinds := [], alts := [], laidByText := true, laidKinds := [.data, .data, .data], laidTests := true, laidLooks := .later }
def SafetyApartUptoCardSaid : Prop := Claim7.holds Tryz.pinned (.plain (OpenSpec.upto safetyApartSpec)) safetyApartUptoCard
end Rows
end Go.Proofs.YtligdjefbiebjaaGreatDoor
