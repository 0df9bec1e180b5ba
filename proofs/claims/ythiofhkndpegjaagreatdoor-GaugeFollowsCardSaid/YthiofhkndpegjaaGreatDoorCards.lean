/-
  DERIVED. GIVEN WITH THE SEED: THE CARDS: each row of YthiofhkndpegjaaGreatDoorRows.lean that lists a variable, with what it lists TIED to the program's text (the seventh form; the later family's looks); each row that meets fmt, with fmt's text TOLD by the authors' own Lean function (tested against real Go, not proved from fmt's source: count such statements apart). THE CARD IS WHAT COUNTS. Prove the row's statement (the work); the ties are given (YthiofhkndpegjaaGreatDoorTie.lean); close each card by the builder's one call (the guide's Derived/Test/ToyasCard.lean, 'card_holds'). Laid BY PROGRAM, IN A SANDBOX (cutbox-door.mjs). By AI agents, Wed Nov 11 2026. No macro, syntax, notation, axiom, sorry.
-/
import Derived.Test.YthiofhkndpegjaaGreatDoorRows
import GoSem.ClaimSeven
namespace Go.Proofs.YthiofhkndpegjaaGreatDoor
namespace Rows

/-- THE TIED CARD OF 'tidewaylaw01.GaugeSpans'. -/
def gaugeSpansCard : Claim7 := { stood := { row := gaugeSpansRow, standIns := [], harness := (true, "9b504169904af1e824dc70b168a175c9d9baa6ab3b33d2c8f537bb5155616771"), looks := false }, kinds := [], alts := [], laidByText := true, laidKinds := [.data, .data, .data], laidTests := true, laidLooks := .later }
def GaugeSpansCardSaid : Prop := Claim7.holds Tryz.pinned (.plain (OpenSpec.ofChange gaugeSpansSpec)) gaugeSpansCard

/-- THE TIED CARD OF 'tidewaylaw01.GaugeSets'. -/
def gaugeSetsCard : Claim7 := { stood := { row := gaugeSetsRow, standIns := [], harness := (true, "9b504169904af1e824dc70b168a175c9d9baa6ab3b33d2c8f537bb5155616771"), looks := false }, kinds := [], alts := [], laidByText := true, laidKinds := [.data, .data, .data], laidTests := true, laidLooks := .later }
def GaugeSetsCardSaid : Prop := Claim7.holds Tryz.pinned (.plain (OpenSpec.ofChange gaugeSetsSpec)) gaugeSetsCard

/-- THE TIED CARD OF 'tidewaylaw01.GaugeBasics'. -/
def gaugeBasicsCard : Claim7 := { stood := { row := gaugeBasicsRow, standIns := [], harness := (true, "9b504169904af1e824dc70b168a175c9d9baa6ab3b33d2c8f537bb5155616771"), looks := false }, kinds := [], alts := [], laidByText := true, laidKinds := [.data, .data, .data], laidTests := true, laidLooks := .later }
def GaugeBasicsCardSaid : Prop := Claim7.holds Tryz.pinned (.plain (OpenSpec.ofChange gaugeBasicsSpec)) gaugeBasicsCard

/-- THE TIED CARD OF 'tidewaylaw01.GaugeChecks'. -/
def gaugeChecksCard : Claim7 := { stood := { row := gaugeChecksRow, standIns := [], harness := (true, "9b504169904af1e824dc70b168a175c9d9baa6ab3b33d2c8f537bb5155616771"), looks := false }, kinds := [], alts := [], laidByText := true, laidKinds := [.data, .data, .data], laidTests := true, laidLooks := .later }
def GaugeChecksCardSaid : Prop := Claim7.holds Tryz.pinned (.plain (OpenSpec.ofChange gaugeChecksSpec)) gaugeChecksCard

/-- THE TIED CARD OF 'tidewaylaw01.GaugeCleans'. -/
def gaugeCleansCard : Claim7 := { stood := { row := gaugeCleansRow, standIns := [], harness := (true, "9b504169904af1e824dc70b168a175c9d9baa6ab3b33d2c8f537bb5155616771"), looks := false }, kinds := [], alts := [], laidByText := true, laidKinds := [.data, .data, .data], laidTests := true, laidLooks := .later }
def GaugeCleansCardSaid : Prop := Claim7.holds Tryz.pinned (.plain (OpenSpec.ofChange gaugeCleansSpec)) gaugeCleansCard

/-- THE TIED CARD OF 'tidewaylaw01.GaugeVotes'. -/
def gaugeVotesCard : Claim7 := { stood := { row := gaugeVotesRow, standIns := [], harness := (true, "9b504169904af1e824dc70b168a175c9d9baa6ab3b33d2c8f537bb5155616771"), looks := false }, kinds := [], alts := [], laidByText := true, laidKinds := [.data, .data, .data], laidTests := true, laidLooks := .later }
def GaugeVotesCardSaid : Prop := Claim7.holds Tryz.pinned (.plain (OpenSpec.ofChange gaugeVotesSpec)) gaugeVotesCard

/-- THE TIED CARD OF 'tidewaylaw01.GaugeWaters'. -/
def gaugeWatersCard : Claim7 := { stood := { row := gaugeWatersRow, standIns := [], harness := (true, "9b504169904af1e824dc70b168a175c9d9baa6ab3b33d2c8f537bb5155616771"), looks := false }, kinds := [], alts := [], laidByText := true, laidKinds := [.data, .data, .data], laidTests := true, laidLooks := .later }
def GaugeWatersCardSaid : Prop := Claim7.holds Tryz.pinned (.plain (OpenSpec.ofChange gaugeWatersSpec)) gaugeWatersCard

/-- THE TIED CARD OF 'tidewaylaw01.GaugeKeeps'. -/
def gaugeKeepsCard : Claim7 := { stood := { row := gaugeKeepsRow, standIns := [], harness := (true, "9b504169904af1e824dc70b168a175c9d9baa6ab3b33d2c8f537bb5155616771"), looks := false }, kinds := [], alts := [], laidByText := true, laidKinds := [.data, .data, .data], laidTests := true, laidLooks := .later }
def GaugeKeepsCardSaid : Prop := Claim7.holds Tryz.pinned (.plain (OpenSpec.ofChange gaugeKeepsSpec)) gaugeKeepsCard

/-- THE TIED CARD OF 'tidewaylaw01.GaugeMiddle'. -/
def gaugeMiddleCard : Claim7 := { stood := { row := gaugeMiddleRow, standIns := [], harness := (true, "9b504169904af1e824dc70b168a175c9d9baa6ab3b33d2c8f537bb5155616771"), looks := false }, kinds := [], alts := [], laidByText := true, laidKinds := [.data, .data, .data], laidTests := true, laidLooks := .later }
def GaugeMiddleCardSaid : Prop := Claim7.holds Tryz.pinned (.plain (OpenSpec.ofChange gaugeMiddleSpec)) gaugeMiddleCard

/-- THE TIED CARD OF 'tidewaylaw01.GaugeAppends'. -/
def gaugeAppendsCard : Claim7 := { stood := { row := gaugeAppendsRow, standIns := [], harness := (true, "9b504169904af1e824dc70b168a175c9d9baa6ab3b33d2c8f537bb5155616771"), looks := false }, kinds := [], alts := [], laidByText := true, laidKinds := [.data, .data, .data], laidTests := true, laidLooks := .later }
def GaugeAppendsCardSaid : Prop := Claim7.holds Tryz.pinned (.plain (OpenSpec.ofChange gaugeAppendsSpec)) gaugeAppendsCard

/-- THE TIED CARD OF 'tidewaylaw01.GaugeFollows'. -/
def gaugeFollowsCard : Claim7 := { stood := { row := gaugeFollowsRow, standIns := [], harness := (true, "9b504169904af1e824dc70b168a175c9d9baa6ab3b33d2c8f537bb5155616771"), looks := false }, kinds := [], alts := [], laidByText := true, laidKinds := [.data, .data, .data], laidTests := true, laidLooks := .later }
def GaugeFollowsCardSaid : Prop := Claim7.holds Tryz.pinned (.plain (OpenSpec.ofChange gaugeFollowsSpec)) gaugeFollowsCard

/-- THE TIED CARD OF 'tidewaylaw01.GaugeStreams'. -/
def gaugeStreamsCard : Claim7 := { stood := { row := gaugeStreamsRow, standIns := [], harness := (true, "9b504169904af1e824dc70b168a175c9d9baa6ab3b33d2c8f537bb5155616771"), looks := false }, kinds := [], alts := [], laidByText := true, laidKinds := [.data, .data, .data], laidTests := true, laidLooks := .later }
def GaugeStreamsCardSaid : Prop := Claim7.holds Tryz.pinned (.plain (OpenSpec.ofChange gaugeStreamsSpec)) gaugeStreamsCard

/-- THE SECOND FORM's CARD OF 'tidewaylaw01.GaugeSpans'. -/
def gaugeSpansUptoCard : Claim7 := { stood := { row := gaugeSpansUptoRow, standIns := [], harness := (true, "9b504169904af1e824dc70b168a175c9d9baa6ab3b33d2c8f537bb5155616771"), looks := false }, kinds := [], alts := [], laidByText := true, laidKinds := [.data, .data, .data], laidTests := true, laidLooks := .later }
def GaugeSpansUptoCardSaid : Prop := Claim7.holds Tryz.pinned (.plain (OpenSpec.upto gaugeSpansSpec)) gaugeSpansUptoCard

/-- THE SECOND FORM's CARD OF 'tidewaylaw01.GaugeSets'. -/
def gaugeSetsUptoCard : Claim7 := { stood := { row := gaugeSetsUptoRow, standIns := [], harness := (true, "9b504169904af1e824dc70b168a175c9d9baa6ab3b33d2c8f537bb5155616771"), looks := false }, kinds := [], alts := [], laidByText := true, laidKinds := [.data, .data, .data], laidTests := true, laidLooks := .later }
def GaugeSetsUptoCardSaid : Prop := Claim7.holds Tryz.pinned (.plain (OpenSpec.upto gaugeSetsSpec)) gaugeSetsUptoCard

/-- THE SECOND FORM's CARD OF 'tidewaylaw01.GaugeBasics'. -/
def gaugeBasicsUptoCard : Claim7 := { stood := { row := gaugeBasicsUptoRow, standIns := [], harness := (true, "9b504169904af1e824dc70b168a175c9d9baa6ab3b33d2c8f537bb5155616771"), looks := false }, kinds := [], alts := [], laidByText := true, laidKinds := [.data, .data, .data], laidTests := true, laidLooks := .later }
def GaugeBasicsUptoCardSaid : Prop := Claim7.holds Tryz.pinned (.plain (OpenSpec.upto gaugeBasicsSpec)) gaugeBasicsUptoCard

/-- THE SECOND FORM's CARD OF 'tidewaylaw01.GaugeChecks'. -/
def gaugeChecksUptoCard : Claim7 := { stood := { row := gaugeChecksUptoRow, standIns := [], harness := (true, "9b504169904af1e824dc70b168a175c9d9baa6ab3b33d2c8f537bb5155616771"), looks := false }, kinds := [], alts := [], laidByText := true, laidKinds := [.data, .data, .data], laidTests := true, laidLooks := .later }
def GaugeChecksUptoCardSaid : Prop := Claim7.holds Tryz.pinned (.plain (OpenSpec.upto gaugeChecksSpec)) gaugeChecksUptoCard

/-- THE SECOND FORM's CARD OF 'tidewaylaw01.GaugeCleans'. -/
def gaugeCleansUptoCard : Claim7 := { stood := { row := gaugeCleansUptoRow, standIns := [], harness := (true, "9b504169904af1e824dc70b168a175c9d9baa6ab3b33d2c8f537bb5155616771"), looks := false }, kinds := [], alts := [], laidByText := true, laidKinds := [.data, .data, .data], laidTests := true, laidLooks := .later }
def GaugeCleansUptoCardSaid : Prop := Claim7.holds Tryz.pinned (.plain (OpenSpec.upto gaugeCleansSpec)) gaugeCleansUptoCard

/-- THE SECOND FORM's CARD OF 'tidewaylaw01.GaugeVotes'. -/
def gaugeVotesUptoCard : Claim7 := { stood := { row := gaugeVotesUptoRow, standIns := [], harness := (true, "9b504169904af1e824dc70b168a175c9d9baa6ab3b33d2c8f537bb5155616771"), looks := false }, kinds := [], alts := [], laidByText := true, laidKinds := [.data, .data, .data], laidTests := true, laidLooks := .later }
def GaugeVotesUptoCardSaid : Prop := Claim7.holds Tryz.pinned (.plain (OpenSpec.upto gaugeVotesSpec)) gaugeVotesUptoCard

/-- THE SECOND FORM's CARD OF 'tidewaylaw01.GaugeWaters'. -/
def gaugeWatersUptoCard : Claim7 := { stood := { row := gaugeWatersUptoRow, standIns := [], harness := (true, "9b504169904af1e824dc70b168a175c9d9baa6ab3b33d2c8f537bb5155616771"), looks := false }, kinds := [], alts := [], laidByText := true, laidKinds := [.data, .data, .data], laidTests := true, laidLooks := .later }
def GaugeWatersUptoCardSaid : Prop := Claim7.holds Tryz.pinned (.plain (OpenSpec.upto gaugeWatersSpec)) gaugeWatersUptoCard

/-- THE SECOND FORM's CARD OF 'tidewaylaw01.GaugeKeeps'. -/
def gaugeKeepsUptoCard : Claim7 := { stood := { row := gaugeKeepsUptoRow, standIns := [], harness := (true, "9b504169904af1e824dc70b168a175c9d9baa6ab3b33d2c8f537bb5155616771"), looks := false }, kinds := [], alts := [], laidByText := true, laidKinds := [.data, .data, .data], laidTests := true, laidLooks := .later }
def GaugeKeepsUptoCardSaid : Prop := Claim7.holds Tryz.pinned (.plain (OpenSpec.upto gaugeKeepsSpec)) gaugeKeepsUptoCard

/-- THE SECOND FORM's CARD OF 'tidewaylaw01.GaugeMiddle'. -/
def gaugeMiddleUptoCard : Claim7 := { stood := { row := gaugeMiddleUptoRow, standIns := [], harness := (true, "9b504169904af1e824dc70b168a175c9d9baa6ab3b33d2c8f537bb5155616771"), looks := false }, kinds := [], alts := [], laidByText := true, laidKinds := [.data, .data, .data], laidTests := true, laidLooks := .later }
def GaugeMiddleUptoCardSaid : Prop := Claim7.holds Tryz.pinned (.plain (OpenSpec.upto gaugeMiddleSpec)) gaugeMiddleUptoCard

/-- THE SECOND FORM's CARD OF 'tidewaylaw01.GaugeAppends'. -/
def gaugeAppendsUptoCard : Claim7 := { stood := { row := gaugeAppendsUptoRow, standIns := [], harness := (true, "9b504169904af1e824dc70b168a175c9d9baa6ab3b33d2c8f537bb5155616771"), looks := false }, kinds := [], alts := [], laidByText := true, laidKinds := [.data, .data, .data], laidTests := true, laidLooks := .later }
def GaugeAppendsUptoCardSaid : Prop := Claim7.holds Tryz.pinned (.plain (OpenSpec.upto gaugeAppendsSpec)) gaugeAppendsUptoCard

/-- THE SECOND FORM's CARD OF 'tidewaylaw01.GaugeFollows'. -/
def gaugeFollowsUptoCard : Claim7 := { stood := { row := gaugeFollowsUptoRow, standIns := [], harness := (true, "9b504169904af1e824dc70b168a175c9d9baa6ab3b33d2c8f537bb5155616771"), looks := false }, kinds := [], alts := [], laidByText := true, laidKinds := [.data, .data, .data], laidTests := true, laidLooks := .later }
def GaugeFollowsUptoCardSaid : Prop := Claim7.holds Tryz.pinned (.plain (OpenSpec.upto gaugeFollowsSpec)) gaugeFollowsUptoCard

/-- THE SECOND FORM's CARD OF 'tidewaylaw01.GaugeStreams'. -/
def gaugeStreamsUptoCard : Claim7 := { stood := { row := gaugeStreamsUptoRow, standIns := [], harness := (true, "9b504169904af1e824dc70b168a175c9d9baa6ab3b33d2c8f537bb5155616771"), looks := false }, kinds := [], alts := [], laidByText := true, laidKinds := [.data, .data, .data], laidTests := true, laidLooks := .later }
def GaugeStreamsUptoCardSaid : Prop := Claim7.holds Tryz.pinned (.plain (OpenSpec.upto gaugeStreamsSpec)) gaugeStreamsUptoCard
end Rows
end Go.Proofs.YthiofhkndpegjaaGreatDoor
