/-
  DERIVED. GIVEN WITH THE SEED: THE CARDS: each row of YteooaaiacpcfoaaGreatDoorRows.lean that lists a variable, with what it lists TIED to the program's text (the seventh form; the later family's looks); each row that meets fmt, with fmt's text TOLD by the authors' own Lean function (tested against real Go, not proved from fmt's source: count such statements apart). THE CARD IS WHAT COUNTS. Prove the row's statement (the work); the ties are given (YteooaaiacpcfoaaGreatDoorTie.lean); close each card by the builder's one call (the guide's Derived/Test/ToyasCard.lean, 'card_holds'). Laid BY PROGRAM, IN A SANDBOX (cutbox-door.mjs). By AI agents, Wed Nov 11 2026. No macro, syntax, notation, axiom, sorry.
-/
import Derived.Test.YteooaaiacpcfoaaGreatDoorRows
import GoSem.ClaimSeven
namespace Go.Proofs.YteooaaiacpcfoaaGreatDoor
namespace Rows

/-- THE TIED CARD OF 'tidewaylaw01.GaugeStreams'. -/
def gaugeStreamsCard : Claim7 := { stood := { row := gaugeStreamsRow, standIns := [], harness := (true, "c40d88ab31c5d3a015b650774d99de521c4d21b8630903e6979c0a5d3c7f82c4"), looks := true }, kinds := [], alts := [], laidByText := true, laidKinds := [.data, .data, .data], laidTests := true, laidLooks := .later }
def GaugeStreamsCardSaid : Prop := Claim7.holds Tryz.pinned (.plain (OpenSpec.ofChange gaugeStreamsSpec)) gaugeStreamsCard

/-- THE TIED CARD OF 'tidewaylaw01.GaugeTexts'. -/
def gaugeTextsCard : Claim7 := { stood := { row := gaugeTextsRow, standIns := [], harness := (true, "c40d88ab31c5d3a015b650774d99de521c4d21b8630903e6979c0a5d3c7f82c4"), looks := true }, kinds := [], alts := [], laidByText := true, laidKinds := [.data, .data, .data, .data, .sentinel, .sentinel, .pinned], laidTests := true, laidLooks := .later }
def GaugeTextsCardSaid : Prop := Claim7.holds Tryz.pinned (.plain (OpenSpec.ofChange gaugeTextsSpec)) gaugeTextsCard

/-- THE TIED CARD OF 'tidewaylaw01.GaugeBack'. -/
def gaugeBackCard : Claim7 := { stood := { row := gaugeBackRow, standIns := [], harness := (true, "c40d88ab31c5d3a015b650774d99de521c4d21b8630903e6979c0a5d3c7f82c4"), looks := true }, kinds := [], alts := [], laidByText := true, laidKinds := [.data, .data, .data, .data, .sentinel, .sentinel, .pinned], laidTests := true, laidLooks := .later }
def GaugeBackCardSaid : Prop := Claim7.holds Tryz.pinned (.plain (OpenSpec.ofChange gaugeBackSpec)) gaugeBackCard

/-- THE SECOND FORM's CARD OF 'tidewaylaw01.GaugeStreams'. -/
def gaugeStreamsUptoCard : Claim7 := { stood := { row := gaugeStreamsUptoRow, standIns := [], harness := (true, "c40d88ab31c5d3a015b650774d99de521c4d21b8630903e6979c0a5d3c7f82c4"), looks := true }, kinds := [], alts := [], laidByText := true, laidKinds := [.data, .data, .data], laidTests := true, laidLooks := .later }
def GaugeStreamsUptoCardSaid : Prop := Claim7.holds Tryz.pinned (.plain (OpenSpec.upto gaugeStreamsSpec)) gaugeStreamsUptoCard

/-- THE SECOND FORM's CARD OF 'tidewaylaw01.GaugeTexts'. -/
def gaugeTextsUptoCard : Claim7 := { stood := { row := gaugeTextsUptoRow, standIns := [], harness := (true, "c40d88ab31c5d3a015b650774d99de521c4d21b8630903e6979c0a5d3c7f82c4"), looks := true }, kinds := [], alts := [], laidByText := true, laidKinds := [.data, .data, .data, .data, .sentinel, .sentinel, .pinned], laidTests := true, laidLooks := .later }
def GaugeTextsUptoCardSaid : Prop := Claim7.holds Tryz.pinned (.plain (OpenSpec.upto gaugeTextsSpec)) gaugeTextsUptoCard

/-- THE SECOND FORM's CARD OF 'tidewaylaw01.GaugeBack'. -/
def gaugeBackUptoCard : Claim7 := { stood := { row := gaugeBackUptoRow, standIns := [], harness := (true, "c40d88ab31c5d3a015b650774d99de521c4d21b8630903e6979c0a5d3c7f82c4"), looks := true }, kinds := [], alts := [], laidByText := true, laidKinds := [.data, .data, .data, .data, .sentinel, .sentinel, .pinned], laidTests := true, laidLooks := .later }
def GaugeBackUptoCardSaid : Prop := Claim7.holds Tryz.pinned (.plain (OpenSpec.upto gaugeBackSpec)) gaugeBackUptoCard
end Rows
end Go.Proofs.YteooaaiacpcfoaaGreatDoor
