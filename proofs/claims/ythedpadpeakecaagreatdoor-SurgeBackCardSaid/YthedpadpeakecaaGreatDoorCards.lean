/-
  DERIVED. GIVEN WITH THE SEED: THE CARDS: each row of YthedpadpeakecaaGreatDoorRows.lean that lists a variable, with what it lists TIED to the program's text (the seventh form; the later family's looks); each row that meets fmt, with fmt's text TOLD by the authors' own Lean function (tested against real Go, not proved from fmt's source: count such statements apart). THE CARD IS WHAT COUNTS. Prove the row's statement (the work); the ties are given (YthedpadpeakecaaGreatDoorTie.lean); close each card by the builder's one call (the guide's Derived/Test/ToyasCard.lean, 'card_holds'). Laid BY PROGRAM, IN A SANDBOX (cutbox-door.mjs). By AI agents, Wed Nov 11 2026. No macro, syntax, notation, axiom, sorry.
-/
import Derived.Test.YthedpadpeakecaaGreatDoorRows
import GoSem.ClaimSeven
namespace Go.Proofs.YthedpadpeakecaaGreatDoor
namespace Rows

/-- THE TIED CARD OF 'tidewaylaw03.SurgeTexts'. -/
def surgeTextsCard : Claim7 := { stood := { row := surgeTextsRow, standIns := [], harness := (true, "1ec1678e32587610fefb0be14a8cfd89b22689c9a88420417e62ce0c24eac8cf"), looks := true }, kinds := [], alts := [], laidByText := true, laidKinds := [.data, .data, .data, .data, .sentinel, .sentinel, .pinned], laidTests := true, laidLooks := .later }
def SurgeTextsCardSaid : Prop := Claim7.holds Tryz.pinned (.plain (OpenSpec.ofChange surgeTextsSpec)) surgeTextsCard

/-- THE TIED CARD OF 'tidewaylaw03.SurgeBack'. -/
def surgeBackCard : Claim7 := { stood := { row := surgeBackRow, standIns := [], harness := (true, "1ec1678e32587610fefb0be14a8cfd89b22689c9a88420417e62ce0c24eac8cf"), looks := true }, kinds := [], alts := [], laidByText := true, laidKinds := [.data, .data, .data, .data, .sentinel, .sentinel, .pinned], laidTests := true, laidLooks := .later }
def SurgeBackCardSaid : Prop := Claim7.holds Tryz.pinned (.plain (OpenSpec.ofChange surgeBackSpec)) surgeBackCard

/-- THE SECOND FORM's CARD OF 'tidewaylaw03.SurgeTexts'. -/
def surgeTextsUptoCard : Claim7 := { stood := { row := surgeTextsUptoRow, standIns := [], harness := (true, "1ec1678e32587610fefb0be14a8cfd89b22689c9a88420417e62ce0c24eac8cf"), looks := true }, kinds := [], alts := [], laidByText := true, laidKinds := [.data, .data, .data, .data, .sentinel, .sentinel, .pinned], laidTests := true, laidLooks := .later }
def SurgeTextsUptoCardSaid : Prop := Claim7.holds Tryz.pinned (.plain (OpenSpec.upto surgeTextsSpec)) surgeTextsUptoCard

/-- THE SECOND FORM's CARD OF 'tidewaylaw03.SurgeBack'. -/
def surgeBackUptoCard : Claim7 := { stood := { row := surgeBackUptoRow, standIns := [], harness := (true, "1ec1678e32587610fefb0be14a8cfd89b22689c9a88420417e62ce0c24eac8cf"), looks := true }, kinds := [], alts := [], laidByText := true, laidKinds := [.data, .data, .data, .data, .sentinel, .sentinel, .pinned], laidTests := true, laidLooks := .later }
def SurgeBackUptoCardSaid : Prop := Claim7.holds Tryz.pinned (.plain (OpenSpec.upto surgeBackSpec)) surgeBackUptoCard
end Rows
end Go.Proofs.YthedpadpeakecaaGreatDoor
