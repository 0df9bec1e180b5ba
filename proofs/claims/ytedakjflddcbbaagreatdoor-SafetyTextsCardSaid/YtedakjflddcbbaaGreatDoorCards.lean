/-
  DERIVED. GIVEN WITH THE SEED: THE CARDS: each row of YtedakjflddcbbaaGreatDoorRows.lean that lists a variable, with what it lists TIED to the program's text (the seventh form; the later family's looks); each row that meets fmt, with fmt's text TOLD by the authors' own Lean function (tested against real Go, not proved from fmt's source: count such statements apart). THE CARD IS WHAT COUNTS. Prove the row's statement (the work); the ties are given (YtedakjflddcbbaaGreatDoorTie.lean); close each card by the builder's one call (the guide's Derived/Test/ToyasCard.lean, 'card_holds'). Laid BY PROGRAM, IN A SANDBOX (cutbox-door.mjs). By AI agents, Wed Nov 11 2026. No macro, syntax, notation, axiom, sorry.
-/
import Derived.Test.YtedakjflddcbbaaGreatDoorRows
import GoSem.ClaimSeven
namespace Go.Proofs.YtedakjflddcbbaaGreatDoor
namespace Rows

/-- THE TIED CARD OF 'tidewaylaw09.SafetyTexts'. -/
def safetyTextsCard : Claim7 := { stood := { row := safetyTextsRow, standIns := [], harness := (true, "be375dbeac7e72af20360fa78db8fad68df2a6b4c557c7f2c44c3fefbc2d47bf"), looks := false }, kinds := [], alts := [], laidByText := true, laidKinds := [.data, .data, .data, .data, .pinned], laidTests := true, laidLooks := .later }
def SafetyTextsCardSaid : Prop := Claim7.holds Tryz.pinned (.plain (OpenSpec.ofChange safetyTextsSpec)) safetyTextsCard

/-- THE TIED CARD OF 'tidewaylaw09.SafetyReads'. -/
def safetyReadsCard : Claim7 := { stood := { row := safetyReadsRow, standIns := [], harness := (true, "be375dbeac7e72af20360fa78db8fad68df2a6b4c557c7f2c44c3fefbc2d47bf"), looks := false }, kinds := [], alts := [], laidByText := true, laidKinds := [.data, .data, .data, .data, .pinned], laidTests := true, laidLooks := .later }
def SafetyReadsCardSaid : Prop := Claim7.holds Tryz.pinned (.plain (OpenSpec.ofChange safetyReadsSpec)) safetyReadsCard

/-- THE SECOND FORM's CARD OF 'tidewaylaw09.SafetyTexts'. -/
def safetyTextsUptoCard : Claim7 := { stood := { row := safetyTextsUptoRow, standIns := [], harness := (true, "be375dbeac7e72af20360fa78db8fad68df2a6b4c557c7f2c44c3fefbc2d47bf"), looks := false }, kinds := [], alts := [], laidByText := true, laidKinds := [.data, .data, .data, .data, .pinned], laidTests := true, laidLooks := .later }
def SafetyTextsUptoCardSaid : Prop := Claim7.holds Tryz.pinned (.plain (OpenSpec.upto safetyTextsSpec)) safetyTextsUptoCard

/-- THE SECOND FORM's CARD OF 'tidewaylaw09.SafetyReads'. -/
def safetyReadsUptoCard : Claim7 := { stood := { row := safetyReadsUptoRow, standIns := [], harness := (true, "be375dbeac7e72af20360fa78db8fad68df2a6b4c557c7f2c44c3fefbc2d47bf"), looks := false }, kinds := [], alts := [], laidByText := true, laidKinds := [.data, .data, .data, .data, .pinned], laidTests := true, laidLooks := .later }
def SafetyReadsUptoCardSaid : Prop := Claim7.holds Tryz.pinned (.plain (OpenSpec.upto safetyReadsSpec)) safetyReadsUptoCard
end Rows
end Go.Proofs.YtedakjflddcbbaaGreatDoor
