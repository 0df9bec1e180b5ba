/-
  DERIVED. GIVEN WITH THE SEED: THE CARDS: each row of YtcipcajbjggbkaaGreatDoorRows.lean that lists a variable, with what it lists TIED to the program's text (the seventh form; the later family's looks); each row that meets fmt, with fmt's text TOLD by the authors' own Lean function (tested against real Go, not proved from fmt's source: count such statements apart). THE CARD IS WHAT COUNTS. Prove the row's statement (the work); the ties are given (YtcipcajbjggbkaaGreatDoorTie.lean); close each card by the builder's one call (the guide's Derived/Test/ToyasCard.lean, 'card_holds'). Laid BY PROGRAM, IN A SANDBOX (cutbox-door.mjs). By AI agents, Wed Nov 11 2026. No macro, syntax, notation, axiom, sorry.
-/
import Derived.Test.YtcipcajbjggbkaaGreatDoorRows
import GoSem.ClaimSeven
namespace Go.Proofs.YtcipcajbjggbkaaGreatDoor
namespace Rows

/-- THE TIED CARD OF 'tidewaylaw08.ClosingTexts'. -/
def closingTextsCard : Claim7 := { stood := { row := closingTextsRow, standIns := [], harness := (true, "f906bbed66336c75c6fdcd10a7e55e05387ee620895eebe44220203906d445cb"), looks := false }, kinds := [], alts := [], laidByText := true, laidKinds := [.data, .data, .data, .data, .data, .funcsDeep, .pinned], laidTests := true, laidLooks := .later }
def ClosingTextsCardSaid : Prop := Claim7.holds Tryz.pinned (.plain (OpenSpec.ofChange closingTextsSpec)) closingTextsCard

/-- THE TIED CARD OF 'tidewaylaw08.ClosingBack'. -/
def closingBackCard : Claim7 := { stood := { row := closingBackRow, standIns := [], harness := (true, "f906bbed66336c75c6fdcd10a7e55e05387ee620895eebe44220203906d445cb"), looks := false }, kinds := [], alts := [], laidByText := true, laidKinds := [.data, .data, .data, .data, .data, .funcsDeep, .pinned], laidTests := true, laidLooks := .later }
def ClosingBackCardSaid : Prop := Claim7.holds Tryz.pinned (.plain (OpenSpec.ofChange closingBackSpec)) closingBackCard

/-- THE SECOND FORM's CARD OF 'tidewaylaw08.ClosingTexts'. -/
def closingTextsUptoCard : Claim7 := { stood := { row := closingTextsUptoRow, standIns := [], harness := (true, "f906bbed66336c75c6fdcd10a7e55e05387ee620895eebe44220203906d445cb"), looks := false }, kinds := [], alts := [], laidByText := true, laidKinds := [.data, .data, .data, .data, .data, .funcsDeep, .pinned], laidTests := true, laidLooks := .later }
def ClosingTextsUptoCardSaid : Prop := Claim7.holds Tryz.pinned (.plain (OpenSpec.upto closingTextsSpec)) closingTextsUptoCard

/-- THE SECOND FORM's CARD OF 'tidewaylaw08.ClosingBack'. -/
def closingBackUptoCard : Claim7 := { stood := { row := closingBackUptoRow, standIns := [], harness := (true, "f906bbed66336c75c6fdcd10a7e55e05387ee620895eebe44220203906d445cb"), looks := false }, kinds := [], alts := [], laidByText := true, laidKinds := [.data, .data, .data, .data, .data, .funcsDeep, .pinned], laidTests := true, laidLooks := .later }
def ClosingBackUptoCardSaid : Prop := Claim7.holds Tryz.pinned (.plain (OpenSpec.upto closingBackSpec)) closingBackUptoCard
end Rows
end Go.Proofs.YtcipcajbjggbkaaGreatDoor
