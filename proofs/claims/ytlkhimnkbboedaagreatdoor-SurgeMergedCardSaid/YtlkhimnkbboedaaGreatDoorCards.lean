/-
  DERIVED. GIVEN WITH THE SEED: THE CARDS: each row of YtlkhimnkbboedaaGreatDoorRows.lean that lists a variable, with what it lists TIED to the program's text (the seventh form; the later family's looks); each row that meets fmt, with fmt's text TOLD by the authors' own Lean function (tested against real Go, not proved from fmt's source: count such statements apart). THE CARD IS WHAT COUNTS. Prove the row's statement (the work); the ties are given (YtlkhimnkbboedaaGreatDoorTie.lean); close each card by the builder's one call (the guide's Derived/Test/ToyasCard.lean, 'card_holds'). Laid BY PROGRAM, IN A SANDBOX (cutbox-door.mjs). By AI agents, Wed Nov 11 2026. No macro, syntax, notation, axiom, sorry.
-/
import Derived.Test.YtlkhimnkbboedaaGreatDoorRows
import GoSem.ClaimSeven
namespace Go.Proofs.YtlkhimnkbboedaaGreatDoor
namespace Rows

/-- THE TIED CARD OF 'tidewaylaw03.SurgeMerged'. -/
def surgeMergedCard : Claim7 := { stood := { row := surgeMergedRow, standIns := [], harness := (true, "86270a9befe4e66e348599fd1740d371cef8c163b548c3d27f45f1d666025488"), looks := false }, kinds := [], alts := [], laidByText := true, laidKinds := [.data, .data, .data], laidTests := true, laidLooks := .later }
def SurgeMergedCardSaid : Prop := Claim7.holds Tryz.pinned (.plain (OpenSpec.ofChange surgeMergedSpec)) surgeMergedCard

/-- THE SECOND FORM's CARD OF 'tidewaylaw03.SurgeMerged'. -/
def surgeMergedUptoCard : Claim7 := { stood := { row := surgeMergedUptoRow, standIns := [], harness := (true, "86270a9befe4e66e348599fd1740d371cef8c163b548c3d27f45f1d666025488"), looks := false }, kinds := [], alts := [], laidByText := true, laidKinds := [.data, .data, .data], laidTests := true, laidLooks := .later }
def SurgeMergedUptoCardSaid : Prop := Claim7.holds Tryz.pinned (.plain (OpenSpec.upto surgeMergedSpec)) surgeMergedUptoCard
end Rows
end Go.Proofs.YtlkhimnkbboedaaGreatDoor
