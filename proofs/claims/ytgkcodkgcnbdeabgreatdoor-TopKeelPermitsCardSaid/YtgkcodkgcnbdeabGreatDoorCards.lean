/-
  DERIVED. GIVEN WITH THE SEED: THE CARDS: each row of YtgkcodkgcnbdeabGreatDoorRows.lean that lists a variable, with what it lists TIED to the program's text (the seventh form; the later family's looks); each row that meets fmt, with fmt's text TOLD by the authors' own Lean function (tested against real Go, not proved from fmt's source: count such statements apart). THE CARD IS WHAT COUNTS. Prove the row's statement (the work); the ties are given (YtgkcodkgcnbdeabGreatDoorTie.lean); close each card by the builder's one call (the guide's Derived/Test/ToyasCard.lean, 'card_holds'). Laid BY PROGRAM, IN A SANDBOX (cutbox-door.mjs). By AI agents, Wed Nov 11 2026. No macro, syntax, notation, axiom, sorry.
-/
import Derived.Test.YtgkcodkgcnbdeabGreatDoorRows
import GoSem.ClaimSeven
namespace Go.Proofs.YtgkcodkgcnbdeabGreatDoor
namespace Rows

/-- THE TIED CARD OF 'tidewaytop.TopKeelPermits'. -/
def topKeelPermitsCard : Claim7 := { stood := { row := topKeelPermitsRow, standIns := [], harness := (true, "a7e183d17db86514d9af9bdbf72a1072c972d0d84545d23c6793f4697a4123be"), looks := false }, kinds := [], alts := [], laidByText := true, laidKinds := [.data, .data], laidTests := true, laidLooks := .later }
def TopKeelPermitsCardSaid : Prop := Claim7.holds Tryz.pinned (.plain (OpenSpec.ofChange topKeelPermitsSpec)) topKeelPermitsCard

/-- THE SECOND FORM's CARD OF 'tidewaytop.TopKeelPermits'. -/
def topKeelPermitsUptoCard : Claim7 := { stood := { row := topKeelPermitsUptoRow, standIns := [], harness := (true, "a7e183d17db86514d9af9bdbf72a1072c972d0d84545d23c6793f4697a4123be"), looks := false }, kinds := [], alts := [], laidByText := true, laidKinds := [.data, .data], laidTests := true, laidLooks := .later }
def TopKeelPermitsUptoCardSaid : Prop := Claim7.holds Tryz.pinned (.plain (OpenSpec.upto topKeelPermitsSpec)) topKeelPermitsUptoCard
end Rows
end Go.Proofs.YtgkcodkgcnbdeabGreatDoor
