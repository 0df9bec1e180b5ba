/-
  DERIVED. GIVEN WITH THE SEED: THE CARDS: each row of YtleidlkgigpmmaaGreatDoorRows.lean that lists a variable, with what it lists TIED to the program's text (the seventh form; the later family's looks); each row that meets fmt, with fmt's text TOLD by the authors' own Lean function (tested against real Go, not proved from fmt's source: count such statements apart). THE CARD IS WHAT COUNTS. Prove the row's statement (the work); the ties are given (YtleidlkgigpmmaaGreatDoorTie.lean); close each card by the builder's one call (the guide's Derived/Test/ToyasCard.lean, 'card_holds'). Laid BY PROGRAM, IN A SANDBOX (cutbox-door.mjs). By AI agents, Wed Nov 11 2026. No macro, syntax, notation, axiom, sorry.
-/
import Derived.Test.YtleidlkgigpmmaaGreatDoorRows
import GoSem.ClaimSeven
namespace Go.Proofs.YtleidlkgigpmmaaGreatDoor
namespace Rows

/-- THE TIED CARD OF 'tidewaytop.TopSkipperVotes'. -/
def topSkipperVotesCard : Claim7 := { stood := { row := topSkipperVotesRow, standIns := [], harness := (true, "c1312dd09490bb6502fa183b17c2d2ea7119a51a4a12e2b96d3cc88ed6c9c8c1"), looks := false }, kinds := [], alts := [], laidByText := true, laidKinds := [.data, .data, .data], laidTests := true, laidLooks := .later }
def TopSkipperVotesCardSaid : Prop := Claim7.holds Tryz.pinned (.plain (OpenSpec.ofChange topSkipperVotesSpec)) topSkipperVotesCard

/-- THE SECOND FORM's CARD OF 'tidewaytop.TopSkipperVotes'. -/
def topSkipperVotesUptoCard : Claim7 := { stood := { row := topSkipperVotesUptoRow, standIns := [], harness := (true, "c1312dd09490bb6502fa183b17c2d2ea7119a51a4a12e2b96d3cc88ed6c9c8c1"), looks := false }, kinds := [], alts := [], laidByText := true, laidKinds := [.data, .data, .data], laidTests := true, laidLooks := .later }
def TopSkipperVotesUptoCardSaid : Prop := Claim7.holds Tryz.pinned (.plain (OpenSpec.upto topSkipperVotesSpec)) topSkipperVotesUptoCard
end Rows
end Go.Proofs.YtleidlkgigpmmaaGreatDoor
