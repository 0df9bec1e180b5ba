/-
  DERIVED. GIVEN WITH THE SEED: THE CARDS: each row of YtjmkmalgfanifaaGreatDoorRows.lean that lists a variable, with what it lists TIED to the program's text (the seventh form; the later family's looks); each row that meets fmt, with fmt's text TOLD by the authors' own Lean function (tested against real Go, not proved from fmt's source: count such statements apart). THE CARD IS WHAT COUNTS. Prove the row's statement (the work); the ties are given (YtjmkmalgfanifaaGreatDoorTie.lean); close each card by the builder's one call (the guide's Derived/Test/ToyasCard.lean, 'card_holds'). Laid BY PROGRAM, IN A SANDBOX (cutbox-door.mjs). By AI agents, Wed Nov 11 2026. No macro, syntax, notation, axiom, sorry.
-/
import Derived.Test.YtjmkmalgfanifaaGreatDoorRows
import GoSem.ClaimSeven
namespace Go.Proofs.YtjmkmalgfanifaaGreatDoor
namespace Rows

/-- THE TIED CARD OF 'tidewaylaw08.ClosingTimes'. -/
def closingTimesCard : Claim7 := { stood := { row := closingTimesRow, standIns := [], harness := (true, "5f48f0e983c363470b4041ceef83ddae7090127585baa19c1efe268868957470"), looks := false }, kinds := [], alts := [], laidByText := true, laidKinds := [.data, .data, .data, .data, .funcsDeep], laidTests := true, laidLooks := .later }
def ClosingTimesCardSaid : Prop := Claim7.holds Tryz.pinned (.plain (OpenSpec.ofChange closingTimesSpec)) closingTimesCard

/-- THE TIED CARD OF 'tidewaylaw08.ClosingLatest'. -/
def closingLatestCard : Claim7 := { stood := { row := closingLatestRow, standIns := [], harness := (true, "5f48f0e983c363470b4041ceef83ddae7090127585baa19c1efe268868957470"), looks := false }, kinds := [], alts := [], laidByText := true, laidKinds := [.data, .data, .data, .data, .funcsDeep], laidTests := true, laidLooks := .later }
def ClosingLatestCardSaid : Prop := Claim7.holds Tryz.pinned (.plain (OpenSpec.ofChange closingLatestSpec)) closingLatestCard

/-- THE TIED CARD OF 'tidewaylaw08.ClosingVerdicts'. -/
def closingVerdictsCard : Claim7 := { stood := { row := closingVerdictsRow, standIns := [], harness := (true, "5f48f0e983c363470b4041ceef83ddae7090127585baa19c1efe268868957470"), looks := false }, kinds := [], alts := [], laidByText := true, laidKinds := [.data, .data, .data, .data, .funcsDeep], laidTests := true, laidLooks := .later }
def ClosingVerdictsCardSaid : Prop := Claim7.holds Tryz.pinned (.plain (OpenSpec.ofChange closingVerdictsSpec)) closingVerdictsCard

/-- THE TIED CARD OF 'tidewaylaw08.ClosingShips'. -/
def closingShipsCard : Claim7 := { stood := { row := closingShipsRow, standIns := [], harness := (true, "5f48f0e983c363470b4041ceef83ddae7090127585baa19c1efe268868957470"), looks := false }, kinds := [], alts := [], laidByText := true, laidKinds := [.data, .data, .data, .data, .funcsDeep], laidTests := true, laidLooks := .later }
def ClosingShipsCardSaid : Prop := Claim7.holds Tryz.pinned (.plain (OpenSpec.ofChange closingShipsSpec)) closingShipsCard

/-- THE TIED CARD OF 'tidewaylaw08.ClosingBetween'. -/
def closingBetweenCard : Claim7 := { stood := { row := closingBetweenRow, standIns := [], harness := (true, "5f48f0e983c363470b4041ceef83ddae7090127585baa19c1efe268868957470"), looks := false }, kinds := [], alts := [], laidByText := true, laidKinds := [.data, .data, .data, .data, .funcsDeep], laidTests := true, laidLooks := .later }
def ClosingBetweenCardSaid : Prop := Claim7.holds Tryz.pinned (.plain (OpenSpec.ofChange closingBetweenSpec)) closingBetweenCard

/-- THE TIED CARD OF 'tidewaylaw08.ClosingChains'. -/
def closingChainsCard : Claim7 := { stood := { row := closingChainsRow, standIns := [], harness := (true, "5f48f0e983c363470b4041ceef83ddae7090127585baa19c1efe268868957470"), looks := false }, kinds := [], alts := [], laidByText := true, laidKinds := [.data, .data, .data, .data, .funcsDeep], laidTests := true, laidLooks := .later }
def ClosingChainsCardSaid : Prop := Claim7.holds Tryz.pinned (.plain (OpenSpec.ofChange closingChainsSpec)) closingChainsCard

/-- THE TIED CARD OF 'tidewaylaw08.ClosingForces'. -/
def closingForcesCard : Claim7 := { stood := { row := closingForcesRow, standIns := [], harness := (true, "5f48f0e983c363470b4041ceef83ddae7090127585baa19c1efe268868957470"), looks := false }, kinds := [], alts := [], laidByText := true, laidKinds := [.data, .data, .data, .data, .funcsDeep], laidTests := true, laidLooks := .later }
def ClosingForcesCardSaid : Prop := Claim7.holds Tryz.pinned (.plain (OpenSpec.ofChange closingForcesSpec)) closingForcesCard

/-- THE TIED CARD OF 'tidewaylaw08.ClosingPassages'. -/
def closingPassagesCard : Claim7 := { stood := { row := closingPassagesRow, standIns := [], harness := (true, "5f48f0e983c363470b4041ceef83ddae7090127585baa19c1efe268868957470"), looks := false }, kinds := [], alts := [], laidByText := true, laidKinds := [.data, .data, .data, .data, .funcsDeep], laidTests := true, laidLooks := .later }
def ClosingPassagesCardSaid : Prop := Claim7.holds Tryz.pinned (.plain (OpenSpec.ofChange closingPassagesSpec)) closingPassagesCard

/-- THE TIED CARD OF 'tidewaylaw08.ClosingCleared'. -/
def closingClearedCard : Claim7 := { stood := { row := closingClearedRow, standIns := [], harness := (true, "5f48f0e983c363470b4041ceef83ddae7090127585baa19c1efe268868957470"), looks := false }, kinds := [], alts := [], laidByText := true, laidKinds := [.data, .data, .data, .data, .funcsDeep], laidTests := true, laidLooks := .later }
def ClosingClearedCardSaid : Prop := Claim7.holds Tryz.pinned (.plain (OpenSpec.ofChange closingClearedSpec)) closingClearedCard

/-- THE TIED CARD OF 'tidewaylaw08.ClosingOrders'. -/
def closingOrdersCard : Claim7 := { stood := { row := closingOrdersRow, standIns := [], harness := (true, "5f48f0e983c363470b4041ceef83ddae7090127585baa19c1efe268868957470"), looks := false }, kinds := [], alts := [], laidByText := true, laidKinds := [.data, .data, .data, .data, .funcsDeep], laidTests := true, laidLooks := .later }
def ClosingOrdersCardSaid : Prop := Claim7.holds Tryz.pinned (.plain (OpenSpec.ofChange closingOrdersSpec)) closingOrdersCard

/-- THE TIED CARD OF 'tidewaylaw08.ClosingEither'. -/
def closingEitherCard : Claim7 := { stood := { row := closingEitherRow, standIns := [], harness := (true, "5f48f0e983c363470b4041ceef83ddae7090127585baa19c1efe268868957470"), looks := false }, kinds := [], alts := [], laidByText := true, laidKinds := [.data, .data, .data, .data, .funcsDeep], laidTests := true, laidLooks := .later }
def ClosingEitherCardSaid : Prop := Claim7.holds Tryz.pinned (.plain (OpenSpec.ofChange closingEitherSpec)) closingEitherCard

/-- THE SECOND FORM's CARD OF 'tidewaylaw08.ClosingTimes'. -/
def closingTimesUptoCard : Claim7 := { stood := { row := closingTimesUptoRow, standIns := [], harness := (true, "5f48f0e983c363470b4041ceef83ddae7090127585baa19c1efe268868957470"), looks := false }, kinds := [], alts := [], laidByText := true, laidKinds := [.data, .data, .data, .data, .funcsDeep], laidTests := true, laidLooks := .later }
def ClosingTimesUptoCardSaid : Prop := Claim7.holds Tryz.pinned (.plain (OpenSpec.upto closingTimesSpec)) closingTimesUptoCard

/-- THE SECOND FORM's CARD OF 'tidewaylaw08.ClosingLatest'. -/
def closingLatestUptoCard : Claim7 := { stood := { row := closingLatestUptoRow, standIns := [], harness := (true, "5f48f0e983c363470b4041ceef83ddae7090127585baa19c1efe268868957470"), looks := false }, kinds := [], alts := [], laidByText := true, laidKinds := [.data, .data, .data, .data, .funcsDeep], laidTests := true, laidLooks := .later }
def ClosingLatestUptoCardSaid : Prop := Claim7.holds Tryz.pinned (.plain (OpenSpec.upto closingLatestSpec)) closingLatestUptoCard

/-- THE SECOND FORM's CARD OF 'tidewaylaw08.ClosingVerdicts'. -/
def closingVerdictsUptoCard : Claim7 := { stood := { row := closingVerdictsUptoRow, standIns := [], harness := (true, "5f48f0e983c363470b4041ceef83ddae7090127585baa19c1efe268868957470"), looks := false }, kinds := [], alts := [], laidByText := true, laidKinds := [.data, .data, .data, .data, .funcsDeep], laidTests := true, laidLooks := .later }
def ClosingVerdictsUptoCardSaid : Prop := Claim7.holds Tryz.pinned (.plain (OpenSpec.upto closingVerdictsSpec)) closingVerdictsUptoCard

/-- THE SECOND FORM's CARD OF 'tidewaylaw08.ClosingShips'. -/
def closingShipsUptoCard : Claim7 := { stood := { row := closingShipsUptoRow, standIns := [], harness := (true, "5f48f0e983c363470b4041ceef83ddae7090127585baa19c1efe268868957470"), looks := false }, kinds := [], alts := [], laidByText := true, laidKinds := [.data, .data, .data, .data, .funcsDeep], laidTests := true, laidLooks := .later }
def ClosingShipsUptoCardSaid : Prop := Claim7.holds Tryz.pinned (.plain (OpenSpec.upto closingShipsSpec)) closingShipsUptoCard

/-- THE SECOND FORM's CARD OF 'tidewaylaw08.ClosingBetween'. -/
def closingBetweenUptoCard : Claim7 := { stood := { row := closingBetweenUptoRow, standIns := [], harness := (true, "5f48f0e983c363470b4041ceef83ddae7090127585baa19c1efe268868957470"), looks := false }, kinds := [], alts := [], laidByText := true, laidKinds := [.data, .data, .data, .data, .funcsDeep], laidTests := true, laidLooks := .later }
def ClosingBetweenUptoCardSaid : Prop := Claim7.holds Tryz.pinned (.plain (OpenSpec.upto closingBetweenSpec)) closingBetweenUptoCard

/-- THE SECOND FORM's CARD OF 'tidewaylaw08.ClosingChains'. -/
def closingChainsUptoCard : Claim7 := { stood := { row := closingChainsUptoRow, standIns := [], harness := (true, "5f48f0e983c363470b4041ceef83ddae7090127585baa19c1efe268868957470"), looks := false }, kinds := [], alts := [], laidByText := true, laidKinds := [.data, .data, .data, .data, .funcsDeep], laidTests := true, laidLooks := .later }
def ClosingChainsUptoCardSaid : Prop := Claim7.holds Tryz.pinned (.plain (OpenSpec.upto closingChainsSpec)) closingChainsUptoCard

/-- THE SECOND FORM's CARD OF 'tidewaylaw08.ClosingForces'. -/
def closingForcesUptoCard : Claim7 := { stood := { row := closingForcesUptoRow, standIns := [], harness := (true, "5f48f0e983c363470b4041ceef83ddae7090127585baa19c1efe268868957470"), looks := false }, kinds := [], alts := [], laidByText := true, laidKinds := [.data, .data, .data, .data, .funcsDeep], laidTests := true, laidLooks := .later }
def ClosingForcesUptoCardSaid : Prop := Claim7.holds Tryz.pinned (.plain (OpenSpec.upto closingForcesSpec)) closingForcesUptoCard

/-- THE SECOND FORM's CARD OF 'tidewaylaw08.ClosingPassages'. -/
def closingPassagesUptoCard : Claim7 := { stood := { row := closingPassagesUptoRow, standIns := [], harness := (true, "5f48f0e983c363470b4041ceef83ddae7090127585baa19c1efe268868957470"), looks := false }, kinds := [], alts := [], laidByText := true, laidKinds := [.data, .data, .data, .data, .funcsDeep], laidTests := true, laidLooks := .later }
def ClosingPassagesUptoCardSaid : Prop := Claim7.holds Tryz.pinned (.plain (OpenSpec.upto closingPassagesSpec)) closingPassagesUptoCard

/-- THE SECOND FORM's CARD OF 'tidewaylaw08.ClosingCleared'. -/
def closingClearedUptoCard : Claim7 := { stood := { row := closingClearedUptoRow, standIns := [], harness := (true, "5f48f0e983c363470b4041ceef83ddae7090127585baa19c1efe268868957470"), looks := false }, kinds := [], alts := [], laidByText := true, laidKinds := [.data, .data, .data, .data, .funcsDeep], laidTests := true, laidLooks := .later }
def ClosingClearedUptoCardSaid : Prop := Claim7.holds Tryz.pinned (.plain (OpenSpec.upto closingClearedSpec)) closingClearedUptoCard

/-- THE SECOND FORM's CARD OF 'tidewaylaw08.ClosingOrders'. -/
def closingOrdersUptoCard : Claim7 := { stood := { row := closingOrdersUptoRow, standIns := [], harness := (true, "5f48f0e983c363470b4041ceef83ddae7090127585baa19c1efe268868957470"), looks := false }, kinds := [], alts := [], laidByText := true, laidKinds := [.data, .data, .data, .data, .funcsDeep], laidTests := true, laidLooks := .later }
def ClosingOrdersUptoCardSaid : Prop := Claim7.holds Tryz.pinned (.plain (OpenSpec.upto closingOrdersSpec)) closingOrdersUptoCard

/-- THE SECOND FORM's CARD OF 'tidewaylaw08.ClosingEither'. -/
def closingEitherUptoCard : Claim7 := { stood := { row := closingEitherUptoRow, standIns := [], harness := (true, "5f48f0e983c363470b4041ceef83ddae7090127585baa19c1efe268868957470"), looks := false }, kinds := [], alts := [], laidByText := true, laidKinds := [.data, .data, .data, .data, .funcsDeep], laidTests := true, laidLooks := .later }
def ClosingEitherUptoCardSaid : Prop := Claim7.holds Tryz.pinned (.plain (OpenSpec.upto closingEitherSpec)) closingEitherUptoCard
end Rows
end Go.Proofs.YtjmkmalgfanifaaGreatDoor
