/-
  DERIVED. GIVEN WITH THE SEED: THE CARDS: each row of YtednnfllcafliaaGreatDoorRows.lean that lists a variable, with what it lists TIED to the program's text (the seventh form; the later family's looks); each row that meets fmt, with fmt's text TOLD by the authors' own Lean function (tested against real Go, not proved from fmt's source: count such statements apart). THE CARD IS WHAT COUNTS. Prove the row's statement (the work); the ties are given (YtednnfllcafliaaGreatDoorTie.lean); close each card by the builder's one call (the guide's Derived/Test/ToyasCard.lean, 'card_holds'). Laid BY PROGRAM, IN A SANDBOX (cutbox-door.mjs). By AI agents, Wed Nov 11 2026. No macro, syntax, notation, axiom, sorry.
-/
import Derived.Test.YtednnfllcafliaaGreatDoorRows
import GoSem.ClaimSeven
namespace Go.Proofs.YtednnfllcafliaaGreatDoor
namespace Rows

/-- THE TIED CARD OF 'tidewaylaw03.SurgeTransfers'. -/
def surgeTransfersCard : Claim7 := { stood := { row := surgeTransfersRow, standIns := [], harness := (true, "647e34c3e2c5e353ff1d42c5505317e9250ede5648f7d7797507b09711055ebf"), looks := false }, kinds := [], alts := [], laidByText := true, laidKinds := [.data, .data, .data], laidTests := true, laidLooks := .later }
def SurgeTransfersCardSaid : Prop := Claim7.holds Tryz.pinned (.plain (OpenSpec.ofChange surgeTransfersSpec)) surgeTransfersCard

/-- THE TIED CARD OF 'tidewaylaw03.SurgeNights'. -/
def surgeNightsCard : Claim7 := { stood := { row := surgeNightsRow, standIns := [], harness := (true, "647e34c3e2c5e353ff1d42c5505317e9250ede5648f7d7797507b09711055ebf"), looks := false }, kinds := [], alts := [], laidByText := true, laidKinds := [.data, .data, .data], laidTests := true, laidLooks := .later }
def SurgeNightsCardSaid : Prop := Claim7.holds Tryz.pinned (.plain (OpenSpec.ofChange surgeNightsSpec)) surgeNightsCard

/-- THE TIED CARD OF 'tidewaylaw03.SurgeShares'. -/
def surgeSharesCard : Claim7 := { stood := { row := surgeSharesRow, standIns := [], harness := (true, "647e34c3e2c5e353ff1d42c5505317e9250ede5648f7d7797507b09711055ebf"), looks := false }, kinds := [], alts := [], laidByText := true, laidKinds := [.data, .data, .data], laidTests := true, laidLooks := .later }
def SurgeSharesCardSaid : Prop := Claim7.holds Tryz.pinned (.plain (OpenSpec.ofChange surgeSharesSpec)) surgeSharesCard

/-- THE TIED CARD OF 'tidewaylaw03.SurgeEnclosures'. -/
def surgeEnclosuresCard : Claim7 := { stood := { row := surgeEnclosuresRow, standIns := [], harness := (true, "647e34c3e2c5e353ff1d42c5505317e9250ede5648f7d7797507b09711055ebf"), looks := false }, kinds := [], alts := [], laidByText := true, laidKinds := [.data, .data, .data], laidTests := true, laidLooks := .later }
def SurgeEnclosuresCardSaid : Prop := Claim7.holds Tryz.pinned (.plain (OpenSpec.ofChange surgeEnclosuresSpec)) surgeEnclosuresCard

/-- THE TIED CARD OF 'tidewaylaw03.SurgeLearned'. -/
def surgeLearnedCard : Claim7 := { stood := { row := surgeLearnedRow, standIns := [], harness := (true, "647e34c3e2c5e353ff1d42c5505317e9250ede5648f7d7797507b09711055ebf"), looks := false }, kinds := [], alts := [], laidByText := true, laidKinds := [.data, .data, .data], laidTests := true, laidLooks := .later }
def SurgeLearnedCardSaid : Prop := Claim7.holds Tryz.pinned (.plain (OpenSpec.ofChange surgeLearnedSpec)) surgeLearnedCard

/-- THE TIED CARD OF 'tidewaylaw03.SurgeLikely'. -/
def surgeLikelyCard : Claim7 := { stood := { row := surgeLikelyRow, standIns := [], harness := (true, "647e34c3e2c5e353ff1d42c5505317e9250ede5648f7d7797507b09711055ebf"), looks := false }, kinds := [], alts := [], laidByText := true, laidKinds := [.data, .data, .data], laidTests := true, laidLooks := .later }
def SurgeLikelyCardSaid : Prop := Claim7.holds Tryz.pinned (.plain (OpenSpec.ofChange surgeLikelySpec)) surgeLikelyCard

/-- THE TIED CARD OF 'tidewaylaw03.SurgeFields'. -/
def surgeFieldsCard : Claim7 := { stood := { row := surgeFieldsRow, standIns := [], harness := (true, "647e34c3e2c5e353ff1d42c5505317e9250ede5648f7d7797507b09711055ebf"), looks := false }, kinds := [], alts := [], laidByText := true, laidKinds := [.data, .data, .data], laidTests := true, laidLooks := .later }
def SurgeFieldsCardSaid : Prop := Claim7.holds Tryz.pinned (.plain (OpenSpec.ofChange surgeFieldsSpec)) surgeFieldsCard

/-- THE TIED CARD OF 'tidewaylaw03.SurgePlaces'. -/
def surgePlacesCard : Claim7 := { stood := { row := surgePlacesRow, standIns := [], harness := (true, "647e34c3e2c5e353ff1d42c5505317e9250ede5648f7d7797507b09711055ebf"), looks := false }, kinds := [], alts := [], laidByText := true, laidKinds := [.data, .data, .data], laidTests := true, laidLooks := .later }
def SurgePlacesCardSaid : Prop := Claim7.holds Tryz.pinned (.plain (OpenSpec.ofChange surgePlacesSpec)) surgePlacesCard

/-- THE TIED CARD OF 'tidewaylaw03.SurgeSmooth'. -/
def surgeSmoothCard : Claim7 := { stood := { row := surgeSmoothRow, standIns := [], harness := (true, "647e34c3e2c5e353ff1d42c5505317e9250ede5648f7d7797507b09711055ebf"), looks := false }, kinds := [], alts := [], laidByText := true, laidKinds := [.data, .data, .data], laidTests := true, laidLooks := .later }
def SurgeSmoothCardSaid : Prop := Claim7.holds Tryz.pinned (.plain (OpenSpec.ofChange surgeSmoothSpec)) surgeSmoothCard

/-- THE TIED CARD OF 'tidewaylaw03.SurgeCourses'. -/
def surgeCoursesCard : Claim7 := { stood := { row := surgeCoursesRow, standIns := [], harness := (true, "647e34c3e2c5e353ff1d42c5505317e9250ede5648f7d7797507b09711055ebf"), looks := false }, kinds := [], alts := [], laidByText := true, laidKinds := [.data, .data, .data], laidTests := true, laidLooks := .later }
def SurgeCoursesCardSaid : Prop := Claim7.holds Tryz.pinned (.plain (OpenSpec.ofChange surgeCoursesSpec)) surgeCoursesCard

/-- THE TIED CARD OF 'tidewaylaw03.SurgeRuns'. -/
def surgeRunsCard : Claim7 := { stood := { row := surgeRunsRow, standIns := [], harness := (true, "647e34c3e2c5e353ff1d42c5505317e9250ede5648f7d7797507b09711055ebf"), looks := false }, kinds := [], alts := [], laidByText := true, laidKinds := [.data, .data, .data], laidTests := true, laidLooks := .later }
def SurgeRunsCardSaid : Prop := Claim7.holds Tryz.pinned (.plain (OpenSpec.ofChange surgeRunsSpec)) surgeRunsCard

/-- THE TIED CARD OF 'tidewaylaw03.SurgeStores'. -/
def surgeStoresCard : Claim7 := { stood := { row := surgeStoresRow, standIns := [], harness := (true, "647e34c3e2c5e353ff1d42c5505317e9250ede5648f7d7797507b09711055ebf"), looks := false }, kinds := [], alts := [], laidByText := true, laidKinds := [.data, .data, .data], laidTests := true, laidLooks := .later }
def SurgeStoresCardSaid : Prop := Claim7.holds Tryz.pinned (.plain (OpenSpec.ofChange surgeStoresSpec)) surgeStoresCard

/-- THE TIED CARD OF 'tidewaylaw03.SurgeMerged'. -/
def surgeMergedCard : Claim7 := { stood := { row := surgeMergedRow, standIns := [], harness := (true, "647e34c3e2c5e353ff1d42c5505317e9250ede5648f7d7797507b09711055ebf"), looks := false }, kinds := [], alts := [], laidByText := true, laidKinds := [.data, .data, .data], laidTests := true, laidLooks := .later }
def SurgeMergedCardSaid : Prop := Claim7.holds Tryz.pinned (.plain (OpenSpec.ofChange surgeMergedSpec)) surgeMergedCard

/-- THE SECOND FORM's CARD OF 'tidewaylaw03.SurgeTransfers'. -/
def surgeTransfersUptoCard : Claim7 := { stood := { row := surgeTransfersUptoRow, standIns := [], harness := (true, "647e34c3e2c5e353ff1d42c5505317e9250ede5648f7d7797507b09711055ebf"), looks := false }, kinds := [], alts := [], laidByText := true, laidKinds := [.data, .data, .data], laidTests := true, laidLooks := .later }
def SurgeTransfersUptoCardSaid : Prop := Claim7.holds Tryz.pinned (.plain (OpenSpec.upto surgeTransfersSpec)) surgeTransfersUptoCard

/-- THE SECOND FORM's CARD OF 'tidewaylaw03.SurgeNights'. -/
def surgeNightsUptoCard : Claim7 := { stood := { row := surgeNightsUptoRow, standIns := [], harness := (true, "647e34c3e2c5e353ff1d42c5505317e9250ede5648f7d7797507b09711055ebf"), looks := false }, kinds := [], alts := [], laidByText := true, laidKinds := [.data, .data, .data], laidTests := true, laidLooks := .later }
def SurgeNightsUptoCardSaid : Prop := Claim7.holds Tryz.pinned (.plain (OpenSpec.upto surgeNightsSpec)) surgeNightsUptoCard

/-- THE SECOND FORM's CARD OF 'tidewaylaw03.SurgeShares'. -/
def surgeSharesUptoCard : Claim7 := { stood := { row := surgeSharesUptoRow, standIns := [], harness := (true, "647e34c3e2c5e353ff1d42c5505317e9250ede5648f7d7797507b09711055ebf"), looks := false }, kinds := [], alts := [], laidByText := true, laidKinds := [.data, .data, .data], laidTests := true, laidLooks := .later }
def SurgeSharesUptoCardSaid : Prop := Claim7.holds Tryz.pinned (.plain (OpenSpec.upto surgeSharesSpec)) surgeSharesUptoCard

/-- THE SECOND FORM's CARD OF 'tidewaylaw03.SurgeEnclosures'. -/
def surgeEnclosuresUptoCard : Claim7 := { stood := { row := surgeEnclosuresUptoRow, standIns := [], harness := (true, "647e34c3e2c5e353ff1d42c5505317e9250ede5648f7d7797507b09711055ebf"), looks := false }, kinds := [], alts := [], laidByText := true, laidKinds := [.data, .data, .data], laidTests := true, laidLooks := .later }
def SurgeEnclosuresUptoCardSaid : Prop := Claim7.holds Tryz.pinned (.plain (OpenSpec.upto surgeEnclosuresSpec)) surgeEnclosuresUptoCard

/-- THE SECOND FORM's CARD OF 'tidewaylaw03.SurgeLearned'. -/
def surgeLearnedUptoCard : Claim7 := { stood := { row := surgeLearnedUptoRow, standIns := [], harness := (true, "647e34c3e2c5e353ff1d42c5505317e9250ede5648f7d7797507b09711055ebf"), looks := false }, kinds := [], alts := [], laidByText := true, laidKinds := [.data, .data, .data], laidTests := true, laidLooks := .later }
def SurgeLearnedUptoCardSaid : Prop := Claim7.holds Tryz.pinned (.plain (OpenSpec.upto surgeLearnedSpec)) surgeLearnedUptoCard

/-- THE SECOND FORM's CARD OF 'tidewaylaw03.SurgeLikely'. -/
def surgeLikelyUptoCard : Claim7 := { stood := { row := surgeLikelyUptoRow, standIns := [], harness := (true, "647e34c3e2c5e353ff1d42c5505317e9250ede5648f7d7797507b09711055ebf"), looks := false }, kinds := [], alts := [], laidByText := true, laidKinds := [.data, .data, .data], laidTests := true, laidLooks := .later }
def SurgeLikelyUptoCardSaid : Prop := Claim7.holds Tryz.pinned (.plain (OpenSpec.upto surgeLikelySpec)) surgeLikelyUptoCard

/-- THE SECOND FORM's CARD OF 'tidewaylaw03.SurgeFields'. -/
def surgeFieldsUptoCard : Claim7 := { stood := { row := surgeFieldsUptoRow, standIns := [], harness := (true, "647e34c3e2c5e353ff1d42c5505317e9250ede5648f7d7797507b09711055ebf"), looks := false }, kinds := [], alts := [], laidByText := true, laidKinds := [.data, .data, .data], laidTests := true, laidLooks := .later }
def SurgeFieldsUptoCardSaid : Prop := Claim7.holds Tryz.pinned (.plain (OpenSpec.upto surgeFieldsSpec)) surgeFieldsUptoCard

/-- THE SECOND FORM's CARD OF 'tidewaylaw03.SurgePlaces'. -/
def surgePlacesUptoCard : Claim7 := { stood := { row := surgePlacesUptoRow, standIns := [], harness := (true, "647e34c3e2c5e353ff1d42c5505317e9250ede5648f7d7797507b09711055ebf"), looks := false }, kinds := [], alts := [], laidByText := true, laidKinds := [.data, .data, .data], laidTests := true, laidLooks := .later }
def SurgePlacesUptoCardSaid : Prop := Claim7.holds Tryz.pinned (.plain (OpenSpec.upto surgePlacesSpec)) surgePlacesUptoCard

/-- THE SECOND FORM's CARD OF 'tidewaylaw03.SurgeSmooth'. -/
def surgeSmoothUptoCard : Claim7 := { stood := { row := surgeSmoothUptoRow, standIns := [], harness := (true, "647e34c3e2c5e353ff1d42c5505317e9250ede5648f7d7797507b09711055ebf"), looks := false }, kinds := [], alts := [], laidByText := true, laidKinds := [.data, .data, .data], laidTests := true, laidLooks := .later }
def SurgeSmoothUptoCardSaid : Prop := Claim7.holds Tryz.pinned (.plain (OpenSpec.upto surgeSmoothSpec)) surgeSmoothUptoCard

/-- THE SECOND FORM's CARD OF 'tidewaylaw03.SurgeCourses'. -/
def surgeCoursesUptoCard : Claim7 := { stood := { row := surgeCoursesUptoRow, standIns := [], harness := (true, "647e34c3e2c5e353ff1d42c5505317e9250ede5648f7d7797507b09711055ebf"), looks := false }, kinds := [], alts := [], laidByText := true, laidKinds := [.data, .data, .data], laidTests := true, laidLooks := .later }
def SurgeCoursesUptoCardSaid : Prop := Claim7.holds Tryz.pinned (.plain (OpenSpec.upto surgeCoursesSpec)) surgeCoursesUptoCard

/-- THE SECOND FORM's CARD OF 'tidewaylaw03.SurgeRuns'. -/
def surgeRunsUptoCard : Claim7 := { stood := { row := surgeRunsUptoRow, standIns := [], harness := (true, "647e34c3e2c5e353ff1d42c5505317e9250ede5648f7d7797507b09711055ebf"), looks := false }, kinds := [], alts := [], laidByText := true, laidKinds := [.data, .data, .data], laidTests := true, laidLooks := .later }
def SurgeRunsUptoCardSaid : Prop := Claim7.holds Tryz.pinned (.plain (OpenSpec.upto surgeRunsSpec)) surgeRunsUptoCard

/-- THE SECOND FORM's CARD OF 'tidewaylaw03.SurgeStores'. -/
def surgeStoresUptoCard : Claim7 := { stood := { row := surgeStoresUptoRow, standIns := [], harness := (true, "647e34c3e2c5e353ff1d42c5505317e9250ede5648f7d7797507b09711055ebf"), looks := false }, kinds := [], alts := [], laidByText := true, laidKinds := [.data, .data, .data], laidTests := true, laidLooks := .later }
def SurgeStoresUptoCardSaid : Prop := Claim7.holds Tryz.pinned (.plain (OpenSpec.upto surgeStoresSpec)) surgeStoresUptoCard

/-- THE SECOND FORM's CARD OF 'tidewaylaw03.SurgeMerged'. -/
def surgeMergedUptoCard : Claim7 := { stood := { row := surgeMergedUptoRow, standIns := [], harness := (true, "647e34c3e2c5e353ff1d42c5505317e9250ede5648f7d7797507b09711055ebf"), looks := false }, kinds := [], alts := [], laidByText := true, laidKinds := [.data, .data, .data], laidTests := true, laidLooks := .later }
def SurgeMergedUptoCardSaid : Prop := Claim7.holds Tryz.pinned (.plain (OpenSpec.upto surgeMergedSpec)) surgeMergedUptoCard
end Rows
end Go.Proofs.YtednnfllcafliaaGreatDoor
