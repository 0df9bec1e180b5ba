/- The closed facts of the row of SurgePlaces, one by one. No condition. -/
import Derived.Test.YtednnfllcafliaaGreatDoorRows
import Derived.Test.YtednnfllcafliaaGreatDoorP10
import Derived.KernelRfl
set_option linter.all false
namespace Go.Proofs.YtednnfllcafliaaGreatDoor
theorem surgePlaces_f0 : Rows.surgePlacesRow.wf (OpenSpec.ofChange (OpenSpec.ofChange Rows.surgePlacesSpec).bare) = true := by kernel_rfl
theorem surgePlaces_f1 : laidOutB Tryz.prog = true := by kernel_rfl
theorem surgePlaces_f2 : mapsRowed Tryz.prog = true := by kernel_rfl
theorem surgePlaces_f3 : Tryz.f10.params.all (Tryz.prog.readableRec ·) = true := by kernel_rfl
theorem surgePlaces_f4 : namedTie Tryz.prog Rows.surgePlacesRow.named (OpenSpec.ofChange Rows.surgePlacesSpec).bare.vars = true := by kernel_rfl
theorem surgePlaces_f5 : (Rows.surgePlacesRow.stops == []) = true := by kernel_rfl
theorem surgePlaces_f6 : (Tryz.prog.stops == []) = true := by kernel_rfl
theorem surgePlaces_f7 : (Rows.surgePlacesRow.knobs == []) = true := by kernel_rfl
theorem surgePlaces_f8 : (Tryz.prog.stopKnobs == []) = true := by kernel_rfl
theorem surgePlaces_f9 : (Rows.surgePlacesRow.inPlace == Tryz.prog.inPlace 10) = true := by kernel_rfl
theorem surgePlaces_f10 : (Rows.surgePlacesRow.unfollowed == Tryz.prog.unfollowed 10) = true := by kernel_rfl
theorem surgePlaces_f11 : (Rows.surgePlacesRow.recurses == Tryz.prog.recurses 10) = true := by kernel_rfl
theorem surgePlaces_f12 : (Rows.surgePlacesRow.named == Tryz.prog.varsNamed 10) = true := by kernel_rfl
theorem surgePlaces_f13 : (Rows.surgePlacesRow.maps == (Tryz.f10.params.toList ++ (OpenSpec.ofChange Rows.surgePlacesSpec).bare.plain.varTypes Tryz.prog).any (Tryz.prog.mapsRec ·)) = true := by kernel_rfl
theorem surgePlaces_f14 : (Rows.surgePlacesRow.ifaces == (Tryz.f10.params.toList ++ (OpenSpec.ofChange Rows.surgePlacesSpec).bare.plain.varTypes Tryz.prog).any (Tryz.prog.ifacesRec ·)) = true := by kernel_rfl
theorem surgePlaces_f15 : (Rows.surgePlacesRow.mapsOut == Tryz.prog.mapsAmong Tryz.f10.resultTypes.toList) = true := by kernel_rfl
theorem surgePlaces_f16 : (Rows.surgePlacesRow.loops == (Tryz.f10.params.toList ++ (OpenSpec.ofChange Rows.surgePlacesSpec).bare.plain.varTypes Tryz.prog).any (Tryz.prog.loopsFrom ·)) = true := by kernel_rfl
theorem surgePlaces_f17 : (Rows.surgePlacesRow.wideKeys == (Tryz.f10.params.toList ++ (OpenSpec.ofChange Rows.surgePlacesSpec).bare.plain.varTypes Tryz.prog ++ Tryz.f10.resultTypes.toList).any (Tryz.prog.wideKeysFrom ·)) = true := by kernel_rfl
theorem surgePlaces_f18 : (OpenSpec.ofChange Rows.surgePlacesSpec).bare.vars.all (Tryz.prog.varReadable ·) = true := by kernel_rfl
theorem surgePlaces_f19 : Tryz.f10.resultTypes.all (fun t => Tryz.prog.readableRec t && decide (t < Tryz.prog.types.size)) = true := by kernel_rfl
theorem surgePlaces_f20 : (Rows.surgePlacesRow.ifacesOut == Tryz.f10.resultTypes.toList.any (Tryz.prog.ifacesRec ·)) = true := by kernel_rfl
theorem surgePlaces_f21 : (Rows.surgePlacesRow.loopsOut == Tryz.f10.resultTypes.toList.any (Tryz.prog.loopsFrom ·)) = true := by kernel_rfl
theorem surgePlaces_f22 : (Rows.surgePlacesRow.plainKeys == Tryz.prog.plainKeys) = true := by kernel_rfl
theorem surgePlaces_f23 : Rows.surgePlacesRow.shortTexts.isNone = true := by kernel_rfl
theorem surgePlaces_f24 : Tryz.prog.stopsHeard = true := by kernel_rfl
theorem surgePlaces_f25 : Tryz.prog.mayEnter = true := by kernel_rfl
theorem surgePlaces_f26 : (Rows.surgePlacesRow.lifted == Tryz.prog.liftsFinal) = true := by kernel_rfl
theorem surgePlaces_f27 : (Tryz.prog.make == some Rows.surgePlacesRow.make) = true := by kernel_rfl
theorem surgePlaces_f28 : (Rows.surgePlacesRow.kinds == (if Rows.surgePlacesRow.domain.isEmpty then [] else Tryz.f10.params.toList.map fun t => match Tryz.prog.underlying t with | some (.int k) => some k | _ => none)) = true := by kernel_rfl
theorem surgePlaces_f29 : (Rows.surgePlacesRow.pinned == Rows.surgePlacesRow.pinnedBy) = true := by kernel_rfl
theorem surgePlaces_f30 : (Rows.surgePlacesRow.veiled == (Tryz.f10.params.toList ++ (OpenSpec.ofChange Rows.surgePlacesSpec).bare.plain.varTypes Tryz.prog ++ Tryz.f10.resultTypes.toList).any (Tryz.prog.veiledRec ·)) = true := by kernel_rfl
theorem surgePlaces_f31 : Rows.surgePlacesRow.veiledFits Tryz.prog Tryz.f10.params.toList (Tryz.f10.params.toList ++ (OpenSpec.ofChange Rows.surgePlacesSpec).bare.plain.varTypes Tryz.prog ++ Tryz.f10.resultTypes.toList) = true := by kernel_rfl
set_option maxRecDepth 100000 in
theorem surgePlaces_joined : joinedFacts Tryz.prog 10 Tryz.f10 (OpenSpec.ofChange Rows.surgePlacesSpec).bare Rows.surgePlacesRow = true := Go.Fs.joined_of surgePlaces_f0 surgePlaces_f1 surgePlaces_f2 surgePlaces_f3 surgePlaces_f4 surgePlaces_f5 surgePlaces_f6 surgePlaces_f7 surgePlaces_f8 surgePlaces_f9 surgePlaces_f10 surgePlaces_f11 surgePlaces_f12 surgePlaces_f13 surgePlaces_f14 surgePlaces_f15 surgePlaces_f16 surgePlaces_f17 surgePlaces_f18 surgePlaces_f19 surgePlaces_f20 surgePlaces_f21 surgePlaces_f22 surgePlaces_f23 surgePlaces_f24 surgePlaces_f25 surgePlaces_f26 surgePlaces_f27 surgePlaces_f28 surgePlaces_f29 surgePlaces_f30 surgePlaces_f31
end Go.Proofs.YtednnfllcafliaaGreatDoor
