/- The closed facts of the row of SurgeLearned, one by one. No condition. -/
import Derived.Test.YtednnfllcafliaaGreatDoorRows
import Derived.Test.YtednnfllcafliaaGreatDoorP10
import Derived.KernelRfl
set_option linter.all false
namespace Go.Proofs.YtednnfllcafliaaGreatDoor
theorem surgeLearned_f0 : Rows.surgeLearnedRow.wf (OpenSpec.ofChange (OpenSpec.ofChange Rows.surgeLearnedSpec).bare) = true := by kernel_rfl
theorem surgeLearned_f1 : laidOutB Tryz.prog = true := by kernel_rfl
theorem surgeLearned_f2 : mapsRowed Tryz.prog = true := by kernel_rfl
theorem surgeLearned_f3 : Tryz.f7.params.all (Tryz.prog.readableRec ·) = true := by kernel_rfl
theorem surgeLearned_f4 : namedTie Tryz.prog Rows.surgeLearnedRow.named (OpenSpec.ofChange Rows.surgeLearnedSpec).bare.vars = true := by kernel_rfl
theorem surgeLearned_f5 : (Rows.surgeLearnedRow.stops == []) = true := by kernel_rfl
theorem surgeLearned_f6 : (Tryz.prog.stops == []) = true := by kernel_rfl
theorem surgeLearned_f7 : (Rows.surgeLearnedRow.knobs == []) = true := by kernel_rfl
theorem surgeLearned_f8 : (Tryz.prog.stopKnobs == []) = true := by kernel_rfl
theorem surgeLearned_f9 : (Rows.surgeLearnedRow.inPlace == Tryz.prog.inPlace 7) = true := by kernel_rfl
theorem surgeLearned_f10 : (Rows.surgeLearnedRow.unfollowed == Tryz.prog.unfollowed 7) = true := by kernel_rfl
theorem surgeLearned_f11 : (Rows.surgeLearnedRow.recurses == Tryz.prog.recurses 7) = true := by kernel_rfl
theorem surgeLearned_f12 : (Rows.surgeLearnedRow.named == Tryz.prog.varsNamed 7) = true := by kernel_rfl
theorem surgeLearned_f13 : (Rows.surgeLearnedRow.maps == (Tryz.f7.params.toList ++ (OpenSpec.ofChange Rows.surgeLearnedSpec).bare.plain.varTypes Tryz.prog).any (Tryz.prog.mapsRec ·)) = true := by kernel_rfl
theorem surgeLearned_f14 : (Rows.surgeLearnedRow.ifaces == (Tryz.f7.params.toList ++ (OpenSpec.ofChange Rows.surgeLearnedSpec).bare.plain.varTypes Tryz.prog).any (Tryz.prog.ifacesRec ·)) = true := by kernel_rfl
theorem surgeLearned_f15 : (Rows.surgeLearnedRow.mapsOut == Tryz.prog.mapsAmong Tryz.f7.resultTypes.toList) = true := by kernel_rfl
theorem surgeLearned_f16 : (Rows.surgeLearnedRow.loops == (Tryz.f7.params.toList ++ (OpenSpec.ofChange Rows.surgeLearnedSpec).bare.plain.varTypes Tryz.prog).any (Tryz.prog.loopsFrom ·)) = true := by kernel_rfl
theorem surgeLearned_f17 : (Rows.surgeLearnedRow.wideKeys == (Tryz.f7.params.toList ++ (OpenSpec.ofChange Rows.surgeLearnedSpec).bare.plain.varTypes Tryz.prog ++ Tryz.f7.resultTypes.toList).any (Tryz.prog.wideKeysFrom ·)) = true := by kernel_rfl
theorem surgeLearned_f18 : (OpenSpec.ofChange Rows.surgeLearnedSpec).bare.vars.all (Tryz.prog.varReadable ·) = true := by kernel_rfl
theorem surgeLearned_f19 : Tryz.f7.resultTypes.all (fun t => Tryz.prog.readableRec t && decide (t < Tryz.prog.types.size)) = true := by kernel_rfl
theorem surgeLearned_f20 : (Rows.surgeLearnedRow.ifacesOut == Tryz.f7.resultTypes.toList.any (Tryz.prog.ifacesRec ·)) = true := by kernel_rfl
theorem surgeLearned_f21 : (Rows.surgeLearnedRow.loopsOut == Tryz.f7.resultTypes.toList.any (Tryz.prog.loopsFrom ·)) = true := by kernel_rfl
theorem surgeLearned_f22 : (Rows.surgeLearnedRow.plainKeys == Tryz.prog.plainKeys) = true := by kernel_rfl
theorem surgeLearned_f23 : Rows.surgeLearnedRow.shortTexts.isNone = true := by kernel_rfl
theorem surgeLearned_f24 : Tryz.prog.stopsHeard = true := by kernel_rfl
theorem surgeLearned_f25 : Tryz.prog.mayEnter = true := by kernel_rfl
theorem surgeLearned_f26 : (Rows.surgeLearnedRow.lifted == Tryz.prog.liftsFinal) = true := by kernel_rfl
theorem surgeLearned_f27 : (Tryz.prog.make == some Rows.surgeLearnedRow.make) = true := by kernel_rfl
theorem surgeLearned_f28 : (Rows.surgeLearnedRow.kinds == (if Rows.surgeLearnedRow.domain.isEmpty then [] else Tryz.f7.params.toList.map fun t => match Tryz.prog.underlying t with | some (.int k) => some k | _ => none)) = true := by kernel_rfl
theorem surgeLearned_f29 : (Rows.surgeLearnedRow.pinned == Rows.surgeLearnedRow.pinnedBy) = true := by kernel_rfl
theorem surgeLearned_f30 : (Rows.surgeLearnedRow.veiled == (Tryz.f7.params.toList ++ (OpenSpec.ofChange Rows.surgeLearnedSpec).bare.plain.varTypes Tryz.prog ++ Tryz.f7.resultTypes.toList).any (Tryz.prog.veiledRec ·)) = true := by kernel_rfl
theorem surgeLearned_f31 : Rows.surgeLearnedRow.veiledFits Tryz.prog Tryz.f7.params.toList (Tryz.f7.params.toList ++ (OpenSpec.ofChange Rows.surgeLearnedSpec).bare.plain.varTypes Tryz.prog ++ Tryz.f7.resultTypes.toList) = true := by kernel_rfl
set_option maxRecDepth 100000 in
theorem surgeLearned_joined : joinedFacts Tryz.prog 7 Tryz.f7 (OpenSpec.ofChange Rows.surgeLearnedSpec).bare Rows.surgeLearnedRow = true := Go.Fs.joined_of surgeLearned_f0 surgeLearned_f1 surgeLearned_f2 surgeLearned_f3 surgeLearned_f4 surgeLearned_f5 surgeLearned_f6 surgeLearned_f7 surgeLearned_f8 surgeLearned_f9 surgeLearned_f10 surgeLearned_f11 surgeLearned_f12 surgeLearned_f13 surgeLearned_f14 surgeLearned_f15 surgeLearned_f16 surgeLearned_f17 surgeLearned_f18 surgeLearned_f19 surgeLearned_f20 surgeLearned_f21 surgeLearned_f22 surgeLearned_f23 surgeLearned_f24 surgeLearned_f25 surgeLearned_f26 surgeLearned_f27 surgeLearned_f28 surgeLearned_f29 surgeLearned_f30 surgeLearned_f31
end Go.Proofs.YtednnfllcafliaaGreatDoor
