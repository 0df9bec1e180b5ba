/- The closed facts of the row of SurgeCourses, one by one. No condition. -/
import Derived.Test.YtednnfllcafliaaGreatDoorRows
import Derived.Test.YtednnfllcafliaaGreatDoorP11FsFacts
import Derived.KernelRfl
set_option linter.all false
namespace Go.Proofs.YtednnfllcafliaaGreatDoor
theorem surgeCourses_f0 : Rows.surgeCoursesRow.wf (OpenSpec.ofChange (OpenSpec.ofChange Rows.surgeCoursesSpec).bare) = true := by kernel_rfl
theorem surgeCourses_f1 : laidOutB Tryz.prog = true := by kernel_rfl
theorem surgeCourses_f2 : mapsRowed Tryz.prog = true := by kernel_rfl
theorem surgeCourses_f3 : Tryz.f12.params.all (Tryz.prog.readableRec ·) = true := by kernel_rfl
theorem surgeCourses_f4 : namedTie Tryz.prog Rows.surgeCoursesRow.named (OpenSpec.ofChange Rows.surgeCoursesSpec).bare.vars = true := by kernel_rfl
theorem surgeCourses_f5 : (Rows.surgeCoursesRow.stops == []) = true := by kernel_rfl
theorem surgeCourses_f6 : (Tryz.prog.stops == []) = true := by kernel_rfl
theorem surgeCourses_f7 : (Rows.surgeCoursesRow.knobs == []) = true := by kernel_rfl
theorem surgeCourses_f8 : (Tryz.prog.stopKnobs == []) = true := by kernel_rfl
theorem surgeCourses_f9 : (Rows.surgeCoursesRow.inPlace == Tryz.prog.inPlace 12) = true := by kernel_rfl
theorem surgeCourses_f10 : (Rows.surgeCoursesRow.unfollowed == Tryz.prog.unfollowed 12) = true := by kernel_rfl
theorem surgeCourses_f11 : (Rows.surgeCoursesRow.recurses == Tryz.prog.recurses 12) = true := by kernel_rfl
theorem surgeCourses_f12 : (Rows.surgeCoursesRow.named == Tryz.prog.varsNamed 12) = true := by kernel_rfl
theorem surgeCourses_f13 : (Rows.surgeCoursesRow.maps == (Tryz.f12.params.toList ++ (OpenSpec.ofChange Rows.surgeCoursesSpec).bare.plain.varTypes Tryz.prog).any (Tryz.prog.mapsRec ·)) = true := by kernel_rfl
theorem surgeCourses_f14 : (Rows.surgeCoursesRow.ifaces == (Tryz.f12.params.toList ++ (OpenSpec.ofChange Rows.surgeCoursesSpec).bare.plain.varTypes Tryz.prog).any (Tryz.prog.ifacesRec ·)) = true := by kernel_rfl
theorem surgeCourses_f15 : (Rows.surgeCoursesRow.mapsOut == Tryz.prog.mapsAmong Tryz.f12.resultTypes.toList) = true := by kernel_rfl
theorem surgeCourses_f16 : (Rows.surgeCoursesRow.loops == (Tryz.f12.params.toList ++ (OpenSpec.ofChange Rows.surgeCoursesSpec).bare.plain.varTypes Tryz.prog).any (Tryz.prog.loopsFrom ·)) = true := by kernel_rfl
theorem surgeCourses_f17 : (Rows.surgeCoursesRow.wideKeys == (Tryz.f12.params.toList ++ (OpenSpec.ofChange Rows.surgeCoursesSpec).bare.plain.varTypes Tryz.prog ++ Tryz.f12.resultTypes.toList).any (Tryz.prog.wideKeysFrom ·)) = true := by kernel_rfl
theorem surgeCourses_f18 : (OpenSpec.ofChange Rows.surgeCoursesSpec).bare.vars.all (Tryz.prog.varReadable ·) = true := by kernel_rfl
theorem surgeCourses_f19 : Tryz.f12.resultTypes.all (fun t => Tryz.prog.readableRec t && decide (t < Tryz.prog.types.size)) = true := by kernel_rfl
theorem surgeCourses_f20 : (Rows.surgeCoursesRow.ifacesOut == Tryz.f12.resultTypes.toList.any (Tryz.prog.ifacesRec ·)) = true := by kernel_rfl
theorem surgeCourses_f21 : (Rows.surgeCoursesRow.loopsOut == Tryz.f12.resultTypes.toList.any (Tryz.prog.loopsFrom ·)) = true := by kernel_rfl
theorem surgeCourses_f22 : (Rows.surgeCoursesRow.plainKeys == Tryz.prog.plainKeys) = true := by kernel_rfl
theorem surgeCourses_f23 : Rows.surgeCoursesRow.shortTexts.isNone = true := by kernel_rfl
theorem surgeCourses_f24 : Tryz.prog.stopsHeard = true := by kernel_rfl
theorem surgeCourses_f25 : Tryz.prog.mayEnter = true := by kernel_rfl
theorem surgeCourses_f26 : (Rows.surgeCoursesRow.lifted == Tryz.prog.liftsFinal) = true := by kernel_rfl
theorem surgeCourses_f27 : (Tryz.prog.make == some Rows.surgeCoursesRow.make) = true := by kernel_rfl
theorem surgeCourses_f28 : (Rows.surgeCoursesRow.kinds == (if Rows.surgeCoursesRow.domain.isEmpty then [] else Tryz.f12.params.toList.map fun t => match Tryz.prog.underlying t with | some (.int k) => some k | _ => none)) = true := by kernel_rfl
theorem surgeCourses_f29 : (Rows.surgeCoursesRow.pinned == Rows.surgeCoursesRow.pinnedBy) = true := by kernel_rfl
theorem surgeCourses_f30 : (Rows.surgeCoursesRow.veiled == (Tryz.f12.params.toList ++ (OpenSpec.ofChange Rows.surgeCoursesSpec).bare.plain.varTypes Tryz.prog ++ Tryz.f12.resultTypes.toList).any (Tryz.prog.veiledRec ·)) = true := by kernel_rfl
theorem surgeCourses_f31 : Rows.surgeCoursesRow.veiledFits Tryz.prog Tryz.f12.params.toList (Tryz.f12.params.toList ++ (OpenSpec.ofChange Rows.surgeCoursesSpec).bare.plain.varTypes Tryz.prog ++ Tryz.f12.resultTypes.toList) = true := by kernel_rfl
set_option maxRecDepth 100000 in
theorem surgeCourses_joined : joinedFacts Tryz.prog 12 Tryz.f12 (OpenSpec.ofChange Rows.surgeCoursesSpec).bare Rows.surgeCoursesRow = true := Go.Fs.joined_of surgeCourses_f0 surgeCourses_f1 surgeCourses_f2 surgeCourses_f3 surgeCourses_f4 surgeCourses_f5 surgeCourses_f6 surgeCourses_f7 surgeCourses_f8 surgeCourses_f9 surgeCourses_f10 surgeCourses_f11 surgeCourses_f12 surgeCourses_f13 surgeCourses_f14 surgeCourses_f15 surgeCourses_f16 surgeCourses_f17 surgeCourses_f18 surgeCourses_f19 surgeCourses_f20 surgeCourses_f21 surgeCourses_f22 surgeCourses_f23 surgeCourses_f24 surgeCourses_f25 surgeCourses_f26 surgeCourses_f27 surgeCourses_f28 surgeCourses_f29 surgeCourses_f30 surgeCourses_f31
end Go.Proofs.YtednnfllcafliaaGreatDoor
