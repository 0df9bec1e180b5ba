/- The closed facts of the row of SurgeMerged, one by one. No condition. -/
import Derived.Test.YtlkhimnkbboedaaGreatDoorRows
import Derived.Test.YtlkhimnkbboedaaGreatDoorP12FsFacts
import Derived.KernelRfl
set_option linter.all false
namespace Go.Proofs.YtlkhimnkbboedaaGreatDoor
theorem surgeMerged_f0 : Rows.surgeMergedRow.wf (OpenSpec.ofChange (OpenSpec.ofChange Rows.surgeMergedSpec).bare) = true := by kernel_rfl
theorem surgeMerged_f1 : laidOutB Tryz.prog = true := by kernel_rfl
theorem surgeMerged_f2 : mapsRowed Tryz.prog = true := by kernel_rfl
theorem surgeMerged_f3 : Tryz.f3.params.all (Tryz.prog.readableRec ·) = true := by kernel_rfl
theorem surgeMerged_f4 : namedTie Tryz.prog Rows.surgeMergedRow.named (OpenSpec.ofChange Rows.surgeMergedSpec).bare.vars = true := by kernel_rfl
theorem surgeMerged_f5 : (Rows.surgeMergedRow.stops == []) = true := by kernel_rfl
theorem surgeMerged_f6 : (Tryz.prog.stops == []) = true := by kernel_rfl
theorem surgeMerged_f7 : (Rows.surgeMergedRow.knobs == []) = true := by kernel_rfl
theorem surgeMerged_f8 : (Tryz.prog.stopKnobs == []) = true := by kernel_rfl
theorem surgeMerged_f9 : (Rows.surgeMergedRow.inPlace == Tryz.prog.inPlace 3) = true := by kernel_rfl
theorem surgeMerged_f10 : (Rows.surgeMergedRow.unfollowed == Tryz.prog.unfollowed 3) = true := by kernel_rfl
theorem surgeMerged_f11 : (Rows.surgeMergedRow.recurses == Tryz.prog.recurses 3) = true := by kernel_rfl
theorem surgeMerged_f12 : (Rows.surgeMergedRow.named == Tryz.prog.varsNamed 3) = true := by kernel_rfl
theorem surgeMerged_f13 : (Rows.surgeMergedRow.maps == (Tryz.f3.params.toList ++ (OpenSpec.ofChange Rows.surgeMergedSpec).bare.plain.varTypes Tryz.prog).any (Tryz.prog.mapsRec ·)) = true := by kernel_rfl
theorem surgeMerged_f14 : (Rows.surgeMergedRow.ifaces == (Tryz.f3.params.toList ++ (OpenSpec.ofChange Rows.surgeMergedSpec).bare.plain.varTypes Tryz.prog).any (Tryz.prog.ifacesRec ·)) = true := by kernel_rfl
theorem surgeMerged_f15 : (Rows.surgeMergedRow.mapsOut == Tryz.prog.mapsAmong Tryz.f3.resultTypes.toList) = true := by kernel_rfl
theorem surgeMerged_f16 : (Rows.surgeMergedRow.loops == (Tryz.f3.params.toList ++ (OpenSpec.ofChange Rows.surgeMergedSpec).bare.plain.varTypes Tryz.prog).any (Tryz.prog.loopsFrom ·)) = true := by kernel_rfl
theorem surgeMerged_f17 : (Rows.surgeMergedRow.wideKeys == (Tryz.f3.params.toList ++ (OpenSpec.ofChange Rows.surgeMergedSpec).bare.plain.varTypes Tryz.prog ++ Tryz.f3.resultTypes.toList).any (Tryz.prog.wideKeysFrom ·)) = true := by kernel_rfl
theorem surgeMerged_f18 : (OpenSpec.ofChange Rows.surgeMergedSpec).bare.vars.all (Tryz.prog.varReadable ·) = true := by kernel_rfl
theorem surgeMerged_f19 : Tryz.f3.resultTypes.all (fun t => Tryz.prog.readableRec t && decide (t < Tryz.prog.types.size)) = true := by kernel_rfl
theorem surgeMerged_f20 : (Rows.surgeMergedRow.ifacesOut == Tryz.f3.resultTypes.toList.any (Tryz.prog.ifacesRec ·)) = true := by kernel_rfl
theorem surgeMerged_f21 : (Rows.surgeMergedRow.loopsOut == Tryz.f3.resultTypes.toList.any (Tryz.prog.loopsFrom ·)) = true := by kernel_rfl
theorem surgeMerged_f22 : (Rows.surgeMergedRow.plainKeys == Tryz.prog.plainKeys) = true := by kernel_rfl
theorem surgeMerged_f23 : Rows.surgeMergedRow.shortTexts.isNone = true := by kernel_rfl
theorem surgeMerged_f24 : Tryz.prog.stopsHeard = true := by kernel_rfl
theorem surgeMerged_f25 : Tryz.prog.mayEnter = true := by kernel_rfl
theorem surgeMerged_f26 : (Rows.surgeMergedRow.lifted == Tryz.prog.liftsFinal) = true := by kernel_rfl
theorem surgeMerged_f27 : (Tryz.prog.make == some Rows.surgeMergedRow.make) = true := by kernel_rfl
theorem surgeMerged_f28 : (Rows.surgeMergedRow.kinds == (if Rows.surgeMergedRow.domain.isEmpty then [] else Tryz.f3.params.toList.map fun t => match Tryz.prog.underlying t with | some (.int k) => some k | _ => none)) = true := by kernel_rfl
theorem surgeMerged_f29 : (Rows.surgeMergedRow.pinned == Rows.surgeMergedRow.pinnedBy) = true := by kernel_rfl
theorem surgeMerged_f30 : (Rows.surgeMergedRow.veiled == (Tryz.f3.params.toList ++ (OpenSpec.ofChange Rows.surgeMergedSpec).bare.plain.varTypes Tryz.prog ++ Tryz.f3.resultTypes.toList).any (Tryz.prog.veiledRec ·)) = true := by kernel_rfl
theorem surgeMerged_f31 : Rows.surgeMergedRow.veiledFits Tryz.prog Tryz.f3.params.toList (Tryz.f3.params.toList ++ (OpenSpec.ofChange Rows.surgeMergedSpec).bare.plain.varTypes Tryz.prog ++ Tryz.f3.resultTypes.toList) = true := by kernel_rfl
set_option maxRecDepth 100000 in
theorem surgeMerged_joined : joinedFacts Tryz.prog 3 Tryz.f3 (OpenSpec.ofChange Rows.surgeMergedSpec).bare Rows.surgeMergedRow = true := Go.Fs.joined_of surgeMerged_f0 surgeMerged_f1 surgeMerged_f2 surgeMerged_f3 surgeMerged_f4 surgeMerged_f5 surgeMerged_f6 surgeMerged_f7 surgeMerged_f8 surgeMerged_f9 surgeMerged_f10 surgeMerged_f11 surgeMerged_f12 surgeMerged_f13 surgeMerged_f14 surgeMerged_f15 surgeMerged_f16 surgeMerged_f17 surgeMerged_f18 surgeMerged_f19 surgeMerged_f20 surgeMerged_f21 surgeMerged_f22 surgeMerged_f23 surgeMerged_f24 surgeMerged_f25 surgeMerged_f26 surgeMerged_f27 surgeMerged_f28 surgeMerged_f29 surgeMerged_f30 surgeMerged_f31
end Go.Proofs.YtlkhimnkbboedaaGreatDoor
