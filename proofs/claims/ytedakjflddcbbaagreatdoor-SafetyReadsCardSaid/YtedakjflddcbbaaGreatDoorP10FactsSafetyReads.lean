/- The closed facts of the row of SafetyReads, one by one. No condition. -/
import Derived.Test.YtedakjflddcbbaaGreatDoorRows
import Derived.Test.YtedakjflddcbbaaGreatDoorP9FsFacts
import Derived.KernelRfl
set_option linter.all false
namespace Go.Proofs.YtedakjflddcbbaaGreatDoor
theorem safetyReads_f0 : Rows.safetyReadsRow.wf (OpenSpec.ofChange (OpenSpec.ofChange Rows.safetyReadsSpec).bare) = true := by kernel_rfl
theorem safetyReads_f1 : laidOutB Tryz.prog = true := by kernel_rfl
theorem safetyReads_f2 : mapsRowed Tryz.prog = true := by kernel_rfl
theorem safetyReads_f3 : Tryz.f4.params.all (Tryz.prog.readableRec ·) = true := by kernel_rfl
theorem safetyReads_f4 : namedTie Tryz.prog Rows.safetyReadsRow.named (OpenSpec.ofChange Rows.safetyReadsSpec).bare.vars = true := by kernel_rfl
theorem safetyReads_f5 : (Rows.safetyReadsRow.stops == []) = true := by kernel_rfl
theorem safetyReads_f6 : (Tryz.prog.stops == []) = true := by kernel_rfl
theorem safetyReads_f7 : (Rows.safetyReadsRow.knobs == []) = true := by kernel_rfl
theorem safetyReads_f8 : (Tryz.prog.stopKnobs == []) = true := by kernel_rfl
theorem safetyReads_f9 : (Rows.safetyReadsRow.inPlace == Tryz.prog.inPlace 4) = true := by kernel_rfl
theorem safetyReads_f10 : (Rows.safetyReadsRow.unfollowed == Tryz.prog.unfollowed 4) = true := by kernel_rfl
theorem safetyReads_f11 : (Rows.safetyReadsRow.recurses == Tryz.prog.recurses 4) = true := by kernel_rfl
theorem safetyReads_f12 : (Rows.safetyReadsRow.named == Tryz.prog.varsNamed 4) = true := by kernel_rfl
theorem safetyReads_f13 : (Rows.safetyReadsRow.maps == (Tryz.f4.params.toList ++ (OpenSpec.ofChange Rows.safetyReadsSpec).bare.plain.varTypes Tryz.prog).any (Tryz.prog.mapsRec ·)) = true := by kernel_rfl
theorem safetyReads_f14 : (Rows.safetyReadsRow.ifaces == (Tryz.f4.params.toList ++ (OpenSpec.ofChange Rows.safetyReadsSpec).bare.plain.varTypes Tryz.prog).any (Tryz.prog.ifacesRec ·)) = true := by kernel_rfl
theorem safetyReads_f15 : (Rows.safetyReadsRow.mapsOut == Tryz.prog.mapsAmong Tryz.f4.resultTypes.toList) = true := by kernel_rfl
theorem safetyReads_f16 : (Rows.safetyReadsRow.loops == (Tryz.f4.params.toList ++ (OpenSpec.ofChange Rows.safetyReadsSpec).bare.plain.varTypes Tryz.prog).any (Tryz.prog.loopsFrom ·)) = true := by kernel_rfl
theorem safetyReads_f17 : (Rows.safetyReadsRow.wideKeys == (Tryz.f4.params.toList ++ (OpenSpec.ofChange Rows.safetyReadsSpec).bare.plain.varTypes Tryz.prog ++ Tryz.f4.resultTypes.toList).any (Tryz.prog.wideKeysFrom ·)) = true := by kernel_rfl
theorem safetyReads_f18 : (OpenSpec.ofChange Rows.safetyReadsSpec).bare.vars.all (Tryz.prog.varReadable ·) = true := by kernel_rfl
theorem safetyReads_f19 : Tryz.f4.resultTypes.all (fun t => Tryz.prog.readableRec t && decide (t < Tryz.prog.types.size)) = true := by kernel_rfl
theorem safetyReads_f20 : (Rows.safetyReadsRow.ifacesOut == Tryz.f4.resultTypes.toList.any (Tryz.prog.ifacesRec ·)) = true := by kernel_rfl
theorem safetyReads_f21 : (Rows.safetyReadsRow.loopsOut == Tryz.f4.resultTypes.toList.any (Tryz.prog.loopsFrom ·)) = true := by kernel_rfl
theorem safetyReads_f22 : (Rows.safetyReadsRow.plainKeys == Tryz.prog.plainKeys) = true := by kernel_rfl
theorem safetyReads_f23 : Rows.safetyReadsRow.shortTexts.isNone = true := by kernel_rfl
theorem safetyReads_f24 : Tryz.prog.stopsHeard = true := by kernel_rfl
theorem safetyReads_f25 : Tryz.prog.mayEnter = true := by kernel_rfl
theorem safetyReads_f26 : (Rows.safetyReadsRow.lifted == Tryz.prog.liftsFinal) = true := by kernel_rfl
theorem safetyReads_f27 : (Tryz.prog.make == some Rows.safetyReadsRow.make) = true := by kernel_rfl
theorem safetyReads_f28 : (Rows.safetyReadsRow.kinds == (if Rows.safetyReadsRow.domain.isEmpty then [] else Tryz.f4.params.toList.map fun t => match Tryz.prog.underlying t with | some (.int k) => some k | _ => none)) = true := by kernel_rfl
theorem safetyReads_f29 : (Rows.safetyReadsRow.pinned == Rows.safetyReadsRow.pinnedBy) = true := by kernel_rfl
theorem safetyReads_f30 : (Rows.safetyReadsRow.veiled == (Tryz.f4.params.toList ++ (OpenSpec.ofChange Rows.safetyReadsSpec).bare.plain.varTypes Tryz.prog ++ Tryz.f4.resultTypes.toList).any (Tryz.prog.veiledRec ·)) = true := by kernel_rfl
theorem safetyReads_f31 : Rows.safetyReadsRow.veiledFits Tryz.prog Tryz.f4.params.toList (Tryz.f4.params.toList ++ (OpenSpec.ofChange Rows.safetyReadsSpec).bare.plain.varTypes Tryz.prog ++ Tryz.f4.resultTypes.toList) = true := by kernel_rfl
set_option maxRecDepth 100000 in
theorem safetyReads_joined : joinedFacts Tryz.prog 4 Tryz.f4 (OpenSpec.ofChange Rows.safetyReadsSpec).bare Rows.safetyReadsRow = true := Go.Fs.joined_of safetyReads_f0 safetyReads_f1 safetyReads_f2 safetyReads_f3 safetyReads_f4 safetyReads_f5 safetyReads_f6 safetyReads_f7 safetyReads_f8 safetyReads_f9 safetyReads_f10 safetyReads_f11 safetyReads_f12 safetyReads_f13 safetyReads_f14 safetyReads_f15 safetyReads_f16 safetyReads_f17 safetyReads_f18 safetyReads_f19 safetyReads_f20 safetyReads_f21 safetyReads_f22 safetyReads_f23 safetyReads_f24 safetyReads_f25 safetyReads_f26 safetyReads_f27 safetyReads_f28 safetyReads_f29 safetyReads_f30 safetyReads_f31
end Go.Proofs.YtedakjflddcbbaaGreatDoor
