/- The closed facts of the row of SurgeRuns, one by one. No condition. -/
import Derived.Test.YtednnfllcafliaaGreatDoorRows
import Derived.Test.YtednnfllcafliaaGreatDoorP10
import Derived.KernelRfl
set_option linter.all false
namespace Go.Proofs.YtednnfllcafliaaGreatDoor
theorem surgeRuns_f0 : Rows.surgeRunsRow.wf (OpenSpec.ofChange (OpenSpec.ofChange Rows.surgeRunsSpec).bare) = true := by kernel_rfl
theorem surgeRuns_f1 : laidOutB Tryz.prog = true := by kernel_rfl
theorem surgeRuns_f2 : mapsRowed Tryz.prog = true := by kernel_rfl
theorem surgeRuns_f3 : Tryz.f13.params.all (Tryz.prog.readableRec ·) = true := by kernel_rfl
theorem surgeRuns_f4 : namedTie Tryz.prog Rows.surgeRunsRow.named (OpenSpec.ofChange Rows.surgeRunsSpec).bare.vars = true := by kernel_rfl
theorem surgeRuns_f5 : (Rows.surgeRunsRow.stops == []) = true := by kernel_rfl
theorem surgeRuns_f6 : (Tryz.prog.stops == []) = true := by kernel_rfl
theorem surgeRuns_f7 : (Rows.surgeRunsRow.knobs == []) = true := by kernel_rfl
theorem surgeRuns_f8 : (Tryz.prog.stopKnobs == []) = true := by kernel_rfl
theorem surgeRuns_f9 : (Rows.surgeRunsRow.inPlace == Tryz.prog.inPlace 13) = true := by kernel_rfl
theorem surgeRuns_f10 : (Rows.surgeRunsRow.unfollowed == Tryz.prog.unfollowed 13) = true := by kernel_rfl
theorem surgeRuns_f11 : (Rows.surgeRunsRow.recurses == Tryz.prog.recurses 13) = true := by kernel_rfl
theorem surgeRuns_f12 : (Rows.surgeRunsRow.named == Tryz.prog.varsNamed 13) = true := by kernel_rfl
theorem surgeRuns_f13 : (Rows.surgeRunsRow.maps == (Tryz.f13.params.toList ++ (OpenSpec.ofChange Rows.surgeRunsSpec).bare.plain.varTypes Tryz.prog).any (Tryz.prog.mapsRec ·)) = true := by kernel_rfl
theorem surgeRuns_f14 : (Rows.surgeRunsRow.ifaces == (Tryz.f13.params.toList ++ (OpenSpec.ofChange Rows.surgeRunsSpec).bare.plain.varTypes Tryz.prog).any (Tryz.prog.ifacesRec ·)) = true := by kernel_rfl
theorem surgeRuns_f15 : (Rows.surgeRunsRow.mapsOut == Tryz.prog.mapsAmong Tryz.f13.resultTypes.toList) = true := by kernel_rfl
theorem surgeRuns_f16 : (Rows.surgeRunsRow.loops == (Tryz.f13.params.toList ++ (OpenSpec.ofChange Rows.surgeRunsSpec).bare.plain.varTypes Tryz.prog).any (Tryz.prog.loopsFrom ·)) = true := by kernel_rfl
theorem surgeRuns_f17 : (Rows.surgeRunsRow.wideKeys == (Tryz.f13.params.toList ++ (OpenSpec.ofChange Rows.surgeRunsSpec).bare.plain.varTypes Tryz.prog ++ Tryz.f13.resultTypes.toList).any (Tryz.prog.wideKeysFrom ·)) = true := by kernel_rfl
theorem surgeRuns_f18 : (OpenSpec.ofChange Rows.surgeRunsSpec).bare.vars.all (Tryz.prog.varReadable ·) = true := by kernel_rfl
theorem surgeRuns_f19 : Tryz.f13.resultTypes.all (fun t => Tryz.prog.readableRec t && decide (t < Tryz.prog.types.size)) = true := by kernel_rfl
theorem surgeRuns_f20 : (Rows.surgeRunsRow.ifacesOut == Tryz.f13.resultTypes.toList.any (Tryz.prog.ifacesRec ·)) = true := by kernel_rfl
theorem surgeRuns_f21 : (Rows.surgeRunsRow.loopsOut == Tryz.f13.resultTypes.toList.any (Tryz.prog.loopsFrom ·)) = true := by kernel_rfl
theorem surgeRuns_f22 : (Rows.surgeRunsRow.plainKeys == Tryz.prog.plainKeys) = true := by kernel_rfl
theorem surgeRuns_f23 : Rows.surgeRunsRow.shortTexts.isNone = true := by kernel_rfl
theorem surgeRuns_f24 : Tryz.prog.stopsHeard = true := by kernel_rfl
theorem surgeRuns_f25 : Tryz.prog.mayEnter = true := by kernel_rfl
theorem surgeRuns_f26 : (Rows.surgeRunsRow.lifted == Tryz.prog.liftsFinal) = true := by kernel_rfl
theorem surgeRuns_f27 : (Tryz.prog.make == some Rows.surgeRunsRow.make) = true := by kernel_rfl
theorem surgeRuns_f28 : (Rows.surgeRunsRow.kinds == (if Rows.surgeRunsRow.domain.isEmpty then [] else Tryz.f13.params.toList.map fun t => match Tryz.prog.underlying t with | some (.int k) => some k | _ => none)) = true := by kernel_rfl
theorem surgeRuns_f29 : (Rows.surgeRunsRow.pinned == Rows.surgeRunsRow.pinnedBy) = true := by kernel_rfl
theorem surgeRuns_f30 : (Rows.surgeRunsRow.veiled == (Tryz.f13.params.toList ++ (OpenSpec.ofChange Rows.surgeRunsSpec).bare.plain.varTypes Tryz.prog ++ Tryz.f13.resultTypes.toList).any (Tryz.prog.veiledRec ·)) = true := by kernel_rfl
theorem surgeRuns_f31 : Rows.surgeRunsRow.veiledFits Tryz.prog Tryz.f13.params.toList (Tryz.f13.params.toList ++ (OpenSpec.ofChange Rows.surgeRunsSpec).bare.plain.varTypes Tryz.prog ++ Tryz.f13.resultTypes.toList) = true := by kernel_rfl
set_option maxRecDepth 100000 in
theorem surgeRuns_joined : joinedFacts Tryz.prog 13 Tryz.f13 (OpenSpec.ofChange Rows.surgeRunsSpec).bare Rows.surgeRunsRow = true := Go.Fs.joined_of surgeRuns_f0 surgeRuns_f1 surgeRuns_f2 surgeRuns_f3 surgeRuns_f4 surgeRuns_f5 surgeRuns_f6 surgeRuns_f7 surgeRuns_f8 surgeRuns_f9 surgeRuns_f10 surgeRuns_f11 surgeRuns_f12 surgeRuns_f13 surgeRuns_f14 surgeRuns_f15 surgeRuns_f16 surgeRuns_f17 surgeRuns_f18 surgeRuns_f19 surgeRuns_f20 surgeRuns_f21 surgeRuns_f22 surgeRuns_f23 surgeRuns_f24 surgeRuns_f25 surgeRuns_f26 surgeRuns_f27 surgeRuns_f28 surgeRuns_f29 surgeRuns_f30 surgeRuns_f31
end Go.Proofs.YtednnfllcafliaaGreatDoor
