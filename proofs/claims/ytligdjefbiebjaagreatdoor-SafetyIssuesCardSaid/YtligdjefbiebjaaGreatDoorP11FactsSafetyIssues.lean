/- The closed facts of the row of SafetyIssues, one by one. No condition. -/
import Derived.Test.YtligdjefbiebjaaGreatDoorRows
import Derived.Test.YtligdjefbiebjaaGreatDoorP10FsFacts
import Derived.KernelRfl
set_option linter.all false
namespace Go.Proofs.YtligdjefbiebjaaGreatDoor
theorem safetyIssues_f0 : Rows.safetyIssuesRow.wf (OpenSpec.ofChange (OpenSpec.ofChange Rows.safetyIssuesSpec).bare) = true := by kernel_rfl
theorem safetyIssues_f1 : laidOutB Tryz.prog = true := by kernel_rfl
theorem safetyIssues_f2 : mapsRowed Tryz.prog = true := by kernel_rfl
theorem safetyIssues_f3 : Tryz.f4.params.all (Tryz.prog.readableRec ·) = true := by kernel_rfl
theorem safetyIssues_f4 : namedTie Tryz.prog Rows.safetyIssuesRow.named (OpenSpec.ofChange Rows.safetyIssuesSpec).bare.vars = true := by kernel_rfl
theorem safetyIssues_f5 : (Rows.safetyIssuesRow.stops == []) = true := by kernel_rfl
theorem safetyIssues_f6 : (Tryz.prog.stops == []) = true := by kernel_rfl
theorem safetyIssues_f7 : (Rows.safetyIssuesRow.knobs == []) = true := by kernel_rfl
theorem safetyIssues_f8 : (Tryz.prog.stopKnobs == []) = true := by kernel_rfl
theorem safetyIssues_f9 : (Rows.safetyIssuesRow.inPlace == Tryz.prog.inPlace 4) = true := by kernel_rfl
theorem safetyIssues_f10 : (Rows.safetyIssuesRow.unfollowed == Tryz.prog.unfollowed 4) = true := by kernel_rfl
theorem safetyIssues_f11 : (Rows.safetyIssuesRow.recurses == Tryz.prog.recurses 4) = true := by kernel_rfl
theorem safetyIssues_f12 : (Rows.safetyIssuesRow.named == Tryz.prog.varsNamed 4) = true := by kernel_rfl
theorem safetyIssues_f13 : (Rows.safetyIssuesRow.maps == (Tryz.f4.params.toList ++ (OpenSpec.ofChange Rows.safetyIssuesSpec).bare.plain.varTypes Tryz.prog).any (Tryz.prog.mapsRec ·)) = true := by kernel_rfl
theorem safetyIssues_f14 : (Rows.safetyIssuesRow.ifaces == (Tryz.f4.params.toList ++ (OpenSpec.ofChange Rows.safetyIssuesSpec).bare.plain.varTypes Tryz.prog).any (Tryz.prog.ifacesRec ·)) = true := by kernel_rfl
theorem safetyIssues_f15 : (Rows.safetyIssuesRow.mapsOut == Tryz.prog.mapsAmong Tryz.f4.resultTypes.toList) = true := by kernel_rfl
theorem safetyIssues_f16 : (Rows.safetyIssuesRow.loops == (Tryz.f4.params.toList ++ (OpenSpec.ofChange Rows.safetyIssuesSpec).bare.plain.varTypes Tryz.prog).any (Tryz.prog.loopsFrom ·)) = true := by kernel_rfl
theorem safetyIssues_f17 : (Rows.safetyIssuesRow.wideKeys == (Tryz.f4.params.toList ++ (OpenSpec.ofChange Rows.safetyIssuesSpec).bare.plain.varTypes Tryz.prog ++ Tryz.f4.resultTypes.toList).any (Tryz.prog.wideKeysFrom ·)) = true := by kernel_rfl
theorem safetyIssues_f18 : (OpenSpec.ofChange Rows.safetyIssuesSpec).bare.vars.all (Tryz.prog.varReadable ·) = true := by kernel_rfl
theorem safetyIssues_f19 : Tryz.f4.resultTypes.all (fun t => Tryz.prog.readableRec t && decide (t < Tryz.prog.types.size)) = true := by kernel_rfl
theorem safetyIssues_f20 : (Rows.safetyIssuesRow.ifacesOut == Tryz.f4.resultTypes.toList.any (Tryz.prog.ifacesRec ·)) = true := by kernel_rfl
theorem safetyIssues_f21 : (Rows.safetyIssuesRow.loopsOut == Tryz.f4.resultTypes.toList.any (Tryz.prog.loopsFrom ·)) = true := by kernel_rfl
theorem safetyIssues_f22 : (Rows.safetyIssuesRow.plainKeys == Tryz.prog.plainKeys) = true := by kernel_rfl
theorem safetyIssues_f23 : Rows.safetyIssuesRow.shortTexts.isNone = true := by kernel_rfl
theorem safetyIssues_f24 : Tryz.prog.stopsHeard = true := by kernel_rfl
theorem safetyIssues_f25 : Tryz.prog.mayEnter = true := by kernel_rfl
theorem safetyIssues_f26 : (Rows.safetyIssuesRow.lifted == Tryz.prog.liftsFinal) = true := by kernel_rfl
theorem safetyIssues_f27 : (Tryz.prog.make == some Rows.safetyIssuesRow.make) = true := by kernel_rfl
theorem safetyIssues_f28 : (Rows.safetyIssuesRow.kinds == (if Rows.safetyIssuesRow.domain.isEmpty then [] else Tryz.f4.params.toList.map fun t => match Tryz.prog.underlying t with | some (.int k) => some k | _ => none)) = true := by kernel_rfl
theorem safetyIssues_f29 : (Rows.safetyIssuesRow.pinned == Rows.safetyIssuesRow.pinnedBy) = true := by kernel_rfl
theorem safetyIssues_f30 : (Rows.safetyIssuesRow.veiled == (Tryz.f4.params.toList ++ (OpenSpec.ofChange Rows.safetyIssuesSpec).bare.plain.varTypes Tryz.prog ++ Tryz.f4.resultTypes.toList).any (Tryz.prog.veiledRec ·)) = true := by kernel_rfl
theorem safetyIssues_f31 : Rows.safetyIssuesRow.veiledFits Tryz.prog Tryz.f4.params.toList (Tryz.f4.params.toList ++ (OpenSpec.ofChange Rows.safetyIssuesSpec).bare.plain.varTypes Tryz.prog ++ Tryz.f4.resultTypes.toList) = true := by kernel_rfl
set_option maxRecDepth 100000 in
theorem safetyIssues_joined : joinedFacts Tryz.prog 4 Tryz.f4 (OpenSpec.ofChange Rows.safetyIssuesSpec).bare Rows.safetyIssuesRow = true := Go.Fs.joined_of safetyIssues_f0 safetyIssues_f1 safetyIssues_f2 safetyIssues_f3 safetyIssues_f4 safetyIssues_f5 safetyIssues_f6 safetyIssues_f7 safetyIssues_f8 safetyIssues_f9 safetyIssues_f10 safetyIssues_f11 safetyIssues_f12 safetyIssues_f13 safetyIssues_f14 safetyIssues_f15 safetyIssues_f16 safetyIssues_f17 safetyIssues_f18 safetyIssues_f19 safetyIssues_f20 safetyIssues_f21 safetyIssues_f22 safetyIssues_f23 safetyIssues_f24 safetyIssues_f25 safetyIssues_f26 safetyIssues_f27 safetyIssues_f28 safetyIssues_f29 safetyIssues_f30 safetyIssues_f31
end Go.Proofs.YtligdjefbiebjaaGreatDoor
