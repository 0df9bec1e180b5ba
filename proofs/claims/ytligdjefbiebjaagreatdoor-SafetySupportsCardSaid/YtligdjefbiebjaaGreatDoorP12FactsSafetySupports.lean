/- The closed facts of the row of SafetySupports, one by one. No condition. -/
import Derived.Test.YtligdjefbiebjaaGreatDoorRows
import Derived.Test.YtligdjefbiebjaaGreatDoorP11FsFacts
import Derived.KernelRfl
set_option linter.all false
namespace Go.Proofs.YtligdjefbiebjaaGreatDoor
theorem safetySupports_f0 : Rows.safetySupportsRow.wf (OpenSpec.ofChange (OpenSpec.ofChange Rows.safetySupportsSpec).bare) = true := by kernel_rfl
theorem safetySupports_f1 : laidOutB Tryz.prog = true := by kernel_rfl
theorem safetySupports_f2 : mapsRowed Tryz.prog = true := by kernel_rfl
theorem safetySupports_f3 : Tryz.f10.params.all (Tryz.prog.readableRec ·) = true := by kernel_rfl
theorem safetySupports_f4 : namedTie Tryz.prog Rows.safetySupportsRow.named (OpenSpec.ofChange Rows.safetySupportsSpec).bare.vars = true := by kernel_rfl
theorem safetySupports_f5 : (Rows.safetySupportsRow.stops == []) = true := by kernel_rfl
theorem safetySupports_f6 : (Tryz.prog.stops == []) = true := by kernel_rfl
theorem safetySupports_f7 : (Rows.safetySupportsRow.knobs == []) = true := by kernel_rfl
theorem safetySupports_f8 : (Tryz.prog.stopKnobs == []) = true := by kernel_rfl
theorem safetySupports_f9 : (Rows.safetySupportsRow.inPlace == Tryz.prog.inPlace 10) = true := by kernel_rfl
theorem safetySupports_f10 : (Rows.safetySupportsRow.unfollowed == Tryz.prog.unfollowed 10) = true := by kernel_rfl
theorem safetySupports_f11 : (Rows.safetySupportsRow.recurses == Tryz.prog.recurses 10) = true := by kernel_rfl
theorem safetySupports_f12 : (Rows.safetySupportsRow.named == Tryz.prog.varsNamed 10) = true := by kernel_rfl
theorem safetySupports_f13 : (Rows.safetySupportsRow.maps == (Tryz.f10.params.toList ++ (OpenSpec.ofChange Rows.safetySupportsSpec).bare.plain.varTypes Tryz.prog).any (Tryz.prog.mapsRec ·)) = true := by kernel_rfl
theorem safetySupports_f14 : (Rows.safetySupportsRow.ifaces == (Tryz.f10.params.toList ++ (OpenSpec.ofChange Rows.safetySupportsSpec).bare.plain.varTypes Tryz.prog).any (Tryz.prog.ifacesRec ·)) = true := by kernel_rfl
theorem safetySupports_f15 : (Rows.safetySupportsRow.mapsOut == Tryz.prog.mapsAmong Tryz.f10.resultTypes.toList) = true := by kernel_rfl
theorem safetySupports_f16 : (Rows.safetySupportsRow.loops == (Tryz.f10.params.toList ++ (OpenSpec.ofChange Rows.safetySupportsSpec).bare.plain.varTypes Tryz.prog).any (Tryz.prog.loopsFrom ·)) = true := by kernel_rfl
theorem safetySupports_f17 : (Rows.safetySupportsRow.wideKeys == (Tryz.f10.params.toList ++ (OpenSpec.ofChange Rows.safetySupportsSpec).bare.plain.varTypes Tryz.prog ++ Tryz.f10.resultTypes.toList).any (Tryz.prog.wideKeysFrom ·)) = true := by kernel_rfl
theorem safetySupports_f18 : (OpenSpec.ofChange Rows.safetySupportsSpec).bare.vars.all (Tryz.prog.varReadable ·) = true := by kernel_rfl
theorem safetySupports_f19 : Tryz.f10.resultTypes.all (fun t => Tryz.prog.readableRec t && decide (t < Tryz.prog.types.size)) = true := by kernel_rfl
theorem safetySupports_f20 : (Rows.safetySupportsRow.ifacesOut == Tryz.f10.resultTypes.toList.any (Tryz.prog.ifacesRec ·)) = true := by kernel_rfl
theorem safetySupports_f21 : (Rows.safetySupportsRow.loopsOut == Tryz.f10.resultTypes.toList.any (Tryz.prog.loopsFrom ·)) = true := by kernel_rfl
theorem safetySupports_f22 : (Rows.safetySupportsRow.plainKeys == Tryz.prog.plainKeys) = true := by kernel_rfl
theorem safetySupports_f23 : Rows.safetySupportsRow.shortTexts.isNone = true := by kernel_rfl
theorem safetySupports_f24 : Tryz.prog.stopsHeard = true := by kernel_rfl
theorem safetySupports_f25 : Tryz.prog.mayEnter = true := by kernel_rfl
theorem safetySupports_f26 : (Rows.safetySupportsRow.lifted == Tryz.prog.liftsFinal) = true := by kernel_rfl
theorem safetySupports_f27 : (Tryz.prog.make == some Rows.safetySupportsRow.make) = true := by kernel_rfl
theorem safetySupports_f28 : (Rows.safetySupportsRow.kinds == (if Rows.safetySupportsRow.domain.isEmpty then [] else Tryz.f10.params.toList.map fun t => match Tryz.prog.underlying t with | some (.int k) => some k | _ => none)) = true := by kernel_rfl
theorem safetySupports_f29 : (Rows.safetySupportsRow.pinned == Rows.safetySupportsRow.pinnedBy) = true := by kernel_rfl
theorem safetySupports_f30 : (Rows.safetySupportsRow.veiled == (Tryz.f10.params.toList ++ (OpenSpec.ofChange Rows.safetySupportsSpec).bare.plain.varTypes Tryz.prog ++ Tryz.f10.resultTypes.toList).any (Tryz.prog.veiledRec ·)) = true := by kernel_rfl
theorem safetySupports_f31 : Rows.safetySupportsRow.veiledFits Tryz.prog Tryz.f10.params.toList (Tryz.f10.params.toList ++ (OpenSpec.ofChange Rows.safetySupportsSpec).bare.plain.varTypes Tryz.prog ++ Tryz.f10.resultTypes.toList) = true := by kernel_rfl
set_option maxRecDepth 100000 in
theorem safetySupports_joined : joinedFacts Tryz.prog 10 Tryz.f10 (OpenSpec.ofChange Rows.safetySupportsSpec).bare Rows.safetySupportsRow = true := Go.Fs.joined_of safetySupports_f0 safetySupports_f1 safetySupports_f2 safetySupports_f3 safetySupports_f4 safetySupports_f5 safetySupports_f6 safetySupports_f7 safetySupports_f8 safetySupports_f9 safetySupports_f10 safetySupports_f11 safetySupports_f12 safetySupports_f13 safetySupports_f14 safetySupports_f15 safetySupports_f16 safetySupports_f17 safetySupports_f18 safetySupports_f19 safetySupports_f20 safetySupports_f21 safetySupports_f22 safetySupports_f23 safetySupports_f24 safetySupports_f25 safetySupports_f26 safetySupports_f27 safetySupports_f28 safetySupports_f29 safetySupports_f30 safetySupports_f31
end Go.Proofs.YtligdjefbiebjaaGreatDoor
