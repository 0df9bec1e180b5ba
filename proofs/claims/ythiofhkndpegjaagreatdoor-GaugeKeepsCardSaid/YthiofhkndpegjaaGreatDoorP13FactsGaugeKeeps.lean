/- The closed facts of the row of GaugeKeeps, one by one. No condition. -/
import Derived.Test.YthiofhkndpegjaaGreatDoorRows
import Derived.Test.YthiofhkndpegjaaGreatDoorP12FsFacts
import Derived.KernelRfl
set_option linter.all false
namespace Go.Proofs.YthiofhkndpegjaaGreatDoor
theorem gaugeKeeps_f0 : Rows.gaugeKeepsRow.wf (OpenSpec.ofChange (OpenSpec.ofChange Rows.gaugeKeepsSpec).bare) = true := by kernel_rfl
theorem gaugeKeeps_f1 : laidOutB Tryz.prog = true := by kernel_rfl
theorem gaugeKeeps_f2 : mapsRowed Tryz.prog = true := by kernel_rfl
theorem gaugeKeeps_f3 : Tryz.f10.params.all (Tryz.prog.readableRec ·) = true := by kernel_rfl
theorem gaugeKeeps_f4 : namedTie Tryz.prog Rows.gaugeKeepsRow.named (OpenSpec.ofChange Rows.gaugeKeepsSpec).bare.vars = true := by kernel_rfl
theorem gaugeKeeps_f5 : (Rows.gaugeKeepsRow.stops == []) = true := by kernel_rfl
theorem gaugeKeeps_f6 : (Tryz.prog.stops == []) = true := by kernel_rfl
theorem gaugeKeeps_f7 : (Rows.gaugeKeepsRow.knobs == []) = true := by kernel_rfl
theorem gaugeKeeps_f8 : (Tryz.prog.stopKnobs == []) = true := by kernel_rfl
theorem gaugeKeeps_f9 : (Rows.gaugeKeepsRow.inPlace == Tryz.prog.inPlace 10) = true := by kernel_rfl
theorem gaugeKeeps_f10 : (Rows.gaugeKeepsRow.unfollowed == Tryz.prog.unfollowed 10) = true := by kernel_rfl
theorem gaugeKeeps_f11 : (Rows.gaugeKeepsRow.recurses == Tryz.prog.recurses 10) = true := by kernel_rfl
theorem gaugeKeeps_f12 : (Rows.gaugeKeepsRow.named == Tryz.prog.varsNamed 10) = true := by kernel_rfl
theorem gaugeKeeps_f13 : (Rows.gaugeKeepsRow.maps == (Tryz.f10.params.toList ++ (OpenSpec.ofChange Rows.gaugeKeepsSpec).bare.plain.varTypes Tryz.prog).any (Tryz.prog.mapsRec ·)) = true := by kernel_rfl
theorem gaugeKeeps_f14 : (Rows.gaugeKeepsRow.ifaces == (Tryz.f10.params.toList ++ (OpenSpec.ofChange Rows.gaugeKeepsSpec).bare.plain.varTypes Tryz.prog).any (Tryz.prog.ifacesRec ·)) = true := by kernel_rfl
theorem gaugeKeeps_f15 : (Rows.gaugeKeepsRow.mapsOut == Tryz.prog.mapsAmong Tryz.f10.resultTypes.toList) = true := by kernel_rfl
theorem gaugeKeeps_f16 : (Rows.gaugeKeepsRow.loops == (Tryz.f10.params.toList ++ (OpenSpec.ofChange Rows.gaugeKeepsSpec).bare.plain.varTypes Tryz.prog).any (Tryz.prog.loopsFrom ·)) = true := by kernel_rfl
theorem gaugeKeeps_f17 : (Rows.gaugeKeepsRow.wideKeys == (Tryz.f10.params.toList ++ (OpenSpec.ofChange Rows.gaugeKeepsSpec).bare.plain.varTypes Tryz.prog ++ Tryz.f10.resultTypes.toList).any (Tryz.prog.wideKeysFrom ·)) = true := by kernel_rfl
theorem gaugeKeeps_f18 : (OpenSpec.ofChange Rows.gaugeKeepsSpec).bare.vars.all (Tryz.prog.varReadable ·) = true := by kernel_rfl
theorem gaugeKeeps_f19 : Tryz.f10.resultTypes.all (fun t => Tryz.prog.readableRec t && decide (t < Tryz.prog.types.size)) = true := by kernel_rfl
theorem gaugeKeeps_f20 : (Rows.gaugeKeepsRow.ifacesOut == Tryz.f10.resultTypes.toList.any (Tryz.prog.ifacesRec ·)) = true := by kernel_rfl
theorem gaugeKeeps_f21 : (Rows.gaugeKeepsRow.loopsOut == Tryz.f10.resultTypes.toList.any (Tryz.prog.loopsFrom ·)) = true := by kernel_rfl
theorem gaugeKeeps_f22 : (Rows.gaugeKeepsRow.plainKeys == Tryz.prog.plainKeys) = true := by kernel_rfl
theorem gaugeKeeps_f23 : Rows.gaugeKeepsRow.shortTexts.isNone = true := by kernel_rfl
theorem gaugeKeeps_f24 : Tryz.prog.stopsHeard = true := by kernel_rfl
theorem gaugeKeeps_f25 : Tryz.prog.mayEnter = true := by kernel_rfl
theorem gaugeKeeps_f26 : (Rows.gaugeKeepsRow.lifted == Tryz.prog.liftsFinal) = true := by kernel_rfl
theorem gaugeKeeps_f27 : (Tryz.prog.make == some Rows.gaugeKeepsRow.make) = true := by kernel_rfl
theorem gaugeKeeps_f28 : (Rows.gaugeKeepsRow.kinds == (if Rows.gaugeKeepsRow.domain.isEmpty then [] else Tryz.f10.params.toList.map fun t => match Tryz.prog.underlying t with | some (.int k) => some k | _ => none)) = true := by kernel_rfl
theorem gaugeKeeps_f29 : (Rows.gaugeKeepsRow.pinned == Rows.gaugeKeepsRow.pinnedBy) = true := by kernel_rfl
theorem gaugeKeeps_f30 : (Rows.gaugeKeepsRow.veiled == (Tryz.f10.params.toList ++ (OpenSpec.ofChange Rows.gaugeKeepsSpec).bare.plain.varTypes Tryz.prog ++ Tryz.f10.resultTypes.toList).any (Tryz.prog.veiledRec ·)) = true := by kernel_rfl
theorem gaugeKeeps_f31 : Rows.gaugeKeepsRow.veiledFits Tryz.prog Tryz.f10.params.toList (Tryz.f10.params.toList ++ (OpenSpec.ofChange Rows.gaugeKeepsSpec).bare.plain.varTypes Tryz.prog ++ Tryz.f10.resultTypes.toList) = true := by kernel_rfl
set_option maxRecDepth 100000 in
theorem gaugeKeeps_joined : joinedFacts Tryz.prog 10 Tryz.f10 (OpenSpec.ofChange Rows.gaugeKeepsSpec).bare Rows.gaugeKeepsRow = true := Go.Fs.joined_of gaugeKeeps_f0 gaugeKeeps_f1 gaugeKeeps_f2 gaugeKeeps_f3 gaugeKeeps_f4 gaugeKeeps_f5 gaugeKeeps_f6 gaugeKeeps_f7 gaugeKeeps_f8 gaugeKeeps_f9 gaugeKeeps_f10 gaugeKeeps_f11 gaugeKeeps_f12 gaugeKeeps_f13 gaugeKeeps_f14 gaugeKeeps_f15 gaugeKeeps_f16 gaugeKeeps_f17 gaugeKeeps_f18 gaugeKeeps_f19 gaugeKeeps_f20 gaugeKeeps_f21 gaugeKeeps_f22 gaugeKeeps_f23 gaugeKeeps_f24 gaugeKeeps_f25 gaugeKeeps_f26 gaugeKeeps_f27 gaugeKeeps_f28 gaugeKeeps_f29 gaugeKeeps_f30 gaugeKeeps_f31
end Go.Proofs.YthiofhkndpegjaaGreatDoor
