/- The closed facts of the row of GaugeWaters, one by one. No condition. -/
import Derived.Test.YthiofhkndpegjaaGreatDoorRows
import Derived.Test.YthiofhkndpegjaaGreatDoorP11FsFacts
import Derived.KernelRfl
set_option linter.all false
namespace Go.Proofs.YthiofhkndpegjaaGreatDoor
theorem gaugeWaters_f0 : Rows.gaugeWatersRow.wf (OpenSpec.ofChange (OpenSpec.ofChange Rows.gaugeWatersSpec).bare) = true := by kernel_rfl
theorem gaugeWaters_f1 : laidOutB Tryz.prog = true := by kernel_rfl
theorem gaugeWaters_f2 : mapsRowed Tryz.prog = true := by kernel_rfl
theorem gaugeWaters_f3 : Tryz.f9.params.all (Tryz.prog.readableRec ·) = true := by kernel_rfl
theorem gaugeWaters_f4 : namedTie Tryz.prog Rows.gaugeWatersRow.named (OpenSpec.ofChange Rows.gaugeWatersSpec).bare.vars = true := by kernel_rfl
theorem gaugeWaters_f5 : (Rows.gaugeWatersRow.stops == []) = true := by kernel_rfl
theorem gaugeWaters_f6 : (Tryz.prog.stops == []) = true := by kernel_rfl
theorem gaugeWaters_f7 : (Rows.gaugeWatersRow.knobs == []) = true := by kernel_rfl
theorem gaugeWaters_f8 : (Tryz.prog.stopKnobs == []) = true := by kernel_rfl
theorem gaugeWaters_f9 : (Rows.gaugeWatersRow.inPlace == Tryz.prog.inPlace 9) = true := by kernel_rfl
theorem gaugeWaters_f10 : (Rows.gaugeWatersRow.unfollowed == Tryz.prog.unfollowed 9) = true := by kernel_rfl
theorem gaugeWaters_f11 : (Rows.gaugeWatersRow.recurses == Tryz.prog.recurses 9) = true := by kernel_rfl
theorem gaugeWaters_f12 : (Rows.gaugeWatersRow.named == Tryz.prog.varsNamed 9) = true := by kernel_rfl
theorem gaugeWaters_f13 : (Rows.gaugeWatersRow.maps == (Tryz.f9.params.toList ++ (OpenSpec.ofChange Rows.gaugeWatersSpec).bare.plain.varTypes Tryz.prog).any (Tryz.prog.mapsRec ·)) = true := by kernel_rfl
theorem gaugeWaters_f14 : (Rows.gaugeWatersRow.ifaces == (Tryz.f9.params.toList ++ (OpenSpec.ofChange Rows.gaugeWatersSpec).bare.plain.varTypes Tryz.prog).any (Tryz.prog.ifacesRec ·)) = true := by kernel_rfl
theorem gaugeWaters_f15 : (Rows.gaugeWatersRow.mapsOut == Tryz.prog.mapsAmong Tryz.f9.resultTypes.toList) = true := by kernel_rfl
theorem gaugeWaters_f16 : (Rows.gaugeWatersRow.loops == (Tryz.f9.params.toList ++ (OpenSpec.ofChange Rows.gaugeWatersSpec).bare.plain.varTypes Tryz.prog).any (Tryz.prog.loopsFrom ·)) = true := by kernel_rfl
theorem gaugeWaters_f17 : (Rows.gaugeWatersRow.wideKeys == (Tryz.f9.params.toList ++ (OpenSpec.ofChange Rows.gaugeWatersSpec).bare.plain.varTypes Tryz.prog ++ Tryz.f9.resultTypes.toList).any (Tryz.prog.wideKeysFrom ·)) = true := by kernel_rfl
theorem gaugeWaters_f18 : (OpenSpec.ofChange Rows.gaugeWatersSpec).bare.vars.all (Tryz.prog.varReadable ·) = true := by kernel_rfl
theorem gaugeWaters_f19 : Tryz.f9.resultTypes.all (fun t => Tryz.prog.readableRec t && decide (t < Tryz.prog.types.size)) = true := by kernel_rfl
theorem gaugeWaters_f20 : (Rows.gaugeWatersRow.ifacesOut == Tryz.f9.resultTypes.toList.any (Tryz.prog.ifacesRec ·)) = true := by kernel_rfl
theorem gaugeWaters_f21 : (Rows.gaugeWatersRow.loopsOut == Tryz.f9.resultTypes.toList.any (Tryz.prog.loopsFrom ·)) = true := by kernel_rfl
theorem gaugeWaters_f22 : (Rows.gaugeWatersRow.plainKeys == Tryz.prog.plainKeys) = true := by kernel_rfl
theorem gaugeWaters_f23 : Rows.gaugeWatersRow.shortTexts.isNone = true := by kernel_rfl
theorem gaugeWaters_f24 : Tryz.prog.stopsHeard = true := by kernel_rfl
theorem gaugeWaters_f25 : Tryz.prog.mayEnter = true := by kernel_rfl
theorem gaugeWaters_f26 : (Rows.gaugeWatersRow.lifted == Tryz.prog.liftsFinal) = true := by kernel_rfl
theorem gaugeWaters_f27 : (Tryz.prog.make == some Rows.gaugeWatersRow.make) = true := by kernel_rfl
theorem gaugeWaters_f28 : (Rows.gaugeWatersRow.kinds == (if Rows.gaugeWatersRow.domain.isEmpty then [] else Tryz.f9.params.toList.map fun t => match Tryz.prog.underlying t with | some (.int k) => some k | _ => none)) = true := by kernel_rfl
theorem gaugeWaters_f29 : (Rows.gaugeWatersRow.pinned == Rows.gaugeWatersRow.pinnedBy) = true := by kernel_rfl
theorem gaugeWaters_f30 : (Rows.gaugeWatersRow.veiled == (Tryz.f9.params.toList ++ (OpenSpec.ofChange Rows.gaugeWatersSpec).bare.plain.varTypes Tryz.prog ++ Tryz.f9.resultTypes.toList).any (Tryz.prog.veiledRec ·)) = true := by kernel_rfl
theorem gaugeWaters_f31 : Rows.gaugeWatersRow.veiledFits Tryz.prog Tryz.f9.params.toList (Tryz.f9.params.toList ++ (OpenSpec.ofChange Rows.gaugeWatersSpec).bare.plain.varTypes Tryz.prog ++ Tryz.f9.resultTypes.toList) = true := by kernel_rfl
set_option maxRecDepth 100000 in
theorem gaugeWaters_joined : joinedFacts Tryz.prog 9 Tryz.f9 (OpenSpec.ofChange Rows.gaugeWatersSpec).bare Rows.gaugeWatersRow = true := Go.Fs.joined_of gaugeWaters_f0 gaugeWaters_f1 gaugeWaters_f2 gaugeWaters_f3 gaugeWaters_f4 gaugeWaters_f5 gaugeWaters_f6 gaugeWaters_f7 gaugeWaters_f8 gaugeWaters_f9 gaugeWaters_f10 gaugeWaters_f11 gaugeWaters_f12 gaugeWaters_f13 gaugeWaters_f14 gaugeWaters_f15 gaugeWaters_f16 gaugeWaters_f17 gaugeWaters_f18 gaugeWaters_f19 gaugeWaters_f20 gaugeWaters_f21 gaugeWaters_f22 gaugeWaters_f23 gaugeWaters_f24 gaugeWaters_f25 gaugeWaters_f26 gaugeWaters_f27 gaugeWaters_f28 gaugeWaters_f29 gaugeWaters_f30 gaugeWaters_f31
end Go.Proofs.YthiofhkndpegjaaGreatDoor
