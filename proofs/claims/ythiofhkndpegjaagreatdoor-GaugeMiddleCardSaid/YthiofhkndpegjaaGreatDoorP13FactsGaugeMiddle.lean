/- The closed facts of the row of GaugeMiddle, one by one. No condition. -/
import Derived.Test.YthiofhkndpegjaaGreatDoorRows
import Derived.Test.YthiofhkndpegjaaGreatDoorP12FsFacts
import Derived.KernelRfl
set_option linter.all false
namespace Go.Proofs.YthiofhkndpegjaaGreatDoor
theorem gaugeMiddle_f0 : Rows.gaugeMiddleRow.wf (OpenSpec.ofChange (OpenSpec.ofChange Rows.gaugeMiddleSpec).bare) = true := by kernel_rfl
theorem gaugeMiddle_f1 : laidOutB Tryz.prog = true := by kernel_rfl
theorem gaugeMiddle_f2 : mapsRowed Tryz.prog = true := by kernel_rfl
theorem gaugeMiddle_f3 : Tryz.f11.params.all (Tryz.prog.readableRec ·) = true := by kernel_rfl
theorem gaugeMiddle_f4 : namedTie Tryz.prog Rows.gaugeMiddleRow.named (OpenSpec.ofChange Rows.gaugeMiddleSpec).bare.vars = true := by kernel_rfl
theorem gaugeMiddle_f5 : (Rows.gaugeMiddleRow.stops == []) = true := by kernel_rfl
theorem gaugeMiddle_f6 : (Tryz.prog.stops == []) = true := by kernel_rfl
theorem gaugeMiddle_f7 : (Rows.gaugeMiddleRow.knobs == []) = true := by kernel_rfl
theorem gaugeMiddle_f8 : (Tryz.prog.stopKnobs == []) = true := by kernel_rfl
theorem gaugeMiddle_f9 : (Rows.gaugeMiddleRow.inPlace == Tryz.prog.inPlace 11) = true := by kernel_rfl
theorem gaugeMiddle_f10 : (Rows.gaugeMiddleRow.unfollowed == Tryz.prog.unfollowed 11) = true := by kernel_rfl
theorem gaugeMiddle_f11 : (Rows.gaugeMiddleRow.recurses == Tryz.prog.recurses 11) = true := by kernel_rfl
theorem gaugeMiddle_f12 : (Rows.gaugeMiddleRow.named == Tryz.prog.varsNamed 11) = true := by kernel_rfl
theorem gaugeMiddle_f13 : (Rows.gaugeMiddleRow.maps == (Tryz.f11.params.toList ++ (OpenSpec.ofChange Rows.gaugeMiddleSpec).bare.plain.varTypes Tryz.prog).any (Tryz.prog.mapsRec ·)) = true := by kernel_rfl
theorem gaugeMiddle_f14 : (Rows.gaugeMiddleRow.ifaces == (Tryz.f11.params.toList ++ (OpenSpec.ofChange Rows.gaugeMiddleSpec).bare.plain.varTypes Tryz.prog).any (Tryz.prog.ifacesRec ·)) = true := by kernel_rfl
theorem gaugeMiddle_f15 : (Rows.gaugeMiddleRow.mapsOut == Tryz.prog.mapsAmong Tryz.f11.resultTypes.toList) = true := by kernel_rfl
theorem gaugeMiddle_f16 : (Rows.gaugeMiddleRow.loops == (Tryz.f11.params.toList ++ (OpenSpec.ofChange Rows.gaugeMiddleSpec).bare.plain.varTypes Tryz.prog).any (Tryz.prog.loopsFrom ·)) = true := by kernel_rfl
theorem gaugeMiddle_f17 : (Rows.gaugeMiddleRow.wideKeys == (Tryz.f11.params.toList ++ (OpenSpec.ofChange Rows.gaugeMiddleSpec).bare.plain.varTypes Tryz.prog ++ Tryz.f11.resultTypes.toList).any (Tryz.prog.wideKeysFrom ·)) = true := by kernel_rfl
theorem gaugeMiddle_f18 : (OpenSpec.ofChange Rows.gaugeMiddleSpec).bare.vars.all (Tryz.prog.varReadable ·) = true := by kernel_rfl
theorem gaugeMiddle_f19 : Tryz.f11.resultTypes.all (fun t => Tryz.prog.readableRec t && decide (t < Tryz.prog.types.size)) = true := by kernel_rfl
theorem gaugeMiddle_f20 : (Rows.gaugeMiddleRow.ifacesOut == Tryz.f11.resultTypes.toList.any (Tryz.prog.ifacesRec ·)) = true := by kernel_rfl
theorem gaugeMiddle_f21 : (Rows.gaugeMiddleRow.loopsOut == Tryz.f11.resultTypes.toList.any (Tryz.prog.loopsFrom ·)) = true := by kernel_rfl
theorem gaugeMiddle_f22 : (Rows.gaugeMiddleRow.plainKeys == Tryz.prog.plainKeys) = true := by kernel_rfl
theorem gaugeMiddle_f23 : Rows.gaugeMiddleRow.shortTexts.isNone = true := by kernel_rfl
theorem gaugeMiddle_f24 : Tryz.prog.stopsHeard = true := by kernel_rfl
theorem gaugeMiddle_f25 : Tryz.prog.mayEnter = true := by kernel_rfl
theorem gaugeMiddle_f26 : (Rows.gaugeMiddleRow.lifted == Tryz.prog.liftsFinal) = true := by kernel_rfl
theorem gaugeMiddle_f27 : (Tryz.prog.make == some Rows.gaugeMiddleRow.make) = true := by kernel_rfl
theorem gaugeMiddle_f28 : (Rows.gaugeMiddleRow.kinds == (if Rows.gaugeMiddleRow.domain.isEmpty then [] else Tryz.f11.params.toList.map fun t => match Tryz.prog.underlying t with | some (.int k) => some k | _ => none)) = true := by kernel_rfl
theorem gaugeMiddle_f29 : (Rows.gaugeMiddleRow.pinned == Rows.gaugeMiddleRow.pinnedBy) = true := by kernel_rfl
theorem gaugeMiddle_f30 : (Rows.gaugeMiddleRow.veiled == (Tryz.f11.params.toList ++ (OpenSpec.ofChange Rows.gaugeMiddleSpec).bare.plain.varTypes Tryz.prog ++ Tryz.f11.resultTypes.toList).any (Tryz.prog.veiledRec ·)) = true := by kernel_rfl
theorem gaugeMiddle_f31 : Rows.gaugeMiddleRow.veiledFits Tryz.prog Tryz.f11.params.toList (Tryz.f11.params.toList ++ (OpenSpec.ofChange Rows.gaugeMiddleSpec).bare.plain.varTypes Tryz.prog ++ Tryz.f11.resultTypes.toList) = true := by kernel_rfl
set_option maxRecDepth 100000 in
theorem gaugeMiddle_joined : joinedFacts Tryz.prog 11 Tryz.f11 (OpenSpec.ofChange Rows.gaugeMiddleSpec).bare Rows.gaugeMiddleRow = true := Go.Fs.joined_of gaugeMiddle_f0 gaugeMiddle_f1 gaugeMiddle_f2 gaugeMiddle_f3 gaugeMiddle_f4 gaugeMiddle_f5 gaugeMiddle_f6 gaugeMiddle_f7 gaugeMiddle_f8 gaugeMiddle_f9 gaugeMiddle_f10 gaugeMiddle_f11 gaugeMiddle_f12 gaugeMiddle_f13 gaugeMiddle_f14 gaugeMiddle_f15 gaugeMiddle_f16 gaugeMiddle_f17 gaugeMiddle_f18 gaugeMiddle_f19 gaugeMiddle_f20 gaugeMiddle_f21 gaugeMiddle_f22 gaugeMiddle_f23 gaugeMiddle_f24 gaugeMiddle_f25 gaugeMiddle_f26 gaugeMiddle_f27 gaugeMiddle_f28 gaugeMiddle_f29 gaugeMiddle_f30 gaugeMiddle_f31
end Go.Proofs.YthiofhkndpegjaaGreatDoor
