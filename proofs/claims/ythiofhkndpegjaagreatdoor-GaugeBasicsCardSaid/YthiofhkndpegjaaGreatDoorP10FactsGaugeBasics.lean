/- The closed facts of the row of GaugeBasics, one by one. No condition. -/
import Derived.Test.YthiofhkndpegjaaGreatDoorRows
import Derived.Test.YthiofhkndpegjaaGreatDoorP9FsFacts
import Derived.KernelRfl
set_option linter.all false
namespace Go.Proofs.YthiofhkndpegjaaGreatDoor
theorem gaugeBasics_f0 : Rows.gaugeBasicsRow.wf (OpenSpec.ofChange (OpenSpec.ofChange Rows.gaugeBasicsSpec).bare) = true := by kernel_rfl
theorem gaugeBasics_f1 : laidOutB Tryz.prog = true := by kernel_rfl
theorem gaugeBasics_f2 : mapsRowed Tryz.prog = true := by kernel_rfl
theorem gaugeBasics_f3 : Tryz.f5.params.all (Tryz.prog.readableRec ·) = true := by kernel_rfl
theorem gaugeBasics_f4 : namedTie Tryz.prog Rows.gaugeBasicsRow.named (OpenSpec.ofChange Rows.gaugeBasicsSpec).bare.vars = true := by kernel_rfl
theorem gaugeBasics_f5 : (Rows.gaugeBasicsRow.stops == []) = true := by kernel_rfl
theorem gaugeBasics_f6 : (Tryz.prog.stops == []) = true := by kernel_rfl
theorem gaugeBasics_f7 : (Rows.gaugeBasicsRow.knobs == []) = true := by kernel_rfl
theorem gaugeBasics_f8 : (Tryz.prog.stopKnobs == []) = true := by kernel_rfl
theorem gaugeBasics_f9 : (Rows.gaugeBasicsRow.inPlace == Tryz.prog.inPlace 5) = true := by kernel_rfl
theorem gaugeBasics_f10 : (Rows.gaugeBasicsRow.unfollowed == Tryz.prog.unfollowed 5) = true := by kernel_rfl
theorem gaugeBasics_f11 : (Rows.gaugeBasicsRow.recurses == Tryz.prog.recurses 5) = true := by kernel_rfl
theorem gaugeBasics_f12 : (Rows.gaugeBasicsRow.named == Tryz.prog.varsNamed 5) = true := by kernel_rfl
theorem gaugeBasics_f13 : (Rows.gaugeBasicsRow.maps == (Tryz.f5.params.toList ++ (OpenSpec.ofChange Rows.gaugeBasicsSpec).bare.plain.varTypes Tryz.prog).any (Tryz.prog.mapsRec ·)) = true := by kernel_rfl
theorem gaugeBasics_f14 : (Rows.gaugeBasicsRow.ifaces == (Tryz.f5.params.toList ++ (OpenSpec.ofChange Rows.gaugeBasicsSpec).bare.plain.varTypes Tryz.prog).any (Tryz.prog.ifacesRec ·)) = true := by kernel_rfl
theorem gaugeBasics_f15 : (Rows.gaugeBasicsRow.mapsOut == Tryz.prog.mapsAmong Tryz.f5.resultTypes.toList) = true := by kernel_rfl
theorem gaugeBasics_f16 : (Rows.gaugeBasicsRow.loops == (Tryz.f5.params.toList ++ (OpenSpec.ofChange Rows.gaugeBasicsSpec).bare.plain.varTypes Tryz.prog).any (Tryz.prog.loopsFrom ·)) = true := by kernel_rfl
theorem gaugeBasics_f17 : (Rows.gaugeBasicsRow.wideKeys == (Tryz.f5.params.toList ++ (OpenSpec.ofChange Rows.gaugeBasicsSpec).bare.plain.varTypes Tryz.prog ++ Tryz.f5.resultTypes.toList).any (Tryz.prog.wideKeysFrom ·)) = true := by kernel_rfl
theorem gaugeBasics_f18 : (OpenSpec.ofChange Rows.gaugeBasicsSpec).bare.vars.all (Tryz.prog.varReadable ·) = true := by kernel_rfl
theorem gaugeBasics_f19 : Tryz.f5.resultTypes.all (fun t => Tryz.prog.readableRec t && decide (t < Tryz.prog.types.size)) = true := by kernel_rfl
theorem gaugeBasics_f20 : (Rows.gaugeBasicsRow.ifacesOut == Tryz.f5.resultTypes.toList.any (Tryz.prog.ifacesRec ·)) = true := by kernel_rfl
theorem gaugeBasics_f21 : (Rows.gaugeBasicsRow.loopsOut == Tryz.f5.resultTypes.toList.any (Tryz.prog.loopsFrom ·)) = true := by kernel_rfl
theorem gaugeBasics_f22 : (Rows.gaugeBasicsRow.plainKeys == Tryz.prog.plainKeys) = true := by kernel_rfl
theorem gaugeBasics_f23 : Rows.gaugeBasicsRow.shortTexts.isNone = true := by kernel_rfl
theorem gaugeBasics_f24 : Tryz.prog.stopsHeard = true := by kernel_rfl
theorem gaugeBasics_f25 : Tryz.prog.mayEnter = true := by kernel_rfl
theorem gaugeBasics_f26 : (Rows.gaugeBasicsRow.lifted == Tryz.prog.liftsFinal) = true := by kernel_rfl
theorem gaugeBasics_f27 : (Tryz.prog.make == some Rows.gaugeBasicsRow.make) = true := by kernel_rfl
theorem gaugeBasics_f28 : (Rows.gaugeBasicsRow.kinds == (if Rows.gaugeBasicsRow.domain.isEmpty then [] else Tryz.f5.params.toList.map fun t => match Tryz.prog.underlying t with | some (.int k) => some k | _ => none)) = true := by kernel_rfl
theorem gaugeBasics_f29 : (Rows.gaugeBasicsRow.pinned == Rows.gaugeBasicsRow.pinnedBy) = true := by kernel_rfl
theorem gaugeBasics_f30 : (Rows.gaugeBasicsRow.veiled == (Tryz.f5.params.toList ++ (OpenSpec.ofChange Rows.gaugeBasicsSpec).bare.plain.varTypes Tryz.prog ++ Tryz.f5.resultTypes.toList).any (Tryz.prog.veiledRec ·)) = true := by kernel_rfl
theorem gaugeBasics_f31 : Rows.gaugeBasicsRow.veiledFits Tryz.prog Tryz.f5.params.toList (Tryz.f5.params.toList ++ (OpenSpec.ofChange Rows.gaugeBasicsSpec).bare.plain.varTypes Tryz.prog ++ Tryz.f5.resultTypes.toList) = true := by kernel_rfl
set_option maxRecDepth 100000 in
theorem gaugeBasics_joined : joinedFacts Tryz.prog 5 Tryz.f5 (OpenSpec.ofChange Rows.gaugeBasicsSpec).bare Rows.gaugeBasicsRow = true := Go.Fs.joined_of gaugeBasics_f0 gaugeBasics_f1 gaugeBasics_f2 gaugeBasics_f3 gaugeBasics_f4 gaugeBasics_f5 gaugeBasics_f6 gaugeBasics_f7 gaugeBasics_f8 gaugeBasics_f9 gaugeBasics_f10 gaugeBasics_f11 gaugeBasics_f12 gaugeBasics_f13 gaugeBasics_f14 gaugeBasics_f15 gaugeBasics_f16 gaugeBasics_f17 gaugeBasics_f18 gaugeBasics_f19 gaugeBasics_f20 gaugeBasics_f21 gaugeBasics_f22 gaugeBasics_f23 gaugeBasics_f24 gaugeBasics_f25 gaugeBasics_f26 gaugeBasics_f27 gaugeBasics_f28 gaugeBasics_f29 gaugeBasics_f30 gaugeBasics_f31
end Go.Proofs.YthiofhkndpegjaaGreatDoor
