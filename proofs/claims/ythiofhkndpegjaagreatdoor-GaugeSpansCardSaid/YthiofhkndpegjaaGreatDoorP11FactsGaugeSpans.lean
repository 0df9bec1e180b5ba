/- The closed facts of the row of GaugeSpans, one by one. No condition. -/
import Derived.Test.YthiofhkndpegjaaGreatDoorRows
import Derived.Test.YthiofhkndpegjaaGreatDoorP10FsFacts
import Derived.KernelRfl
set_option linter.all false
namespace Go.Proofs.YthiofhkndpegjaaGreatDoor
theorem gaugeSpans_f0 : Rows.gaugeSpansRow.wf (OpenSpec.ofChange (OpenSpec.ofChange Rows.gaugeSpansSpec).bare) = true := by kernel_rfl
theorem gaugeSpans_f1 : laidOutB Tryz.prog = true := by kernel_rfl
theorem gaugeSpans_f2 : mapsRowed Tryz.prog = true := by kernel_rfl
theorem gaugeSpans_f3 : Tryz.f3.params.all (Tryz.prog.readableRec ·) = true := by kernel_rfl
theorem gaugeSpans_f4 : namedTie Tryz.prog Rows.gaugeSpansRow.named (OpenSpec.ofChange Rows.gaugeSpansSpec).bare.vars = true := by kernel_rfl
theorem gaugeSpans_f5 : (Rows.gaugeSpansRow.stops == []) = true := by kernel_rfl
theorem gaugeSpans_f6 : (Tryz.prog.stops == []) = true := by kernel_rfl
theorem gaugeSpans_f7 : (Rows.gaugeSpansRow.knobs == []) = true := by kernel_rfl
theorem gaugeSpans_f8 : (Tryz.prog.stopKnobs == []) = true := by kernel_rfl
theorem gaugeSpans_f9 : (Rows.gaugeSpansRow.inPlace == Tryz.prog.inPlace 3) = true := by kernel_rfl
theorem gaugeSpans_f10 : (Rows.gaugeSpansRow.unfollowed == Tryz.prog.unfollowed 3) = true := by kernel_rfl
theorem gaugeSpans_f11 : (Rows.gaugeSpansRow.recurses == Tryz.prog.recurses 3) = true := by kernel_rfl
theorem gaugeSpans_f12 : (Rows.gaugeSpansRow.named == Tryz.prog.varsNamed 3) = true := by kernel_rfl
theorem gaugeSpans_f13 : (Rows.gaugeSpansRow.maps == (Tryz.f3.params.toList ++ (OpenSpec.ofChange Rows.gaugeSpansSpec).bare.plain.varTypes Tryz.prog).any (Tryz.prog.mapsRec ·)) = true := by kernel_rfl
theorem gaugeSpans_f14 : (Rows.gaugeSpansRow.ifaces == (Tryz.f3.params.toList ++ (OpenSpec.ofChange Rows.gaugeSpansSpec).bare.plain.varTypes Tryz.prog).any (Tryz.prog.ifacesRec ·)) = true := by kernel_rfl
theorem gaugeSpans_f15 : (Rows.gaugeSpansRow.mapsOut == Tryz.prog.mapsAmong Tryz.f3.resultTypes.toList) = true := by kernel_rfl
theorem gaugeSpans_f16 : (Rows.gaugeSpansRow.loops == (Tryz.f3.params.toList ++ (OpenSpec.ofChange Rows.gaugeSpansSpec).bare.plain.varTypes Tryz.prog).any (Tryz.prog.loopsFrom ·)) = true := by kernel_rfl
theorem gaugeSpans_f17 : (Rows.gaugeSpansRow.wideKeys == (Tryz.f3.params.toList ++ (OpenSpec.ofChange Rows.gaugeSpansSpec).bare.plain.varTypes Tryz.prog ++ Tryz.f3.resultTypes.toList).any (Tryz.prog.wideKeysFrom ·)) = true := by kernel_rfl
theorem gaugeSpans_f18 : (OpenSpec.ofChange Rows.gaugeSpansSpec).bare.vars.all (Tryz.prog.varReadable ·) = true := by kernel_rfl
theorem gaugeSpans_f19 : Tryz.f3.resultTypes.all (fun t => Tryz.prog.readableRec t && decide (t < Tryz.prog.types.size)) = true := by kernel_rfl
theorem gaugeSpans_f20 : (Rows.gaugeSpansRow.ifacesOut == Tryz.f3.resultTypes.toList.any (Tryz.prog.ifacesRec ·)) = true := by kernel_rfl
theorem gaugeSpans_f21 : (Rows.gaugeSpansRow.loopsOut == Tryz.f3.resultTypes.toList.any (Tryz.prog.loopsFrom ·)) = true := by kernel_rfl
theorem gaugeSpans_f22 : (Rows.gaugeSpansRow.plainKeys == Tryz.prog.plainKeys) = true := by kernel_rfl
theorem gaugeSpans_f23 : Rows.gaugeSpansRow.shortTexts.isNone = true := by kernel_rfl
theorem gaugeSpans_f24 : Tryz.prog.stopsHeard = true := by kernel_rfl
theorem gaugeSpans_f25 : Tryz.prog.mayEnter = true := by kernel_rfl
theorem gaugeSpans_f26 : (Rows.gaugeSpansRow.lifted == Tryz.prog.liftsFinal) = true := by kernel_rfl
theorem gaugeSpans_f27 : (Tryz.prog.make == some Rows.gaugeSpansRow.make) = true := by kernel_rfl
theorem gaugeSpans_f28 : (Rows.gaugeSpansRow.kinds == (if Rows.gaugeSpansRow.domain.isEmpty then [] else Tryz.f3.params.toList.map fun t => match Tryz.prog.underlying t with | some (.int k) => some k | _ => none)) = true := by kernel_rfl
theorem gaugeSpans_f29 : (Rows.gaugeSpansRow.pinned == Rows.gaugeSpansRow.pinnedBy) = true := by kernel_rfl
theorem gaugeSpans_f30 : (Rows.gaugeSpansRow.veiled == (Tryz.f3.params.toList ++ (OpenSpec.ofChange Rows.gaugeSpansSpec).bare.plain.varTypes Tryz.prog ++ Tryz.f3.resultTypes.toList).any (Tryz.prog.veiledRec ·)) = true := by kernel_rfl
theorem gaugeSpans_f31 : Rows.gaugeSpansRow.veiledFits Tryz.prog Tryz.f3.params.toList (Tryz.f3.params.toList ++ (OpenSpec.ofChange Rows.gaugeSpansSpec).bare.plain.varTypes Tryz.prog ++ Tryz.f3.resultTypes.toList) = true := by kernel_rfl
set_option maxRecDepth 100000 in
theorem gaugeSpans_joined : joinedFacts Tryz.prog 3 Tryz.f3 (OpenSpec.ofChange Rows.gaugeSpansSpec).bare Rows.gaugeSpansRow = true := Go.Fs.joined_of gaugeSpans_f0 gaugeSpans_f1 gaugeSpans_f2 gaugeSpans_f3 gaugeSpans_f4 gaugeSpans_f5 gaugeSpans_f6 gaugeSpans_f7 gaugeSpans_f8 gaugeSpans_f9 gaugeSpans_f10 gaugeSpans_f11 gaugeSpans_f12 gaugeSpans_f13 gaugeSpans_f14 gaugeSpans_f15 gaugeSpans_f16 gaugeSpans_f17 gaugeSpans_f18 gaugeSpans_f19 gaugeSpans_f20 gaugeSpans_f21 gaugeSpans_f22 gaugeSpans_f23 gaugeSpans_f24 gaugeSpans_f25 gaugeSpans_f26 gaugeSpans_f27 gaugeSpans_f28 gaugeSpans_f29 gaugeSpans_f30 gaugeSpans_f31
end Go.Proofs.YthiofhkndpegjaaGreatDoor
