/- The closed facts of the row of GaugeTexts, one by one. No condition. -/
import Derived.Test.YteooaaiacpcfoaaGreatDoorRows
import Derived.Test.YteooaaiacpcfoaaGreatDoorP9FsFacts
import Derived.KernelRfl
set_option linter.all false
namespace Go.Proofs.YteooaaiacpcfoaaGreatDoor
theorem gaugeTexts_f0 : Rows.gaugeTextsRow.wf (OpenSpec.ofChange (OpenSpec.ofChange Rows.gaugeTextsSpec).bare) = true := by kernel_rfl
theorem gaugeTexts_f1 : laidOutB Tryz.prog = true := by kernel_rfl
theorem gaugeTexts_f2 : mapsRowed Tryz.prog = true := by kernel_rfl
theorem gaugeTexts_f3 : Tryz.f4.params.all (Tryz.prog.readableRec ·) = true := by kernel_rfl
theorem gaugeTexts_f4 : namedTie Tryz.prog Rows.gaugeTextsRow.named (OpenSpec.ofChange Rows.gaugeTextsSpec).bare.vars = true := by kernel_rfl
theorem gaugeTexts_f5 : (Rows.gaugeTextsRow.stops == []) = true := by kernel_rfl
theorem gaugeTexts_f6 : (Tryz.prog.stops == []) = true := by kernel_rfl
theorem gaugeTexts_f7 : (Rows.gaugeTextsRow.knobs == []) = true := by kernel_rfl
theorem gaugeTexts_f8 : (Tryz.prog.stopKnobs == []) = true := by kernel_rfl
theorem gaugeTexts_f9 : (Rows.gaugeTextsRow.inPlace == Tryz.prog.inPlace 4) = true := by kernel_rfl
theorem gaugeTexts_f10 : (Rows.gaugeTextsRow.unfollowed == Tryz.prog.unfollowed 4) = true := by kernel_rfl
theorem gaugeTexts_f11 : (Rows.gaugeTextsRow.recurses == Tryz.prog.recurses 4) = true := by kernel_rfl
theorem gaugeTexts_f12 : (Rows.gaugeTextsRow.named == Tryz.prog.varsNamed 4) = true := by kernel_rfl
theorem gaugeTexts_f13 : (Rows.gaugeTextsRow.maps == (Tryz.f4.params.toList ++ (OpenSpec.ofChange Rows.gaugeTextsSpec).bare.plain.varTypes Tryz.prog).any (Tryz.prog.mapsRec ·)) = true := by kernel_rfl
theorem gaugeTexts_f14 : (Rows.gaugeTextsRow.ifaces == (Tryz.f4.params.toList ++ (OpenSpec.ofChange Rows.gaugeTextsSpec).bare.plain.varTypes Tryz.prog).any (Tryz.prog.ifacesRec ·)) = true := by kernel_rfl
theorem gaugeTexts_f15 : (Rows.gaugeTextsRow.mapsOut == Tryz.prog.mapsAmong Tryz.f4.resultTypes.toList) = true := by kernel_rfl
theorem gaugeTexts_f16 : (Rows.gaugeTextsRow.loops == (Tryz.f4.params.toList ++ (OpenSpec.ofChange Rows.gaugeTextsSpec).bare.plain.varTypes Tryz.prog).any (Tryz.prog.loopsFrom ·)) = true := by kernel_rfl
theorem gaugeTexts_f17 : (Rows.gaugeTextsRow.wideKeys == (Tryz.f4.params.toList ++ (OpenSpec.ofChange Rows.gaugeTextsSpec).bare.plain.varTypes Tryz.prog ++ Tryz.f4.resultTypes.toList).any (Tryz.prog.wideKeysFrom ·)) = true := by kernel_rfl
theorem gaugeTexts_f18 : (OpenSpec.ofChange Rows.gaugeTextsSpec).bare.vars.all (Tryz.prog.varReadable ·) = true := by kernel_rfl
theorem gaugeTexts_f19 : Tryz.f4.resultTypes.all (fun t => Tryz.prog.readableRec t && decide (t < Tryz.prog.types.size)) = true := by kernel_rfl
theorem gaugeTexts_f20 : (Rows.gaugeTextsRow.ifacesOut == Tryz.f4.resultTypes.toList.any (Tryz.prog.ifacesRec ·)) = true := by kernel_rfl
theorem gaugeTexts_f21 : (Rows.gaugeTextsRow.loopsOut == Tryz.f4.resultTypes.toList.any (Tryz.prog.loopsFrom ·)) = true := by kernel_rfl
theorem gaugeTexts_f22 : (Rows.gaugeTextsRow.plainKeys == Tryz.prog.plainKeys) = true := by kernel_rfl
theorem gaugeTexts_f23 : Rows.gaugeTextsRow.shortTexts.isNone = true := by kernel_rfl
theorem gaugeTexts_f24 : Tryz.prog.stopsHeard = true := by kernel_rfl
theorem gaugeTexts_f25 : Tryz.prog.mayEnter = true := by kernel_rfl
theorem gaugeTexts_f26 : (Rows.gaugeTextsRow.lifted == Tryz.prog.liftsFinal) = true := by kernel_rfl
theorem gaugeTexts_f27 : (Tryz.prog.make == some Rows.gaugeTextsRow.make) = true := by kernel_rfl
theorem gaugeTexts_f28 : (Rows.gaugeTextsRow.kinds == (if Rows.gaugeTextsRow.domain.isEmpty then [] else Tryz.f4.params.toList.map fun t => match Tryz.prog.underlying t with | some (.int k) => some k | _ => none)) = true := by kernel_rfl
theorem gaugeTexts_f29 : (Rows.gaugeTextsRow.pinned == Rows.gaugeTextsRow.pinnedBy) = true := by kernel_rfl
theorem gaugeTexts_f30 : (Rows.gaugeTextsRow.veiled == (Tryz.f4.params.toList ++ (OpenSpec.ofChange Rows.gaugeTextsSpec).bare.plain.varTypes Tryz.prog ++ Tryz.f4.resultTypes.toList).any (Tryz.prog.veiledRec ·)) = true := by kernel_rfl
theorem gaugeTexts_f31 : Rows.gaugeTextsRow.veiledFits Tryz.prog Tryz.f4.params.toList (Tryz.f4.params.toList ++ (OpenSpec.ofChange Rows.gaugeTextsSpec).bare.plain.varTypes Tryz.prog ++ Tryz.f4.resultTypes.toList) = true := by kernel_rfl
set_option maxRecDepth 100000 in
theorem gaugeTexts_joined : joinedFacts Tryz.prog 4 Tryz.f4 (OpenSpec.ofChange Rows.gaugeTextsSpec).bare Rows.gaugeTextsRow = true := Go.Fs.joined_of gaugeTexts_f0 gaugeTexts_f1 gaugeTexts_f2 gaugeTexts_f3 gaugeTexts_f4 gaugeTexts_f5 gaugeTexts_f6 gaugeTexts_f7 gaugeTexts_f8 gaugeTexts_f9 gaugeTexts_f10 gaugeTexts_f11 gaugeTexts_f12 gaugeTexts_f13 gaugeTexts_f14 gaugeTexts_f15 gaugeTexts_f16 gaugeTexts_f17 gaugeTexts_f18 gaugeTexts_f19 gaugeTexts_f20 gaugeTexts_f21 gaugeTexts_f22 gaugeTexts_f23 gaugeTexts_f24 gaugeTexts_f25 gaugeTexts_f26 gaugeTexts_f27 gaugeTexts_f28 gaugeTexts_f29 gaugeTexts_f30 gaugeTexts_f31
end Go.Proofs.YteooaaiacpcfoaaGreatDoor
