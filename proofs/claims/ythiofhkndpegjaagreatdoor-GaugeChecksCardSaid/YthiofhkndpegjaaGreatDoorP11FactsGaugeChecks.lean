/- The closed facts of the row of GaugeChecks, one by one. No condition. -/
import Derived.Test.YthiofhkndpegjaaGreatDoorRows
import Derived.Test.YthiofhkndpegjaaGreatDoorP10FsFacts
import Derived.KernelRfl
set_option linter.all false
namespace Go.Proofs.YthiofhkndpegjaaGreatDoor
theorem gaugeChecks_f0 : Rows.gaugeChecksRow.wf (OpenSpec.ofChange (OpenSpec.ofChange Rows.gaugeChecksSpec).bare) = true := by kernel_rfl
theorem gaugeChecks_f1 : laidOutB Tryz.prog = true := by kernel_rfl
theorem gaugeChecks_f2 : mapsRowed Tryz.prog = true := by kernel_rfl
theorem gaugeChecks_f3 : Tryz.f6.params.all (Tryz.prog.readableRec ·) = true := by kernel_rfl
theorem gaugeChecks_f4 : namedTie Tryz.prog Rows.gaugeChecksRow.named (OpenSpec.ofChange Rows.gaugeChecksSpec).bare.vars = true := by kernel_rfl
theorem gaugeChecks_f5 : (Rows.gaugeChecksRow.stops == []) = true := by kernel_rfl
theorem gaugeChecks_f6 : (Tryz.prog.stops == []) = true := by kernel_rfl
theorem gaugeChecks_f7 : (Rows.gaugeChecksRow.knobs == []) = true := by kernel_rfl
theorem gaugeChecks_f8 : (Tryz.prog.stopKnobs == []) = true := by kernel_rfl
theorem gaugeChecks_f9 : (Rows.gaugeChecksRow.inPlace == Tryz.prog.inPlace 6) = true := by kernel_rfl
theorem gaugeChecks_f10 : (Rows.gaugeChecksRow.unfollowed == Tryz.prog.unfollowed 6) = true := by kernel_rfl
theorem gaugeChecks_f11 : (Rows.gaugeChecksRow.recurses == Tryz.prog.recurses 6) = true := by kernel_rfl
theorem gaugeChecks_f12 : (Rows.gaugeChecksRow.named == Tryz.prog.varsNamed 6) = true := by kernel_rfl
theorem gaugeChecks_f13 : (Rows.gaugeChecksRow.maps == (Tryz.f6.params.toList ++ (OpenSpec.ofChange Rows.gaugeChecksSpec).bare.plain.varTypes Tryz.prog).any (Tryz.prog.mapsRec ·)) = true := by kernel_rfl
theorem gaugeChecks_f14 : (Rows.gaugeChecksRow.ifaces == (Tryz.f6.params.toList ++ (OpenSpec.ofChange Rows.gaugeChecksSpec).bare.plain.varTypes Tryz.prog).any (Tryz.prog.ifacesRec ·)) = true := by kernel_rfl
theorem gaugeChecks_f15 : (Rows.gaugeChecksRow.mapsOut == Tryz.prog.mapsAmong Tryz.f6.resultTypes.toList) = true := by kernel_rfl
theorem gaugeChecks_f16 : (Rows.gaugeChecksRow.loops == (Tryz.f6.params.toList ++ (OpenSpec.ofChange Rows.gaugeChecksSpec).bare.plain.varTypes Tryz.prog).any (Tryz.prog.loopsFrom ·)) = true := by kernel_rfl
theorem gaugeChecks_f17 : (Rows.gaugeChecksRow.wideKeys == (Tryz.f6.params.toList ++ (OpenSpec.ofChange Rows.gaugeChecksSpec).bare.plain.varTypes Tryz.prog ++ Tryz.f6.resultTypes.toList).any (Tryz.prog.wideKeysFrom ·)) = true := by kernel_rfl
theorem gaugeChecks_f18 : (OpenSpec.ofChange Rows.gaugeChecksSpec).bare.vars.all (Tryz.prog.varReadable ·) = true := by kernel_rfl
theorem gaugeChecks_f19 : Tryz.f6.resultTypes.all (fun t => Tryz.prog.readableRec t && decide (t < Tryz.prog.types.size)) = true := by kernel_rfl
theorem gaugeChecks_f20 : (Rows.gaugeChecksRow.ifacesOut == Tryz.f6.resultTypes.toList.any (Tryz.prog.ifacesRec ·)) = true := by kernel_rfl
theorem gaugeChecks_f21 : (Rows.gaugeChecksRow.loopsOut == Tryz.f6.resultTypes.toList.any (Tryz.prog.loopsFrom ·)) = true := by kernel_rfl
theorem gaugeChecks_f22 : (Rows.gaugeChecksRow.plainKeys == Tryz.prog.plainKeys) = true := by kernel_rfl
theorem gaugeChecks_f23 : Rows.gaugeChecksRow.shortTexts.isNone = true := by kernel_rfl
theorem gaugeChecks_f24 : Tryz.prog.stopsHeard = true := by kernel_rfl
theorem gaugeChecks_f25 : Tryz.prog.mayEnter = true := by kernel_rfl
theorem gaugeChecks_f26 : (Rows.gaugeChecksRow.lifted == Tryz.prog.liftsFinal) = true := by kernel_rfl
theorem gaugeChecks_f27 : (Tryz.prog.make == some Rows.gaugeChecksRow.make) = true := by kernel_rfl
theorem gaugeChecks_f28 : (Rows.gaugeChecksRow.kinds == (if Rows.gaugeChecksRow.domain.isEmpty then [] else Tryz.f6.params.toList.map fun t => match Tryz.prog.underlying t with | some (.int k) => some k | _ => none)) = true := by kernel_rfl
theorem gaugeChecks_f29 : (Rows.gaugeChecksRow.pinned == Rows.gaugeChecksRow.pinnedBy) = true := by kernel_rfl
theorem gaugeChecks_f30 : (Rows.gaugeChecksRow.veiled == (Tryz.f6.params.toList ++ (OpenSpec.ofChange Rows.gaugeChecksSpec).bare.plain.varTypes Tryz.prog ++ Tryz.f6.resultTypes.toList).any (Tryz.prog.veiledRec ·)) = true := by kernel_rfl
theorem gaugeChecks_f31 : Rows.gaugeChecksRow.veiledFits Tryz.prog Tryz.f6.params.toList (Tryz.f6.params.toList ++ (OpenSpec.ofChange Rows.gaugeChecksSpec).bare.plain.varTypes Tryz.prog ++ Tryz.f6.resultTypes.toList) = true := by kernel_rfl
set_option maxRecDepth 100000 in
theorem gaugeChecks_joined : joinedFacts Tryz.prog 6 Tryz.f6 (OpenSpec.ofChange Rows.gaugeChecksSpec).bare Rows.gaugeChecksRow = true := Go.Fs.joined_of gaugeChecks_f0 gaugeChecks_f1 gaugeChecks_f2 gaugeChecks_f3 gaugeChecks_f4 gaugeChecks_f5 gaugeChecks_f6 gaugeChecks_f7 gaugeChecks_f8 gaugeChecks_f9 gaugeChecks_f10 gaugeChecks_f11 gaugeChecks_f12 gaugeChecks_f13 gaugeChecks_f14 gaugeChecks_f15 gaugeChecks_f16 gaugeChecks_f17 gaugeChecks_f18 gaugeChecks_f19 gaugeChecks_f20 gaugeChecks_f21 gaugeChecks_f22 gaugeChecks_f23 gaugeChecks_f24 gaugeChecks_f25 gaugeChecks_f26 gaugeChecks_f27 gaugeChecks_f28 gaugeChecks_f29 gaugeChecks_f30 gaugeChecks_f31
end Go.Proofs.YthiofhkndpegjaaGreatDoor
