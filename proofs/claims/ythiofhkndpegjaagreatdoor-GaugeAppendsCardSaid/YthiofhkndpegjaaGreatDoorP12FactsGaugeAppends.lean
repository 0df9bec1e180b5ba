/- The closed facts of the row of GaugeAppends, one by one. No condition. -/
import Derived.Test.YthiofhkndpegjaaGreatDoorRows
import Derived.Test.YthiofhkndpegjaaGreatDoorP11FsFacts
import Derived.KernelRfl
set_option linter.all false
namespace Go.Proofs.YthiofhkndpegjaaGreatDoor
theorem gaugeAppends_f0 : Rows.gaugeAppendsRow.wf (OpenSpec.ofChange (OpenSpec.ofChange Rows.gaugeAppendsSpec).bare) = true := by kernel_rfl
theorem gaugeAppends_f1 : laidOutB Tryz.prog = true := by kernel_rfl
theorem gaugeAppends_f2 : mapsRowed Tryz.prog = true := by kernel_rfl
theorem gaugeAppends_f3 : Tryz.f12.params.all (Tryz.prog.readableRec ·) = true := by kernel_rfl
theorem gaugeAppends_f4 : namedTie Tryz.prog Rows.gaugeAppendsRow.named (OpenSpec.ofChange Rows.gaugeAppendsSpec).bare.vars = true := by kernel_rfl
theorem gaugeAppends_f5 : (Rows.gaugeAppendsRow.stops == []) = true := by kernel_rfl
theorem gaugeAppends_f6 : (Tryz.prog.stops == []) = true := by kernel_rfl
theorem gaugeAppends_f7 : (Rows.gaugeAppendsRow.knobs == []) = true := by kernel_rfl
theorem gaugeAppends_f8 : (Tryz.prog.stopKnobs == []) = true := by kernel_rfl
theorem gaugeAppends_f9 : (Rows.gaugeAppendsRow.inPlace == Tryz.prog.inPlace 12) = true := by kernel_rfl
theorem gaugeAppends_f10 : (Rows.gaugeAppendsRow.unfollowed == Tryz.prog.unfollowed 12) = true := by kernel_rfl
theorem gaugeAppends_f11 : (Rows.gaugeAppendsRow.recurses == Tryz.prog.recurses 12) = true := by kernel_rfl
theorem gaugeAppends_f12 : (Rows.gaugeAppendsRow.named == Tryz.prog.varsNamed 12) = true := by kernel_rfl
theorem gaugeAppends_f13 : (Rows.gaugeAppendsRow.maps == (Tryz.f12.params.toList ++ (OpenSpec.ofChange Rows.gaugeAppendsSpec).bare.plain.varTypes Tryz.prog).any (Tryz.prog.mapsRec ·)) = true := by kernel_rfl
theorem gaugeAppends_f14 : (Rows.gaugeAppendsRow.ifaces == (Tryz.f12.params.toList ++ (OpenSpec.ofChange Rows.gaugeAppendsSpec).bare.plain.varTypes Tryz.prog).any (Tryz.prog.ifacesRec ·)) = true := by kernel_rfl
theorem gaugeAppends_f15 : (Rows.gaugeAppendsRow.mapsOut == Tryz.prog.mapsAmong Tryz.f12.resultTypes.toList) = true := by kernel_rfl
theorem gaugeAppends_f16 : (Rows.gaugeAppendsRow.loops == (Tryz.f12.params.toList ++ (OpenSpec.ofChange Rows.gaugeAppendsSpec).bare.plain.varTypes Tryz.prog).any (Tryz.prog.loopsFrom ·)) = true := by kernel_rfl
theorem gaugeAppends_f17 : (Rows.gaugeAppendsRow.wideKeys == (Tryz.f12.params.toList ++ (OpenSpec.ofChange Rows.gaugeAppendsSpec).bare.plain.varTypes Tryz.prog ++ Tryz.f12.resultTypes.toList).any (Tryz.prog.wideKeysFrom ·)) = true := by kernel_rfl
theorem gaugeAppends_f18 : (OpenSpec.ofChange Rows.gaugeAppendsSpec).bare.vars.all (Tryz.prog.varReadable ·) = true := by kernel_rfl
theorem gaugeAppends_f19 : Tryz.f12.resultTypes.all (fun t => Tryz.prog.readableRec t && decide (t < Tryz.prog.types.size)) = true := by kernel_rfl
theorem gaugeAppends_f20 : (Rows.gaugeAppendsRow.ifacesOut == Tryz.f12.resultTypes.toList.any (Tryz.prog.ifacesRec ·)) = true := by kernel_rfl
theorem gaugeAppends_f21 : (Rows.gaugeAppendsRow.loopsOut == Tryz.f12.resultTypes.toList.any (Tryz.prog.loopsFrom ·)) = true := by kernel_rfl
theorem gaugeAppends_f22 : (Rows.gaugeAppendsRow.plainKeys == Tryz.prog.plainKeys) = true := by kernel_rfl
theorem gaugeAppends_f23 : Rows.gaugeAppendsRow.shortTexts.isNone = true := by kernel_rfl
theorem gaugeAppends_f24 : Tryz.prog.stopsHeard = true := by kernel_rfl
theorem gaugeAppends_f25 : Tryz.prog.mayEnter = true := by kernel_rfl
theorem gaugeAppends_f26 : (Rows.gaugeAppendsRow.lifted == Tryz.prog.liftsFinal) = true := by kernel_rfl
theorem gaugeAppends_f27 : (Tryz.prog.make == some Rows.gaugeAppendsRow.make) = true := by kernel_rfl
theorem gaugeAppends_f28 : (Rows.gaugeAppendsRow.kinds == (if Rows.gaugeAppendsRow.domain.isEmpty then [] else Tryz.f12.params.toList.map fun t => match Tryz.prog.underlying t with | some (.int k) => some k | _ => none)) = true := by kernel_rfl
theorem gaugeAppends_f29 : (Rows.gaugeAppendsRow.pinned == Rows.gaugeAppendsRow.pinnedBy) = true := by kernel_rfl
theorem gaugeAppends_f30 : (Rows.gaugeAppendsRow.veiled == (Tryz.f12.params.toList ++ (OpenSpec.ofChange Rows.gaugeAppendsSpec).bare.plain.varTypes Tryz.prog ++ Tryz.f12.resultTypes.toList).any (Tryz.prog.veiledRec ·)) = true := by kernel_rfl
theorem gaugeAppends_f31 : Rows.gaugeAppendsRow.veiledFits Tryz.prog Tryz.f12.params.toList (Tryz.f12.params.toList ++ (OpenSpec.ofChange Rows.gaugeAppendsSpec).bare.plain.varTypes Tryz.prog ++ Tryz.f12.resultTypes.toList) = true := by kernel_rfl
set_option maxRecDepth 100000 in
theorem gaugeAppends_joined : joinedFacts Tryz.prog 12 Tryz.f12 (OpenSpec.ofChange Rows.gaugeAppendsSpec).bare Rows.gaugeAppendsRow = true := Go.Fs.joined_of gaugeAppends_f0 gaugeAppends_f1 gaugeAppends_f2 gaugeAppends_f3 gaugeAppends_f4 gaugeAppends_f5 gaugeAppends_f6 gaugeAppends_f7 gaugeAppends_f8 gaugeAppends_f9 gaugeAppends_f10 gaugeAppends_f11 gaugeAppends_f12 gaugeAppends_f13 gaugeAppends_f14 gaugeAppends_f15 gaugeAppends_f16 gaugeAppends_f17 gaugeAppends_f18 gaugeAppends_f19 gaugeAppends_f20 gaugeAppends_f21 gaugeAppends_f22 gaugeAppends_f23 gaugeAppends_f24 gaugeAppends_f25 gaugeAppends_f26 gaugeAppends_f27 gaugeAppends_f28 gaugeAppends_f29 gaugeAppends_f30 gaugeAppends_f31
end Go.Proofs.YthiofhkndpegjaaGreatDoor
