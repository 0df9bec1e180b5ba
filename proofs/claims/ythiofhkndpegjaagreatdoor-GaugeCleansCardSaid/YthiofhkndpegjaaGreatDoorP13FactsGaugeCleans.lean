/- The closed facts of the row of GaugeCleans, one by one. No condition. -/
import Derived.Test.YthiofhkndpegjaaGreatDoorRows
import Derived.Test.YthiofhkndpegjaaGreatDoorP12FsFacts
import Derived.KernelRfl
set_option linter.all false
namespace Go.Proofs.YthiofhkndpegjaaGreatDoor
theorem gaugeCleans_f0 : Rows.gaugeCleansRow.wf (OpenSpec.ofChange (OpenSpec.ofChange Rows.gaugeCleansSpec).bare) = true := by kernel_rfl
theorem gaugeCleans_f1 : laidOutB Tryz.prog = true := by kernel_rfl
theorem gaugeCleans_f2 : mapsRowed Tryz.prog = true := by kernel_rfl
theorem gaugeCleans_f3 : Tryz.f7.params.all (Tryz.prog.readableRec ·) = true := by kernel_rfl
theorem gaugeCleans_f4 : namedTie Tryz.prog Rows.gaugeCleansRow.named (OpenSpec.ofChange Rows.gaugeCleansSpec).bare.vars = true := by kernel_rfl
theorem gaugeCleans_f5 : (Rows.gaugeCleansRow.stops == []) = true := by kernel_rfl
theorem gaugeCleans_f6 : (Tryz.prog.stops == []) = true := by kernel_rfl
theorem gaugeCleans_f7 : (Rows.gaugeCleansRow.knobs == []) = true := by kernel_rfl
theorem gaugeCleans_f8 : (Tryz.prog.stopKnobs == []) = true := by kernel_rfl
theorem gaugeCleans_f9 : (Rows.gaugeCleansRow.inPlace == Tryz.prog.inPlace 7) = true := by kernel_rfl
theorem gaugeCleans_f10 : (Rows.gaugeCleansRow.unfollowed == Tryz.prog.unfollowed 7) = true := by kernel_rfl
theorem gaugeCleans_f11 : (Rows.gaugeCleansRow.recurses == Tryz.prog.recurses 7) = true := by kernel_rfl
theorem gaugeCleans_f12 : (Rows.gaugeCleansRow.named == Tryz.prog.varsNamed 7) = true := by kernel_rfl
theorem gaugeCleans_f13 : (Rows.gaugeCleansRow.maps == (Tryz.f7.params.toList ++ (OpenSpec.ofChange Rows.gaugeCleansSpec).bare.plain.varTypes Tryz.prog).any (Tryz.prog.mapsRec ·)) = true := by kernel_rfl
theorem gaugeCleans_f14 : (Rows.gaugeCleansRow.ifaces == (Tryz.f7.params.toList ++ (OpenSpec.ofChange Rows.gaugeCleansSpec).bare.plain.varTypes Tryz.prog).any (Tryz.prog.ifacesRec ·)) = true := by kernel_rfl
theorem gaugeCleans_f15 : (Rows.gaugeCleansRow.mapsOut == Tryz.prog.mapsAmong Tryz.f7.resultTypes.toList) = true := by kernel_rfl
theorem gaugeCleans_f16 : (Rows.gaugeCleansRow.loops == (Tryz.f7.params.toList ++ (OpenSpec.ofChange Rows.gaugeCleansSpec).bare.plain.varTypes Tryz.prog).any (Tryz.prog.loopsFrom ·)) = true := by kernel_rfl
theorem gaugeCleans_f17 : (Rows.gaugeCleansRow.wideKeys == (Tryz.f7.params.toList ++ (OpenSpec.ofChange Rows.gaugeCleansSpec).bare.plain.varTypes Tryz.prog ++ Tryz.f7.resultTypes.toList).any (Tryz.prog.wideKeysFrom ·)) = true := by kernel_rfl
theorem gaugeCleans_f18 : (OpenSpec.ofChange Rows.gaugeCleansSpec).bare.vars.all (Tryz.prog.varReadable ·) = true := by kernel_rfl
theorem gaugeCleans_f19 : Tryz.f7.resultTypes.all (fun t => Tryz.prog.readableRec t && decide (t < Tryz.prog.types.size)) = true := by kernel_rfl
theorem gaugeCleans_f20 : (Rows.gaugeCleansRow.ifacesOut == Tryz.f7.resultTypes.toList.any (Tryz.prog.ifacesRec ·)) = true := by kernel_rfl
theorem gaugeCleans_f21 : (Rows.gaugeCleansRow.loopsOut == Tryz.f7.resultTypes.toList.any (Tryz.prog.loopsFrom ·)) = true := by kernel_rfl
theorem gaugeCleans_f22 : (Rows.gaugeCleansRow.plainKeys == Tryz.prog.plainKeys) = true := by kernel_rfl
theorem gaugeCleans_f23 : Rows.gaugeCleansRow.shortTexts.isNone = true := by kernel_rfl
theorem gaugeCleans_f24 : Tryz.prog.stopsHeard = true := by kernel_rfl
theorem gaugeCleans_f25 : Tryz.prog.mayEnter = true := by kernel_rfl
theorem gaugeCleans_f26 : (Rows.gaugeCleansRow.lifted == Tryz.prog.liftsFinal) = true := by kernel_rfl
theorem gaugeCleans_f27 : (Tryz.prog.make == some Rows.gaugeCleansRow.make) = true := by kernel_rfl
theorem gaugeCleans_f28 : (Rows.gaugeCleansRow.kinds == (if Rows.gaugeCleansRow.domain.isEmpty then [] else Tryz.f7.params.toList.map fun t => match Tryz.prog.underlying t with | some (.int k) => some k | _ => none)) = true := by kernel_rfl
theorem gaugeCleans_f29 : (Rows.gaugeCleansRow.pinned == Rows.gaugeCleansRow.pinnedBy) = true := by kernel_rfl
theorem gaugeCleans_f30 : (Rows.gaugeCleansRow.veiled == (Tryz.f7.params.toList ++ (OpenSpec.ofChange Rows.gaugeCleansSpec).bare.plain.varTypes Tryz.prog ++ Tryz.f7.resultTypes.toList).any (Tryz.prog.veiledRec ·)) = true := by kernel_rfl
theorem gaugeCleans_f31 : Rows.gaugeCleansRow.veiledFits Tryz.prog Tryz.f7.params.toList (Tryz.f7.params.toList ++ (OpenSpec.ofChange Rows.gaugeCleansSpec).bare.plain.varTypes Tryz.prog ++ Tryz.f7.resultTypes.toList) = true := by kernel_rfl
set_option maxRecDepth 100000 in
theorem gaugeCleans_joined : joinedFacts Tryz.prog 7 Tryz.f7 (OpenSpec.ofChange Rows.gaugeCleansSpec).bare Rows.gaugeCleansRow = true := Go.Fs.joined_of gaugeCleans_f0 gaugeCleans_f1 gaugeCleans_f2 gaugeCleans_f3 gaugeCleans_f4 gaugeCleans_f5 gaugeCleans_f6 gaugeCleans_f7 gaugeCleans_f8 gaugeCleans_f9 gaugeCleans_f10 gaugeCleans_f11 gaugeCleans_f12 gaugeCleans_f13 gaugeCleans_f14 gaugeCleans_f15 gaugeCleans_f16 gaugeCleans_f17 gaugeCleans_f18 gaugeCleans_f19 gaugeCleans_f20 gaugeCleans_f21 gaugeCleans_f22 gaugeCleans_f23 gaugeCleans_f24 gaugeCleans_f25 gaugeCleans_f26 gaugeCleans_f27 gaugeCleans_f28 gaugeCleans_f29 gaugeCleans_f30 gaugeCleans_f31
end Go.Proofs.YthiofhkndpegjaaGreatDoor
