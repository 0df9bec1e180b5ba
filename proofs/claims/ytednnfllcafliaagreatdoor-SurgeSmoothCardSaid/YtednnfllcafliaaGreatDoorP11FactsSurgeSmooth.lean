/- The closed facts of the row of SurgeSmooth, one by one. No condition. -/
import Derived.Test.YtednnfllcafliaaGreatDoorRows
import Derived.Test.YtednnfllcafliaaGreatDoorP10
import Derived.KernelRfl
set_option linter.all false
namespace Go.Proofs.YtednnfllcafliaaGreatDoor
theorem surgeSmooth_f0 : Rows.surgeSmoothRow.wf (OpenSpec.ofChange (OpenSpec.ofChange Rows.surgeSmoothSpec).bare) = true := by kernel_rfl
theorem surgeSmooth_f1 : laidOutB Tryz.prog = true := by kernel_rfl
theorem surgeSmooth_f2 : mapsRowed Tryz.prog = true := by kernel_rfl
theorem surgeSmooth_f3 : Tryz.f11.params.all (Tryz.prog.readableRec ·) = true := by kernel_rfl
theorem surgeSmooth_f4 : namedTie Tryz.prog Rows.surgeSmoothRow.named (OpenSpec.ofChange Rows.surgeSmoothSpec).bare.vars = true := by kernel_rfl
theorem surgeSmooth_f5 : (Rows.surgeSmoothRow.stops == []) = true := by kernel_rfl
theorem surgeSmooth_f6 : (Tryz.prog.stops == []) = true := by kernel_rfl
theorem surgeSmooth_f7 : (Rows.surgeSmoothRow.knobs == []) = true := by kernel_rfl
theorem surgeSmooth_f8 : (Tryz.prog.stopKnobs == []) = true := by kernel_rfl
theorem surgeSmooth_f9 : (Rows.surgeSmoothRow.inPlace == Tryz.prog.inPlace 11) = true := by kernel_rfl
theorem surgeSmooth_f10 : (Rows.surgeSmoothRow.unfollowed == Tryz.prog.unfollowed 11) = true := by kernel_rfl
theorem surgeSmooth_f11 : (Rows.surgeSmoothRow.recurses == Tryz.prog.recurses 11) = true := by kernel_rfl
theorem surgeSmooth_f12 : (Rows.surgeSmoothRow.named == Tryz.prog.varsNamed 11) = true := by kernel_rfl
theorem surgeSmooth_f13 : (Rows.surgeSmoothRow.maps == (Tryz.f11.params.toList ++ (OpenSpec.ofChange Rows.surgeSmoothSpec).bare.plain.varTypes Tryz.prog).any (Tryz.prog.mapsRec ·)) = true := by kernel_rfl
theorem surgeSmooth_f14 : (Rows.surgeSmoothRow.ifaces == (Tryz.f11.params.toList ++ (OpenSpec.ofChange Rows.surgeSmoothSpec).bare.plain.varTypes Tryz.prog).any (Tryz.prog.ifacesRec ·)) = true := by kernel_rfl
theorem surgeSmooth_f15 : (Rows.surgeSmoothRow.mapsOut == Tryz.prog.mapsAmong Tryz.f11.resultTypes.toList) = true := by kernel_rfl
theorem surgeSmooth_f16 : (Rows.surgeSmoothRow.loops == (Tryz.f11.params.toList ++ (OpenSpec.ofChange Rows.surgeSmoothSpec).bare.plain.varTypes Tryz.prog).any (Tryz.prog.loopsFrom ·)) = true := by kernel_rfl
theorem surgeSmooth_f17 : (Rows.surgeSmoothRow.wideKeys == (Tryz.f11.params.toList ++ (OpenSpec.ofChange Rows.surgeSmoothSpec).bare.plain.varTypes Tryz.prog ++ Tryz.f11.resultTypes.toList).any (Tryz.prog.wideKeysFrom ·)) = true := by kernel_rfl
theorem surgeSmooth_f18 : (OpenSpec.ofChange Rows.surgeSmoothSpec).bare.vars.all (Tryz.prog.varReadable ·) = true := by kernel_rfl
theorem surgeSmooth_f19 : Tryz.f11.resultTypes.all (fun t => Tryz.prog.readableRec t && decide (t < Tryz.prog.types.size)) = true := by kernel_rfl
theorem surgeSmooth_f20 : (Rows.surgeSmoothRow.ifacesOut == Tryz.f11.resultTypes.toList.any (Tryz.prog.ifacesRec ·)) = true := by kernel_rfl
theorem surgeSmooth_f21 : (Rows.surgeSmoothRow.loopsOut == Tryz.f11.resultTypes.toList.any (Tryz.prog.loopsFrom ·)) = true := by kernel_rfl
theorem surgeSmooth_f22 : (Rows.surgeSmoothRow.plainKeys == Tryz.prog.plainKeys) = true := by kernel_rfl
theorem surgeSmooth_f23 : Rows.surgeSmoothRow.shortTexts.isNone = true := by kernel_rfl
theorem surgeSmooth_f24 : Tryz.prog.stopsHeard = true := by kernel_rfl
theorem surgeSmooth_f25 : Tryz.prog.mayEnter = true := by kernel_rfl
theorem surgeSmooth_f26 : (Rows.surgeSmoothRow.lifted == Tryz.prog.liftsFinal) = true := by kernel_rfl
theorem surgeSmooth_f27 : (Tryz.prog.make == some Rows.surgeSmoothRow.make) = true := by kernel_rfl
theorem surgeSmooth_f28 : (Rows.surgeSmoothRow.kinds == (if Rows.surgeSmoothRow.domain.isEmpty then [] else Tryz.f11.params.toList.map fun t => match Tryz.prog.underlying t with | some (.int k) => some k | _ => none)) = true := by kernel_rfl
theorem surgeSmooth_f29 : (Rows.surgeSmoothRow.pinned == Rows.surgeSmoothRow.pinnedBy) = true := by kernel_rfl
theorem surgeSmooth_f30 : (Rows.surgeSmoothRow.veiled == (Tryz.f11.params.toList ++ (OpenSpec.ofChange Rows.surgeSmoothSpec).bare.plain.varTypes Tryz.prog ++ Tryz.f11.resultTypes.toList).any (Tryz.prog.veiledRec ·)) = true := by kernel_rfl
theorem surgeSmooth_f31 : Rows.surgeSmoothRow.veiledFits Tryz.prog Tryz.f11.params.toList (Tryz.f11.params.toList ++ (OpenSpec.ofChange Rows.surgeSmoothSpec).bare.plain.varTypes Tryz.prog ++ Tryz.f11.resultTypes.toList) = true := by kernel_rfl
set_option maxRecDepth 100000 in
theorem surgeSmooth_joined : joinedFacts Tryz.prog 11 Tryz.f11 (OpenSpec.ofChange Rows.surgeSmoothSpec).bare Rows.surgeSmoothRow = true := Go.Fs.joined_of surgeSmooth_f0 surgeSmooth_f1 surgeSmooth_f2 surgeSmooth_f3 surgeSmooth_f4 surgeSmooth_f5 surgeSmooth_f6 surgeSmooth_f7 surgeSmooth_f8 surgeSmooth_f9 surgeSmooth_f10 surgeSmooth_f11 surgeSmooth_f12 surgeSmooth_f13 surgeSmooth_f14 surgeSmooth_f15 surgeSmooth_f16 surgeSmooth_f17 surgeSmooth_f18 surgeSmooth_f19 surgeSmooth_f20 surgeSmooth_f21 surgeSmooth_f22 surgeSmooth_f23 surgeSmooth_f24 surgeSmooth_f25 surgeSmooth_f26 surgeSmooth_f27 surgeSmooth_f28 surgeSmooth_f29 surgeSmooth_f30 surgeSmooth_f31
end Go.Proofs.YtednnfllcafliaaGreatDoor
