/- The closed facts of the row of SurgeTexts, one by one. No condition. -/
import Derived.Test.YthedpadpeakecaaGreatDoorRows
import Derived.Test.YthedpadpeakecaaGreatDoorP9FsFacts
import Derived.KernelRfl
set_option linter.all false
namespace Go.Proofs.YthedpadpeakecaaGreatDoor
theorem surgeTexts_f0 : Rows.surgeTextsRow.wf (OpenSpec.ofChange (OpenSpec.ofChange Rows.surgeTextsSpec).bare) = true := by kernel_rfl
theorem surgeTexts_f1 : laidOutB Tryz.prog = true := by kernel_rfl
theorem surgeTexts_f2 : mapsRowed Tryz.prog = true := by kernel_rfl
theorem surgeTexts_f3 : Tryz.f3.params.all (Tryz.prog.readableRec ·) = true := by kernel_rfl
theorem surgeTexts_f4 : namedTie Tryz.prog Rows.surgeTextsRow.named (OpenSpec.ofChange Rows.surgeTextsSpec).bare.vars = true := by kernel_rfl
theorem surgeTexts_f5 : (Rows.surgeTextsRow.stops == []) = true := by kernel_rfl
theorem surgeTexts_f6 : (Tryz.prog.stops == []) = true := by kernel_rfl
theorem surgeTexts_f7 : (Rows.surgeTextsRow.knobs == []) = true := by kernel_rfl
theorem surgeTexts_f8 : (Tryz.prog.stopKnobs == []) = true := by kernel_rfl
theorem surgeTexts_f9 : (Rows.surgeTextsRow.inPlace == Tryz.prog.inPlace 3) = true := by kernel_rfl
theorem surgeTexts_f10 : (Rows.surgeTextsRow.unfollowed == Tryz.prog.unfollowed 3) = true := by kernel_rfl
theorem surgeTexts_f11 : (Rows.surgeTextsRow.recurses == Tryz.prog.recurses 3) = true := by kernel_rfl
theorem surgeTexts_f12 : (Rows.surgeTextsRow.named == Tryz.prog.varsNamed 3) = true := by kernel_rfl
theorem surgeTexts_f13 : (Rows.surgeTextsRow.maps == (Tryz.f3.params.toList ++ (OpenSpec.ofChange Rows.surgeTextsSpec).bare.plain.varTypes Tryz.prog).any (Tryz.prog.mapsRec ·)) = true := by kernel_rfl
theorem surgeTexts_f14 : (Rows.surgeTextsRow.ifaces == (Tryz.f3.params.toList ++ (OpenSpec.ofChange Rows.surgeTextsSpec).bare.plain.varTypes Tryz.prog).any (Tryz.prog.ifacesRec ·)) = true := by kernel_rfl
theorem surgeTexts_f15 : (Rows.surgeTextsRow.mapsOut == Tryz.prog.mapsAmong Tryz.f3.resultTypes.toList) = true := by kernel_rfl
theorem surgeTexts_f16 : (Rows.surgeTextsRow.loops == (Tryz.f3.params.toList ++ (OpenSpec.ofChange Rows.surgeTextsSpec).bare.plain.varTypes Tryz.prog).any (Tryz.prog.loopsFrom ·)) = true := by kernel_rfl
theorem surgeTexts_f17 : (Rows.surgeTextsRow.wideKeys == (Tryz.f3.params.toList ++ (OpenSpec.ofChange Rows.surgeTextsSpec).bare.plain.varTypes Tryz.prog ++ Tryz.f3.resultTypes.toList).any (Tryz.prog.wideKeysFrom ·)) = true := by kernel_rfl
theorem surgeTexts_f18 : (OpenSpec.ofChange Rows.surgeTextsSpec).bare.vars.all (Tryz.prog.varReadable ·) = true := by kernel_rfl
theorem surgeTexts_f19 : Tryz.f3.resultTypes.all (fun t => Tryz.prog.readableRec t && decide (t < Tryz.prog.types.size)) = true := by kernel_rfl
theorem surgeTexts_f20 : (Rows.surgeTextsRow.ifacesOut == Tryz.f3.resultTypes.toList.any (Tryz.prog.ifacesRec ·)) = true := by kernel_rfl
theorem surgeTexts_f21 : (Rows.surgeTextsRow.loopsOut == Tryz.f3.resultTypes.toList.any (Tryz.prog.loopsFrom ·)) = true := by kernel_rfl
theorem surgeTexts_f22 : (Rows.surgeTextsRow.plainKeys == Tryz.prog.plainKeys) = true := by kernel_rfl
theorem surgeTexts_f23 : Rows.surgeTextsRow.shortTexts.isNone = true := by kernel_rfl
theorem surgeTexts_f24 : Tryz.prog.stopsHeard = true := by kernel_rfl
theorem surgeTexts_f25 : Tryz.prog.mayEnter = true := by kernel_rfl
theorem surgeTexts_f26 : (Rows.surgeTextsRow.lifted == Tryz.prog.liftsFinal) = true := by kernel_rfl
theorem surgeTexts_f27 : (Tryz.prog.make == some Rows.surgeTextsRow.make) = true := by kernel_rfl
theorem surgeTexts_f28 : (Rows.surgeTextsRow.kinds == (if Rows.surgeTextsRow.domain.isEmpty then [] else Tryz.f3.params.toList.map fun t => match Tryz.prog.underlying t with | some (.int k) => some k | _ => none)) = true := by kernel_rfl
theorem surgeTexts_f29 : (Rows.surgeTextsRow.pinned == Rows.surgeTextsRow.pinnedBy) = true := by kernel_rfl
theorem surgeTexts_f30 : (Rows.surgeTextsRow.veiled == (Tryz.f3.params.toList ++ (OpenSpec.ofChange Rows.surgeTextsSpec).bare.plain.varTypes Tryz.prog ++ Tryz.f3.resultTypes.toList).any (Tryz.prog.veiledRec ·)) = true := by kernel_rfl
theorem surgeTexts_f31 : Rows.surgeTextsRow.veiledFits Tryz.prog Tryz.f3.params.toList (Tryz.f3.params.toList ++ (OpenSpec.ofChange Rows.surgeTextsSpec).bare.plain.varTypes Tryz.prog ++ Tryz.f3.resultTypes.toList) = true := by kernel_rfl
set_option maxRecDepth 100000 in
theorem surgeTexts_joined : joinedFacts Tryz.prog 3 Tryz.f3 (OpenSpec.ofChange Rows.surgeTextsSpec).bare Rows.surgeTextsRow = true := Go.Fs.joined_of surgeTexts_f0 surgeTexts_f1 surgeTexts_f2 surgeTexts_f3 surgeTexts_f4 surgeTexts_f5 surgeTexts_f6 surgeTexts_f7 surgeTexts_f8 surgeTexts_f9 surgeTexts_f10 surgeTexts_f11 surgeTexts_f12 surgeTexts_f13 surgeTexts_f14 surgeTexts_f15 surgeTexts_f16 surgeTexts_f17 surgeTexts_f18 surgeTexts_f19 surgeTexts_f20 surgeTexts_f21 surgeTexts_f22 surgeTexts_f23 surgeTexts_f24 surgeTexts_f25 surgeTexts_f26 surgeTexts_f27 surgeTexts_f28 surgeTexts_f29 surgeTexts_f30 surgeTexts_f31
end Go.Proofs.YthedpadpeakecaaGreatDoor
