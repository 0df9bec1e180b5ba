/- The closed facts of the row of SurgeFields, one by one. No condition. -/
import Derived.Test.YtednnfllcafliaaGreatDoorRows
import Derived.Test.YtednnfllcafliaaGreatDoorP11
import Derived.KernelRfl
set_option linter.all false
namespace Go.Proofs.YtednnfllcafliaaGreatDoor
theorem surgeFields_f0 : Rows.surgeFieldsRow.wf (OpenSpec.ofChange (OpenSpec.ofChange Rows.surgeFieldsSpec).bare) = true := by kernel_rfl
theorem surgeFields_f1 : laidOutB Tryz.prog = true := by kernel_rfl
theorem surgeFields_f2 : mapsRowed Tryz.prog = true := by kernel_rfl
theorem surgeFields_f3 : Tryz.f9.params.all (Tryz.prog.readableRec ·) = true := by kernel_rfl
theorem surgeFields_f4 : namedTie Tryz.prog Rows.surgeFieldsRow.named (OpenSpec.ofChange Rows.surgeFieldsSpec).bare.vars = true := by kernel_rfl
theorem surgeFields_f5 : (Rows.surgeFieldsRow.stops == []) = true := by kernel_rfl
theorem surgeFields_f6 : (Tryz.prog.stops == []) = true := by kernel_rfl
theorem surgeFields_f7 : (Rows.surgeFieldsRow.knobs == []) = true := by kernel_rfl
theorem surgeFields_f8 : (Tryz.prog.stopKnobs == []) = true := by kernel_rfl
theorem surgeFields_f9 : (Rows.surgeFieldsRow.inPlace == Tryz.prog.inPlace 9) = true := by kernel_rfl
theorem surgeFields_f10 : (Rows.surgeFieldsRow.unfollowed == Tryz.prog.unfollowed 9) = true := by kernel_rfl
theorem surgeFields_f11 : (Rows.surgeFieldsRow.recurses == Tryz.prog.recurses 9) = true := by kernel_rfl
theorem surgeFields_f12 : (Rows.surgeFieldsRow.named == Tryz.prog.varsNamed 9) = true := by kernel_rfl
theorem surgeFields_f13 : (Rows.surgeFieldsRow.maps == (Tryz.f9.params.toList ++ (OpenSpec.ofChange Rows.surgeFieldsSpec).bare.plain.varTypes Tryz.prog).any (Tryz.prog.mapsRec ·)) = true := by kernel_rfl
theorem surgeFields_f14 : (Rows.surgeFieldsRow.ifaces == (Tryz.f9.params.toList ++ (OpenSpec.ofChange Rows.surgeFieldsSpec).bare.plain.varTypes Tryz.prog).any (Tryz.prog.ifacesRec ·)) = true := by kernel_rfl
theorem surgeFields_f15 : (Rows.surgeFieldsRow.mapsOut == Tryz.prog.mapsAmong Tryz.f9.resultTypes.toList) = true := by kernel_rfl
theorem surgeFields_f16 : (Rows.surgeFieldsRow.loops == (Tryz.f9.params.toList ++ (OpenSpec.ofChange Rows.surgeFieldsSpec).bare.plain.varTypes Tryz.prog).any (Tryz.prog.loopsFrom ·)) = true := by kernel_rfl
theorem surgeFields_f17 : (Rows.surgeFieldsRow.wideKeys == (Tryz.f9.params.toList ++ (OpenSpec.ofChange Rows.surgeFieldsSpec).bare.plain.varTypes Tryz.prog ++ Tryz.f9.resultTypes.toList).any (Tryz.prog.wideKeysFrom ·)) = true := by kernel_rfl
theorem surgeFields_f18 : (OpenSpec.ofChange Rows.surgeFieldsSpec).bare.vars.all (Tryz.prog.varReadable ·) = true := by kernel_rfl
theorem surgeFields_f19 : Tryz.f9.resultTypes.all (fun t => Tryz.prog.readableRec t && decide (t < Tryz.prog.types.size)) = true := by kernel_rfl
theorem surgeFields_f20 : (Rows.surgeFieldsRow.ifacesOut == Tryz.f9.resultTypes.toList.any (Tryz.prog.ifacesRec ·)) = true := by kernel_rfl
theorem surgeFields_f21 : (Rows.surgeFieldsRow.loopsOut == Tryz.f9.resultTypes.toList.any (Tryz.prog.loopsFrom ·)) = true := by kernel_rfl
theorem surgeFields_f22 : (Rows.surgeFieldsRow.plainKeys == Tryz.prog.plainKeys) = true := by kernel_rfl
theorem surgeFields_f23 : Rows.surgeFieldsRow.shortTexts.isNone = true := by kernel_rfl
theorem surgeFields_f24 : Tryz.prog.stopsHeard = true := by kernel_rfl
theorem surgeFields_f25 : Tryz.prog.mayEnter = true := by kernel_rfl
theorem surgeFields_f26 : (Rows.surgeFieldsRow.lifted == Tryz.prog.liftsFinal) = true := by kernel_rfl
theorem surgeFields_f27 : (Tryz.prog.make == some Rows.surgeFieldsRow.make) = true := by kernel_rfl
theorem surgeFields_f28 : (Rows.surgeFieldsRow.kinds == (if Rows.surgeFieldsRow.domain.isEmpty then [] else Tryz.f9.params.toList.map fun t => match Tryz.prog.underlying t with | some (.int k) => some k | _ => none)) = true := by kernel_rfl
theorem surgeFields_f29 : (Rows.surgeFieldsRow.pinned == Rows.surgeFieldsRow.pinnedBy) = true := by kernel_rfl
theorem surgeFields_f30 : (Rows.surgeFieldsRow.veiled == (Tryz.f9.params.toList ++ (OpenSpec.ofChange Rows.surgeFieldsSpec).bare.plain.varTypes Tryz.prog ++ Tryz.f9.resultTypes.toList).any (Tryz.prog.veiledRec ·)) = true := by kernel_rfl
theorem surgeFields_f31 : Rows.surgeFieldsRow.veiledFits Tryz.prog Tryz.f9.params.toList (Tryz.f9.params.toList ++ (OpenSpec.ofChange Rows.surgeFieldsSpec).bare.plain.varTypes Tryz.prog ++ Tryz.f9.resultTypes.toList) = true := by kernel_rfl
set_option maxRecDepth 100000 in
theorem surgeFields_joined : joinedFacts Tryz.prog 9 Tryz.f9 (OpenSpec.ofChange Rows.surgeFieldsSpec).bare Rows.surgeFieldsRow = true := Go.Fs.joined_of surgeFields_f0 surgeFields_f1 surgeFields_f2 surgeFields_f3 surgeFields_f4 surgeFields_f5 surgeFields_f6 surgeFields_f7 surgeFields_f8 surgeFields_f9 surgeFields_f10 surgeFields_f11 surgeFields_f12 surgeFields_f13 surgeFields_f14 surgeFields_f15 surgeFields_f16 surgeFields_f17 surgeFields_f18 surgeFields_f19 surgeFields_f20 surgeFields_f21 surgeFields_f22 surgeFields_f23 surgeFields_f24 surgeFields_f25 surgeFields_f26 surgeFields_f27 surgeFields_f28 surgeFields_f29 surgeFields_f30 surgeFields_f31
end Go.Proofs.YtednnfllcafliaaGreatDoor
