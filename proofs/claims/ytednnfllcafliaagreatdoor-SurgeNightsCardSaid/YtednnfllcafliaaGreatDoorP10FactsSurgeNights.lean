/- The closed facts of the row of SurgeNights, one by one. No condition. -/
import Derived.Test.YtednnfllcafliaaGreatDoorRows
import Derived.Test.YtednnfllcafliaaGreatDoorP9
import Derived.KernelRfl
set_option linter.all false
namespace Go.Proofs.YtednnfllcafliaaGreatDoor
theorem surgeNights_f0 : Rows.surgeNightsRow.wf (OpenSpec.ofChange (OpenSpec.ofChange Rows.surgeNightsSpec).bare) = true := by kernel_rfl
theorem surgeNights_f1 : laidOutB Tryz.prog = true := by kernel_rfl
theorem surgeNights_f2 : mapsRowed Tryz.prog = true := by kernel_rfl
theorem surgeNights_f3 : Tryz.f4.params.all (Tryz.prog.readableRec ·) = true := by kernel_rfl
theorem surgeNights_f4 : namedTie Tryz.prog Rows.surgeNightsRow.named (OpenSpec.ofChange Rows.surgeNightsSpec).bare.vars = true := by kernel_rfl
theorem surgeNights_f5 : (Rows.surgeNightsRow.stops == []) = true := by kernel_rfl
theorem surgeNights_f6 : (Tryz.prog.stops == []) = true := by kernel_rfl
theorem surgeNights_f7 : (Rows.surgeNightsRow.knobs == []) = true := by kernel_rfl
theorem surgeNights_f8 : (Tryz.prog.stopKnobs == []) = true := by kernel_rfl
theorem surgeNights_f9 : (Rows.surgeNightsRow.inPlace == Tryz.prog.inPlace 4) = true := by kernel_rfl
theorem surgeNights_f10 : (Rows.surgeNightsRow.unfollowed == Tryz.prog.unfollowed 4) = true := by kernel_rfl
theorem surgeNights_f11 : (Rows.surgeNightsRow.recurses == Tryz.prog.recurses 4) = true := by kernel_rfl
theorem surgeNights_f12 : (Rows.surgeNightsRow.named == Tryz.prog.varsNamed 4) = true := by kernel_rfl
theorem surgeNights_f13 : (Rows.surgeNightsRow.maps == (Tryz.f4.params.toList ++ (OpenSpec.ofChange Rows.surgeNightsSpec).bare.plain.varTypes Tryz.prog).any (Tryz.prog.mapsRec ·)) = true := by kernel_rfl
theorem surgeNights_f14 : (Rows.surgeNightsRow.ifaces == (Tryz.f4.params.toList ++ (OpenSpec.ofChange Rows.surgeNightsSpec).bare.plain.varTypes Tryz.prog).any (Tryz.prog.ifacesRec ·)) = true := by kernel_rfl
theorem surgeNights_f15 : (Rows.surgeNightsRow.mapsOut == Tryz.prog.mapsAmong Tryz.f4.resultTypes.toList) = true := by kernel_rfl
theorem surgeNights_f16 : (Rows.surgeNightsRow.loops == (Tryz.f4.params.toList ++ (OpenSpec.ofChange Rows.surgeNightsSpec).bare.plain.varTypes Tryz.prog).any (Tryz.prog.loopsFrom ·)) = true := by kernel_rfl
theorem surgeNights_f17 : (Rows.surgeNightsRow.wideKeys == (Tryz.f4.params.toList ++ (OpenSpec.ofChange Rows.surgeNightsSpec).bare.plain.varTypes Tryz.prog ++ Tryz.f4.resultTypes.toList).any (Tryz.prog.wideKeysFrom ·)) = true := by kernel_rfl
theorem surgeNights_f18 : (OpenSpec.ofChange Rows.surgeNightsSpec).bare.vars.all (Tryz.prog.varReadable ·) = true := by kernel_rfl
theorem surgeNights_f19 : Tryz.f4.resultTypes.all (fun t => Tryz.prog.readableRec t && decide (t < Tryz.prog.types.size)) = true := by kernel_rfl
theorem surgeNights_f20 : (Rows.surgeNightsRow.ifacesOut == Tryz.f4.resultTypes.toList.any (Tryz.prog.ifacesRec ·)) = true := by kernel_rfl
theorem surgeNights_f21 : (Rows.surgeNightsRow.loopsOut == Tryz.f4.resultTypes.toList.any (Tryz.prog.loopsFrom ·)) = true := by kernel_rfl
theorem surgeNights_f22 : (Rows.surgeNightsRow.plainKeys == Tryz.prog.plainKeys) = true := by kernel_rfl
theorem surgeNights_f23 : Rows.surgeNightsRow.shortTexts.isNone = true := by kernel_rfl
theorem surgeNights_f24 : Tryz.prog.stopsHeard = true := by kernel_rfl
theorem surgeNights_f25 : Tryz.prog.mayEnter = true := by kernel_rfl
theorem surgeNights_f26 : (Rows.surgeNightsRow.lifted == Tryz.prog.liftsFinal) = true := by kernel_rfl
theorem surgeNights_f27 : (Tryz.prog.make == some Rows.surgeNightsRow.make) = true := by kernel_rfl
theorem surgeNights_f28 : (Rows.surgeNightsRow.kinds == (if Rows.surgeNightsRow.domain.isEmpty then [] else Tryz.f4.params.toList.map fun t => match Tryz.prog.underlying t with | some (.int k) => some k | _ => none)) = true := by kernel_rfl
theorem surgeNights_f29 : (Rows.surgeNightsRow.pinned == Rows.surgeNightsRow.pinnedBy) = true := by kernel_rfl
theorem surgeNights_f30 : (Rows.surgeNightsRow.veiled == (Tryz.f4.params.toList ++ (OpenSpec.ofChange Rows.surgeNightsSpec).bare.plain.varTypes Tryz.prog ++ Tryz.f4.resultTypes.toList).any (Tryz.prog.veiledRec ·)) = true := by kernel_rfl
theorem surgeNights_f31 : Rows.surgeNightsRow.veiledFits Tryz.prog Tryz.f4.params.toList (Tryz.f4.params.toList ++ (OpenSpec.ofChange Rows.surgeNightsSpec).bare.plain.varTypes Tryz.prog ++ Tryz.f4.resultTypes.toList) = true := by kernel_rfl
set_option maxRecDepth 100000 in
theorem surgeNights_joined : joinedFacts Tryz.prog 4 Tryz.f4 (OpenSpec.ofChange Rows.surgeNightsSpec).bare Rows.surgeNightsRow = true := Go.Fs.joined_of surgeNights_f0 surgeNights_f1 surgeNights_f2 surgeNights_f3 surgeNights_f4 surgeNights_f5 surgeNights_f6 surgeNights_f7 surgeNights_f8 surgeNights_f9 surgeNights_f10 surgeNights_f11 surgeNights_f12 surgeNights_f13 surgeNights_f14 surgeNights_f15 surgeNights_f16 surgeNights_f17 surgeNights_f18 surgeNights_f19 surgeNights_f20 surgeNights_f21 surgeNights_f22 surgeNights_f23 surgeNights_f24 surgeNights_f25 surgeNights_f26 surgeNights_f27 surgeNights_f28 surgeNights_f29 surgeNights_f30 surgeNights_f31
end Go.Proofs.YtednnfllcafliaaGreatDoor
