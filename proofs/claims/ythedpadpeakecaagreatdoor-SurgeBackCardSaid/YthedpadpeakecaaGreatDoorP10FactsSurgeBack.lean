/- The closed facts of the row of SurgeBack, one by one. No condition. -/
import Derived.Test.YthedpadpeakecaaGreatDoorRows
import Derived.Test.YthedpadpeakecaaGreatDoorP9FsFacts
import Derived.KernelRfl
set_option linter.all false
namespace Go.Proofs.YthedpadpeakecaaGreatDoor
theorem surgeBack_f0 : Rows.surgeBackRow.wf (OpenSpec.ofChange (OpenSpec.ofChange Rows.surgeBackSpec).bare) = true := by kernel_rfl
theorem surgeBack_f1 : laidOutB Tryz.prog = true := by kernel_rfl
theorem surgeBack_f2 : mapsRowed Tryz.prog = true := by kernel_rfl
theorem surgeBack_f3 : Tryz.f4.params.all (Tryz.prog.readableRec ·) = true := by kernel_rfl
theorem surgeBack_f4 : namedTie Tryz.prog Rows.surgeBackRow.named (OpenSpec.ofChange Rows.surgeBackSpec).bare.vars = true := by kernel_rfl
theorem surgeBack_f5 : (Rows.surgeBackRow.stops == []) = true := by kernel_rfl
theorem surgeBack_f6 : (Tryz.prog.stops == []) = true := by kernel_rfl
theorem surgeBack_f7 : (Rows.surgeBackRow.knobs == []) = true := by kernel_rfl
theorem surgeBack_f8 : (Tryz.prog.stopKnobs == []) = true := by kernel_rfl
theorem surgeBack_f9 : (Rows.surgeBackRow.inPlace == Tryz.prog.inPlace 4) = true := by kernel_rfl
theorem surgeBack_f10 : (Rows.surgeBackRow.unfollowed == Tryz.prog.unfollowed 4) = true := by kernel_rfl
theorem surgeBack_f11 : (Rows.surgeBackRow.recurses == Tryz.prog.recurses 4) = true := by kernel_rfl
theorem surgeBack_f12 : (Rows.surgeBackRow.named == Tryz.prog.varsNamed 4) = true := by kernel_rfl
theorem surgeBack_f13 : (Rows.surgeBackRow.maps == (Tryz.f4.params.toList ++ (OpenSpec.ofChange Rows.surgeBackSpec).bare.plain.varTypes Tryz.prog).any (Tryz.prog.mapsRec ·)) = true := by kernel_rfl
theorem surgeBack_f14 : (Rows.surgeBackRow.ifaces == (Tryz.f4.params.toList ++ (OpenSpec.ofChange Rows.surgeBackSpec).bare.plain.varTypes Tryz.prog).any (Tryz.prog.ifacesRec ·)) = true := by kernel_rfl
theorem surgeBack_f15 : (Rows.surgeBackRow.mapsOut == Tryz.prog.mapsAmong Tryz.f4.resultTypes.toList) = true := by kernel_rfl
theorem surgeBack_f16 : (Rows.surgeBackRow.loops == (Tryz.f4.params.toList ++ (OpenSpec.ofChange Rows.surgeBackSpec).bare.plain.varTypes Tryz.prog).any (Tryz.prog.loopsFrom ·)) = true := by kernel_rfl
theorem surgeBack_f17 : (Rows.surgeBackRow.wideKeys == (Tryz.f4.params.toList ++ (OpenSpec.ofChange Rows.surgeBackSpec).bare.plain.varTypes Tryz.prog ++ Tryz.f4.resultTypes.toList).any (Tryz.prog.wideKeysFrom ·)) = true := by kernel_rfl
theorem surgeBack_f18 : (OpenSpec.ofChange Rows.surgeBackSpec).bare.vars.all (Tryz.prog.varReadable ·) = true := by kernel_rfl
theorem surgeBack_f19 : Tryz.f4.resultTypes.all (fun t => Tryz.prog.readableRec t && decide (t < Tryz.prog.types.size)) = true := by kernel_rfl
theorem surgeBack_f20 : (Rows.surgeBackRow.ifacesOut == Tryz.f4.resultTypes.toList.any (Tryz.prog.ifacesRec ·)) = true := by kernel_rfl
theorem surgeBack_f21 : (Rows.surgeBackRow.loopsOut == Tryz.f4.resultTypes.toList.any (Tryz.prog.loopsFrom ·)) = true := by kernel_rfl
theorem surgeBack_f22 : (Rows.surgeBackRow.plainKeys == Tryz.prog.plainKeys) = true := by kernel_rfl
theorem surgeBack_f23 : Rows.surgeBackRow.shortTexts.isNone = true := by kernel_rfl
theorem surgeBack_f24 : Tryz.prog.stopsHeard = true := by kernel_rfl
theorem surgeBack_f25 : Tryz.prog.mayEnter = true := by kernel_rfl
theorem surgeBack_f26 : (Rows.surgeBackRow.lifted == Tryz.prog.liftsFinal) = true := by kernel_rfl
theorem surgeBack_f27 : (Tryz.prog.make == some Rows.surgeBackRow.make) = true := by kernel_rfl
theorem surgeBack_f28 : (Rows.surgeBackRow.kinds == (if Rows.surgeBackRow.domain.isEmpty then [] else Tryz.f4.params.toList.map fun t => match Tryz.prog.underlying t with | some (.int k) => some k | _ => none)) = true := by kernel_rfl
theorem surgeBack_f29 : (Rows.surgeBackRow.pinned == Rows.surgeBackRow.pinnedBy) = true := by kernel_rfl
theorem surgeBack_f30 : (Rows.surgeBackRow.veiled == (Tryz.f4.params.toList ++ (OpenSpec.ofChange Rows.surgeBackSpec).bare.plain.varTypes Tryz.prog ++ Tryz.f4.resultTypes.toList).any (Tryz.prog.veiledRec ·)) = true := by kernel_rfl
theorem surgeBack_f31 : Rows.surgeBackRow.veiledFits Tryz.prog Tryz.f4.params.toList (Tryz.f4.params.toList ++ (OpenSpec.ofChange Rows.surgeBackSpec).bare.plain.varTypes Tryz.prog ++ Tryz.f4.resultTypes.toList) = true := by kernel_rfl
set_option maxRecDepth 100000 in
theorem surgeBack_joined : joinedFacts Tryz.prog 4 Tryz.f4 (OpenSpec.ofChange Rows.surgeBackSpec).bare Rows.surgeBackRow = true := Go.Fs.joined_of surgeBack_f0 surgeBack_f1 surgeBack_f2 surgeBack_f3 surgeBack_f4 surgeBack_f5 surgeBack_f6 surgeBack_f7 surgeBack_f8 surgeBack_f9 surgeBack_f10 surgeBack_f11 surgeBack_f12 surgeBack_f13 surgeBack_f14 surgeBack_f15 surgeBack_f16 surgeBack_f17 surgeBack_f18 surgeBack_f19 surgeBack_f20 surgeBack_f21 surgeBack_f22 surgeBack_f23 surgeBack_f24 surgeBack_f25 surgeBack_f26 surgeBack_f27 surgeBack_f28 surgeBack_f29 surgeBack_f30 surgeBack_f31
end Go.Proofs.YthedpadpeakecaaGreatDoor
