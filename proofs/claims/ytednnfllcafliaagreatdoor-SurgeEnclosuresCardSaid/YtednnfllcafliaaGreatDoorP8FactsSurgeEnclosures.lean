/- The closed facts of the row of SurgeEnclosures, one by one. No condition. -/
import Derived.Test.YtednnfllcafliaaGreatDoorRows
import Derived.Test.YtednnfllcafliaaGreatDoorP7
import Derived.KernelRfl
set_option linter.all false
namespace Go.Proofs.YtednnfllcafliaaGreatDoor
theorem surgeEnclosures_f0 : Rows.surgeEnclosuresRow.wf (OpenSpec.ofChange (OpenSpec.ofChange Rows.surgeEnclosuresSpec).bare) = true := by kernel_rfl
theorem surgeEnclosures_f1 : laidOutB Tryz.prog = true := by kernel_rfl
theorem surgeEnclosures_f2 : mapsRowed Tryz.prog = true := by kernel_rfl
theorem surgeEnclosures_f3 : Tryz.f6.params.all (Tryz.prog.readableRec ·) = true := by kernel_rfl
theorem surgeEnclosures_f4 : namedTie Tryz.prog Rows.surgeEnclosuresRow.named (OpenSpec.ofChange Rows.surgeEnclosuresSpec).bare.vars = true := by kernel_rfl
theorem surgeEnclosures_f5 : (Rows.surgeEnclosuresRow.stops == []) = true := by kernel_rfl
theorem surgeEnclosures_f6 : (Tryz.prog.stops == []) = true := by kernel_rfl
theorem surgeEnclosures_f7 : (Rows.surgeEnclosuresRow.knobs == []) = true := by kernel_rfl
theorem surgeEnclosures_f8 : (Tryz.prog.stopKnobs == []) = true := by kernel_rfl
theorem surgeEnclosures_f9 : (Rows.surgeEnclosuresRow.inPlace == Tryz.prog.inPlace 6) = true := by kernel_rfl
theorem surgeEnclosures_f10 : (Rows.surgeEnclosuresRow.unfollowed == Tryz.prog.unfollowed 6) = true := by kernel_rfl
theorem surgeEnclosures_f11 : (Rows.surgeEnclosuresRow.recurses == Tryz.prog.recurses 6) = true := by kernel_rfl
theorem surgeEnclosures_f12 : (Rows.surgeEnclosuresRow.named == Tryz.prog.varsNamed 6) = true := by kernel_rfl
theorem surgeEnclosures_f13 : (Rows.surgeEnclosuresRow.maps == (Tryz.f6.params.toList ++ (OpenSpec.ofChange Rows.surgeEnclosuresSpec).bare.plain.varTypes Tryz.prog).any (Tryz.prog.mapsRec ·)) = true := by kernel_rfl
theorem surgeEnclosures_f14 : (Rows.surgeEnclosuresRow.ifaces == (Tryz.f6.params.toList ++ (OpenSpec.ofChange Rows.surgeEnclosuresSpec).bare.plain.varTypes Tryz.prog).any (Tryz.prog.ifacesRec ·)) = true := by kernel_rfl
theorem surgeEnclosures_f15 : (Rows.surgeEnclosuresRow.mapsOut == Tryz.prog.mapsAmong Tryz.f6.resultTypes.toList) = true := by kernel_rfl
theorem surgeEnclosures_f16 : (Rows.surgeEnclosuresRow.loops == (Tryz.f6.params.toList ++ (OpenSpec.ofChange Rows.surgeEnclosuresSpec).bare.plain.varTypes Tryz.prog).any (Tryz.prog.loopsFrom ·)) = true := by kernel_rfl
theorem surgeEnclosures_f17 : (Rows.surgeEnclosuresRow.wideKeys == (Tryz.f6.params.toList ++ (OpenSpec.ofChange Rows.surgeEnclosuresSpec).bare.plain.varTypes Tryz.prog ++ Tryz.f6.resultTypes.toList).any (Tryz.prog.wideKeysFrom ·)) = true := by kernel_rfl
theorem surgeEnclosures_f18 : (OpenSpec.ofChange Rows.surgeEnclosuresSpec).bare.vars.all (Tryz.prog.varReadable ·) = true := by kernel_rfl
theorem surgeEnclosures_f19 : Tryz.f6.resultTypes.all (fun t => Tryz.prog.readableRec t && decide (t < Tryz.prog.types.size)) = true := by kernel_rfl
theorem surgeEnclosures_f20 : (Rows.surgeEnclosuresRow.ifacesOut == Tryz.f6.resultTypes.toList.any (Tryz.prog.ifacesRec ·)) = true := by kernel_rfl
theorem surgeEnclosures_f21 : (Rows.surgeEnclosuresRow.loopsOut == Tryz.f6.resultTypes.toList.any (Tryz.prog.loopsFrom ·)) = true := by kernel_rfl
theorem surgeEnclosures_f22 : (Rows.surgeEnclosuresRow.plainKeys == Tryz.prog.plainKeys) = true := by kernel_rfl
theorem surgeEnclosures_f23 : Rows.surgeEnclosuresRow.shortTexts.isNone = true := by kernel_rfl
theorem surgeEnclosures_f24 : Tryz.prog.stopsHeard = true := by kernel_rfl
theorem surgeEnclosures_f25 : Tryz.prog.mayEnter = true := by kernel_rfl
theorem surgeEnclosures_f26 : (Rows.surgeEnclosuresRow.lifted == Tryz.prog.liftsFinal) = true := by kernel_rfl
theorem surgeEnclosures_f27 : (Tryz.prog.make == some Rows.surgeEnclosuresRow.make) = true := by kernel_rfl
theorem surgeEnclosures_f28 : (Rows.surgeEnclosuresRow.kinds == (if Rows.surgeEnclosuresRow.domain.isEmpty then [] else Tryz.f6.params.toList.map fun t => match Tryz.prog.underlying t with | some (.int k) => some k | _ => none)) = true := by kernel_rfl
theorem surgeEnclosures_f29 : (Rows.surgeEnclosuresRow.pinned == Rows.surgeEnclosuresRow.pinnedBy) = true := by kernel_rfl
theorem surgeEnclosures_f30 : (Rows.surgeEnclosuresRow.veiled == (Tryz.f6.params.toList ++ (OpenSpec.ofChange Rows.surgeEnclosuresSpec).bare.plain.varTypes Tryz.prog ++ Tryz.f6.resultTypes.toList).any (Tryz.prog.veiledRec ·)) = true := by kernel_rfl
theorem surgeEnclosures_f31 : Rows.surgeEnclosuresRow.veiledFits Tryz.prog Tryz.f6.params.toList (Tryz.f6.params.toList ++ (OpenSpec.ofChange Rows.surgeEnclosuresSpec).bare.plain.varTypes Tryz.prog ++ Tryz.f6.resultTypes.toList) = true := by kernel_rfl
set_option maxRecDepth 100000 in
theorem surgeEnclosures_joined : joinedFacts Tryz.prog 6 Tryz.f6 (OpenSpec.ofChange Rows.surgeEnclosuresSpec).bare Rows.surgeEnclosuresRow = true := Go.Fs.joined_of surgeEnclosures_f0 surgeEnclosures_f1 surgeEnclosures_f2 surgeEnclosures_f3 surgeEnclosures_f4 surgeEnclosures_f5 surgeEnclosures_f6 surgeEnclosures_f7 surgeEnclosures_f8 surgeEnclosures_f9 surgeEnclosures_f10 surgeEnclosures_f11 surgeEnclosures_f12 surgeEnclosures_f13 surgeEnclosures_f14 surgeEnclosures_f15 surgeEnclosures_f16 surgeEnclosures_f17 surgeEnclosures_f18 surgeEnclosures_f19 surgeEnclosures_f20 surgeEnclosures_f21 surgeEnclosures_f22 surgeEnclosures_f23 surgeEnclosures_f24 surgeEnclosures_f25 surgeEnclosures_f26 surgeEnclosures_f27 surgeEnclosures_f28 surgeEnclosures_f29 surgeEnclosures_f30 surgeEnclosures_f31
end Go.Proofs.YtednnfllcafliaaGreatDoor
