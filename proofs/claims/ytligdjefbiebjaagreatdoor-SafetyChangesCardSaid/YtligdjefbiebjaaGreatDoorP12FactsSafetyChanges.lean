/- The closed facts of the row of SafetyChanges, one by one. No condition. -/
import Derived.Test.YtligdjefbiebjaaGreatDoorRows
import Derived.Test.YtligdjefbiebjaaGreatDoorP11FsFacts
import Derived.KernelRfl
set_option linter.all false
namespace Go.Proofs.YtligdjefbiebjaaGreatDoor
theorem safetyChanges_f0 : Rows.safetyChangesRow.wf (OpenSpec.ofChange (OpenSpec.ofChange Rows.safetyChangesSpec).bare) = true := by kernel_rfl
theorem safetyChanges_f1 : laidOutB Tryz.prog = true := by kernel_rfl
theorem safetyChanges_f2 : mapsRowed Tryz.prog = true := by kernel_rfl
theorem safetyChanges_f3 : Tryz.f7.params.all (Tryz.prog.readableRec ·) = true := by kernel_rfl
theorem safetyChanges_f4 : namedTie Tryz.prog Rows.safetyChangesRow.named (OpenSpec.ofChange Rows.safetyChangesSpec).bare.vars = true := by kernel_rfl
theorem safetyChanges_f5 : (Rows.safetyChangesRow.stops == []) = true := by kernel_rfl
theorem safetyChanges_f6 : (Tryz.prog.stops == []) = true := by kernel_rfl
theorem safetyChanges_f7 : (Rows.safetyChangesRow.knobs == []) = true := by kernel_rfl
theorem safetyChanges_f8 : (Tryz.prog.stopKnobs == []) = true := by kernel_rfl
theorem safetyChanges_f9 : (Rows.safetyChangesRow.inPlace == Tryz.prog.inPlace 7) = true := by kernel_rfl
theorem safetyChanges_f10 : (Rows.safetyChangesRow.unfollowed == Tryz.prog.unfollowed 7) = true := by kernel_rfl
theorem safetyChanges_f11 : (Rows.safetyChangesRow.recurses == Tryz.prog.recurses 7) = true := by kernel_rfl
theorem safetyChanges_f12 : (Rows.safetyChangesRow.named == Tryz.prog.varsNamed 7) = true := by kernel_rfl
theorem safetyChanges_f13 : (Rows.safetyChangesRow.maps == (Tryz.f7.params.toList ++ (OpenSpec.ofChange Rows.safetyChangesSpec).bare.plain.varTypes Tryz.prog).any (Tryz.prog.mapsRec ·)) = true := by kernel_rfl
theorem safetyChanges_f14 : (Rows.safetyChangesRow.ifaces == (Tryz.f7.params.toList ++ (OpenSpec.ofChange Rows.safetyChangesSpec).bare.plain.varTypes Tryz.prog).any (Tryz.prog.ifacesRec ·)) = true := by kernel_rfl
theorem safetyChanges_f15 : (Rows.safetyChangesRow.mapsOut == Tryz.prog.mapsAmong Tryz.f7.resultTypes.toList) = true := by kernel_rfl
theorem safetyChanges_f16 : (Rows.safetyChangesRow.loops == (Tryz.f7.params.toList ++ (OpenSpec.ofChange Rows.safetyChangesSpec).bare.plain.varTypes Tryz.prog).any (Tryz.prog.loopsFrom ·)) = true := by kernel_rfl
theorem safetyChanges_f17 : (Rows.safetyChangesRow.wideKeys == (Tryz.f7.params.toList ++ (OpenSpec.ofChange Rows.safetyChangesSpec).bare.plain.varTypes Tryz.prog ++ Tryz.f7.resultTypes.toList).any (Tryz.prog.wideKeysFrom ·)) = true := by kernel_rfl
theorem safetyChanges_f18 : (OpenSpec.ofChange Rows.safetyChangesSpec).bare.vars.all (Tryz.prog.varReadable ·) = true := by kernel_rfl
theorem safetyChanges_f19 : Tryz.f7.resultTypes.all (fun t => Tryz.prog.readableRec t && decide (t < Tryz.prog.types.size)) = true := by kernel_rfl
theorem safetyChanges_f20 : (Rows.safetyChangesRow.ifacesOut == Tryz.f7.resultTypes.toList.any (Tryz.prog.ifacesRec ·)) = true := by kernel_rfl
theorem safetyChanges_f21 : (Rows.safetyChangesRow.loopsOut == Tryz.f7.resultTypes.toList.any (Tryz.prog.loopsFrom ·)) = true := by kernel_rfl
theorem safetyChanges_f22 : (Rows.safetyChangesRow.plainKeys == Tryz.prog.plainKeys) = true := by kernel_rfl
theorem safetyChanges_f23 : Rows.safetyChangesRow.shortTexts.isNone = true := by kernel_rfl
theorem safetyChanges_f24 : Tryz.prog.stopsHeard = true := by kernel_rfl
theorem safetyChanges_f25 : Tryz.prog.mayEnter = true := by kernel_rfl
theorem safetyChanges_f26 : (Rows.safetyChangesRow.lifted == Tryz.prog.liftsFinal) = true := by kernel_rfl
theorem safetyChanges_f27 : (Tryz.prog.make == some Rows.safetyChangesRow.make) = true := by kernel_rfl
theorem safetyChanges_f28 : (Rows.safetyChangesRow.kinds == (if Rows.safetyChangesRow.domain.isEmpty then [] else Tryz.f7.params.toList.map fun t => match Tryz.prog.underlying t with | some (.int k) => some k | _ => none)) = true := by kernel_rfl
theorem safetyChanges_f29 : (Rows.safetyChangesRow.pinned == Rows.safetyChangesRow.pinnedBy) = true := by kernel_rfl
theorem safetyChanges_f30 : (Rows.safetyChangesRow.veiled == (Tryz.f7.params.toList ++ (OpenSpec.ofChange Rows.safetyChangesSpec).bare.plain.varTypes Tryz.prog ++ Tryz.f7.resultTypes.toList).any (Tryz.prog.veiledRec ·)) = true := by kernel_rfl
theorem safetyChanges_f31 : Rows.safetyChangesRow.veiledFits Tryz.prog Tryz.f7.params.toList (Tryz.f7.params.toList ++ (OpenSpec.ofChange Rows.safetyChangesSpec).bare.plain.varTypes Tryz.prog ++ Tryz.f7.resultTypes.toList) = true := by kernel_rfl
set_option maxRecDepth 100000 in
theorem safetyChanges_joined : joinedFacts Tryz.prog 7 Tryz.f7 (OpenSpec.ofChange Rows.safetyChangesSpec).bare Rows.safetyChangesRow = true := Go.Fs.joined_of safetyChanges_f0 safetyChanges_f1 safetyChanges_f2 safetyChanges_f3 safetyChanges_f4 safetyChanges_f5 safetyChanges_f6 safetyChanges_f7 safetyChanges_f8 safetyChanges_f9 safetyChanges_f10 safetyChanges_f11 safetyChanges_f12 safetyChanges_f13 safetyChanges_f14 safetyChanges_f15 safetyChanges_f16 safetyChanges_f17 safetyChanges_f18 safetyChanges_f19 safetyChanges_f20 safetyChanges_f21 safetyChanges_f22 safetyChanges_f23 safetyChanges_f24 safetyChanges_f25 safetyChanges_f26 safetyChanges_f27 safetyChanges_f28 safetyChanges_f29 safetyChanges_f30 safetyChanges_f31
end Go.Proofs.YtligdjefbiebjaaGreatDoor
