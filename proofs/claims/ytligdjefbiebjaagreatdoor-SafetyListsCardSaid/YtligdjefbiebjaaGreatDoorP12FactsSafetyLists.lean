/- The closed facts of the row of SafetyLists, one by one. No condition. -/
import Derived.Test.YtligdjefbiebjaaGreatDoorRows
import Derived.Test.YtligdjefbiebjaaGreatDoorP11FsFacts
import Derived.KernelRfl
set_option linter.all false
namespace Go.Proofs.YtligdjefbiebjaaGreatDoor
theorem safetyLists_f0 : Rows.safetyListsRow.wf (OpenSpec.ofChange (OpenSpec.ofChange Rows.safetyListsSpec).bare) = true := by kernel_rfl
theorem safetyLists_f1 : laidOutB Tryz.prog = true := by kernel_rfl
theorem safetyLists_f2 : mapsRowed Tryz.prog = true := by kernel_rfl
theorem safetyLists_f3 : Tryz.f12.params.all (Tryz.prog.readableRec ·) = true := by kernel_rfl
theorem safetyLists_f4 : namedTie Tryz.prog Rows.safetyListsRow.named (OpenSpec.ofChange Rows.safetyListsSpec).bare.vars = true := by kernel_rfl
theorem safetyLists_f5 : (Rows.safetyListsRow.stops == []) = true := by kernel_rfl
theorem safetyLists_f6 : (Tryz.prog.stops == []) = true := by kernel_rfl
theorem safetyLists_f7 : (Rows.safetyListsRow.knobs == []) = true := by kernel_rfl
theorem safetyLists_f8 : (Tryz.prog.stopKnobs == []) = true := by kernel_rfl
theorem safetyLists_f9 : (Rows.safetyListsRow.inPlace == Tryz.prog.inPlace 12) = true := by kernel_rfl
theorem safetyLists_f10 : (Rows.safetyListsRow.unfollowed == Tryz.prog.unfollowed 12) = true := by kernel_rfl
theorem safetyLists_f11 : (Rows.safetyListsRow.recurses == Tryz.prog.recurses 12) = true := by kernel_rfl
theorem safetyLists_f12 : (Rows.safetyListsRow.named == Tryz.prog.varsNamed 12) = true := by kernel_rfl
theorem safetyLists_f13 : (Rows.safetyListsRow.maps == (Tryz.f12.params.toList ++ (OpenSpec.ofChange Rows.safetyListsSpec).bare.plain.varTypes Tryz.prog).any (Tryz.prog.mapsRec ·)) = true := by kernel_rfl
theorem safetyLists_f14 : (Rows.safetyListsRow.ifaces == (Tryz.f12.params.toList ++ (OpenSpec.ofChange Rows.safetyListsSpec).bare.plain.varTypes Tryz.prog).any (Tryz.prog.ifacesRec ·)) = true := by kernel_rfl
theorem safetyLists_f15 : (Rows.safetyListsRow.mapsOut == Tryz.prog.mapsAmong Tryz.f12.resultTypes.toList) = true := by kernel_rfl
theorem safetyLists_f16 : (Rows.safetyListsRow.loops == (Tryz.f12.params.toList ++ (OpenSpec.ofChange Rows.safetyListsSpec).bare.plain.varTypes Tryz.prog).any (Tryz.prog.loopsFrom ·)) = true := by kernel_rfl
theorem safetyLists_f17 : (Rows.safetyListsRow.wideKeys == (Tryz.f12.params.toList ++ (OpenSpec.ofChange Rows.safetyListsSpec).bare.plain.varTypes Tryz.prog ++ Tryz.f12.resultTypes.toList).any (Tryz.prog.wideKeysFrom ·)) = true := by kernel_rfl
theorem safetyLists_f18 : (OpenSpec.ofChange Rows.safetyListsSpec).bare.vars.all (Tryz.prog.varReadable ·) = true := by kernel_rfl
theorem safetyLists_f19 : Tryz.f12.resultTypes.all (fun t => Tryz.prog.readableRec t && decide (t < Tryz.prog.types.size)) = true := by kernel_rfl
theorem safetyLists_f20 : (Rows.safetyListsRow.ifacesOut == Tryz.f12.resultTypes.toList.any (Tryz.prog.ifacesRec ·)) = true := by kernel_rfl
theorem safetyLists_f21 : (Rows.safetyListsRow.loopsOut == Tryz.f12.resultTypes.toList.any (Tryz.prog.loopsFrom ·)) = true := by kernel_rfl
theorem safetyLists_f22 : (Rows.safetyListsRow.plainKeys == Tryz.prog.plainKeys) = true := by kernel_rfl
theorem safetyLists_f23 : Rows.safetyListsRow.shortTexts.isNone = true := by kernel_rfl
theorem safetyLists_f24 : Tryz.prog.stopsHeard = true := by kernel_rfl
theorem safetyLists_f25 : Tryz.prog.mayEnter = true := by kernel_rfl
theorem safetyLists_f26 : (Rows.safetyListsRow.lifted == Tryz.prog.liftsFinal) = true := by kernel_rfl
theorem safetyLists_f27 : (Tryz.prog.make == some Rows.safetyListsRow.make) = true := by kernel_rfl
theorem safetyLists_f28 : (Rows.safetyListsRow.kinds == (if Rows.safetyListsRow.domain.isEmpty then [] else Tryz.f12.params.toList.map fun t => match Tryz.prog.underlying t with | some (.int k) => some k | _ => none)) = true := by kernel_rfl
theorem safetyLists_f29 : (Rows.safetyListsRow.pinned == Rows.safetyListsRow.pinnedBy) = true := by kernel_rfl
theorem safetyLists_f30 : (Rows.safetyListsRow.veiled == (Tryz.f12.params.toList ++ (OpenSpec.ofChange Rows.safetyListsSpec).bare.plain.varTypes Tryz.prog ++ Tryz.f12.resultTypes.toList).any (Tryz.prog.veiledRec ·)) = true := by kernel_rfl
theorem safetyLists_f31 : Rows.safetyListsRow.veiledFits Tryz.prog Tryz.f12.params.toList (Tryz.f12.params.toList ++ (OpenSpec.ofChange Rows.safetyListsSpec).bare.plain.varTypes Tryz.prog ++ Tryz.f12.resultTypes.toList) = true := by kernel_rfl
set_option maxRecDepth 100000 in
theorem safetyLists_joined : joinedFacts Tryz.prog 12 Tryz.f12 (OpenSpec.ofChange Rows.safetyListsSpec).bare Rows.safetyListsRow = true := Go.Fs.joined_of safetyLists_f0 safetyLists_f1 safetyLists_f2 safetyLists_f3 safetyLists_f4 safetyLists_f5 safetyLists_f6 safetyLists_f7 safetyLists_f8 safetyLists_f9 safetyLists_f10 safetyLists_f11 safetyLists_f12 safetyLists_f13 safetyLists_f14 safetyLists_f15 safetyLists_f16 safetyLists_f17 safetyLists_f18 safetyLists_f19 safetyLists_f20 safetyLists_f21 safetyLists_f22 safetyLists_f23 safetyLists_f24 safetyLists_f25 safetyLists_f26 safetyLists_f27 safetyLists_f28 safetyLists_f29 safetyLists_f30 safetyLists_f31
end Go.Proofs.YtligdjefbiebjaaGreatDoor
