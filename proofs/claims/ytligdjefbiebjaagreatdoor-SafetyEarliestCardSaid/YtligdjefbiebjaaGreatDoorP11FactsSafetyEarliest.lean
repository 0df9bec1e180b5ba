/- The closed facts of the row of SafetyEarliest, one by one. No condition. -/
import Derived.Test.YtligdjefbiebjaaGreatDoorRows
import Derived.Test.YtligdjefbiebjaaGreatDoorP10FsFacts
import Derived.KernelRfl
set_option linter.all false
namespace Go.Proofs.YtligdjefbiebjaaGreatDoor
theorem safetyEarliest_f0 : Rows.safetyEarliestRow.wf (OpenSpec.ofChange (OpenSpec.ofChange Rows.safetyEarliestSpec).bare) = true := by kernel_rfl
theorem safetyEarliest_f1 : laidOutB Tryz.prog = true := by kernel_rfl
theorem safetyEarliest_f2 : mapsRowed Tryz.prog = true := by kernel_rfl
theorem safetyEarliest_f3 : Tryz.f5.params.all (Tryz.prog.readableRec ·) = true := by kernel_rfl
theorem safetyEarliest_f4 : namedTie Tryz.prog Rows.safetyEarliestRow.named (OpenSpec.ofChange Rows.safetyEarliestSpec).bare.vars = true := by kernel_rfl
theorem safetyEarliest_f5 : (Rows.safetyEarliestRow.stops == []) = true := by kernel_rfl
theorem safetyEarliest_f6 : (Tryz.prog.stops == []) = true := by kernel_rfl
theorem safetyEarliest_f7 : (Rows.safetyEarliestRow.knobs == []) = true := by kernel_rfl
theorem safetyEarliest_f8 : (Tryz.prog.stopKnobs == []) = true := by kernel_rfl
theorem safetyEarliest_f9 : (Rows.safetyEarliestRow.inPlace == Tryz.prog.inPlace 5) = true := by kernel_rfl
theorem safetyEarliest_f10 : (Rows.safetyEarliestRow.unfollowed == Tryz.prog.unfollowed 5) = true := by kernel_rfl
theorem safetyEarliest_f11 : (Rows.safetyEarliestRow.recurses == Tryz.prog.recurses 5) = true := by kernel_rfl
theorem safetyEarliest_f12 : (Rows.safetyEarliestRow.named == Tryz.prog.varsNamed 5) = true := by kernel_rfl
theorem safetyEarliest_f13 : (Rows.safetyEarliestRow.maps == (Tryz.f5.params.toList ++ (OpenSpec.ofChange Rows.safetyEarliestSpec).bare.plain.varTypes Tryz.prog).any (Tryz.prog.mapsRec ·)) = true := by kernel_rfl
theorem safetyEarliest_f14 : (Rows.safetyEarliestRow.ifaces == (Tryz.f5.params.toList ++ (OpenSpec.ofChange Rows.safetyEarliestSpec).bare.plain.varTypes Tryz.prog).any (Tryz.prog.ifacesRec ·)) = true := by kernel_rfl
theorem safetyEarliest_f15 : (Rows.safetyEarliestRow.mapsOut == Tryz.prog.mapsAmong Tryz.f5.resultTypes.toList) = true := by kernel_rfl
theorem safetyEarliest_f16 : (Rows.safetyEarliestRow.loops == (Tryz.f5.params.toList ++ (OpenSpec.ofChange Rows.safetyEarliestSpec).bare.plain.varTypes Tryz.prog).any (Tryz.prog.loopsFrom ·)) = true := by kernel_rfl
theorem safetyEarliest_f17 : (Rows.safetyEarliestRow.wideKeys == (Tryz.f5.params.toList ++ (OpenSpec.ofChange Rows.safetyEarliestSpec).bare.plain.varTypes Tryz.prog ++ Tryz.f5.resultTypes.toList).any (Tryz.prog.wideKeysFrom ·)) = true := by kernel_rfl
theorem safetyEarliest_f18 : (OpenSpec.ofChange Rows.safetyEarliestSpec).bare.vars.all (Tryz.prog.varReadable ·) = true := by kernel_rfl
theorem safetyEarliest_f19 : Tryz.f5.resultTypes.all (fun t => Tryz.prog.readableRec t && decide (t < Tryz.prog.types.size)) = true := by kernel_rfl
theorem safetyEarliest_f20 : (Rows.safetyEarliestRow.ifacesOut == Tryz.f5.resultTypes.toList.any (Tryz.prog.ifacesRec ·)) = true := by kernel_rfl
theorem safetyEarliest_f21 : (Rows.safetyEarliestRow.loopsOut == Tryz.f5.resultTypes.toList.any (Tryz.prog.loopsFrom ·)) = true := by kernel_rfl
theorem safetyEarliest_f22 : (Rows.safetyEarliestRow.plainKeys == Tryz.prog.plainKeys) = true := by kernel_rfl
theorem safetyEarliest_f23 : Rows.safetyEarliestRow.shortTexts.isNone = true := by kernel_rfl
theorem safetyEarliest_f24 : Tryz.prog.stopsHeard = true := by kernel_rfl
theorem safetyEarliest_f25 : Tryz.prog.mayEnter = true := by kernel_rfl
theorem safetyEarliest_f26 : (Rows.safetyEarliestRow.lifted == Tryz.prog.liftsFinal) = true := by kernel_rfl
theorem safetyEarliest_f27 : (Tryz.prog.make == some Rows.safetyEarliestRow.make) = true := by kernel_rfl
theorem safetyEarliest_f28 : (Rows.safetyEarliestRow.kinds == (if Rows.safetyEarliestRow.domain.isEmpty then [] else Tryz.f5.params.toList.map fun t => match Tryz.prog.underlying t with | some (.int k) => some k | _ => none)) = true := by kernel_rfl
theorem safetyEarliest_f29 : (Rows.safetyEarliestRow.pinned == Rows.safetyEarliestRow.pinnedBy) = true := by kernel_rfl
theorem safetyEarliest_f30 : (Rows.safetyEarliestRow.veiled == (Tryz.f5.params.toList ++ (OpenSpec.ofChange Rows.safetyEarliestSpec).bare.plain.varTypes Tryz.prog ++ Tryz.f5.resultTypes.toList).any (Tryz.prog.veiledRec ·)) = true := by kernel_rfl
theorem safetyEarliest_f31 : Rows.safetyEarliestRow.veiledFits Tryz.prog Tryz.f5.params.toList (Tryz.f5.params.toList ++ (OpenSpec.ofChange Rows.safetyEarliestSpec).bare.plain.varTypes Tryz.prog ++ Tryz.f5.resultTypes.toList) = true := by kernel_rfl
set_option maxRecDepth 100000 in
theorem safetyEarliest_joined : joinedFacts Tryz.prog 5 Tryz.f5 (OpenSpec.ofChange Rows.safetyEarliestSpec).bare Rows.safetyEarliestRow = true := Go.Fs.joined_of safetyEarliest_f0 safetyEarliest_f1 safetyEarliest_f2 safetyEarliest_f3 safetyEarliest_f4 safetyEarliest_f5 safetyEarliest_f6 safetyEarliest_f7 safetyEarliest_f8 safetyEarliest_f9 safetyEarliest_f10 safetyEarliest_f11 safetyEarliest_f12 safetyEarliest_f13 safetyEarliest_f14 safetyEarliest_f15 safetyEarliest_f16 safetyEarliest_f17 safetyEarliest_f18 safetyEarliest_f19 safetyEarliest_f20 safetyEarliest_f21 safetyEarliest_f22 safetyEarliest_f23 safetyEarliest_f24 safetyEarliest_f25 safetyEarliest_f26 safetyEarliest_f27 safetyEarliest_f28 safetyEarliest_f29 safetyEarliest_f30 safetyEarliest_f31
end Go.Proofs.YtligdjefbiebjaaGreatDoor
