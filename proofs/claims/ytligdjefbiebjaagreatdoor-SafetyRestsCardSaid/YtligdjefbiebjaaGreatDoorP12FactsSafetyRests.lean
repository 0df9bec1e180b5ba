/- The closed facts of the row of SafetyRests, one by one. No condition. -/
import Derived.Test.YtligdjefbiebjaaGreatDoorRows
import Derived.Test.YtligdjefbiebjaaGreatDoorP11FsFacts
import Derived.KernelRfl
set_option linter.all false
namespace Go.Proofs.YtligdjefbiebjaaGreatDoor
theorem safetyRests_f0 : Rows.safetyRestsRow.wf (OpenSpec.ofChange (OpenSpec.ofChange Rows.safetyRestsSpec).bare) = true := by kernel_rfl
theorem safetyRests_f1 : laidOutB Tryz.prog = true := by kernel_rfl
theorem safetyRests_f2 : mapsRowed Tryz.prog = true := by kernel_rfl
theorem safetyRests_f3 : Tryz.f11.params.all (Tryz.prog.readableRec ·) = true := by kernel_rfl
theorem safetyRests_f4 : namedTie Tryz.prog Rows.safetyRestsRow.named (OpenSpec.ofChange Rows.safetyRestsSpec).bare.vars = true := by kernel_rfl
theorem safetyRests_f5 : (Rows.safetyRestsRow.stops == []) = true := by kernel_rfl
theorem safetyRests_f6 : (Tryz.prog.stops == []) = true := by kernel_rfl
theorem safetyRests_f7 : (Rows.safetyRestsRow.knobs == []) = true := by kernel_rfl
theorem safetyRests_f8 : (Tryz.prog.stopKnobs == []) = true := by kernel_rfl
theorem safetyRests_f9 : (Rows.safetyRestsRow.inPlace == Tryz.prog.inPlace 11) = true := by kernel_rfl
theorem safetyRests_f10 : (Rows.safetyRestsRow.unfollowed == Tryz.prog.unfollowed 11) = true := by kernel_rfl
theorem safetyRests_f11 : (Rows.safetyRestsRow.recurses == Tryz.prog.recurses 11) = true := by kernel_rfl
theorem safetyRests_f12 : (Rows.safetyRestsRow.named == Tryz.prog.varsNamed 11) = true := by kernel_rfl
theorem safetyRests_f13 : (Rows.safetyRestsRow.maps == (Tryz.f11.params.toList ++ (OpenSpec.ofChange Rows.safetyRestsSpec).bare.plain.varTypes Tryz.prog).any (Tryz.prog.mapsRec ·)) = true := by kernel_rfl
theorem safetyRests_f14 : (Rows.safetyRestsRow.ifaces == (Tryz.f11.params.toList ++ (OpenSpec.ofChange Rows.safetyRestsSpec).bare.plain.varTypes Tryz.prog).any (Tryz.prog.ifacesRec ·)) = true := by kernel_rfl
theorem safetyRests_f15 : (Rows.safetyRestsRow.mapsOut == Tryz.prog.mapsAmong Tryz.f11.resultTypes.toList) = true := by kernel_rfl
theorem safetyRests_f16 : (Rows.safetyRestsRow.loops == (Tryz.f11.params.toList ++ (OpenSpec.ofChange Rows.safetyRestsSpec).bare.plain.varTypes Tryz.prog).any (Tryz.prog.loopsFrom ·)) = true := by kernel_rfl
theorem safetyRests_f17 : (Rows.safetyRestsRow.wideKeys == (Tryz.f11.params.toList ++ (OpenSpec.ofChange Rows.safetyRestsSpec).bare.plain.varTypes Tryz.prog ++ Tryz.f11.resultTypes.toList).any (Tryz.prog.wideKeysFrom ·)) = true := by kernel_rfl
theorem safetyRests_f18 : (OpenSpec.ofChange Rows.safetyRestsSpec).bare.vars.all (Tryz.prog.varReadable ·) = true := by kernel_rfl
theorem safetyRests_f19 : Tryz.f11.resultTypes.all (fun t => Tryz.prog.readableRec t && decide (t < Tryz.prog.types.size)) = true := by kernel_rfl
theorem safetyRests_f20 : (Rows.safetyRestsRow.ifacesOut == Tryz.f11.resultTypes.toList.any (Tryz.prog.ifacesRec ·)) = true := by kernel_rfl
theorem safetyRests_f21 : (Rows.safetyRestsRow.loopsOut == Tryz.f11.resultTypes.toList.any (Tryz.prog.loopsFrom ·)) = true := by kernel_rfl
theorem safetyRests_f22 : (Rows.safetyRestsRow.plainKeys == Tryz.prog.plainKeys) = true := by kernel_rfl
theorem safetyRests_f23 : Rows.safetyRestsRow.shortTexts.isNone = true := by kernel_rfl
theorem safetyRests_f24 : Tryz.prog.stopsHeard = true := by kernel_rfl
theorem safetyRests_f25 : Tryz.prog.mayEnter = true := by kernel_rfl
theorem safetyRests_f26 : (Rows.safetyRestsRow.lifted == Tryz.prog.liftsFinal) = true := by kernel_rfl
theorem safetyRests_f27 : (Tryz.prog.make == some Rows.safetyRestsRow.make) = true := by kernel_rfl
theorem safetyRests_f28 : (Rows.safetyRestsRow.kinds == (if Rows.safetyRestsRow.domain.isEmpty then [] else Tryz.f11.params.toList.map fun t => match Tryz.prog.underlying t with | some (.int k) => some k | _ => none)) = true := by kernel_rfl
theorem safetyRests_f29 : (Rows.safetyRestsRow.pinned == Rows.safetyRestsRow.pinnedBy) = true := by kernel_rfl
theorem safetyRests_f30 : (Rows.safetyRestsRow.veiled == (Tryz.f11.params.toList ++ (OpenSpec.ofChange Rows.safetyRestsSpec).bare.plain.varTypes Tryz.prog ++ Tryz.f11.resultTypes.toList).any (Tryz.prog.veiledRec ·)) = true := by kernel_rfl
theorem safetyRests_f31 : Rows.safetyRestsRow.veiledFits Tryz.prog Tryz.f11.params.toList (Tryz.f11.params.toList ++ (OpenSpec.ofChange Rows.safetyRestsSpec).bare.plain.varTypes Tryz.prog ++ Tryz.f11.resultTypes.toList) = true := by kernel_rfl
set_option maxRecDepth 100000 in
theorem safetyRests_joined : joinedFacts Tryz.prog 11 Tryz.f11 (OpenSpec.ofChange Rows.safetyRestsSpec).bare Rows.safetyRestsRow = true := Go.Fs.joined_of safetyRests_f0 safetyRests_f1 safetyRests_f2 safetyRests_f3 safetyRests_f4 safetyRests_f5 safetyRests_f6 safetyRests_f7 safetyRests_f8 safetyRests_f9 safetyRests_f10 safetyRests_f11 safetyRests_f12 safetyRests_f13 safetyRests_f14 safetyRests_f15 safetyRests_f16 safetyRests_f17 safetyRests_f18 safetyRests_f19 safetyRests_f20 safetyRests_f21 safetyRests_f22 safetyRests_f23 safetyRests_f24 safetyRests_f25 safetyRests_f26 safetyRests_f27 safetyRests_f28 safetyRests_f29 safetyRests_f30 safetyRests_f31
end Go.Proofs.YtligdjefbiebjaaGreatDoor
