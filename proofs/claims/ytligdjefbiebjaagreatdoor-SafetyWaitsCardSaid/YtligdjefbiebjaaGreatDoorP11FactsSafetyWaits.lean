/- The closed facts of the row of SafetyWaits, one by one. No condition. -/
import Derived.Test.YtligdjefbiebjaaGreatDoorRows
import Derived.Test.YtligdjefbiebjaaGreatDoorP10FsFacts
import Derived.KernelRfl
set_option linter.all false
namespace Go.Proofs.YtligdjefbiebjaaGreatDoor
theorem safetyWaits_f0 : Rows.safetyWaitsRow.wf (OpenSpec.ofChange (OpenSpec.ofChange Rows.safetyWaitsSpec).bare) = true := by kernel_rfl
theorem safetyWaits_f1 : laidOutB Tryz.prog = true := by kernel_rfl
theorem safetyWaits_f2 : mapsRowed Tryz.prog = true := by kernel_rfl
theorem safetyWaits_f3 : Tryz.f8.params.all (Tryz.prog.readableRec ·) = true := by kernel_rfl
theorem safetyWaits_f4 : namedTie Tryz.prog Rows.safetyWaitsRow.named (OpenSpec.ofChange Rows.safetyWaitsSpec).bare.vars = true := by kernel_rfl
theorem safetyWaits_f5 : (Rows.safetyWaitsRow.stops == []) = true := by kernel_rfl
theorem safetyWaits_f6 : (Tryz.prog.stops == []) = true := by kernel_rfl
theorem safetyWaits_f7 : (Rows.safetyWaitsRow.knobs == []) = true := by kernel_rfl
theorem safetyWaits_f8 : (Tryz.prog.stopKnobs == []) = true := by kernel_rfl
theorem safetyWaits_f9 : (Rows.safetyWaitsRow.inPlace == Tryz.prog.inPlace 8) = true := by kernel_rfl
theorem safetyWaits_f10 : (Rows.safetyWaitsRow.unfollowed == Tryz.prog.unfollowed 8) = true := by kernel_rfl
theorem safetyWaits_f11 : (Rows.safetyWaitsRow.recurses == Tryz.prog.recurses 8) = true := by kernel_rfl
theorem safetyWaits_f12 : (Rows.safetyWaitsRow.named == Tryz.prog.varsNamed 8) = true := by kernel_rfl
theorem safetyWaits_f13 : (Rows.safetyWaitsRow.maps == (Tryz.f8.params.toList ++ (OpenSpec.ofChange Rows.safetyWaitsSpec).bare.plain.varTypes Tryz.prog).any (Tryz.prog.mapsRec ·)) = true := by kernel_rfl
theorem safetyWaits_f14 : (Rows.safetyWaitsRow.ifaces == (Tryz.f8.params.toList ++ (OpenSpec.ofChange Rows.safetyWaitsSpec).bare.plain.varTypes Tryz.prog).any (Tryz.prog.ifacesRec ·)) = true := by kernel_rfl
theorem safetyWaits_f15 : (Rows.safetyWaitsRow.mapsOut == Tryz.prog.mapsAmong Tryz.f8.resultTypes.toList) = true := by kernel_rfl
theorem safetyWaits_f16 : (Rows.safetyWaitsRow.loops == (Tryz.f8.params.toList ++ (OpenSpec.ofChange Rows.safetyWaitsSpec).bare.plain.varTypes Tryz.prog).any (Tryz.prog.loopsFrom ·)) = true := by kernel_rfl
theorem safetyWaits_f17 : (Rows.safetyWaitsRow.wideKeys == (Tryz.f8.params.toList ++ (OpenSpec.ofChange Rows.safetyWaitsSpec).bare.plain.varTypes Tryz.prog ++ Tryz.f8.resultTypes.toList).any (Tryz.prog.wideKeysFrom ·)) = true := by kernel_rfl
theorem safetyWaits_f18 : (OpenSpec.ofChange Rows.safetyWaitsSpec).bare.vars.all (Tryz.prog.varReadable ·) = true := by kernel_rfl
theorem safetyWaits_f19 : Tryz.f8.resultTypes.all (fun t => Tryz.prog.readableRec t && decide (t < Tryz.prog.types.size)) = true := by kernel_rfl
theorem safetyWaits_f20 : (Rows.safetyWaitsRow.ifacesOut == Tryz.f8.resultTypes.toList.any (Tryz.prog.ifacesRec ·)) = true := by kernel_rfl
theorem safetyWaits_f21 : (Rows.safetyWaitsRow.loopsOut == Tryz.f8.resultTypes.toList.any (Tryz.prog.loopsFrom ·)) = true := by kernel_rfl
theorem safetyWaits_f22 : (Rows.safetyWaitsRow.plainKeys == Tryz.prog.plainKeys) = true := by kernel_rfl
theorem safetyWaits_f23 : Rows.safetyWaitsRow.shortTexts.isNone = true := by kernel_rfl
theorem safetyWaits_f24 : Tryz.prog.stopsHeard = true := by kernel_rfl
theorem safetyWaits_f25 : Tryz.prog.mayEnter = true := by kernel_rfl
theorem safetyWaits_f26 : (Rows.safetyWaitsRow.lifted == Tryz.prog.liftsFinal) = true := by kernel_rfl
theorem safetyWaits_f27 : (Tryz.prog.make == some Rows.safetyWaitsRow.make) = true := by kernel_rfl
theorem safetyWaits_f28 : (Rows.safetyWaitsRow.kinds == (if Rows.safetyWaitsRow.domain.isEmpty then [] else Tryz.f8.params.toList.map fun t => match Tryz.prog.underlying t with | some (.int k) => some k | _ => none)) = true := by kernel_rfl
theorem safetyWaits_f29 : (Rows.safetyWaitsRow.pinned == Rows.safetyWaitsRow.pinnedBy) = true := by kernel_rfl
theorem safetyWaits_f30 : (Rows.safetyWaitsRow.veiled == (Tryz.f8.params.toList ++ (OpenSpec.ofChange Rows.safetyWaitsSpec).bare.plain.varTypes Tryz.prog ++ Tryz.f8.resultTypes.toList).any (Tryz.prog.veiledRec ·)) = true := by kernel_rfl
theorem safetyWaits_f31 : Rows.safetyWaitsRow.veiledFits Tryz.prog Tryz.f8.params.toList (Tryz.f8.params.toList ++ (OpenSpec.ofChange Rows.safetyWaitsSpec).bare.plain.varTypes Tryz.prog ++ Tryz.f8.resultTypes.toList) = true := by kernel_rfl
set_option maxRecDepth 100000 in
theorem safetyWaits_joined : joinedFacts Tryz.prog 8 Tryz.f8 (OpenSpec.ofChange Rows.safetyWaitsSpec).bare Rows.safetyWaitsRow = true := Go.Fs.joined_of safetyWaits_f0 safetyWaits_f1 safetyWaits_f2 safetyWaits_f3 safetyWaits_f4 safetyWaits_f5 safetyWaits_f6 safetyWaits_f7 safetyWaits_f8 safetyWaits_f9 safetyWaits_f10 safetyWaits_f11 safetyWaits_f12 safetyWaits_f13 safetyWaits_f14 safetyWaits_f15 safetyWaits_f16 safetyWaits_f17 safetyWaits_f18 safetyWaits_f19 safetyWaits_f20 safetyWaits_f21 safetyWaits_f22 safetyWaits_f23 safetyWaits_f24 safetyWaits_f25 safetyWaits_f26 safetyWaits_f27 safetyWaits_f28 safetyWaits_f29 safetyWaits_f30 safetyWaits_f31
end Go.Proofs.YtligdjefbiebjaaGreatDoor
