/- The closed facts of the row of SafetyPermits, one by one. No condition. -/
import Derived.Test.YtligdjefbiebjaaGreatDoorRows
import Derived.Test.YtligdjefbiebjaaGreatDoorP11FsFacts
import Derived.KernelRfl
set_option linter.all false
namespace Go.Proofs.YtligdjefbiebjaaGreatDoor
theorem safetyPermits_f0 : Rows.safetyPermitsRow.wf (OpenSpec.ofChange (OpenSpec.ofChange Rows.safetyPermitsSpec).bare) = true := by kernel_rfl
theorem safetyPermits_f1 : laidOutB Tryz.prog = true := by kernel_rfl
theorem safetyPermits_f2 : mapsRowed Tryz.prog = true := by kernel_rfl
theorem safetyPermits_f3 : Tryz.f3.params.all (Tryz.prog.readableRec ·) = true := by kernel_rfl
theorem safetyPermits_f4 : namedTie Tryz.prog Rows.safetyPermitsRow.named (OpenSpec.ofChange Rows.safetyPermitsSpec).bare.vars = true := by kernel_rfl
theorem safetyPermits_f5 : (Rows.safetyPermitsRow.stops == []) = true := by kernel_rfl
theorem safetyPermits_f6 : (Tryz.prog.stops == []) = true := by kernel_rfl
theorem safetyPermits_f7 : (Rows.safetyPermitsRow.knobs == []) = true := by kernel_rfl
theorem safetyPermits_f8 : (Tryz.prog.stopKnobs == []) = true := by kernel_rfl
theorem safetyPermits_f9 : (Rows.safetyPermitsRow.inPlace == Tryz.prog.inPlace 3) = true := by kernel_rfl
theorem safetyPermits_f10 : (Rows.safetyPermitsRow.unfollowed == Tryz.prog.unfollowed 3) = true := by kernel_rfl
theorem safetyPermits_f11 : (Rows.safetyPermitsRow.recurses == Tryz.prog.recurses 3) = true := by kernel_rfl
theorem safetyPermits_f12 : (Rows.safetyPermitsRow.named == Tryz.prog.varsNamed 3) = true := by kernel_rfl
theorem safetyPermits_f13 : (Rows.safetyPermitsRow.maps == (Tryz.f3.params.toList ++ (OpenSpec.ofChange Rows.safetyPermitsSpec).bare.plain.varTypes Tryz.prog).any (Tryz.prog.mapsRec ·)) = true := by kernel_rfl
theorem safetyPermits_f14 : (Rows.safetyPermitsRow.ifaces == (Tryz.f3.params.toList ++ (OpenSpec.ofChange Rows.safetyPermitsSpec).bare.plain.varTypes Tryz.prog).any (Tryz.prog.ifacesRec ·)) = true := by kernel_rfl
theorem safetyPermits_f15 : (Rows.safetyPermitsRow.mapsOut == Tryz.prog.mapsAmong Tryz.f3.resultTypes.toList) = true := by kernel_rfl
theorem safetyPermits_f16 : (Rows.safetyPermitsRow.loops == (Tryz.f3.params.toList ++ (OpenSpec.ofChange Rows.safetyPermitsSpec).bare.plain.varTypes Tryz.prog).any (Tryz.prog.loopsFrom ·)) = true := by kernel_rfl
theorem safetyPermits_f17 : (Rows.safetyPermitsRow.wideKeys == (Tryz.f3.params.toList ++ (OpenSpec.ofChange Rows.safetyPermitsSpec).bare.plain.varTypes Tryz.prog ++ Tryz.f3.resultTypes.toList).any (Tryz.prog.wideKeysFrom ·)) = true := by kernel_rfl
theorem safetyPermits_f18 : (OpenSpec.ofChange Rows.safetyPermitsSpec).bare.vars.all (Tryz.prog.varReadable ·) = true := by kernel_rfl
theorem safetyPermits_f19 : Tryz.f3.resultTypes.all (fun t => Tryz.prog.readableRec t && decide (t < Tryz.prog.types.size)) = true := by kernel_rfl
theorem safetyPermits_f20 : (Rows.safetyPermitsRow.ifacesOut == Tryz.f3.resultTypes.toList.any (Tryz.prog.ifacesRec ·)) = true := by kernel_rfl
theorem safetyPermits_f21 : (Rows.safetyPermitsRow.loopsOut == Tryz.f3.resultTypes.toList.any (Tryz.prog.loopsFrom ·)) = true := by kernel_rfl
theorem safetyPermits_f22 : (Rows.safetyPermitsRow.plainKeys == Tryz.prog.plainKeys) = true := by kernel_rfl
theorem safetyPermits_f23 : Rows.safetyPermitsRow.shortTexts.isNone = true := by kernel_rfl
theorem safetyPermits_f24 : Tryz.prog.stopsHeard = true := by kernel_rfl
theorem safetyPermits_f25 : Tryz.prog.mayEnter = true := by kernel_rfl
theorem safetyPermits_f26 : (Rows.safetyPermitsRow.lifted == Tryz.prog.liftsFinal) = true := by kernel_rfl
theorem safetyPermits_f27 : (Tryz.prog.make == some Rows.safetyPermitsRow.make) = true := by kernel_rfl
theorem safetyPermits_f28 : (Rows.safetyPermitsRow.kinds == (if Rows.safetyPermitsRow.domain.isEmpty then [] else Tryz.f3.params.toList.map fun t => match Tryz.prog.underlying t with | some (.int k) => some k | _ => none)) = true := by kernel_rfl
theorem safetyPermits_f29 : (Rows.safetyPermitsRow.pinned == Rows.safetyPermitsRow.pinnedBy) = true := by kernel_rfl
theorem safetyPermits_f30 : (Rows.safetyPermitsRow.veiled == (Tryz.f3.params.toList ++ (OpenSpec.ofChange Rows.safetyPermitsSpec).bare.plain.varTypes Tryz.prog ++ Tryz.f3.resultTypes.toList).any (Tryz.prog.veiledRec ·)) = true := by kernel_rfl
theorem safetyPermits_f31 : Rows.safetyPermitsRow.veiledFits Tryz.prog Tryz.f3.params.toList (Tryz.f3.params.toList ++ (OpenSpec.ofChange Rows.safetyPermitsSpec).bare.plain.varTypes Tryz.prog ++ Tryz.f3.resultTypes.toList) = true := by kernel_rfl
set_option maxRecDepth 100000 in
theorem safetyPermits_joined : joinedFacts Tryz.prog 3 Tryz.f3 (OpenSpec.ofChange Rows.safetyPermitsSpec).bare Rows.safetyPermitsRow = true := Go.Fs.joined_of safetyPermits_f0 safetyPermits_f1 safetyPermits_f2 safetyPermits_f3 safetyPermits_f4 safetyPermits_f5 safetyPermits_f6 safetyPermits_f7 safetyPermits_f8 safetyPermits_f9 safetyPermits_f10 safetyPermits_f11 safetyPermits_f12 safetyPermits_f13 safetyPermits_f14 safetyPermits_f15 safetyPermits_f16 safetyPermits_f17 safetyPermits_f18 safetyPermits_f19 safetyPermits_f20 safetyPermits_f21 safetyPermits_f22 safetyPermits_f23 safetyPermits_f24 safetyPermits_f25 safetyPermits_f26 safetyPermits_f27 safetyPermits_f28 safetyPermits_f29 safetyPermits_f30 safetyPermits_f31
end Go.Proofs.YtligdjefbiebjaaGreatDoor
