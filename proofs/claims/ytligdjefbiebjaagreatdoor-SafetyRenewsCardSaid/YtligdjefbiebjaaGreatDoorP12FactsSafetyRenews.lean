/- The closed facts of the row of SafetyRenews, one by one. No condition. -/
import Derived.Test.YtligdjefbiebjaaGreatDoorRows
import Derived.Test.YtligdjefbiebjaaGreatDoorP11FsFacts
import Derived.KernelRfl
set_option linter.all false
namespace Go.Proofs.YtligdjefbiebjaaGreatDoor
theorem safetyRenews_f0 : Rows.safetyRenewsRow.wf (OpenSpec.ofChange (OpenSpec.ofChange Rows.safetyRenewsSpec).bare) = true := by kernel_rfl
theorem safetyRenews_f1 : laidOutB Tryz.prog = true := by kernel_rfl
theorem safetyRenews_f2 : mapsRowed Tryz.prog = true := by kernel_rfl
theorem safetyRenews_f3 : Tryz.f9.params.all (Tryz.prog.readableRec ·) = true := by kernel_rfl
theorem safetyRenews_f4 : namedTie Tryz.prog Rows.safetyRenewsRow.named (OpenSpec.ofChange Rows.safetyRenewsSpec).bare.vars = true := by kernel_rfl
theorem safetyRenews_f5 : (Rows.safetyRenewsRow.stops == []) = true := by kernel_rfl
theorem safetyRenews_f6 : (Tryz.prog.stops == []) = true := by kernel_rfl
theorem safetyRenews_f7 : (Rows.safetyRenewsRow.knobs == []) = true := by kernel_rfl
theorem safetyRenews_f8 : (Tryz.prog.stopKnobs == []) = true := by kernel_rfl
theorem safetyRenews_f9 : (Rows.safetyRenewsRow.inPlace == Tryz.prog.inPlace 9) = true := by kernel_rfl
theorem safetyRenews_f10 : (Rows.safetyRenewsRow.unfollowed == Tryz.prog.unfollowed 9) = true := by kernel_rfl
theorem safetyRenews_f11 : (Rows.safetyRenewsRow.recurses == Tryz.prog.recurses 9) = true := by kernel_rfl
theorem safetyRenews_f12 : (Rows.safetyRenewsRow.named == Tryz.prog.varsNamed 9) = true := by kernel_rfl
theorem safetyRenews_f13 : (Rows.safetyRenewsRow.maps == (Tryz.f9.params.toList ++ (OpenSpec.ofChange Rows.safetyRenewsSpec).bare.plain.varTypes Tryz.prog).any (Tryz.prog.mapsRec ·)) = true := by kernel_rfl
theorem safetyRenews_f14 : (Rows.safetyRenewsRow.ifaces == (Tryz.f9.params.toList ++ (OpenSpec.ofChange Rows.safetyRenewsSpec).bare.plain.varTypes Tryz.prog).any (Tryz.prog.ifacesRec ·)) = true := by kernel_rfl
theorem safetyRenews_f15 : (Rows.safetyRenewsRow.mapsOut == Tryz.prog.mapsAmong Tryz.f9.resultTypes.toList) = true := by kernel_rfl
theorem safetyRenews_f16 : (Rows.safetyRenewsRow.loops == (Tryz.f9.params.toList ++ (OpenSpec.ofChange Rows.safetyRenewsSpec).bare.plain.varTypes Tryz.prog).any (Tryz.prog.loopsFrom ·)) = true := by kernel_rfl
theorem safetyRenews_f17 : (Rows.safetyRenewsRow.wideKeys == (Tryz.f9.params.toList ++ (OpenSpec.ofChange Rows.safetyRenewsSpec).bare.plain.varTypes Tryz.prog ++ Tryz.f9.resultTypes.toList).any (Tryz.prog.wideKeysFrom ·)) = true := by kernel_rfl
theorem safetyRenews_f18 : (OpenSpec.ofChange Rows.safetyRenewsSpec).bare.vars.all (Tryz.prog.varReadable ·) = true := by kernel_rfl
theorem safetyRenews_f19 : Tryz.f9.resultTypes.all (fun t => Tryz.prog.readableRec t && decide (t < Tryz.prog.types.size)) = true := by kernel_rfl
theorem safetyRenews_f20 : (Rows.safetyRenewsRow.ifacesOut == Tryz.f9.resultTypes.toList.any (Tryz.prog.ifacesRec ·)) = true := by kernel_rfl
theorem safetyRenews_f21 : (Rows.safetyRenewsRow.loopsOut == Tryz.f9.resultTypes.toList.any (Tryz.prog.loopsFrom ·)) = true := by kernel_rfl
theorem safetyRenews_f22 : (Rows.safetyRenewsRow.plainKeys == Tryz.prog.plainKeys) = true := by kernel_rfl
theorem safetyRenews_f23 : Rows.safetyRenewsRow.shortTexts.isNone = true := by kernel_rfl
theorem safetyRenews_f24 : Tryz.prog.stopsHeard = true := by kernel_rfl
theorem safetyRenews_f25 : Tryz.prog.mayEnter = true := by kernel_rfl
theorem safetyRenews_f26 : (Rows.safetyRenewsRow.lifted == Tryz.prog.liftsFinal) = true := by kernel_rfl
theorem safetyRenews_f27 : (Tryz.prog.make == some Rows.safetyRenewsRow.make) = true := by kernel_rfl
theorem safetyRenews_f28 : (Rows.safetyRenewsRow.kinds == (if Rows.safetyRenewsRow.domain.isEmpty then [] else Tryz.f9.params.toList.map fun t => match Tryz.prog.underlying t with | some (.int k) => some k | _ => none)) = true := by kernel_rfl
theorem safetyRenews_f29 : (Rows.safetyRenewsRow.pinned == Rows.safetyRenewsRow.pinnedBy) = true := by kernel_rfl
theorem safetyRenews_f30 : (Rows.safetyRenewsRow.veiled == (Tryz.f9.params.toList ++ (OpenSpec.ofChange Rows.safetyRenewsSpec).bare.plain.varTypes Tryz.prog ++ Tryz.f9.resultTypes.toList).any (Tryz.prog.veiledRec ·)) = true := by kernel_rfl
theorem safetyRenews_f31 : Rows.safetyRenewsRow.veiledFits Tryz.prog Tryz.f9.params.toList (Tryz.f9.params.toList ++ (OpenSpec.ofChange Rows.safetyRenewsSpec).bare.plain.varTypes Tryz.prog ++ Tryz.f9.resultTypes.toList) = true := by kernel_rfl
set_option maxRecDepth 100000 in
theorem safetyRenews_joined : joinedFacts Tryz.prog 9 Tryz.f9 (OpenSpec.ofChange Rows.safetyRenewsSpec).bare Rows.safetyRenewsRow = true := Go.Fs.joined_of safetyRenews_f0 safetyRenews_f1 safetyRenews_f2 safetyRenews_f3 safetyRenews_f4 safetyRenews_f5 safetyRenews_f6 safetyRenews_f7 safetyRenews_f8 safetyRenews_f9 safetyRenews_f10 safetyRenews_f11 safetyRenews_f12 safetyRenews_f13 safetyRenews_f14 safetyRenews_f15 safetyRenews_f16 safetyRenews_f17 safetyRenews_f18 safetyRenews_f19 safetyRenews_f20 safetyRenews_f21 safetyRenews_f22 safetyRenews_f23 safetyRenews_f24 safetyRenews_f25 safetyRenews_f26 safetyRenews_f27 safetyRenews_f28 safetyRenews_f29 safetyRenews_f30 safetyRenews_f31
end Go.Proofs.YtligdjefbiebjaaGreatDoor
