/- The closed facts of the row of ClosingTimes, one by one. No condition. -/
import Derived.Test.YtjmkmalgfanifaaGreatDoorRows
import Derived.Test.YtjmkmalgfanifaaGreatDoorP7FsFacts
import Derived.KernelRfl
set_option linter.all false
namespace Go.Proofs.YtjmkmalgfanifaaGreatDoor
theorem closingTimes_f0 : Rows.closingTimesRow.wf (OpenSpec.ofChange (OpenSpec.ofChange Rows.closingTimesSpec).bare) = true := by kernel_rfl
theorem closingTimes_f1 : laidOutB Tryz.prog = true := by kernel_rfl
theorem closingTimes_f2 : mapsRowed Tryz.prog = true := by kernel_rfl
theorem closingTimes_f3 : Tryz.f3.params.all (Tryz.prog.readableRec ·) = true := by kernel_rfl
theorem closingTimes_f4 : namedTie Tryz.prog Rows.closingTimesRow.named (OpenSpec.ofChange Rows.closingTimesSpec).bare.vars = true := by kernel_rfl
theorem closingTimes_f5 : (Rows.closingTimesRow.stops == []) = true := by kernel_rfl
theorem closingTimes_f6 : (Tryz.prog.stops == []) = true := by kernel_rfl
theorem closingTimes_f7 : (Rows.closingTimesRow.knobs == []) = true := by kernel_rfl
theorem closingTimes_f8 : (Tryz.prog.stopKnobs == []) = true := by kernel_rfl
theorem closingTimes_f9 : (Rows.closingTimesRow.inPlace == Tryz.prog.inPlace 3) = true := by kernel_rfl
theorem closingTimes_f10 : (Rows.closingTimesRow.unfollowed == Tryz.prog.unfollowed 3) = true := by kernel_rfl
theorem closingTimes_f11 : (Rows.closingTimesRow.recurses == Tryz.prog.recurses 3) = true := by kernel_rfl
theorem closingTimes_f12 : (Rows.closingTimesRow.named == Tryz.prog.varsNamed 3) = true := by kernel_rfl
theorem closingTimes_f13 : (Rows.closingTimesRow.maps == (Tryz.f3.params.toList ++ (OpenSpec.ofChange Rows.closingTimesSpec).bare.plain.varTypes Tryz.prog).any (Tryz.prog.mapsRec ·)) = true := by kernel_rfl
theorem closingTimes_f14 : (Rows.closingTimesRow.ifaces == (Tryz.f3.params.toList ++ (OpenSpec.ofChange Rows.closingTimesSpec).bare.plain.varTypes Tryz.prog).any (Tryz.prog.ifacesRec ·)) = true := by kernel_rfl
theorem closingTimes_f15 : (Rows.closingTimesRow.mapsOut == Tryz.prog.mapsAmong Tryz.f3.resultTypes.toList) = true := by kernel_rfl
theorem closingTimes_f16 : (Rows.closingTimesRow.loops == (Tryz.f3.params.toList ++ (OpenSpec.ofChange Rows.closingTimesSpec).bare.plain.varTypes Tryz.prog).any (Tryz.prog.loopsFrom ·)) = true := by kernel_rfl
theorem closingTimes_f17 : (Rows.closingTimesRow.wideKeys == (Tryz.f3.params.toList ++ (OpenSpec.ofChange Rows.closingTimesSpec).bare.plain.varTypes Tryz.prog ++ Tryz.f3.resultTypes.toList).any (Tryz.prog.wideKeysFrom ·)) = true := by kernel_rfl
theorem closingTimes_f18 : (OpenSpec.ofChange Rows.closingTimesSpec).bare.vars.all (Tryz.prog.varReadable ·) = true := by kernel_rfl
theorem closingTimes_f19 : Tryz.f3.resultTypes.all (fun t => Tryz.prog.readableRec t && decide (t < Tryz.prog.types.size)) = true := by kernel_rfl
theorem closingTimes_f20 : (Rows.closingTimesRow.ifacesOut == Tryz.f3.resultTypes.toList.any (Tryz.prog.ifacesRec ·)) = true := by kernel_rfl
theorem closingTimes_f21 : (Rows.closingTimesRow.loopsOut == Tryz.f3.resultTypes.toList.any (Tryz.prog.loopsFrom ·)) = true := by kernel_rfl
theorem closingTimes_f22 : (Rows.closingTimesRow.plainKeys == Tryz.prog.plainKeys) = true := by kernel_rfl
theorem closingTimes_f23 : Rows.closingTimesRow.shortTexts.isNone = true := by kernel_rfl
theorem closingTimes_f24 : Tryz.prog.stopsHeard = true := by kernel_rfl
theorem closingTimes_f25 : Tryz.prog.mayEnter = true := by kernel_rfl
theorem closingTimes_f26 : (Rows.closingTimesRow.lifted == Tryz.prog.liftsFinal) = true := by kernel_rfl
theorem closingTimes_f27 : (Tryz.prog.make == some Rows.closingTimesRow.make) = true := by kernel_rfl
theorem closingTimes_f28 : (Rows.closingTimesRow.kinds == (if Rows.closingTimesRow.domain.isEmpty then [] else Tryz.f3.params.toList.map fun t => match Tryz.prog.underlying t with | some (.int k) => some k | _ => none)) = true := by kernel_rfl
theorem closingTimes_f29 : (Rows.closingTimesRow.pinned == Rows.closingTimesRow.pinnedBy) = true := by kernel_rfl
theorem closingTimes_f30 : (Rows.closingTimesRow.veiled == (Tryz.f3.params.toList ++ (OpenSpec.ofChange Rows.closingTimesSpec).bare.plain.varTypes Tryz.prog ++ Tryz.f3.resultTypes.toList).any (Tryz.prog.veiledRec ·)) = true := by kernel_rfl
theorem closingTimes_f31 : Rows.closingTimesRow.veiledFits Tryz.prog Tryz.f3.params.toList (Tryz.f3.params.toList ++ (OpenSpec.ofChange Rows.closingTimesSpec).bare.plain.varTypes Tryz.prog ++ Tryz.f3.resultTypes.toList) = true := by kernel_rfl
set_option maxRecDepth 100000 in
theorem closingTimes_joined : joinedFacts Tryz.prog 3 Tryz.f3 (OpenSpec.ofChange Rows.closingTimesSpec).bare Rows.closingTimesRow = true := Go.Fs.joined_of closingTimes_f0 closingTimes_f1 closingTimes_f2 closingTimes_f3 closingTimes_f4 closingTimes_f5 closingTimes_f6 closingTimes_f7 closingTimes_f8 closingTimes_f9 closingTimes_f10 closingTimes_f11 closingTimes_f12 closingTimes_f13 closingTimes_f14 closingTimes_f15 closingTimes_f16 closingTimes_f17 closingTimes_f18 closingTimes_f19 closingTimes_f20 closingTimes_f21 closingTimes_f22 closingTimes_f23 closingTimes_f24 closingTimes_f25 closingTimes_f26 closingTimes_f27 closingTimes_f28 closingTimes_f29 closingTimes_f30 closingTimes_f31
end Go.Proofs.YtjmkmalgfanifaaGreatDoor
