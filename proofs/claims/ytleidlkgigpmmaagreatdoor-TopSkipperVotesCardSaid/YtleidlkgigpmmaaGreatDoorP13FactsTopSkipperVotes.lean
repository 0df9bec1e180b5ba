/- The closed facts of the row of TopSkipperVotes, one by one. No condition. -/
import Derived.Test.YtleidlkgigpmmaaGreatDoorRows
import Derived.Test.YtleidlkgigpmmaaGreatDoorP12FsFacts
import Derived.KernelRfl
set_option linter.all false
namespace Go.Proofs.YtleidlkgigpmmaaGreatDoor
theorem topSkipperVotes_f0 : Rows.topSkipperVotesRow.wf (OpenSpec.ofChange (OpenSpec.ofChange Rows.topSkipperVotesSpec).bare) = true := by kernel_rfl
theorem topSkipperVotes_f1 : laidOutB Tryz.prog = true := by kernel_rfl
theorem topSkipperVotes_f2 : mapsRowed Tryz.prog = true := by kernel_rfl
theorem topSkipperVotes_f3 : Tryz.f3.params.all (Tryz.prog.readableRec ·) = true := by kernel_rfl
theorem topSkipperVotes_f4 : namedTie Tryz.prog Rows.topSkipperVotesRow.named (OpenSpec.ofChange Rows.topSkipperVotesSpec).bare.vars = true := by kernel_rfl
theorem topSkipperVotes_f5 : (Rows.topSkipperVotesRow.stops == []) = true := by kernel_rfl
theorem topSkipperVotes_f6 : (Tryz.prog.stops == []) = true := by kernel_rfl
theorem topSkipperVotes_f7 : (Rows.topSkipperVotesRow.knobs == []) = true := by kernel_rfl
theorem topSkipperVotes_f8 : (Tryz.prog.stopKnobs == []) = true := by kernel_rfl
theorem topSkipperVotes_f9 : (Rows.topSkipperVotesRow.inPlace == Tryz.prog.inPlace 3) = true := by kernel_rfl
theorem topSkipperVotes_f10 : (Rows.topSkipperVotesRow.unfollowed == Tryz.prog.unfollowed 3) = true := by kernel_rfl
theorem topSkipperVotes_f11 : (Rows.topSkipperVotesRow.recurses == Tryz.prog.recurses 3) = true := by kernel_rfl
theorem topSkipperVotes_f12 : (Rows.topSkipperVotesRow.named == Tryz.prog.varsNamed 3) = true := by kernel_rfl
theorem topSkipperVotes_f13 : (Rows.topSkipperVotesRow.maps == (Tryz.f3.params.toList ++ (OpenSpec.ofChange Rows.topSkipperVotesSpec).bare.plain.varTypes Tryz.prog).any (Tryz.prog.mapsRec ·)) = true := by kernel_rfl
theorem topSkipperVotes_f14 : (Rows.topSkipperVotesRow.ifaces == (Tryz.f3.params.toList ++ (OpenSpec.ofChange Rows.topSkipperVotesSpec).bare.plain.varTypes Tryz.prog).any (Tryz.prog.ifacesRec ·)) = true := by kernel_rfl
theorem topSkipperVotes_f15 : (Rows.topSkipperVotesRow.mapsOut == Tryz.prog.mapsAmong Tryz.f3.resultTypes.toList) = true := by kernel_rfl
theorem topSkipperVotes_f16 : (Rows.topSkipperVotesRow.loops == (Tryz.f3.params.toList ++ (OpenSpec.ofChange Rows.topSkipperVotesSpec).bare.plain.varTypes Tryz.prog).any (Tryz.prog.loopsFrom ·)) = true := by kernel_rfl
theorem topSkipperVotes_f17 : (Rows.topSkipperVotesRow.wideKeys == (Tryz.f3.params.toList ++ (OpenSpec.ofChange Rows.topSkipperVotesSpec).bare.plain.varTypes Tryz.prog ++ Tryz.f3.resultTypes.toList).any (Tryz.prog.wideKeysFrom ·)) = true := by kernel_rfl
theorem topSkipperVotes_f18 : (OpenSpec.ofChange Rows.topSkipperVotesSpec).bare.vars.all (Tryz.prog.varReadable ·) = true := by kernel_rfl
theorem topSkipperVotes_f19 : Tryz.f3.resultTypes.all (fun t => Tryz.prog.readableRec t && decide (t < Tryz.prog.types.size)) = true := by kernel_rfl
theorem topSkipperVotes_f20 : (Rows.topSkipperVotesRow.ifacesOut == Tryz.f3.resultTypes.toList.any (Tryz.prog.ifacesRec ·)) = true := by kernel_rfl
theorem topSkipperVotes_f21 : (Rows.topSkipperVotesRow.loopsOut == Tryz.f3.resultTypes.toList.any (Tryz.prog.loopsFrom ·)) = true := by kernel_rfl
theorem topSkipperVotes_f22 : (Rows.topSkipperVotesRow.plainKeys == Tryz.prog.plainKeys) = true := by kernel_rfl
theorem topSkipperVotes_f23 : Rows.topSkipperVotesRow.shortTexts.isNone = true := by kernel_rfl
theorem topSkipperVotes_f24 : Tryz.prog.stopsHeard = true := by kernel_rfl
theorem topSkipperVotes_f25 : Tryz.prog.mayEnter = true := by kernel_rfl
theorem topSkipperVotes_f26 : (Rows.topSkipperVotesRow.lifted == Tryz.prog.liftsFinal) = true := by kernel_rfl
theorem topSkipperVotes_f27 : (Tryz.prog.make == some Rows.topSkipperVotesRow.make) = true := by kernel_rfl
theorem topSkipperVotes_f28 : (Rows.topSkipperVotesRow.kinds == (if Rows.topSkipperVotesRow.domain.isEmpty then [] else Tryz.f3.params.toList.map fun t => match Tryz.prog.underlying t with | some (.int k) => some k | _ => none)) = true := by kernel_rfl
theorem topSkipperVotes_f29 : (Rows.topSkipperVotesRow.pinned == Rows.topSkipperVotesRow.pinnedBy) = true := by kernel_rfl
theorem topSkipperVotes_f30 : (Rows.topSkipperVotesRow.veiled == (Tryz.f3.params.toList ++ (OpenSpec.ofChange Rows.topSkipperVotesSpec).bare.plain.varTypes Tryz.prog ++ Tryz.f3.resultTypes.toList).any (Tryz.prog.veiledRec ·)) = true := by kernel_rfl
theorem topSkipperVotes_f31 : Rows.topSkipperVotesRow.veiledFits Tryz.prog Tryz.f3.params.toList (Tryz.f3.params.toList ++ (OpenSpec.ofChange Rows.topSkipperVotesSpec).bare.plain.varTypes Tryz.prog ++ Tryz.f3.resultTypes.toList) = true := by kernel_rfl
set_option maxRecDepth 100000 in
theorem topSkipperVotes_joined : joinedFacts Tryz.prog 3 Tryz.f3 (OpenSpec.ofChange Rows.topSkipperVotesSpec).bare Rows.topSkipperVotesRow = true := Go.Fs.joined_of topSkipperVotes_f0 topSkipperVotes_f1 topSkipperVotes_f2 topSkipperVotes_f3 topSkipperVotes_f4 topSkipperVotes_f5 topSkipperVotes_f6 topSkipperVotes_f7 topSkipperVotes_f8 topSkipperVotes_f9 topSkipperVotes_f10 topSkipperVotes_f11 topSkipperVotes_f12 topSkipperVotes_f13 topSkipperVotes_f14 topSkipperVotes_f15 topSkipperVotes_f16 topSkipperVotes_f17 topSkipperVotes_f18 topSkipperVotes_f19 topSkipperVotes_f20 topSkipperVotes_f21 topSkipperVotes_f22 topSkipperVotes_f23 topSkipperVotes_f24 topSkipperVotes_f25 topSkipperVotes_f26 topSkipperVotes_f27 topSkipperVotes_f28 topSkipperVotes_f29 topSkipperVotes_f30 topSkipperVotes_f31
end Go.Proofs.YtleidlkgigpmmaaGreatDoor
