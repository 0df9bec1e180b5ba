/- The closed facts of the row of GaugeVotes, one by one. No condition. -/
import Derived.Test.YthiofhkndpegjaaGreatDoorRows
import Derived.Test.YthiofhkndpegjaaGreatDoorP12FsFacts
import Derived.KernelRfl
set_option linter.all false
namespace Go.Proofs.YthiofhkndpegjaaGreatDoor
theorem gaugeVotes_f0 : Rows.gaugeVotesRow.wf (OpenSpec.ofChange (OpenSpec.ofChange Rows.gaugeVotesSpec).bare) = true := by kernel_rfl
theorem gaugeVotes_f1 : laidOutB Tryz.prog = true := by kernel_rfl
theorem gaugeVotes_f2 : mapsRowed Tryz.prog = true := by kernel_rfl
theorem gaugeVotes_f3 : Tryz.f8.params.all (Tryz.prog.readableRec ·) = true := by kernel_rfl
theorem gaugeVotes_f4 : namedTie Tryz.prog Rows.gaugeVotesRow.named (OpenSpec.ofChange Rows.gaugeVotesSpec).bare.vars = true := by kernel_rfl
theorem gaugeVotes_f5 : (Rows.gaugeVotesRow.stops == []) = true := by kernel_rfl
theorem gaugeVotes_f6 : (Tryz.prog.stops == []) = true := by kernel_rfl
theorem gaugeVotes_f7 : (Rows.gaugeVotesRow.knobs == []) = true := by kernel_rfl
theorem gaugeVotes_f8 : (Tryz.prog.stopKnobs == []) = true := by kernel_rfl
theorem gaugeVotes_f9 : (Rows.gaugeVotesRow.inPlace == Tryz.prog.inPlace 8) = true := by kernel_rfl
theorem gaugeVotes_f10 : (Rows.gaugeVotesRow.unfollowed == Tryz.prog.unfollowed 8) = true := by kernel_rfl
theorem gaugeVotes_f11 : (Rows.gaugeVotesRow.recurses == Tryz.prog.recurses 8) = true := by kernel_rfl
theorem gaugeVotes_f12 : (Rows.gaugeVotesRow.named == Tryz.prog.varsNamed 8) = true := by kernel_rfl
theorem gaugeVotes_f13 : (Rows.gaugeVotesRow.maps == (Tryz.f8.params.toList ++ (OpenSpec.ofChange Rows.gaugeVotesSpec).bare.plain.varTypes Tryz.prog).any (Tryz.prog.mapsRec ·)) = true := by kernel_rfl
theorem gaugeVotes_f14 : (Rows.gaugeVotesRow.ifaces == (Tryz.f8.params.toList ++ (OpenSpec.ofChange Rows.gaugeVotesSpec).bare.plain.varTypes Tryz.prog).any (Tryz.prog.ifacesRec ·)) = true := by kernel_rfl
theorem gaugeVotes_f15 : (Rows.gaugeVotesRow.mapsOut == Tryz.prog.mapsAmong Tryz.f8.resultTypes.toList) = true := by kernel_rfl
theorem gaugeVotes_f16 : (Rows.gaugeVotesRow.loops == (Tryz.f8.params.toList ++ (OpenSpec.ofChange Rows.gaugeVotesSpec).bare.plain.varTypes Tryz.prog).any (Tryz.prog.loopsFrom ·)) = true := by kernel_rfl
theorem gaugeVotes_f17 : (Rows.gaugeVotesRow.wideKeys == (Tryz.f8.params.toList ++ (OpenSpec.ofChange Rows.gaugeVotesSpec).bare.plain.varTypes Tryz.prog ++ Tryz.f8.resultTypes.toList).any (Tryz.prog.wideKeysFrom ·)) = true := by kernel_rfl
theorem gaugeVotes_f18 : (OpenSpec.ofChange Rows.gaugeVotesSpec).bare.vars.all (Tryz.prog.varReadable ·) = true := by kernel_rfl
theorem gaugeVotes_f19 : Tryz.f8.resultTypes.all (fun t => Tryz.prog.readableRec t && decide (t < Tryz.prog.types.size)) = true := by kernel_rfl
theorem gaugeVotes_f20 : (Rows.gaugeVotesRow.ifacesOut == Tryz.f8.resultTypes.toList.any (Tryz.prog.ifacesRec ·)) = true := by kernel_rfl
theorem gaugeVotes_f21 : (Rows.gaugeVotesRow.loopsOut == Tryz.f8.resultTypes.toList.any (Tryz.prog.loopsFrom ·)) = true := by kernel_rfl
theorem gaugeVotes_f22 : (Rows.gaugeVotesRow.plainKeys == Tryz.prog.plainKeys) = true := by kernel_rfl
theorem gaugeVotes_f23 : Rows.gaugeVotesRow.shortTexts.isNone = true := by kernel_rfl
theorem gaugeVotes_f24 : Tryz.prog.stopsHeard = true := by kernel_rfl
theorem gaugeVotes_f25 : Tryz.prog.mayEnter = true := by kernel_rfl
theorem gaugeVotes_f26 : (Rows.gaugeVotesRow.lifted == Tryz.prog.liftsFinal) = true := by kernel_rfl
theorem gaugeVotes_f27 : (Tryz.prog.make == some Rows.gaugeVotesRow.make) = true := by kernel_rfl
theorem gaugeVotes_f28 : (Rows.gaugeVotesRow.kinds == (if Rows.gaugeVotesRow.domain.isEmpty then [] else Tryz.f8.params.toList.map fun t => match Tryz.prog.underlying t with | some (.int k) => some k | _ => none)) = true := by kernel_rfl
theorem gaugeVotes_f29 : (Rows.gaugeVotesRow.pinned == Rows.gaugeVotesRow.pinnedBy) = true := by kernel_rfl
theorem gaugeVotes_f30 : (Rows.gaugeVotesRow.veiled == (Tryz.f8.params.toList ++ (OpenSpec.ofChange Rows.gaugeVotesSpec).bare.plain.varTypes Tryz.prog ++ Tryz.f8.resultTypes.toList).any (Tryz.prog.veiledRec ·)) = true := by kernel_rfl
theorem gaugeVotes_f31 : Rows.gaugeVotesRow.veiledFits Tryz.prog Tryz.f8.params.toList (Tryz.f8.params.toList ++ (OpenSpec.ofChange Rows.gaugeVotesSpec).bare.plain.varTypes Tryz.prog ++ Tryz.f8.resultTypes.toList) = true := by kernel_rfl
set_option maxRecDepth 100000 in
theorem gaugeVotes_joined : joinedFacts Tryz.prog 8 Tryz.f8 (OpenSpec.ofChange Rows.gaugeVotesSpec).bare Rows.gaugeVotesRow = true := Go.Fs.joined_of gaugeVotes_f0 gaugeVotes_f1 gaugeVotes_f2 gaugeVotes_f3 gaugeVotes_f4 gaugeVotes_f5 gaugeVotes_f6 gaugeVotes_f7 gaugeVotes_f8 gaugeVotes_f9 gaugeVotes_f10 gaugeVotes_f11 gaugeVotes_f12 gaugeVotes_f13 gaugeVotes_f14 gaugeVotes_f15 gaugeVotes_f16 gaugeVotes_f17 gaugeVotes_f18 gaugeVotes_f19 gaugeVotes_f20 gaugeVotes_f21 gaugeVotes_f22 gaugeVotes_f23 gaugeVotes_f24 gaugeVotes_f25 gaugeVotes_f26 gaugeVotes_f27 gaugeVotes_f28 gaugeVotes_f29 gaugeVotes_f30 gaugeVotes_f31
end Go.Proofs.YthiofhkndpegjaaGreatDoor
