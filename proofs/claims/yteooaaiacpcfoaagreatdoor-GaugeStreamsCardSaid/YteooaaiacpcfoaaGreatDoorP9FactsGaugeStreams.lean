/- The closed facts of the row of GaugeStreams, one by one. No condition. -/
import Derived.Test.YteooaaiacpcfoaaGreatDoorRows
import Derived.Test.YteooaaiacpcfoaaGreatDoorP8FsFacts
import Derived.KernelRfl
set_option linter.all false
namespace Go.Proofs.YteooaaiacpcfoaaGreatDoor
theorem gaugeStreams_f0 : Rows.gaugeStreamsRow.wf (OpenSpec.ofChange (OpenSpec.ofChange Rows.gaugeStreamsSpec).bare) = true := by kernel_rfl
theorem gaugeStreams_f1 : laidOutB Tryz.prog = true := by kernel_rfl
theorem gaugeStreams_f2 : mapsRowed Tryz.prog = true := by kernel_rfl
theorem gaugeStreams_f3 : Tryz.f3.params.all (Tryz.prog.readableRec ·) = true := by kernel_rfl
theorem gaugeStreams_f4 : namedTie Tryz.prog Rows.gaugeStreamsRow.named (OpenSpec.ofChange Rows.gaugeStreamsSpec).bare.vars = true := by kernel_rfl
theorem gaugeStreams_f5 : (Rows.gaugeStreamsRow.stops == []) = true := by kernel_rfl
theorem gaugeStreams_f6 : (Tryz.prog.stops == []) = true := by kernel_rfl
theorem gaugeStreams_f7 : (Rows.gaugeStreamsRow.knobs == []) = true := by kernel_rfl
theorem gaugeStreams_f8 : (Tryz.prog.stopKnobs == []) = true := by kernel_rfl
theorem gaugeStreams_f9 : (Rows.gaugeStreamsRow.inPlace == Tryz.prog.inPlace 3) = true := by kernel_rfl
theorem gaugeStreams_f10 : (Rows.gaugeStreamsRow.unfollowed == Tryz.prog.unfollowed 3) = true := by kernel_rfl
theorem gaugeStreams_f11 : (Rows.gaugeStreamsRow.recurses == Tryz.prog.recurses 3) = true := by kernel_rfl
theorem gaugeStreams_f12 : (Rows.gaugeStreamsRow.named == Tryz.prog.varsNamed 3) = true := by kernel_rfl
theorem gaugeStreams_f13 : (Rows.gaugeStreamsRow.maps == (Tryz.f3.params.toList ++ (OpenSpec.ofChange Rows.gaugeStreamsSpec).bare.plain.varTypes Tryz.prog).any (Tryz.prog.mapsRec ·)) = true := by kernel_rfl
theorem gaugeStreams_f14 : (Rows.gaugeStreamsRow.ifaces == (Tryz.f3.params.toList ++ (OpenSpec.ofChange Rows.gaugeStreamsSpec).bare.plain.varTypes Tryz.prog).any (Tryz.prog.ifacesRec ·)) = true := by kernel_rfl
theorem gaugeStreams_f15 : (Rows.gaugeStreamsRow.mapsOut == Tryz.prog.mapsAmong Tryz.f3.resultTypes.toList) = true := by kernel_rfl
theorem gaugeStreams_f16 : (Rows.gaugeStreamsRow.loops == (Tryz.f3.params.toList ++ (OpenSpec.ofChange Rows.gaugeStreamsSpec).bare.plain.varTypes Tryz.prog).any (Tryz.prog.loopsFrom ·)) = true := by kernel_rfl
theorem gaugeStreams_f17 : (Rows.gaugeStreamsRow.wideKeys == (Tryz.f3.params.toList ++ (OpenSpec.ofChange Rows.gaugeStreamsSpec).bare.plain.varTypes Tryz.prog ++ Tryz.f3.resultTypes.toList).any (Tryz.prog.wideKeysFrom ·)) = true := by kernel_rfl
theorem gaugeStreams_f18 : (OpenSpec.ofChange Rows.gaugeStreamsSpec).bare.vars.all (Tryz.prog.varReadable ·) = true := by kernel_rfl
theorem gaugeStreams_f19 : Tryz.f3.resultTypes.all (fun t => Tryz.prog.readableRec t && decide (t < Tryz.prog.types.size)) = true := by kernel_rfl
theorem gaugeStreams_f20 : (Rows.gaugeStreamsRow.ifacesOut == Tryz.f3.resultTypes.toList.any (Tryz.prog.ifacesRec ·)) = true := by kernel_rfl
theorem gaugeStreams_f21 : (Rows.gaugeStreamsRow.loopsOut == Tryz.f3.resultTypes.toList.any (Tryz.prog.loopsFrom ·)) = true := by kernel_rfl
theorem gaugeStreams_f22 : (Rows.gaugeStreamsRow.plainKeys == Tryz.prog.plainKeys) = true := by kernel_rfl
theorem gaugeStreams_f23 : Rows.gaugeStreamsRow.shortTexts.isNone = true := by kernel_rfl
theorem gaugeStreams_f24 : Tryz.prog.stopsHeard = true := by kernel_rfl
theorem gaugeStreams_f25 : Tryz.prog.mayEnter = true := by kernel_rfl
theorem gaugeStreams_f26 : (Rows.gaugeStreamsRow.lifted == Tryz.prog.liftsFinal) = true := by kernel_rfl
theorem gaugeStreams_f27 : (Tryz.prog.make == some Rows.gaugeStreamsRow.make) = true := by kernel_rfl
theorem gaugeStreams_f28 : (Rows.gaugeStreamsRow.kinds == (if Rows.gaugeStreamsRow.domain.isEmpty then [] else Tryz.f3.params.toList.map fun t => match Tryz.prog.underlying t with | some (.int k) => some k | _ => none)) = true := by kernel_rfl
theorem gaugeStreams_f29 : (Rows.gaugeStreamsRow.pinned == Rows.gaugeStreamsRow.pinnedBy) = true := by kernel_rfl
theorem gaugeStreams_f30 : (Rows.gaugeStreamsRow.veiled == (Tryz.f3.params.toList ++ (OpenSpec.ofChange Rows.gaugeStreamsSpec).bare.plain.varTypes Tryz.prog ++ Tryz.f3.resultTypes.toList).any (Tryz.prog.veiledRec ·)) = true := by kernel_rfl
theorem gaugeStreams_f31 : Rows.gaugeStreamsRow.veiledFits Tryz.prog Tryz.f3.params.toList (Tryz.f3.params.toList ++ (OpenSpec.ofChange Rows.gaugeStreamsSpec).bare.plain.varTypes Tryz.prog ++ Tryz.f3.resultTypes.toList) = true := by kernel_rfl
set_option maxRecDepth 100000 in
theorem gaugeStreams_joined : joinedFacts Tryz.prog 3 Tryz.f3 (OpenSpec.ofChange Rows.gaugeStreamsSpec).bare Rows.gaugeStreamsRow = true := Go.Fs.joined_of gaugeStreams_f0 gaugeStreams_f1 gaugeStreams_f2 gaugeStreams_f3 gaugeStreams_f4 gaugeStreams_f5 gaugeStreams_f6 gaugeStreams_f7 gaugeStreams_f8 gaugeStreams_f9 gaugeStreams_f10 gaugeStreams_f11 gaugeStreams_f12 gaugeStreams_f13 gaugeStreams_f14 gaugeStreams_f15 gaugeStreams_f16 gaugeStreams_f17 gaugeStreams_f18 gaugeStreams_f19 gaugeStreams_f20 gaugeStreams_f21 gaugeStreams_f22 gaugeStreams_f23 gaugeStreams_f24 gaugeStreams_f25 gaugeStreams_f26 gaugeStreams_f27 gaugeStreams_f28 gaugeStreams_f29 gaugeStreams_f30 gaugeStreams_f31
end Go.Proofs.YteooaaiacpcfoaaGreatDoor
