/- The closed facts of the row of TopKeelPermits, one by one. No condition. -/
import Derived.Test.YtgkcodkgcnbdeabGreatDoorRows
import Derived.Test.YtgkcodkgcnbdeabGreatDoorP9FsFacts
import Derived.KernelRfl
set_option linter.all false
namespace Go.Proofs.YtgkcodkgcnbdeabGreatDoor
theorem topKeelPermits_f0 : Rows.topKeelPermitsRow.wf (OpenSpec.ofChange (OpenSpec.ofChange Rows.topKeelPermitsSpec).bare) = true := by kernel_rfl
theorem topKeelPermits_f1 : laidOutB Tryz.prog = true := by kernel_rfl
theorem topKeelPermits_f2 : mapsRowed Tryz.prog = true := by kernel_rfl
theorem topKeelPermits_f3 : Tryz.f3.params.all (Tryz.prog.readableRec ·) = true := by kernel_rfl
theorem topKeelPermits_f4 : namedTie Tryz.prog Rows.topKeelPermitsRow.named (OpenSpec.ofChange Rows.topKeelPermitsSpec).bare.vars = true := by kernel_rfl
theorem topKeelPermits_f5 : (Rows.topKeelPermitsRow.stops == []) = true := by kernel_rfl
theorem topKeelPermits_f6 : (Tryz.prog.stops == []) = true := by kernel_rfl
theorem topKeelPermits_f7 : (Rows.topKeelPermitsRow.knobs == []) = true := by kernel_rfl
theorem topKeelPermits_f8 : (Tryz.prog.stopKnobs == []) = true := by kernel_rfl
theorem topKeelPermits_f9 : (Rows.topKeelPermitsRow.inPlace == Tryz.prog.inPlace 3) = true := by kernel_rfl
theorem topKeelPermits_f10 : (Rows.topKeelPermitsRow.unfollowed == Tryz.prog.unfollowed 3) = true := by kernel_rfl
theorem topKeelPermits_f11 : (Rows.topKeelPermitsRow.recurses == Tryz.prog.recurses 3) = true := by kernel_rfl
theorem topKeelPermits_f12 : (Rows.topKeelPermitsRow.named == Tryz.prog.varsNamed 3) = true := by kernel_rfl
theorem topKeelPermits_f13 : (Rows.topKeelPermitsRow.maps == (Tryz.f3.params.toList ++ (OpenSpec.ofChange Rows.topKeelPermitsSpec).bare.plain.varTypes Tryz.prog).any (Tryz.prog.mapsRec ·)) = true := by kernel_rfl
theorem topKeelPermits_f14 : (Rows.topKeelPermitsRow.ifaces == (Tryz.f3.params.toList ++ (OpenSpec.ofChange Rows.topKeelPermitsSpec).bare.plain.varTypes Tryz.prog).any (Tryz.prog.ifacesRec ·)) = true := by kernel_rfl
theorem topKeelPermits_f15 : (Rows.topKeelPermitsRow.mapsOut == Tryz.prog.mapsAmong Tryz.f3.resultTypes.toList) = true := by kernel_rfl
theorem topKeelPermits_f16 : (Rows.topKeelPermitsRow.loops == (Tryz.f3.params.toList ++ (OpenSpec.ofChange Rows.topKeelPermitsSpec).bare.plain.varTypes Tryz.prog).any (Tryz.prog.loopsFrom ·)) = true := by kernel_rfl
theorem topKeelPermits_f17 : (Rows.topKeelPermitsRow.wideKeys == (Tryz.f3.params.toList ++ (OpenSpec.ofChange Rows.topKeelPermitsSpec).bare.plain.varTypes Tryz.prog ++ Tryz.f3.resultTypes.toList).any (Tryz.prog.wideKeysFrom ·)) = true := by kernel_rfl
theorem topKeelPermits_f18 : (OpenSpec.ofChange Rows.topKeelPermitsSpec).bare.vars.all (Tryz.prog.varReadable ·) = true := by kernel_rfl
theorem topKeelPermits_f19 : Tryz.f3.resultTypes.all (fun t => Tryz.prog.readableRec t && decide (t < Tryz.prog.types.size)) = true := by kernel_rfl
theorem topKeelPermits_f20 : (Rows.topKeelPermitsRow.ifacesOut == Tryz.f3.resultTypes.toList.any (Tryz.prog.ifacesRec ·)) = true := by kernel_rfl
theorem topKeelPermits_f21 : (Rows.topKeelPermitsRow.loopsOut == Tryz.f3.resultTypes.toList.any (Tryz.prog.loopsFrom ·)) = true := by kernel_rfl
theorem topKeelPermits_f22 : (Rows.topKeelPermitsRow.plainKeys == Tryz.prog.plainKeys) = true := by kernel_rfl
theorem topKeelPermits_f23 : Rows.topKeelPermitsRow.shortTexts.isNone = true := by kernel_rfl
theorem topKeelPermits_f24 : Tryz.prog.stopsHeard = true := by kernel_rfl
theorem topKeelPermits_f25 : Tryz.prog.mayEnter = true := by kernel_rfl
theorem topKeelPermits_f26 : (Rows.topKeelPermitsRow.lifted == Tryz.prog.liftsFinal) = true := by kernel_rfl
theorem topKeelPermits_f27 : (Tryz.prog.make == some Rows.topKeelPermitsRow.make) = true := by kernel_rfl
theorem topKeelPermits_f28 : (Rows.topKeelPermitsRow.kinds == (if Rows.topKeelPermitsRow.domain.isEmpty then [] else Tryz.f3.params.toList.map fun t => match Tryz.prog.underlying t with | some (.int k) => some k | _ => none)) = true := by kernel_rfl
theorem topKeelPermits_f29 : (Rows.topKeelPermitsRow.pinned == Rows.topKeelPermitsRow.pinnedBy) = true := by kernel_rfl
theorem topKeelPermits_f30 : (Rows.topKeelPermitsRow.veiled == (Tryz.f3.params.toList ++ (OpenSpec.ofChange Rows.topKeelPermitsSpec).bare.plain.varTypes Tryz.prog ++ Tryz.f3.resultTypes.toList).any (Tryz.prog.veiledRec ·)) = true := by kernel_rfl
theorem topKeelPermits_f31 : Rows.topKeelPermitsRow.veiledFits Tryz.prog Tryz.f3.params.toList (Tryz.f3.params.toList ++ (OpenSpec.ofChange Rows.topKeelPermitsSpec).bare.plain.varTypes Tryz.prog ++ Tryz.f3.resultTypes.toList) = true := by kernel_rfl
set_option maxRecDepth 100000 in
theorem topKeelPermits_joined : joinedFacts Tryz.prog 3 Tryz.f3 (OpenSpec.ofChange Rows.topKeelPermitsSpec).bare Rows.topKeelPermitsRow = true := Go.Fs.joined_of topKeelPermits_f0 topKeelPermits_f1 topKeelPermits_f2 topKeelPermits_f3 topKeelPermits_f4 topKeelPermits_f5 topKeelPermits_f6 topKeelPermits_f7 topKeelPermits_f8 topKeelPermits_f9 topKeelPermits_f10 topKeelPermits_f11 topKeelPermits_f12 topKeelPermits_f13 topKeelPermits_f14 topKeelPermits_f15 topKeelPermits_f16 topKeelPermits_f17 topKeelPermits_f18 topKeelPermits_f19 topKeelPermits_f20 topKeelPermits_f21 topKeelPermits_f22 topKeelPermits_f23 topKeelPermits_f24 topKeelPermits_f25 topKeelPermits_f26 topKeelPermits_f27 topKeelPermits_f28 topKeelPermits_f29 topKeelPermits_f30 topKeelPermits_f31
end Go.Proofs.YtgkcodkgcnbdeabGreatDoor
