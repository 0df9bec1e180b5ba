/- Contracts of functions of the program, over the evaluator: what each answers. Conditions: those in each statement. -/
import Derived.Test.YtednnfllcafliaaGreatDoorRows
import Derived.Test.YtednnfllcafliaaGreatDoorP6
import Derived.KernelRfl
set_option linter.all false
namespace Go.Proofs.YtednnfllcafliaaGreatDoor
theorem t1f0 : Rows.surgeTransfersRow.wf (OpenSpec.ofChange (OpenSpec.ofChange Rows.surgeTransfersSpec).bare) = true := by kernel_rfl
theorem t1f1 : laidOutB Tryz.prog = true := by kernel_rfl
theorem t1f2 : mapsRowed Tryz.prog = true := by kernel_rfl
theorem t1f3 : Tryz.f3.params.all (Tryz.prog.readableRec ·) = true := by kernel_rfl
theorem t1f4 : namedTie Tryz.prog Rows.surgeTransfersRow.named (OpenSpec.ofChange Rows.surgeTransfersSpec).bare.vars = true := by kernel_rfl
theorem t1f5 : (Rows.surgeTransfersRow.stops == []) = true := by kernel_rfl
theorem t1f6 : (Tryz.prog.stops == []) = true := by kernel_rfl
theorem t1f7 : (Rows.surgeTransfersRow.knobs == []) = true := by kernel_rfl
theorem t1f8 : (Tryz.prog.stopKnobs == []) = true := by kernel_rfl
theorem t1f9 : (Rows.surgeTransfersRow.inPlace == Tryz.prog.inPlace 3) = true := by kernel_rfl
theorem t1f10 : (Rows.surgeTransfersRow.unfollowed == Tryz.prog.unfollowed 3) = true := by kernel_rfl
theorem t1f11 : (Rows.surgeTransfersRow.recurses == Tryz.prog.recurses 3) = true := by kernel_rfl
theorem t1f12 : (Rows.surgeTransfersRow.named == Tryz.prog.varsNamed 3) = true := by kernel_rfl
theorem t1f13 : (Rows.surgeTransfersRow.maps == (Tryz.f3.params.toList ++ (OpenSpec.ofChange Rows.surgeTransfersSpec).bare.plain.varTypes Tryz.prog).any (Tryz.prog.mapsRec ·)) = true := by kernel_rfl
theorem t1f14 : (Rows.surgeTransfersRow.ifaces == (Tryz.f3.params.toList ++ (OpenSpec.ofChange Rows.surgeTransfersSpec).bare.plain.varTypes Tryz.prog).any (Tryz.prog.ifacesRec ·)) = true := by kernel_rfl
theorem t1f15 : (Rows.surgeTransfersRow.mapsOut == Tryz.prog.mapsAmong Tryz.f3.resultTypes.toList) = true := by kernel_rfl
theorem t1f16 : (Rows.surgeTransfersRow.loops == (Tryz.f3.params.toList ++ (OpenSpec.ofChange Rows.surgeTransfersSpec).bare.plain.varTypes Tryz.prog).any (Tryz.prog.loopsFrom ·)) = true := by kernel_rfl
theorem t1f17 : (Rows.surgeTransfersRow.wideKeys == (Tryz.f3.params.toList ++ (OpenSpec.ofChange Rows.surgeTransfersSpec).bare.plain.varTypes Tryz.prog ++ Tryz.f3.resultTypes.toList).any (Tryz.prog.wideKeysFrom ·)) = true := by kernel_rfl
theorem t1f18 : (OpenSpec.ofChange Rows.surgeTransfersSpec).bare.vars.all (Tryz.prog.varReadable ·) = true := by kernel_rfl
theorem t1f19 : Tryz.f3.resultTypes.all (fun t => Tryz.prog.readableRec t && decide (t < Tryz.prog.types.size)) = true := by kernel_rfl
theorem t1f20 : (Rows.surgeTransfersRow.ifacesOut == Tryz.f3.resultTypes.toList.any (Tryz.prog.ifacesRec ·)) = true := by kernel_rfl
theorem t1f21 : (Rows.surgeTransfersRow.loopsOut == Tryz.f3.resultTypes.toList.any (Tryz.prog.loopsFrom ·)) = true := by kernel_rfl
theorem t1f22 : (Rows.surgeTransfersRow.plainKeys == Tryz.prog.plainKeys) = true := by kernel_rfl
theorem t1f23 : Rows.surgeTransfersRow.shortTexts.isNone = true := by kernel_rfl
theorem t1f24 : Tryz.prog.stopsHeard = true := by kernel_rfl
theorem t1f25 : Tryz.prog.mayEnter = true := by kernel_rfl
theorem t1f26 : (Rows.surgeTransfersRow.lifted == Tryz.prog.liftsFinal) = true := by kernel_rfl
theorem t1f27 : (Tryz.prog.make == some Rows.surgeTransfersRow.make) = true := by kernel_rfl
theorem t1f28 : (Rows.surgeTransfersRow.kinds == (if Rows.surgeTransfersRow.domain.isEmpty then [] else Tryz.f3.params.toList.map fun t => match Tryz.prog.underlying t with | some (.int k) => some k | _ => none)) = true := by kernel_rfl
theorem t1f29 : (Rows.surgeTransfersRow.pinned == Rows.surgeTransfersRow.pinnedBy) = true := by kernel_rfl
theorem t1f30 : (Rows.surgeTransfersRow.veiled == (Tryz.f3.params.toList ++ (OpenSpec.ofChange Rows.surgeTransfersSpec).bare.plain.varTypes Tryz.prog ++ Tryz.f3.resultTypes.toList).any (Tryz.prog.veiledRec ·)) = true := by kernel_rfl
theorem t1f31 : Rows.surgeTransfersRow.veiledFits Tryz.prog Tryz.f3.params.toList (Tryz.f3.params.toList ++ (OpenSpec.ofChange Rows.surgeTransfersSpec).bare.plain.varTypes Tryz.prog ++ Tryz.f3.resultTypes.toList) = true := by kernel_rfl
set_option maxRecDepth 100000 in
theorem t1joined : joinedFacts Tryz.prog 3 Tryz.f3 (OpenSpec.ofChange Rows.surgeTransfersSpec).bare Rows.surgeTransfersRow = true := Go.Fs.joined_of t1f0 t1f1 t1f2 t1f3 t1f4 t1f5 t1f6 t1f7 t1f8 t1f9 t1f10 t1f11 t1f12 t1f13 t1f14 t1f15 t1f16 t1f17 t1f18 t1f19 t1f20 t1f21 t1f22 t1f23 t1f24 t1f25 t1f26 t1f27 t1f28 t1f29 t1f30 t1f31
end Go.Proofs.YtednnfllcafliaaGreatDoor
