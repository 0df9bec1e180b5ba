/- The closed facts of the row of SurgeLikely, one by one. No condition. -/
import Derived.Test.YtednnfllcafliaaGreatDoorRows
import Derived.Test.YtednnfllcafliaaGreatDoorP10
import Derived.KernelRfl
set_option linter.all false
namespace Go.Proofs.YtednnfllcafliaaGreatDoor
theorem surgeLikely_f0 : Rows.surgeLikelyRow.wf (OpenSpec.ofChange (OpenSpec.ofChange Rows.surgeLikelySpec).bare) = true := by kernel_rfl
theorem surgeLikely_f1 : laidOutB Tryz.prog = true := by kernel_rfl
theorem surgeLikely_f2 : mapsRowed Tryz.prog = true := by kernel_rfl
theorem surgeLikely_f3 : Tryz.f8.params.all (Tryz.prog.readableRec ·) = true := by kernel_rfl
theorem surgeLikely_f4 : namedTie Tryz.prog Rows.surgeLikelyRow.named (OpenSpec.ofChange Rows.surgeLikelySpec).bare.vars = true := by kernel_rfl
theorem surgeLikely_f5 : (Rows.surgeLikelyRow.stops == []) = true := by kernel_rfl
theorem surgeLikely_f6 : (Tryz.prog.stops == []) = true := by kernel_rfl
theorem surgeLikely_f7 : (Rows.surgeLikelyRow.knobs == []) = true := by kernel_rfl
theorem surgeLikely_f8 : (Tryz.prog.stopKnobs == []) = true := by kernel_rfl
theorem surgeLikely_f9 : (Rows.surgeLikelyRow.inPlace == Tryz.prog.inPlace 8) = true := by kernel_rfl
theorem surgeLikely_f10 : (Rows.surgeLikelyRow.unfollowed == Tryz.prog.unfollowed 8) = true := by kernel_rfl
theorem surgeLikely_f11 : (Rows.surgeLikelyRow.recurses == Tryz.prog.recurses 8) = true := by kernel_rfl
theorem surgeLikely_f12 : (Rows.surgeLikelyRow.named == Tryz.prog.varsNamed 8) = true := by kernel_rfl
theorem surgeLikely_f13 : (Rows.surgeLikelyRow.maps == (Tryz.f8.params.toList ++ (OpenSpec.ofChange Rows.surgeLikelySpec).bare.plain.varTypes Tryz.prog).any (Tryz.prog.mapsRec ·)) = true := by kernel_rfl
theorem surgeLikely_f14 : (Rows.surgeLikelyRow.ifaces == (Tryz.f8.params.toList ++ (OpenSpec.ofChange Rows.surgeLikelySpec).bare.plain.varTypes Tryz.prog).any (Tryz.prog.ifacesRec ·)) = true := by kernel_rfl
theorem surgeLikely_f15 : (Rows.surgeLikelyRow.mapsOut == Tryz.prog.mapsAmong Tryz.f8.resultTypes.toList) = true := by kernel_rfl
theorem surgeLikely_f16 : (Rows.surgeLikelyRow.loops == (Tryz.f8.params.toList ++ (OpenSpec.ofChange Rows.surgeLikelySpec).bare.plain.varTypes Tryz.prog).any (Tryz.prog.loopsFrom ·)) = true := by kernel_rfl
theorem surgeLikely_f17 : (Rows.surgeLikelyRow.wideKeys == (Tryz.f8.params.toList ++ (OpenSpec.ofChange Rows.surgeLikelySpec).bare.plain.varTypes Tryz.prog ++ Tryz.f8.resultTypes.toList).any (Tryz.prog.wideKeysFrom ·)) = true := by kernel_rfl
theorem surgeLikely_f18 : (OpenSpec.ofChange Rows.surgeLikelySpec).bare.vars.all (Tryz.prog.varReadable ·) = true := by kernel_rfl
theorem surgeLikely_f19 : Tryz.f8.resultTypes.all (fun t => Tryz.prog.readableRec t && decide (t < Tryz.prog.types.size)) = true := by kernel_rfl
theorem surgeLikely_f20 : (Rows.surgeLikelyRow.ifacesOut == Tryz.f8.resultTypes.toList.any (Tryz.prog.ifacesRec ·)) = true := by kernel_rfl
theorem surgeLikely_f21 : (Rows.surgeLikelyRow.loopsOut == Tryz.f8.resultTypes.toList.any (Tryz.prog.loopsFrom ·)) = true := by kernel_rfl
theorem surgeLikely_f22 : (Rows.surgeLikelyRow.plainKeys == Tryz.prog.plainKeys) = true := by kernel_rfl
theorem surgeLikely_f23 : Rows.surgeLikelyRow.shortTexts.isNone = true := by kernel_rfl
theorem surgeLikely_f24 : Tryz.prog.stopsHeard = true := by kernel_rfl
theorem surgeLikely_f25 : Tryz.prog.mayEnter = true := by kernel_rfl
theorem surgeLikely_f26 : (Rows.surgeLikelyRow.lifted == Tryz.prog.liftsFinal) = true := by kernel_rfl
theorem surgeLikely_f27 : (Tryz.prog.make == some Rows.surgeLikelyRow.make) = true := by kernel_rfl
theorem surgeLikely_f28 : (Rows.surgeLikelyRow.kinds == (if Rows.surgeLikelyRow.domain.isEmpty then [] else Tryz.f8.params.toList.map fun t => match Tryz.prog.underlying t with | some (.int k) => some k | _ => none)) = true := by kernel_rfl
theorem surgeLikely_f29 : (Rows.surgeLikelyRow.pinned == Rows.surgeLikelyRow.pinnedBy) = true := by kernel_rfl
theorem surgeLikely_f30 : (Rows.surgeLikelyRow.veiled == (Tryz.f8.params.toList ++ (OpenSpec.ofChange Rows.surgeLikelySpec).bare.plain.varTypes Tryz.prog ++ Tryz.f8.resultTypes.toList).any (Tryz.prog.veiledRec ·)) = true := by kernel_rfl
theorem surgeLikely_f31 : Rows.surgeLikelyRow.veiledFits Tryz.prog Tryz.f8.params.toList (Tryz.f8.params.toList ++ (OpenSpec.ofChange Rows.surgeLikelySpec).bare.plain.varTypes Tryz.prog ++ Tryz.f8.resultTypes.toList) = true := by kernel_rfl
set_option maxRecDepth 100000 in
theorem surgeLikely_joined : joinedFacts Tryz.prog 8 Tryz.f8 (OpenSpec.ofChange Rows.surgeLikelySpec).bare Rows.surgeLikelyRow = true := Go.Fs.joined_of surgeLikely_f0 surgeLikely_f1 surgeLikely_f2 surgeLikely_f3 surgeLikely_f4 surgeLikely_f5 surgeLikely_f6 surgeLikely_f7 surgeLikely_f8 surgeLikely_f9 surgeLikely_f10 surgeLikely_f11 surgeLikely_f12 surgeLikely_f13 surgeLikely_f14 surgeLikely_f15 surgeLikely_f16 surgeLikely_f17 surgeLikely_f18 surgeLikely_f19 surgeLikely_f20 surgeLikely_f21 surgeLikely_f22 surgeLikely_f23 surgeLikely_f24 surgeLikely_f25 surgeLikely_f26 surgeLikely_f27 surgeLikely_f28 surgeLikely_f29 surgeLikely_f30 surgeLikely_f31
end Go.Proofs.YtednnfllcafliaaGreatDoor
