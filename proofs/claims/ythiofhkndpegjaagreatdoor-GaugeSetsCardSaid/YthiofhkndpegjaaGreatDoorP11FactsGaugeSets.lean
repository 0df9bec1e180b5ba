/- The closed facts of the row of GaugeSets, one by one. No condition. -/
import Derived.Test.YthiofhkndpegjaaGreatDoorRows
import Derived.Test.YthiofhkndpegjaaGreatDoorP10FsFacts
import Derived.KernelRfl
set_option linter.all false
namespace Go.Proofs.YthiofhkndpegjaaGreatDoor
theorem gaugeSets_f0 : Rows.gaugeSetsRow.wf (OpenSpec.ofChange (OpenSpec.ofChange Rows.gaugeSetsSpec).bare) = true := by kernel_rfl
theorem gaugeSets_f1 : laidOutB Tryz.prog = true := by kernel_rfl
theorem gaugeSets_f2 : mapsRowed Tryz.prog = true := by kernel_rfl
theorem gaugeSets_f3 : Tryz.f4.params.all (Tryz.prog.readableRec ·) = true := by kernel_rfl
theorem gaugeSets_f4 : namedTie Tryz.prog Rows.gaugeSetsRow.named (OpenSpec.ofChange Rows.gaugeSetsSpec).bare.vars = true := by kernel_rfl
theorem gaugeSets_f5 : (Rows.gaugeSetsRow.stops == []) = true := by kernel_rfl
theorem gaugeSets_f6 : (Tryz.prog.stops == []) = true := by kernel_rfl
theorem gaugeSets_f7 : (Rows.gaugeSetsRow.knobs == []) = true := by kernel_rfl
theorem gaugeSets_f8 : (Tryz.prog.stopKnobs == []) = true := by kernel_rfl
theorem gaugeSets_f9 : (Rows.gaugeSetsRow.inPlace == Tryz.prog.inPlace 4) = true := by kernel_rfl
theorem gaugeSets_f10 : (Rows.gaugeSetsRow.unfollowed == Tryz.prog.unfollowed 4) = true := by kernel_rfl
theorem gaugeSets_f11 : (Rows.gaugeSetsRow.recurses == Tryz.prog.recurses 4) = true := by kernel_rfl
theorem gaugeSets_f12 : (Rows.gaugeSetsRow.named == Tryz.prog.varsNamed 4) = true := by kernel_rfl
theorem gaugeSets_f13 : (Rows.gaugeSetsRow.maps == (Tryz.f4.params.toList ++ (OpenSpec.ofChange Rows.gaugeSetsSpec).bare.plain.varTypes Tryz.prog).any (Tryz.prog.mapsRec ·)) = true := by kernel_rfl
theorem gaugeSets_f14 : (Rows.gaugeSetsRow.ifaces == (Tryz.f4.params.toList ++ (OpenSpec.ofChange Rows.gaugeSetsSpec).bare.plain.varTypes Tryz.prog).any (Tryz.prog.ifacesRec ·)) = true := by kernel_rfl
theorem gaugeSets_f15 : (Rows.gaugeSetsRow.mapsOut == Tryz.prog.mapsAmong Tryz.f4.resultTypes.toList) = true := by kernel_rfl
theorem gaugeSets_f16 : (Rows.gaugeSetsRow.loops == (Tryz.f4.params.toList ++ (OpenSpec.ofChange Rows.gaugeSetsSpec).bare.plain.varTypes Tryz.prog).any (Tryz.prog.loopsFrom ·)) = true := by kernel_rfl
theorem gaugeSets_f17 : (Rows.gaugeSetsRow.wideKeys == (Tryz.f4.params.toList ++ (OpenSpec.ofChange Rows.gaugeSetsSpec).bare.plain.varTypes Tryz.prog ++ Tryz.f4.resultTypes.toList).any (Tryz.prog.wideKeysFrom ·)) = true := by kernel_rfl
theorem gaugeSets_f18 : (OpenSpec.ofChange Rows.gaugeSetsSpec).bare.vars.all (Tryz.prog.varReadable ·) = true := by kernel_rfl
theorem gaugeSets_f19 : Tryz.f4.resultTypes.all (fun t => Tryz.prog.readableRec t && decide (t < Tryz.prog.types.size)) = true := by kernel_rfl
theorem gaugeSets_f20 : (Rows.gaugeSetsRow.ifacesOut == Tryz.f4.resultTypes.toList.any (Tryz.prog.ifacesRec ·)) = true := by kernel_rfl
theorem gaugeSets_f21 : (Rows.gaugeSetsRow.loopsOut == Tryz.f4.resultTypes.toList.any (Tryz.prog.loopsFrom ·)) = true := by kernel_rfl
theorem gaugeSets_f22 : (Rows.gaugeSetsRow.plainKeys == Tryz.prog.plainKeys) = true := by kernel_rfl
theorem gaugeSets_f23 : Rows.gaugeSetsRow.shortTexts.isNone = true := by kernel_rfl
theorem gaugeSets_f24 : Tryz.prog.stopsHeard = true := by kernel_rfl
theorem gaugeSets_f25 : Tryz.prog.mayEnter = true := by kernel_rfl
theorem gaugeSets_f26 : (Rows.gaugeSetsRow.lifted == Tryz.prog.liftsFinal) = true := by kernel_rfl
theorem gaugeSets_f27 : (Tryz.prog.make == some Rows.gaugeSetsRow.make) = true := by kernel_rfl
theorem gaugeSets_f28 : (Rows.gaugeSetsRow.kinds == (if Rows.gaugeSetsRow.domain.isEmpty then [] else Tryz.f4.params.toList.map fun t => match Tryz.prog.underlying t with | some (.int k) => some k | _ => none)) = true := by kernel_rfl
theorem gaugeSets_f29 : (Rows.gaugeSetsRow.pinned == Rows.gaugeSetsRow.pinnedBy) = true := by kernel_rfl
theorem gaugeSets_f30 : (Rows.gaugeSetsRow.veiled == (Tryz.f4.params.toList ++ (OpenSpec.ofChange Rows.gaugeSetsSpec).bare.plain.varTypes Tryz.prog ++ Tryz.f4.resultTypes.toList).any (Tryz.prog.veiledRec ·)) = true := by kernel_rfl
theorem gaugeSets_f31 : Rows.gaugeSetsRow.veiledFits Tryz.prog Tryz.f4.params.toList (Tryz.f4.params.toList ++ (OpenSpec.ofChange Rows.gaugeSetsSpec).bare.plain.varTypes Tryz.prog ++ Tryz.f4.resultTypes.toList) = true := by kernel_rfl
set_option maxRecDepth 100000 in
theorem gaugeSets_joined : joinedFacts Tryz.prog 4 Tryz.f4 (OpenSpec.ofChange Rows.gaugeSetsSpec).bare Rows.gaugeSetsRow = true := Go.Fs.joined_of gaugeSets_f0 gaugeSets_f1 gaugeSets_f2 gaugeSets_f3 gaugeSets_f4 gaugeSets_f5 gaugeSets_f6 gaugeSets_f7 gaugeSets_f8 gaugeSets_f9 gaugeSets_f10 gaugeSets_f11 gaugeSets_f12 gaugeSets_f13 gaugeSets_f14 gaugeSets_f15 gaugeSets_f16 gaugeSets_f17 gaugeSets_f18 gaugeSets_f19 gaugeSets_f20 gaugeSets_f21 gaugeSets_f22 gaugeSets_f23 gaugeSets_f24 gaugeSets_f25 gaugeSets_f26 gaugeSets_f27 gaugeSets_f28 gaugeSets_f29 gaugeSets_f30 gaugeSets_f31
end Go.Proofs.YthiofhkndpegjaaGreatDoor
