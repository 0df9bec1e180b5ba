/- The closed facts of the row of GaugeFollows, one by one. No condition. -/
import Derived.Test.YthiofhkndpegjaaGreatDoorRows
import Derived.Test.YthiofhkndpegjaaGreatDoorP13FsFacts
import Derived.KernelRfl
set_option linter.all false
namespace Go.Proofs.YthiofhkndpegjaaGreatDoor
theorem EY : Rows.gaugeFollowsRow.wf (OpenSpec.ofChange (OpenSpec.ofChange Rows.gaugeFollowsSpec).bare) = true := by kernel_rfl
theorem EZ : laidOutB Tryz.prog = true := by kernel_rfl
theorem F0 : mapsRowed Tryz.prog = true := by kernel_rfl
theorem F1 : Tryz.f13.params.all (Tryz.prog.readableRec ·) = true := by kernel_rfl
theorem F2 : namedTie Tryz.prog Rows.gaugeFollowsRow.named (OpenSpec.ofChange Rows.gaugeFollowsSpec).bare.vars = true := by kernel_rfl
theorem F3 : (Rows.gaugeFollowsRow.stops == []) = true := by kernel_rfl
theorem F4 : (Tryz.prog.stops == []) = true := by kernel_rfl
theorem F5 : (Rows.gaugeFollowsRow.knobs == []) = true := by kernel_rfl
theorem F6 : (Tryz.prog.stopKnobs == []) = true := by kernel_rfl
theorem F7 : (Rows.gaugeFollowsRow.inPlace == Tryz.prog.inPlace 13) = true := by kernel_rfl
theorem CU : (Rows.gaugeFollowsRow.unfollowed == Tryz.prog.unfollowed 13) = true := by kernel_rfl
theorem CV : (Rows.gaugeFollowsRow.recurses == Tryz.prog.recurses 13) = true := by kernel_rfl
theorem CW : (Rows.gaugeFollowsRow.named == Tryz.prog.varsNamed 13) = true := by kernel_rfl
theorem CX : (Rows.gaugeFollowsRow.maps == (Tryz.f13.params.toList ++ (OpenSpec.ofChange Rows.gaugeFollowsSpec).bare.plain.varTypes Tryz.prog).any (Tryz.prog.mapsRec ·)) = true := by kernel_rfl
theorem CY : (Rows.gaugeFollowsRow.ifaces == (Tryz.f13.params.toList ++ (OpenSpec.ofChange Rows.gaugeFollowsSpec).bare.plain.varTypes Tryz.prog).any (Tryz.prog.ifacesRec ·)) = true := by kernel_rfl
theorem CZ : (Rows.gaugeFollowsRow.mapsOut == Tryz.prog.mapsAmong Tryz.f13.resultTypes.toList) = true := by kernel_rfl
theorem D0 : (Rows.gaugeFollowsRow.loops == (Tryz.f13.params.toList ++ (OpenSpec.ofChange Rows.gaugeFollowsSpec).bare.plain.varTypes Tryz.prog).any (Tryz.prog.loopsFrom ·)) = true := by kernel_rfl
theorem D1 : (Rows.gaugeFollowsRow.wideKeys == (Tryz.f13.params.toList ++ (OpenSpec.ofChange Rows.gaugeFollowsSpec).bare.plain.varTypes Tryz.prog ++ Tryz.f13.resultTypes.toList).any (Tryz.prog.wideKeysFrom ·)) = true := by kernel_rfl
theorem D2 : (OpenSpec.ofChange Rows.gaugeFollowsSpec).bare.vars.all (Tryz.prog.varReadable ·) = true := by kernel_rfl
theorem D3 : Tryz.f13.resultTypes.all (fun t => Tryz.prog.readableRec t && decide (t < Tryz.prog.types.size)) = true := by kernel_rfl
theorem D4 : (Rows.gaugeFollowsRow.ifacesOut == Tryz.f13.resultTypes.toList.any (Tryz.prog.ifacesRec ·)) = true := by kernel_rfl
theorem D5 : (Rows.gaugeFollowsRow.loopsOut == Tryz.f13.resultTypes.toList.any (Tryz.prog.loopsFrom ·)) = true := by kernel_rfl
theorem D6 : (Rows.gaugeFollowsRow.plainKeys == Tryz.prog.plainKeys) = true := by kernel_rfl
theorem D7 : Rows.gaugeFollowsRow.shortTexts.isNone = true := by kernel_rfl
theorem D8 : Tryz.prog.stopsHeard = true := by kernel_rfl
theorem D9 : Tryz.prog.mayEnter = true := by kernel_rfl
theorem DA : (Rows.gaugeFollowsRow.lifted == Tryz.prog.liftsFinal) = true := by kernel_rfl
theorem DB : (Tryz.prog.make == some Rows.gaugeFollowsRow.make) = true := by kernel_rfl
theorem DC : (Rows.gaugeFollowsRow.kinds == (if Rows.gaugeFollowsRow.domain.isEmpty then [] else Tryz.f13.params.toList.map fun t => match Tryz.prog.underlying t with | some (.int k) => some k | _ => none)) = true := by kernel_rfl
theorem DD : (Rows.gaugeFollowsRow.pinned == Rows.gaugeFollowsRow.pinnedBy) = true := by kernel_rfl
theorem DE : (Rows.gaugeFollowsRow.veiled == (Tryz.f13.params.toList ++ (OpenSpec.ofChange Rows.gaugeFollowsSpec).bare.plain.varTypes Tryz.prog ++ Tryz.f13.resultTypes.toList).any (Tryz.prog.veiledRec ·)) = true := by kernel_rfl
theorem DF : Rows.gaugeFollowsRow.veiledFits Tryz.prog Tryz.f13.params.toList (Tryz.f13.params.toList ++ (OpenSpec.ofChange Rows.gaugeFollowsSpec).bare.plain.varTypes Tryz.prog ++ Tryz.f13.resultTypes.toList) = true := by kernel_rfl
set_option maxRecDepth 100000 in
theorem yL : joinedFacts Tryz.prog 13 Tryz.f13 (OpenSpec.ofChange Rows.gaugeFollowsSpec).bare Rows.gaugeFollowsRow = true := Go.Fs.X1 EY EZ F0 F1 F2 F3 F4 F5 F6 F7 CU CV CW CX CY CZ D0 D1 D2 D3 D4 D5 D6 D7 D8 D9 DA DB DC DD DE DF
end Go.Proofs.YthiofhkndpegjaaGreatDoor
