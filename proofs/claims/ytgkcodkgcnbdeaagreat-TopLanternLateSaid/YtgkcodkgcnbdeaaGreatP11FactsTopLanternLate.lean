/- The closed facts of the row of TopLanternLate, one by one. No condition. -/
import Derived.Test.YtgkcodkgcnbdeaaGreatRows
import Derived.Test.YtgkcodkgcnbdeaaGreatP10FsFacts
import Derived.KernelRfl
set_option linter.all false
namespace Go.Proofs.YtgkcodkgcnbdeaaGreat
theorem C7 : Rows.topLanternLateRow.wf (OpenSpec.ofChange (OpenSpec.ofChange Rows.topLanternLateSpec).bare) = true := by kernel_rfl
theorem C8 : laidOutB Tryz.prog = true := by kernel_rfl
theorem C9 : mapsRowed Tryz.prog = true := by kernel_rfl
theorem CA : Tryz.f3.params.all (Tryz.prog.readableRec ·) = true := by kernel_rfl
theorem CB : namedTie Tryz.prog Rows.topLanternLateRow.named (OpenSpec.ofChange Rows.topLanternLateSpec).bare.vars = true := by kernel_rfl
theorem CC : (Rows.topLanternLateRow.stops == []) = true := by kernel_rfl
theorem CD : (Tryz.prog.stops == []) = true := by kernel_rfl
theorem CE : (Rows.topLanternLateRow.knobs == []) = true := by kernel_rfl
theorem CF : (Tryz.prog.stopKnobs == []) = true := by kernel_rfl
theorem CG : (Rows.topLanternLateRow.inPlace == Tryz.prog.inPlace 3) = true := by kernel_rfl
theorem AQ : (Rows.topLanternLateRow.unfollowed == Tryz.prog.unfollowed 3) = true := by kernel_rfl
theorem AR : (Rows.topLanternLateRow.recurses == Tryz.prog.recurses 3) = true := by kernel_rfl
theorem AS : (Rows.topLanternLateRow.named == Tryz.prog.varsNamed 3) = true := by kernel_rfl
theorem AT : (Rows.topLanternLateRow.maps == (Tryz.f3.params.toList ++ (OpenSpec.ofChange Rows.topLanternLateSpec).bare.plain.varTypes Tryz.prog).any (Tryz.prog.mapsRec ·)) = true := by kernel_rfl
theorem AU : (Rows.topLanternLateRow.ifaces == (Tryz.f3.params.toList ++ (OpenSpec.ofChange Rows.topLanternLateSpec).bare.plain.varTypes Tryz.prog).any (Tryz.prog.ifacesRec ·)) = true := by kernel_rfl
theorem AV : (Rows.topLanternLateRow.mapsOut == Tryz.prog.mapsAmong Tryz.f3.resultTypes.toList) = true := by kernel_rfl
theorem AW : (Rows.topLanternLateRow.loops == (Tryz.f3.params.toList ++ (OpenSpec.ofChange Rows.topLanternLateSpec).bare.plain.varTypes Tryz.prog).any (Tryz.prog.loopsFrom ·)) = true := by kernel_rfl
theorem AX : (Rows.topLanternLateRow.wideKeys == (Tryz.f3.params.toList ++ (OpenSpec.ofChange Rows.topLanternLateSpec).bare.plain.varTypes Tryz.prog ++ Tryz.f3.resultTypes.toList).any (Tryz.prog.wideKeysFrom ·)) = true := by kernel_rfl
theorem AY : (OpenSpec.ofChange Rows.topLanternLateSpec).bare.vars.all (Tryz.prog.varReadable ·) = true := by kernel_rfl
theorem AZ : Tryz.f3.resultTypes.all (fun t => Tryz.prog.readableRec t && decide (t < Tryz.prog.types.size)) = true := by kernel_rfl
theorem B0 : (Rows.topLanternLateRow.ifacesOut == Tryz.f3.resultTypes.toList.any (Tryz.prog.ifacesRec ·)) = true := by kernel_rfl
theorem B1 : (Rows.topLanternLateRow.loopsOut == Tryz.f3.resultTypes.toList.any (Tryz.prog.loopsFrom ·)) = true := by kernel_rfl
theorem B2 : (Rows.topLanternLateRow.plainKeys == Tryz.prog.plainKeys) = true := by kernel_rfl
theorem B3 : Rows.topLanternLateRow.shortTexts.isNone = true := by kernel_rfl
theorem B4 : Tryz.prog.stopsHeard = true := by kernel_rfl
theorem B5 : Tryz.prog.mayEnter = true := by kernel_rfl
theorem B6 : (Rows.topLanternLateRow.lifted == Tryz.prog.liftsFinal) = true := by kernel_rfl
theorem B7 : (Tryz.prog.make == some Rows.topLanternLateRow.make) = true := by kernel_rfl
theorem B8 : (Rows.topLanternLateRow.kinds == (if Rows.topLanternLateRow.domain.isEmpty then [] else Tryz.f3.params.toList.map fun t => match Tryz.prog.underlying t with | some (.int k) => some k | _ => none)) = true := by kernel_rfl
theorem B9 : (Rows.topLanternLateRow.pinned == Rows.topLanternLateRow.pinnedBy) = true := by kernel_rfl
theorem BA : (Rows.topLanternLateRow.veiled == (Tryz.f3.params.toList ++ (OpenSpec.ofChange Rows.topLanternLateSpec).bare.plain.varTypes Tryz.prog ++ Tryz.f3.resultTypes.toList).any (Tryz.prog.veiledRec ·)) = true := by kernel_rfl
theorem BB : Rows.topLanternLateRow.veiledFits Tryz.prog Tryz.f3.params.toList (Tryz.f3.params.toList ++ (OpenSpec.ofChange Rows.topLanternLateSpec).bare.plain.varTypes Tryz.prog ++ Tryz.f3.resultTypes.toList) = true := by kernel_rfl
set_option maxRecDepth 100000 in
theorem wN : joinedFacts Tryz.prog 3 Tryz.f3 (OpenSpec.ofChange Rows.topLanternLateSpec).bare Rows.topLanternLateRow = true := Go.Fs.W7 C7 C8 C9 CA CB CC CD CE CF CG AQ AR AS AT AU AV AW AX AY AZ B0 B1 B2 B3 B4 B5 B6 B7 B8 B9 BA BB
end Go.Proofs.YtgkcodkgcnbdeaaGreat
