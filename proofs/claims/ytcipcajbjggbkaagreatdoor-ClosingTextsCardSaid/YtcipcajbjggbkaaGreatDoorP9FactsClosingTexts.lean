/- The closed facts of the row of ClosingTexts, one by one. No condition. -/
import Derived.Test.YtcipcajbjggbkaaGreatDoorRows
import Derived.Test.YtcipcajbjggbkaaGreatDoorP8FsFacts
import Derived.KernelRfl
set_option linter.all false
namespace Go.Proofs.YtcipcajbjggbkaaGreatDoor
theorem closingTexts_f0 : Rows.closingTextsRow.wf (OpenSpec.ofChange (OpenSpec.ofChange Rows.closingTextsSpec).bare) = true := by kernel_rfl
theorem closingTexts_f1 : laidOutB Tryz.prog = true := by kernel_rfl
theorem closingTexts_f2 : mapsRowed Tryz.prog = true := by kernel_rfl
theorem closingTexts_f3 : Tryz.f3.params.all (Tryz.prog.readableRec ·) = true := by kernel_rfl
theorem closingTexts_f4 : namedTie Tryz.prog Rows.closingTextsRow.named (OpenSpec.ofChange Rows.closingTextsSpec).bare.vars = true := by kernel_rfl
theorem closingTexts_f5 : (Rows.closingTextsRow.stops == []) = true := by kernel_rfl
theorem closingTexts_f6 : (Tryz.prog.stops == []) = true := by kernel_rfl
theorem closingTexts_f7 : (Rows.closingTextsRow.knobs == []) = true := by kernel_rfl
theorem closingTexts_f8 : (Tryz.prog.stopKnobs == []) = true := by kernel_rfl
theorem closingTexts_f9 : (Rows.closingTextsRow.inPlace == Tryz.prog.inPlace 3) = true := by kernel_rfl
theorem closingTexts_f10 : (Rows.closingTextsRow.unfollowed == Tryz.prog.unfollowed 3) = true := by kernel_rfl
theorem closingTexts_f11 : (Rows.closingTextsRow.recurses == Tryz.prog.recurses 3) = true := by kernel_rfl
theorem closingTexts_f12 : (Rows.closingTextsRow.named == Tryz.prog.varsNamed 3) = true := by kernel_rfl
theorem closingTexts_f13 : (Rows.closingTextsRow.maps == (Tryz.f3.params.toList ++ (OpenSpec.ofChange Rows.closingTextsSpec).bare.plain.varTypes Tryz.prog).any (Tryz.prog.mapsRec ·)) = true := by kernel_rfl
theorem closingTexts_f14 : (Rows.closingTextsRow.ifaces == (Tryz.f3.params.toList ++ (OpenSpec.ofChange Rows.closingTextsSpec).bare.plain.varTypes Tryz.prog).any (Tryz.prog.ifacesRec ·)) = true := by kernel_rfl
theorem closingTexts_f15 : (Rows.closingTextsRow.mapsOut == Tryz.prog.mapsAmong Tryz.f3.resultTypes.toList) = true := by kernel_rfl
theorem closingTexts_f16 : (Rows.closingTextsRow.loops == (Tryz.f3.params.toList ++ (OpenSpec.ofChange Rows.closingTextsSpec).bare.plain.varTypes Tryz.prog).any (Tryz.prog.loopsFrom ·)) = true := by kernel_rfl
theorem closingTexts_f17 : (Rows.closingTextsRow.wideKeys == (Tryz.f3.params.toList ++ (OpenSpec.ofChange Rows.closingTextsSpec).bare.plain.varTypes Tryz.prog ++ Tryz.f3.resultTypes.toList).any (Tryz.prog.wideKeysFrom ·)) = true := by kernel_rfl
theorem closingTexts_f18 : (OpenSpec.ofChange Rows.closingTextsSpec).bare.vars.all (Tryz.prog.varReadable ·) = true := by kernel_rfl
theorem closingTexts_f19 : Tryz.f3.resultTypes.all (fun t => Tryz.prog.readableRec t && decide (t < Tryz.prog.types.size)) = true := by kernel_rfl
theorem closingTexts_f20 : (Rows.closingTextsRow.ifacesOut == Tryz.f3.resultTypes.toList.any (Tryz.prog.ifacesRec ·)) = true := by kernel_rfl
theorem closingTexts_f21 : (Rows.closingTextsRow.loopsOut == Tryz.f3.resultTypes.toList.any (Tryz.prog.loopsFrom ·)) = true := by kernel_rfl
theorem closingTexts_f22 : (Rows.closingTextsRow.plainKeys == Tryz.prog.plainKeys) = true := by kernel_rfl
theorem closingTexts_f23 : Rows.closingTextsRow.shortTexts.isNone = true := by kernel_rfl
theorem closingTexts_f24 : Tryz.prog.stopsHeard = true := by kernel_rfl
theorem closingTexts_f25 : Tryz.prog.mayEnter = true := by kernel_rfl
theorem closingTexts_f26 : (Rows.closingTextsRow.lifted == Tryz.prog.liftsFinal) = true := by kernel_rfl
theorem closingTexts_f27 : (Tryz.prog.make == some Rows.closingTextsRow.make) = true := by kernel_rfl
theorem closingTexts_f28 : (Rows.closingTextsRow.kinds == (if Rows.closingTextsRow.domain.isEmpty then [] else Tryz.f3.params.toList.map fun t => match Tryz.prog.underlying t with | some (.int k) => some k | _ => none)) = true := by kernel_rfl
theorem closingTexts_f29 : (Rows.closingTextsRow.pinned == Rows.closingTextsRow.pinnedBy) = true := by kernel_rfl
theorem closingTexts_f30 : (Rows.closingTextsRow.veiled == (Tryz.f3.params.toList ++ (OpenSpec.ofChange Rows.closingTextsSpec).bare.plain.varTypes Tryz.prog ++ Tryz.f3.resultTypes.toList).any (Tryz.prog.veiledRec ·)) = true := by kernel_rfl
theorem closingTexts_f31 : Rows.closingTextsRow.veiledFits Tryz.prog Tryz.f3.params.toList (Tryz.f3.params.toList ++ (OpenSpec.ofChange Rows.closingTextsSpec).bare.plain.varTypes Tryz.prog ++ Tryz.f3.resultTypes.toList) = true := by kernel_rfl
set_option maxRecDepth 100000 in
theorem closingTexts_joined : joinedFacts Tryz.prog 3 Tryz.f3 (OpenSpec.ofChange Rows.closingTextsSpec).bare Rows.closingTextsRow = true := Go.Fs.joined_of closingTexts_f0 closingTexts_f1 closingTexts_f2 closingTexts_f3 closingTexts_f4 closingTexts_f5 closingTexts_f6 closingTexts_f7 closingTexts_f8 closingTexts_f9 closingTexts_f10 closingTexts_f11 closingTexts_f12 closingTexts_f13 closingTexts_f14 closingTexts_f15 closingTexts_f16 closingTexts_f17 closingTexts_f18 closingTexts_f19 closingTexts_f20 closingTexts_f21 closingTexts_f22 closingTexts_f23 closingTexts_f24 closingTexts_f25 closingTexts_f26 closingTexts_f27 closingTexts_f28 closingTexts_f29 closingTexts_f30 closingTexts_f31
end Go.Proofs.YtcipcajbjggbkaaGreatDoor
