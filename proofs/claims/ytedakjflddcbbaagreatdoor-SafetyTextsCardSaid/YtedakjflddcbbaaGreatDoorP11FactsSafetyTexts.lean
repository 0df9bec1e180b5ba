/- The closed facts of the row of SafetyTexts, one by one. No condition. -/
import Derived.Test.YtedakjflddcbbaaGreatDoorRows
import Derived.Test.YtedakjflddcbbaaGreatDoorP10FsFacts
import Derived.KernelRfl
set_option linter.all false
namespace Go.Proofs.YtedakjflddcbbaaGreatDoor
theorem H9 : Rows.safetyTextsRow.wf (OpenSpec.ofChange (OpenSpec.ofChange Rows.safetyTextsSpec).bare) = true := by kernel_rfl
theorem HA : laidOutB Tryz.prog = true := by kernel_rfl
theorem HB : mapsRowed Tryz.prog = true := by kernel_rfl
theorem HC : Tryz.f3.params.all (Tryz.prog.readableRec ·) = true := by kernel_rfl
theorem HD : namedTie Tryz.prog Rows.safetyTextsRow.named (OpenSpec.ofChange Rows.safetyTextsSpec).bare.vars = true := by kernel_rfl
theorem HE : (Rows.safetyTextsRow.stops == []) = true := by kernel_rfl
theorem HF : (Tryz.prog.stops == []) = true := by kernel_rfl
theorem HG : (Rows.safetyTextsRow.knobs == []) = true := by kernel_rfl
theorem HH : (Tryz.prog.stopKnobs == []) = true := by kernel_rfl
theorem HI : (Rows.safetyTextsRow.inPlace == Tryz.prog.inPlace 3) = true := by kernel_rfl
theorem E3 : (Rows.safetyTextsRow.unfollowed == Tryz.prog.unfollowed 3) = true := by kernel_rfl
theorem E4 : (Rows.safetyTextsRow.recurses == Tryz.prog.recurses 3) = true := by kernel_rfl
theorem E5 : (Rows.safetyTextsRow.named == Tryz.prog.varsNamed 3) = true := by kernel_rfl
theorem E6 : (Rows.safetyTextsRow.maps == (Tryz.f3.params.toList ++ (OpenSpec.ofChange Rows.safetyTextsSpec).bare.plain.varTypes Tryz.prog).any (Tryz.prog.mapsRec ·)) = true := by kernel_rfl
theorem E7 : (Rows.safetyTextsRow.ifaces == (Tryz.f3.params.toList ++ (OpenSpec.ofChange Rows.safetyTextsSpec).bare.plain.varTypes Tryz.prog).any (Tryz.prog.ifacesRec ·)) = true := by kernel_rfl
theorem E8 : (Rows.safetyTextsRow.mapsOut == Tryz.prog.mapsAmong Tryz.f3.resultTypes.toList) = true := by kernel_rfl
theorem E9 : (Rows.safetyTextsRow.loops == (Tryz.f3.params.toList ++ (OpenSpec.ofChange Rows.safetyTextsSpec).bare.plain.varTypes Tryz.prog).any (Tryz.prog.loopsFrom ·)) = true := by kernel_rfl
theorem EA : (Rows.safetyTextsRow.wideKeys == (Tryz.f3.params.toList ++ (OpenSpec.ofChange Rows.safetyTextsSpec).bare.plain.varTypes Tryz.prog ++ Tryz.f3.resultTypes.toList).any (Tryz.prog.wideKeysFrom ·)) = true := by kernel_rfl
theorem EB : (OpenSpec.ofChange Rows.safetyTextsSpec).bare.vars.all (Tryz.prog.varReadable ·) = true := by kernel_rfl
theorem EC : Tryz.f3.resultTypes.all (fun t => Tryz.prog.readableRec t && decide (t < Tryz.prog.types.size)) = true := by kernel_rfl
theorem ED : (Rows.safetyTextsRow.ifacesOut == Tryz.f3.resultTypes.toList.any (Tryz.prog.ifacesRec ·)) = true := by kernel_rfl
theorem EE : (Rows.safetyTextsRow.loopsOut == Tryz.f3.resultTypes.toList.any (Tryz.prog.loopsFrom ·)) = true := by kernel_rfl
theorem EF : (Rows.safetyTextsRow.plainKeys == Tryz.prog.plainKeys) = true := by kernel_rfl
theorem EG : Rows.safetyTextsRow.shortTexts.isNone = true := by kernel_rfl
theorem EH : Tryz.prog.stopsHeard = true := by kernel_rfl
theorem EI : Tryz.prog.mayEnter = true := by kernel_rfl
theorem EJ : (Rows.safetyTextsRow.lifted == Tryz.prog.liftsFinal) = true := by kernel_rfl
theorem EK : (Tryz.prog.make == some Rows.safetyTextsRow.make) = true := by kernel_rfl
theorem EL : (Rows.safetyTextsRow.kinds == (if Rows.safetyTextsRow.domain.isEmpty then [] else Tryz.f3.params.toList.map fun t => match Tryz.prog.underlying t with | some (.int k) => some k | _ => none)) = true := by kernel_rfl
theorem EM : (Rows.safetyTextsRow.pinned == Rows.safetyTextsRow.pinnedBy) = true := by kernel_rfl
theorem EN : (Rows.safetyTextsRow.veiled == (Tryz.f3.params.toList ++ (OpenSpec.ofChange Rows.safetyTextsSpec).bare.plain.varTypes Tryz.prog ++ Tryz.f3.resultTypes.toList).any (Tryz.prog.veiledRec ·)) = true := by kernel_rfl
theorem EO : Rows.safetyTextsRow.veiledFits Tryz.prog Tryz.f3.params.toList (Tryz.f3.params.toList ++ (OpenSpec.ofChange Rows.safetyTextsSpec).bare.plain.varTypes Tryz.prog ++ Tryz.f3.resultTypes.toList) = true := by kernel_rfl
set_option maxRecDepth 100000 in
theorem zW : joinedFacts Tryz.prog 3 Tryz.f3 (OpenSpec.ofChange Rows.safetyTextsSpec).bare Rows.safetyTextsRow = true := Go.Fs.VI H9 HA HB HC HD HE HF HG HH HI E3 E4 E5 E6 E7 E8 E9 EA EB EC ED EE EF EG EH EI EJ EK EL EM EN EO
end Go.Proofs.YtedakjflddcbbaaGreatDoor
