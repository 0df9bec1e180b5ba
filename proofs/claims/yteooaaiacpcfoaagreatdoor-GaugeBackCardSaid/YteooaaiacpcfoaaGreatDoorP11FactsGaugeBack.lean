/- The closed facts of the row of GaugeBack, one by one. No condition. -/
import Derived.Test.YteooaaiacpcfoaaGreatDoorRows
import Derived.Test.YteooaaiacpcfoaaGreatDoorP10FsFacts
import Derived.KernelRfl
set_option linter.all false
namespace Go.Proofs.YteooaaiacpcfoaaGreatDoor
theorem NH : Rows.gaugeBackRow.wf (OpenSpec.ofChange (OpenSpec.ofChange Rows.gaugeBackSpec).bare) = true := by kernel_rfl
theorem NI : laidOutB Tryz.prog = true := by kernel_rfl
theorem NJ : mapsRowed Tryz.prog = true := by kernel_rfl
theorem NK : Tryz.f5.params.all (Tryz.prog.readableRec ·) = true := by kernel_rfl
theorem NL : namedTie Tryz.prog Rows.gaugeBackRow.named (OpenSpec.ofChange Rows.gaugeBackSpec).bare.vars = true := by kernel_rfl
theorem NM : (Rows.gaugeBackRow.stops == []) = true := by kernel_rfl
theorem NN : (Tryz.prog.stops == []) = true := by kernel_rfl
theorem NO : (Rows.gaugeBackRow.knobs == []) = true := by kernel_rfl
theorem NP : (Tryz.prog.stopKnobs == []) = true := by kernel_rfl
theorem NQ : (Rows.gaugeBackRow.inPlace == Tryz.prog.inPlace 5) = true := by kernel_rfl
theorem JQ : (Rows.gaugeBackRow.unfollowed == Tryz.prog.unfollowed 5) = true := by kernel_rfl
theorem JR : (Rows.gaugeBackRow.recurses == Tryz.prog.recurses 5) = true := by kernel_rfl
theorem JS : (Rows.gaugeBackRow.named == Tryz.prog.varsNamed 5) = true := by kernel_rfl
theorem JT : (Rows.gaugeBackRow.maps == (Tryz.f5.params.toList ++ (OpenSpec.ofChange Rows.gaugeBackSpec).bare.plain.varTypes Tryz.prog).any (Tryz.prog.mapsRec ·)) = true := by kernel_rfl
theorem JU : (Rows.gaugeBackRow.ifaces == (Tryz.f5.params.toList ++ (OpenSpec.ofChange Rows.gaugeBackSpec).bare.plain.varTypes Tryz.prog).any (Tryz.prog.ifacesRec ·)) = true := by kernel_rfl
theorem JV : (Rows.gaugeBackRow.mapsOut == Tryz.prog.mapsAmong Tryz.f5.resultTypes.toList) = true := by kernel_rfl
theorem JW : (Rows.gaugeBackRow.loops == (Tryz.f5.params.toList ++ (OpenSpec.ofChange Rows.gaugeBackSpec).bare.plain.varTypes Tryz.prog).any (Tryz.prog.loopsFrom ·)) = true := by kernel_rfl
theorem JX : (Rows.gaugeBackRow.wideKeys == (Tryz.f5.params.toList ++ (OpenSpec.ofChange Rows.gaugeBackSpec).bare.plain.varTypes Tryz.prog ++ Tryz.f5.resultTypes.toList).any (Tryz.prog.wideKeysFrom ·)) = true := by kernel_rfl
theorem JY : (OpenSpec.ofChange Rows.gaugeBackSpec).bare.vars.all (Tryz.prog.varReadable ·) = true := by kernel_rfl
theorem JZ : Tryz.f5.resultTypes.all (fun t => Tryz.prog.readableRec t && decide (t < Tryz.prog.types.size)) = true := by kernel_rfl
theorem K0 : (Rows.gaugeBackRow.ifacesOut == Tryz.f5.resultTypes.toList.any (Tryz.prog.ifacesRec ·)) = true := by kernel_rfl
theorem K1 : (Rows.gaugeBackRow.loopsOut == Tryz.f5.resultTypes.toList.any (Tryz.prog.loopsFrom ·)) = true := by kernel_rfl
theorem K2 : (Rows.gaugeBackRow.plainKeys == Tryz.prog.plainKeys) = true := by kernel_rfl
theorem K3 : Rows.gaugeBackRow.shortTexts.isNone = true := by kernel_rfl
theorem K4 : Tryz.prog.stopsHeard = true := by kernel_rfl
theorem K5 : Tryz.prog.mayEnter = true := by kernel_rfl
theorem K6 : (Rows.gaugeBackRow.lifted == Tryz.prog.liftsFinal) = true := by kernel_rfl
theorem K7 : (Tryz.prog.make == some Rows.gaugeBackRow.make) = true := by kernel_rfl
theorem K8 : (Rows.gaugeBackRow.kinds == (if Rows.gaugeBackRow.domain.isEmpty then [] else Tryz.f5.params.toList.map fun t => match Tryz.prog.underlying t with | some (.int k) => some k | _ => none)) = true := by kernel_rfl
theorem K9 : (Rows.gaugeBackRow.pinned == Rows.gaugeBackRow.pinnedBy) = true := by kernel_rfl
theorem KA : (Rows.gaugeBackRow.veiled == (Tryz.f5.params.toList ++ (OpenSpec.ofChange Rows.gaugeBackSpec).bare.plain.varTypes Tryz.prog ++ Tryz.f5.resultTypes.toList).any (Tryz.prog.veiledRec ·)) = true := by kernel_rfl
theorem KB : Rows.gaugeBackRow.veiledFits Tryz.prog Tryz.f5.params.toList (Tryz.f5.params.toList ++ (OpenSpec.ofChange Rows.gaugeBackSpec).bare.plain.varTypes Tryz.prog ++ Tryz.f5.resultTypes.toList) = true := by kernel_rfl
set_option maxRecDepth 100000 in
theorem CR : joinedFacts Tryz.prog 5 Tryz.f5 (OpenSpec.ofChange Rows.gaugeBackSpec).bare Rows.gaugeBackRow = true := Go.Fs.Y5 NH NI NJ NK NL NM NN NO NP NQ JQ JR JS JT JU JV JW JX JY JZ K0 K1 K2 K3 K4 K5 K6 K7 K8 K9 KA KB
end Go.Proofs.YteooaaiacpcfoaaGreatDoor
