/- The closed facts of the row of ClosingBack, one by one. No condition. -/
import Derived.Test.YtcipcajbjggbkaaGreatDoorRows
import Derived.Test.YtcipcajbjggbkaaGreatDoorP8FsFacts
import Derived.KernelRfl
set_option linter.all false
namespace Go.Proofs.YtcipcajbjggbkaaGreatDoor
theorem closingBack_f0 : Rows.closingBackRow.wf (OpenSpec.ofChange (OpenSpec.ofChange Rows.closingBackSpec).bare) = true := by kernel_rfl
theorem closingBack_f1 : laidOutB Tryz.prog = true := by kernel_rfl
theorem closingBack_f2 : mapsRowed Tryz.prog = true := by kernel_rfl
theorem closingBack_f3 : Tryz.f4.params.all (Tryz.prog.readableRec ·) = true := by kernel_rfl
theorem closingBack_f4 : namedTie Tryz.prog Rows.closingBackRow.named (OpenSpec.ofChange Rows.closingBackSpec).bare.vars = true := by kernel_rfl
theorem closingBack_f5 : (Rows.closingBackRow.stops == []) = true := by kernel_rfl
theorem closingBack_f6 : (Tryz.prog.stops == []) = true := by kernel_rfl
theorem closingBack_f7 : (Rows.closingBackRow.knobs == []) = true := by kernel_rfl
theorem closingBack_f8 : (Tryz.prog.stopKnobs == []) = true := by kernel_rfl
theorem closingBack_f9 : (Rows.closingBackRow.inPlace == Tryz.prog.inPlace 4) = true := by kernel_rfl
theorem closingBack_f10 : (Rows.closingBackRow.unfollowed == Tryz.prog.unfollowed 4) = true := by kernel_rfl
theorem closingBack_f11 : (Rows.closingBackRow.recurses == Tryz.prog.recurses 4) = true := by kernel_rfl
theorem closingBack_f12 : (Rows.closingBackRow.named == Tryz.prog.varsNamed 4) = true := by kernel_rfl
theorem closingBack_f13 : (Rows.closingBackRow.maps == (Tryz.f4.params.toList ++ (OpenSpec.ofChange Rows.closingBackSpec).bare.plain.varTypes Tryz.prog).any (Tryz.prog.mapsRec ·)) = true := by kernel_rfl
theorem closingBack_f14 : (Rows.closingBackRow.ifaces == (Tryz.f4.params.toList ++ (OpenSpec.ofChange Rows.closingBackSpec).bare.plain.varTypes Tryz.prog).any (Tryz.prog.ifacesRec ·)) = true := by kernel_rfl
theorem closingBack_f15 : (Rows.closingBackRow.mapsOut == Tryz.prog.mapsAmong Tryz.f4.resultTypes.toList) = true := by kernel_rfl
theorem closingBack_f16 : (Rows.closingBackRow.loops == (Tryz.f4.params.toList ++ (OpenSpec.ofChange Rows.closingBackSpec).bare.plain.varTypes Tryz.prog).any (Tryz.prog.loopsFrom ·)) = true := by kernel_rfl
theorem closingBack_f17 : (Rows.closingBackRow.wideKeys == (Tryz.f4.params.toList ++ (OpenSpec.ofChange Rows.closingBackSpec).bare.plain.varTypes Tryz.prog ++ Tryz.f4.resultTypes.toList).any (Tryz.prog.wideKeysFrom ·)) = true := by kernel_rfl
theorem closingBack_f18 : (OpenSpec.ofChange Rows.closingBackSpec).bare.vars.all (Tryz.prog.varReadable ·) = true := by kernel_rfl
theorem closingBack_f19 : Tryz.f4.resultTypes.all (fun t => Tryz.prog.readableRec t && decide (t < Tryz.prog.types.size)) = true := by kernel_rfl
theorem closingBack_f20 : (Rows.closingBackRow.ifacesOut == Tryz.f4.resultTypes.toList.any (Tryz.prog.ifacesRec ·)) = true := by kernel_rfl
theorem closingBack_f21 : (Rows.closingBackRow.loopsOut == Tryz.f4.resultTypes.toList.any (Tryz.prog.loopsFrom ·)) = true := by kernel_rfl
theorem closingBack_f22 : (Rows.closingBackRow.plainKeys == Tryz.prog.plainKeys) = true := by kernel_rfl
theorem closingBack_f23 : Rows.closingBackRow.shortTexts.isNone = true := by kernel_rfl
theorem closingBack_f24 : Tryz.prog.stopsHeard = true := by kernel_rfl
theorem closingBack_f25 : Tryz.prog.mayEnter = true := by kernel_rfl
theorem closingBack_f26 : (Rows.closingBackRow.lifted == Tryz.prog.liftsFinal) = true := by kernel_rfl
theorem closingBack_f27 : (Tryz.prog.make == some Rows.closingBackRow.make) = true := by kernel_rfl
theorem closingBack_f28 : (Rows.closingBackRow.kinds == (if Rows.closingBackRow.domain.isEmpty then [] else Tryz.f4.params.toList.map fun t => match Tryz.prog.underlying t with | some (.int k) => some k | _ => none)) = true := by kernel_rfl
theorem closingBack_f29 : (Rows.closingBackRow.pinned == Rows.closingBackRow.pinnedBy) = true := by kernel_rfl
theorem closingBack_f30 : (Rows.closingBackRow.veiled == (Tryz.f4.params.toList ++ (OpenSpec.ofChange Rows.closingBackSpec).bare.plain.varTypes Tryz.prog ++ Tryz.f4.resultTypes.toList).any (Tryz.prog.veiledRec ·)) = true := by kernel_rfl
theorem closingBack_f31 : Rows.closingBackRow.veiledFits Tryz.prog Tryz.f4.params.toList (Tryz.f4.params.toList ++ (OpenSpec.ofChange Rows.closingBackSpec).bare.plain.varTypes Tryz.prog ++ Tryz.f4.resultTypes.toList) = true := by kernel_rfl
set_option maxRecDepth 100000 in
theorem closingBack_joined : joinedFacts Tryz.prog 4 Tryz.f4 (OpenSpec.ofChange Rows.closingBackSpec).bare Rows.closingBackRow = true := Go.Fs.joined_of closingBack_f0 closingBack_f1 closingBack_f2 closingBack_f3 closingBack_f4 closingBack_f5 closingBack_f6 closingBack_f7 closingBack_f8 closingBack_f9 closingBack_f10 closingBack_f11 closingBack_f12 closingBack_f13 closingBack_f14 closingBack_f15 closingBack_f16 closingBack_f17 closingBack_f18 closingBack_f19 closingBack_f20 closingBack_f21 closingBack_f22 closingBack_f23 closingBack_f24 closingBack_f25 closingBack_f26 closingBack_f27 closingBack_f28 closingBack_f29 closingBack_f30 closingBack_f31
end Go.Proofs.YtcipcajbjggbkaaGreatDoor
