/- The closed facts of the row of ClosingCleared, one by one. No condition. -/
import Derived.Test.YtjmkmalgfanifaaGreatDoorRows
import Derived.Test.YtjmkmalgfanifaaGreatDoorP9FsFacts
import Derived.KernelRfl
set_option linter.all false
namespace Go.Proofs.YtjmkmalgfanifaaGreatDoor
theorem closingCleared_f0 : Rows.closingClearedRow.wf (OpenSpec.ofChange (OpenSpec.ofChange Rows.closingClearedSpec).bare) = true := by kernel_rfl
theorem closingCleared_f1 : laidOutB Tryz.prog = true := by kernel_rfl
theorem closingCleared_f2 : mapsRowed Tryz.prog = true := by kernel_rfl
theorem closingCleared_f3 : Tryz.f11.params.all (Tryz.prog.readableRec ·) = true := by kernel_rfl
theorem closingCleared_f4 : namedTie Tryz.prog Rows.closingClearedRow.named (OpenSpec.ofChange Rows.closingClearedSpec).bare.vars = true := by kernel_rfl
theorem closingCleared_f5 : (Rows.closingClearedRow.stops == []) = true := by kernel_rfl
theorem closingCleared_f6 : (Tryz.prog.stops == []) = true := by kernel_rfl
theorem closingCleared_f7 : (Rows.closingClearedRow.knobs == []) = true := by kernel_rfl
theorem closingCleared_f8 : (Tryz.prog.stopKnobs == []) = true := by kernel_rfl
theorem closingCleared_f9 : (Rows.closingClearedRow.inPlace == Tryz.prog.inPlace 11) = true := by kernel_rfl
theorem closingCleared_f10 : (Rows.closingClearedRow.unfollowed == Tryz.prog.unfollowed 11) = true := by kernel_rfl
theorem closingCleared_f11 : (Rows.closingClearedRow.recurses == Tryz.prog.recurses 11) = true := by kernel_rfl
theorem closingCleared_f12 : (Rows.closingClearedRow.named == Tryz.prog.varsNamed 11) = true := by kernel_rfl
theorem closingCleared_f13 : (Rows.closingClearedRow.maps == (Tryz.f11.params.toList ++ (OpenSpec.ofChange Rows.closingClearedSpec).bare.plain.varTypes Tryz.prog).any (Tryz.prog.mapsRec ·)) = true := by kernel_rfl
theorem closingCleared_f14 : (Rows.closingClearedRow.ifaces == (Tryz.f11.params.toList ++ (OpenSpec.ofChange Rows.closingClearedSpec).bare.plain.varTypes Tryz.prog).any (Tryz.prog.ifacesRec ·)) = true := by kernel_rfl
theorem closingCleared_f15 : (Rows.closingClearedRow.mapsOut == Tryz.prog.mapsAmong Tryz.f11.resultTypes.toList) = true := by kernel_rfl
theorem closingCleared_f16 : (Rows.closingClearedRow.loops == (Tryz.f11.params.toList ++ (OpenSpec.ofChange Rows.closingClearedSpec).bare.plain.varTypes Tryz.prog).any (Tryz.prog.loopsFrom ·)) = true := by kernel_rfl
theorem closingCleared_f17 : (Rows.closingClearedRow.wideKeys == (Tryz.f11.params.toList ++ (OpenSpec.ofChange Rows.closingClearedSpec).bare.plain.varTypes Tryz.prog ++ Tryz.f11.resultTypes.toList).any (Tryz.prog.wideKeysFrom ·)) = true := by kernel_rfl
theorem closingCleared_f18 : (OpenSpec.ofChange Rows.closingClearedSpec).bare.vars.all (Tryz.prog.varReadable ·) = true := by kernel_rfl
theorem closingCleared_f19 : Tryz.f11.resultTypes.all (fun t => Tryz.prog.readableRec t && decide (t < Tryz.prog.types.size)) = true := by kernel_rfl
theorem closingCleared_f20 : (Rows.closingClearedRow.ifacesOut == Tryz.f11.resultTypes.toList.any (Tryz.prog.ifacesRec ·)) = true := by kernel_rfl
theorem closingCleared_f21 : (Rows.closingClearedRow.loopsOut == Tryz.f11.resultTypes.toList.any (Tryz.prog.loopsFrom ·)) = true := by kernel_rfl
theorem closingCleared_f22 : (Rows.closingClearedRow.plainKeys == Tryz.prog.plainKeys) = true := by kernel_rfl
theorem closingCleared_f23 : Rows.closingClearedRow.shortTexts.isNone = true := by kernel_rfl
theorem closingCleared_f24 : Tryz.prog.stopsHeard = true := by kernel_rfl
theorem closingCleared_f25 : Tryz.prog.mayEnter = true := by kernel_rfl
theorem closingCleared_f26 : (Rows.closingClearedRow.lifted == Tryz.prog.liftsFinal) = true := by kernel_rfl
theorem closingCleared_f27 : (Tryz.prog.make == some Rows.closingClearedRow.make) = true := by kernel_rfl
theorem closingCleared_f28 : (Rows.closingClearedRow.kinds == (if Rows.closingClearedRow.domain.isEmpty then [] else Tryz.f11.params.toList.map fun t => match Tryz.prog.underlying t with | some (.int k) => some k | _ => none)) = true := by kernel_rfl
theorem closingCleared_f29 : (Rows.closingClearedRow.pinned == Rows.closingClearedRow.pinnedBy) = true := by kernel_rfl
theorem closingCleared_f30 : (Rows.closingClearedRow.veiled == (Tryz.f11.params.toList ++ (OpenSpec.ofChange Rows.closingClearedSpec).bare.plain.varTypes Tryz.prog ++ Tryz.f11.resultTypes.toList).any (Tryz.prog.veiledRec ·)) = true := by kernel_rfl
theorem closingCleared_f31 : Rows.closingClearedRow.veiledFits Tryz.prog Tryz.f11.params.toList (Tryz.f11.params.toList ++ (OpenSpec.ofChange Rows.closingClearedSpec).bare.plain.varTypes Tryz.prog ++ Tryz.f11.resultTypes.toList) = true := by kernel_rfl
set_option maxRecDepth 100000 in
theorem closingCleared_joined : joinedFacts Tryz.prog 11 Tryz.f11 (OpenSpec.ofChange Rows.closingClearedSpec).bare Rows.closingClearedRow = true := Go.Fs.joined_of closingCleared_f0 closingCleared_f1 closingCleared_f2 closingCleared_f3 closingCleared_f4 closingCleared_f5 closingCleared_f6 closingCleared_f7 closingCleared_f8 closingCleared_f9 closingCleared_f10 closingCleared_f11 closingCleared_f12 closingCleared_f13 closingCleared_f14 closingCleared_f15 closingCleared_f16 closingCleared_f17 closingCleared_f18 closingCleared_f19 closingCleared_f20 closingCleared_f21 closingCleared_f22 closingCleared_f23 closingCleared_f24 closingCleared_f25 closingCleared_f26 closingCleared_f27 closingCleared_f28 closingCleared_f29 closingCleared_f30 closingCleared_f31
end Go.Proofs.YtjmkmalgfanifaaGreatDoor
