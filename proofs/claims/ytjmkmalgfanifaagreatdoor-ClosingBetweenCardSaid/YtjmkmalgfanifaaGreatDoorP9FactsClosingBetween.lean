/- The closed facts of the row of ClosingBetween, one by one. No condition. -/
import Derived.Test.YtjmkmalgfanifaaGreatDoorRows
import Derived.Test.YtjmkmalgfanifaaGreatDoorP8FsFacts
import Derived.KernelRfl
set_option linter.all false
namespace Go.Proofs.YtjmkmalgfanifaaGreatDoor
theorem closingBetween_f0 : Rows.closingBetweenRow.wf (OpenSpec.ofChange (OpenSpec.ofChange Rows.closingBetweenSpec).bare) = true := by kernel_rfl
theorem closingBetween_f1 : laidOutB Tryz.prog = true := by kernel_rfl
theorem closingBetween_f2 : mapsRowed Tryz.prog = true := by kernel_rfl
theorem closingBetween_f3 : Tryz.f7.params.all (Tryz.prog.readableRec ·) = true := by kernel_rfl
theorem closingBetween_f4 : namedTie Tryz.prog Rows.closingBetweenRow.named (OpenSpec.ofChange Rows.closingBetweenSpec).bare.vars = true := by kernel_rfl
theorem closingBetween_f5 : (Rows.closingBetweenRow.stops == []) = true := by kernel_rfl
theorem closingBetween_f6 : (Tryz.prog.stops == []) = true := by kernel_rfl
theorem closingBetween_f7 : (Rows.closingBetweenRow.knobs == []) = true := by kernel_rfl
theorem closingBetween_f8 : (Tryz.prog.stopKnobs == []) = true := by kernel_rfl
theorem closingBetween_f9 : (Rows.closingBetweenRow.inPlace == Tryz.prog.inPlace 7) = true := by kernel_rfl
theorem closingBetween_f10 : (Rows.closingBetweenRow.unfollowed == Tryz.prog.unfollowed 7) = true := by kernel_rfl
theorem closingBetween_f11 : (Rows.closingBetweenRow.recurses == Tryz.prog.recurses 7) = true := by kernel_rfl
theorem closingBetween_f12 : (Rows.closingBetweenRow.named == Tryz.prog.varsNamed 7) = true := by kernel_rfl
theorem closingBetween_f13 : (Rows.closingBetweenRow.maps == (Tryz.f7.params.toList ++ (OpenSpec.ofChange Rows.closingBetweenSpec).bare.plain.varTypes Tryz.prog).any (Tryz.prog.mapsRec ·)) = true := by kernel_rfl
theorem closingBetween_f14 : (Rows.closingBetweenRow.ifaces == (Tryz.f7.params.toList ++ (OpenSpec.ofChange Rows.closingBetweenSpec).bare.plain.varTypes Tryz.prog).any (Tryz.prog.ifacesRec ·)) = true := by kernel_rfl
theorem closingBetween_f15 : (Rows.closingBetweenRow.mapsOut == Tryz.prog.mapsAmong Tryz.f7.resultTypes.toList) = true := by kernel_rfl
theorem closingBetween_f16 : (Rows.closingBetweenRow.loops == (Tryz.f7.params.toList ++ (OpenSpec.ofChange Rows.closingBetweenSpec).bare.plain.varTypes Tryz.prog).any (Tryz.prog.loopsFrom ·)) = true := by kernel_rfl
theorem closingBetween_f17 : (Rows.closingBetweenRow.wideKeys == (Tryz.f7.params.toList ++ (OpenSpec.ofChange Rows.closingBetweenSpec).bare.plain.varTypes Tryz.prog ++ Tryz.f7.resultTypes.toList).any (Tryz.prog.wideKeysFrom ·)) = true := by kernel_rfl
theorem closingBetween_f18 : (OpenSpec.ofChange Rows.closingBetweenSpec).bare.vars.all (Tryz.prog.varReadable ·) = true := by kernel_rfl
theorem closingBetween_f19 : Tryz.f7.resultTypes.all (fun t => Tryz.prog.readableRec t && decide (t < Tryz.prog.types.size)) = true := by kernel_rfl
theorem closingBetween_f20 : (Rows.closingBetweenRow.ifacesOut == Tryz.f7.resultTypes.toList.any (Tryz.prog.ifacesRec ·)) = true := by kernel_rfl
theorem closingBetween_f21 : (Rows.closingBetweenRow.loopsOut == Tryz.f7.resultTypes.toList.any (Tryz.prog.loopsFrom ·)) = true := by kernel_rfl
theorem closingBetween_f22 : (Rows.closingBetweenRow.plainKeys == Tryz.prog.plainKeys) = true := by kernel_rfl
theorem closingBetween_f23 : Rows.closingBetweenRow.shortTexts.isNone = true := by kernel_rfl
theorem closingBetween_f24 : Tryz.prog.stopsHeard = true := by kernel_rfl
theorem closingBetween_f25 : Tryz.prog.mayEnter = true := by kernel_rfl
theorem closingBetween_f26 : (Rows.closingBetweenRow.lifted == Tryz.prog.liftsFinal) = true := by kernel_rfl
theorem closingBetween_f27 : (Tryz.prog.make == some Rows.closingBetweenRow.make) = true := by kernel_rfl
theorem closingBetween_f28 : (Rows.closingBetweenRow.kinds == (if Rows.closingBetweenRow.domain.isEmpty then [] else Tryz.f7.params.toList.map fun t => match Tryz.prog.underlying t with | some (.int k) => some k | _ => none)) = true := by kernel_rfl
theorem closingBetween_f29 : (Rows.closingBetweenRow.pinned == Rows.closingBetweenRow.pinnedBy) = true := by kernel_rfl
theorem closingBetween_f30 : (Rows.closingBetweenRow.veiled == (Tryz.f7.params.toList ++ (OpenSpec.ofChange Rows.closingBetweenSpec).bare.plain.varTypes Tryz.prog ++ Tryz.f7.resultTypes.toList).any (Tryz.prog.veiledRec ·)) = true := by kernel_rfl
theorem closingBetween_f31 : Rows.closingBetweenRow.veiledFits Tryz.prog Tryz.f7.params.toList (Tryz.f7.params.toList ++ (OpenSpec.ofChange Rows.closingBetweenSpec).bare.plain.varTypes Tryz.prog ++ Tryz.f7.resultTypes.toList) = true := by kernel_rfl
set_option maxRecDepth 100000 in
theorem closingBetween_joined : joinedFacts Tryz.prog 7 Tryz.f7 (OpenSpec.ofChange Rows.closingBetweenSpec).bare Rows.closingBetweenRow = true := Go.Fs.joined_of closingBetween_f0 closingBetween_f1 closingBetween_f2 closingBetween_f3 closingBetween_f4 closingBetween_f5 closingBetween_f6 closingBetween_f7 closingBetween_f8 closingBetween_f9 closingBetween_f10 closingBetween_f11 closingBetween_f12 closingBetween_f13 closingBetween_f14 closingBetween_f15 closingBetween_f16 closingBetween_f17 closingBetween_f18 closingBetween_f19 closingBetween_f20 closingBetween_f21 closingBetween_f22 closingBetween_f23 closingBetween_f24 closingBetween_f25 closingBetween_f26 closingBetween_f27 closingBetween_f28 closingBetween_f29 closingBetween_f30 closingBetween_f31
end Go.Proofs.YtjmkmalgfanifaaGreatDoor
