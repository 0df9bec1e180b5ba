/- The closed facts of the row of ClosingPassages, one by one. No condition. -/
import Derived.Test.YtjmkmalgfanifaaGreatDoorRows
import Derived.Test.YtjmkmalgfanifaaGreatDoorP7FsFacts
import Derived.KernelRfl
set_option linter.all false
namespace Go.Proofs.YtjmkmalgfanifaaGreatDoor
theorem closingPassages_f0 : Rows.closingPassagesRow.wf (OpenSpec.ofChange (OpenSpec.ofChange Rows.closingPassagesSpec).bare) = true := by kernel_rfl
theorem closingPassages_f1 : laidOutB Tryz.prog = true := by kernel_rfl
theorem closingPassages_f2 : mapsRowed Tryz.prog = true := by kernel_rfl
theorem closingPassages_f3 : Tryz.f10.params.all (Tryz.prog.readableRec ·) = true := by kernel_rfl
theorem closingPassages_f4 : namedTie Tryz.prog Rows.closingPassagesRow.named (OpenSpec.ofChange Rows.closingPassagesSpec).bare.vars = true := by kernel_rfl
theorem closingPassages_f5 : (Rows.closingPassagesRow.stops == []) = true := by kernel_rfl
theorem closingPassages_f6 : (Tryz.prog.stops == []) = true := by kernel_rfl
theorem closingPassages_f7 : (Rows.closingPassagesRow.knobs == []) = true := by kernel_rfl
theorem closingPassages_f8 : (Tryz.prog.stopKnobs == []) = true := by kernel_rfl
theorem closingPassages_f9 : (Rows.closingPassagesRow.inPlace == Tryz.prog.inPlace 10) = true := by kernel_rfl
theorem closingPassages_f10 : (Rows.closingPassagesRow.unfollowed == Tryz.prog.unfollowed 10) = true := by kernel_rfl
theorem closingPassages_f11 : (Rows.closingPassagesRow.recurses == Tryz.prog.recurses 10) = true := by kernel_rfl
theorem closingPassages_f12 : (Rows.closingPassagesRow.named == Tryz.prog.varsNamed 10) = true := by kernel_rfl
theorem closingPassages_f13 : (Rows.closingPassagesRow.maps == (Tryz.f10.params.toList ++ (OpenSpec.ofChange Rows.closingPassagesSpec).bare.plain.varTypes Tryz.prog).any (Tryz.prog.mapsRec ·)) = true := by kernel_rfl
theorem closingPassages_f14 : (Rows.closingPassagesRow.ifaces == (Tryz.f10.params.toList ++ (OpenSpec.ofChange Rows.closingPassagesSpec).bare.plain.varTypes Tryz.prog).any (Tryz.prog.ifacesRec ·)) = true := by kernel_rfl
theorem closingPassages_f15 : (Rows.closingPassagesRow.mapsOut == Tryz.prog.mapsAmong Tryz.f10.resultTypes.toList) = true := by kernel_rfl
theorem closingPassages_f16 : (Rows.closingPassagesRow.loops == (Tryz.f10.params.toList ++ (OpenSpec.ofChange Rows.closingPassagesSpec).bare.plain.varTypes Tryz.prog).any (Tryz.prog.loopsFrom ·)) = true := by kernel_rfl
theorem closingPassages_f17 : (Rows.closingPassagesRow.wideKeys == (Tryz.f10.params.toList ++ (OpenSpec.ofChange Rows.closingPassagesSpec).bare.plain.varTypes Tryz.prog ++ Tryz.f10.resultTypes.toList).any (Tryz.prog.wideKeysFrom ·)) = true := by kernel_rfl
theorem closingPassages_f18 : (OpenSpec.ofChange Rows.closingPassagesSpec).bare.vars.all (Tryz.prog.varReadable ·) = true := by kernel_rfl
theorem closingPassages_f19 : Tryz.f10.resultTypes.all (fun t => Tryz.prog.readableRec t && decide (t < Tryz.prog.types.size)) = true := by kernel_rfl
theorem closingPassages_f20 : (Rows.closingPassagesRow.ifacesOut == Tryz.f10.resultTypes.toList.any (Tryz.prog.ifacesRec ·)) = true := by kernel_rfl
theorem closingPassages_f21 : (Rows.closingPassagesRow.loopsOut == Tryz.f10.resultTypes.toList.any (Tryz.prog.loopsFrom ·)) = true := by kernel_rfl
theorem closingPassages_f22 : (Rows.closingPassagesRow.plainKeys == Tryz.prog.plainKeys) = true := by kernel_rfl
theorem closingPassages_f23 : Rows.closingPassagesRow.shortTexts.isNone = true := by kernel_rfl
theorem closingPassages_f24 : Tryz.prog.stopsHeard = true := by kernel_rfl
theorem closingPassages_f25 : Tryz.prog.mayEnter = true := by kernel_rfl
theorem closingPassages_f26 : (Rows.closingPassagesRow.lifted == Tryz.prog.liftsFinal) = true := by kernel_rfl
theorem closingPassages_f27 : (Tryz.prog.make == some Rows.closingPassagesRow.make) = true := by kernel_rfl
theorem closingPassages_f28 : (Rows.closingPassagesRow.kinds == (if Rows.closingPassagesRow.domain.isEmpty then [] else Tryz.f10.params.toList.map fun t => match Tryz.prog.underlying t with | some (.int k) => some k | _ => none)) = true := by kernel_rfl
theorem closingPassages_f29 : (Rows.closingPassagesRow.pinned == Rows.closingPassagesRow.pinnedBy) = true := by kernel_rfl
theorem closingPassages_f30 : (Rows.closingPassagesRow.veiled == (Tryz.f10.params.toList ++ (OpenSpec.ofChange Rows.closingPassagesSpec).bare.plain.varTypes Tryz.prog ++ Tryz.f10.resultTypes.toList).any (Tryz.prog.veiledRec ·)) = true := by kernel_rfl
theorem closingPassages_f31 : Rows.closingPassagesRow.veiledFits Tryz.prog Tryz.f10.params.toList (Tryz.f10.params.toList ++ (OpenSpec.ofChange Rows.closingPassagesSpec).bare.plain.varTypes Tryz.prog ++ Tryz.f10.resultTypes.toList) = true := by kernel_rfl
set_option maxRecDepth 100000 in
theorem closingPassages_joined : joinedFacts Tryz.prog 10 Tryz.f10 (OpenSpec.ofChange Rows.closingPassagesSpec).bare Rows.closingPassagesRow = true := Go.Fs.joined_of closingPassages_f0 closingPassages_f1 closingPassages_f2 closingPassages_f3 closingPassages_f4 closingPassages_f5 closingPassages_f6 closingPassages_f7 closingPassages_f8 closingPassages_f9 closingPassages_f10 closingPassages_f11 closingPassages_f12 closingPassages_f13 closingPassages_f14 closingPassages_f15 closingPassages_f16 closingPassages_f17 closingPassages_f18 closingPassages_f19 closingPassages_f20 closingPassages_f21 closingPassages_f22 closingPassages_f23 closingPassages_f24 closingPassages_f25 closingPassages_f26 closingPassages_f27 closingPassages_f28 closingPassages_f29 closingPassages_f30 closingPassages_f31
end Go.Proofs.YtjmkmalgfanifaaGreatDoor
