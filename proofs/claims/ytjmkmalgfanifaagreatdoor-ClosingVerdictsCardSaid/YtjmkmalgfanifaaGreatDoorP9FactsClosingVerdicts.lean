/- The closed facts of the row of ClosingVerdicts, one by one. No condition. -/
import Derived.Test.YtjmkmalgfanifaaGreatDoorRows
import Derived.Test.YtjmkmalgfanifaaGreatDoorP8FsFacts
import Derived.KernelRfl
set_option linter.all false
namespace Go.Proofs.YtjmkmalgfanifaaGreatDoor
theorem closingVerdicts_f0 : Rows.closingVerdictsRow.wf (OpenSpec.ofChange (OpenSpec.ofChange Rows.closingVerdictsSpec).bare) = true := by kernel_rfl
theorem closingVerdicts_f1 : laidOutB Tryz.prog = true := by kernel_rfl
theorem closingVerdicts_f2 : mapsRowed Tryz.prog = true := by kernel_rfl
theorem closingVerdicts_f3 : Tryz.f5.params.all (Tryz.prog.readableRec ·) = true := by kernel_rfl
theorem closingVerdicts_f4 : namedTie Tryz.prog Rows.closingVerdictsRow.named (OpenSpec.ofChange Rows.closingVerdictsSpec).bare.vars = true := by kernel_rfl
theorem closingVerdicts_f5 : (Rows.closingVerdictsRow.stops == []) = true := by kernel_rfl
theorem closingVerdicts_f6 : (Tryz.prog.stops == []) = true := by kernel_rfl
theorem closingVerdicts_f7 : (Rows.closingVerdictsRow.knobs == []) = true := by kernel_rfl
theorem closingVerdicts_f8 : (Tryz.prog.stopKnobs == []) = true := by kernel_rfl
theorem closingVerdicts_f9 : (Rows.closingVerdictsRow.inPlace == Tryz.prog.inPlace 5) = true := by kernel_rfl
theorem closingVerdicts_f10 : (Rows.closingVerdictsRow.unfollowed == Tryz.prog.unfollowed 5) = true := by kernel_rfl
theorem closingVerdicts_f11 : (Rows.closingVerdictsRow.recurses == Tryz.prog.recurses 5) = true := by kernel_rfl
theorem closingVerdicts_f12 : (Rows.closingVerdictsRow.named == Tryz.prog.varsNamed 5) = true := by kernel_rfl
theorem closingVerdicts_f13 : (Rows.closingVerdictsRow.maps == (Tryz.f5.params.toList ++ (OpenSpec.ofChange Rows.closingVerdictsSpec).bare.plain.varTypes Tryz.prog).any (Tryz.prog.mapsRec ·)) = true := by kernel_rfl
theorem closingVerdicts_f14 : (Rows.closingVerdictsRow.ifaces == (Tryz.f5.params.toList ++ (OpenSpec.ofChange Rows.closingVerdictsSpec).bare.plain.varTypes Tryz.prog).any (Tryz.prog.ifacesRec ·)) = true := by kernel_rfl
theorem closingVerdicts_f15 : (Rows.closingVerdictsRow.mapsOut == Tryz.prog.mapsAmong Tryz.f5.resultTypes.toList) = true := by kernel_rfl
theorem closingVerdicts_f16 : (Rows.closingVerdictsRow.loops == (Tryz.f5.params.toList ++ (OpenSpec.ofChange Rows.closingVerdictsSpec).bare.plain.varTypes Tryz.prog).any (Tryz.prog.loopsFrom ·)) = true := by kernel_rfl
theorem closingVerdicts_f17 : (Rows.closingVerdictsRow.wideKeys == (Tryz.f5.params.toList ++ (OpenSpec.ofChange Rows.closingVerdictsSpec).bare.plain.varTypes Tryz.prog ++ Tryz.f5.resultTypes.toList).any (Tryz.prog.wideKeysFrom ·)) = true := by kernel_rfl
theorem closingVerdicts_f18 : (OpenSpec.ofChange Rows.closingVerdictsSpec).bare.vars.all (Tryz.prog.varReadable ·) = true := by kernel_rfl
theorem closingVerdicts_f19 : Tryz.f5.resultTypes.all (fun t => Tryz.prog.readableRec t && decide (t < Tryz.prog.types.size)) = true := by kernel_rfl
theorem closingVerdicts_f20 : (Rows.closingVerdictsRow.ifacesOut == Tryz.f5.resultTypes.toList.any (Tryz.prog.ifacesRec ·)) = true := by kernel_rfl
theorem closingVerdicts_f21 : (Rows.closingVerdictsRow.loopsOut == Tryz.f5.resultTypes.toList.any (Tryz.prog.loopsFrom ·)) = true := by kernel_rfl
theorem closingVerdicts_f22 : (Rows.closingVerdictsRow.plainKeys == Tryz.prog.plainKeys) = true := by kernel_rfl
theorem closingVerdicts_f23 : Rows.closingVerdictsRow.shortTexts.isNone = true := by kernel_rfl
theorem closingVerdicts_f24 : Tryz.prog.stopsHeard = true := by kernel_rfl
theorem closingVerdicts_f25 : Tryz.prog.mayEnter = true := by kernel_rfl
theorem closingVerdicts_f26 : (Rows.closingVerdictsRow.lifted == Tryz.prog.liftsFinal) = true := by kernel_rfl
theorem closingVerdicts_f27 : (Tryz.prog.make == some Rows.closingVerdictsRow.make) = true := by kernel_rfl
theorem closingVerdicts_f28 : (Rows.closingVerdictsRow.kinds == (if Rows.closingVerdictsRow.domain.isEmpty then [] else Tryz.f5.params.toList.map fun t => match Tryz.prog.underlying t with | some (.int k) => some k | _ => none)) = true := by kernel_rfl
theorem closingVerdicts_f29 : (Rows.closingVerdictsRow.pinned == Rows.closingVerdictsRow.pinnedBy) = true := by kernel_rfl
theorem closingVerdicts_f30 : (Rows.closingVerdictsRow.veiled == (Tryz.f5.params.toList ++ (OpenSpec.ofChange Rows.closingVerdictsSpec).bare.plain.varTypes Tryz.prog ++ Tryz.f5.resultTypes.toList).any (Tryz.prog.veiledRec ·)) = true := by kernel_rfl
theorem closingVerdicts_f31 : Rows.closingVerdictsRow.veiledFits Tryz.prog Tryz.f5.params.toList (Tryz.f5.params.toList ++ (OpenSpec.ofChange Rows.closingVerdictsSpec).bare.plain.varTypes Tryz.prog ++ Tryz.f5.resultTypes.toList) = true := by kernel_rfl
set_option maxRecDepth 100000 in
theorem closingVerdicts_joined : joinedFacts Tryz.prog 5 Tryz.f5 (OpenSpec.ofChange Rows.closingVerdictsSpec).bare Rows.closingVerdictsRow = true := Go.Fs.joined_of closingVerdicts_f0 closingVerdicts_f1 closingVerdicts_f2 closingVerdicts_f3 closingVerdicts_f4 closingVerdicts_f5 closingVerdicts_f6 closingVerdicts_f7 closingVerdicts_f8 closingVerdicts_f9 closingVerdicts_f10 closingVerdicts_f11 closingVerdicts_f12 closingVerdicts_f13 closingVerdicts_f14 closingVerdicts_f15 closingVerdicts_f16 closingVerdicts_f17 closingVerdicts_f18 closingVerdicts_f19 closingVerdicts_f20 closingVerdicts_f21 closingVerdicts_f22 closingVerdicts_f23 closingVerdicts_f24 closingVerdicts_f25 closingVerdicts_f26 closingVerdicts_f27 closingVerdicts_f28 closingVerdicts_f29 closingVerdicts_f30 closingVerdicts_f31
end Go.Proofs.YtjmkmalgfanifaaGreatDoor
