/- The closed facts of the row of SurgeShares, one by one. No condition. -/
import Derived.Test.YtednnfllcafliaaGreatDoorRows
import Derived.Test.YtednnfllcafliaaGreatDoorP9
import Derived.KernelRfl
set_option linter.all false
namespace Go.Proofs.YtednnfllcafliaaGreatDoor
theorem surgeShares_f0 : Rows.surgeSharesRow.wf (OpenSpec.ofChange (OpenSpec.ofChange Rows.surgeSharesSpec).bare) = true := by kernel_rfl
theorem surgeShares_f1 : laidOutB Tryz.prog = true := by kernel_rfl
theorem surgeShares_f2 : mapsRowed Tryz.prog = true := by kernel_rfl
theorem surgeShares_f3 : Tryz.f5.params.all (Tryz.prog.readableRec ·) = true := by kernel_rfl
theorem surgeShares_f4 : namedTie Tryz.prog Rows.surgeSharesRow.named (OpenSpec.ofChange Rows.surgeSharesSpec).bare.vars = true := by kernel_rfl
theorem surgeShares_f5 : (Rows.surgeSharesRow.stops == []) = true := by kernel_rfl
theorem surgeShares_f6 : (Tryz.prog.stops == []) = true := by kernel_rfl
theorem surgeShares_f7 : (Rows.surgeSharesRow.knobs == []) = true := by kernel_rfl
theorem surgeShares_f8 : (Tryz.prog.stopKnobs == []) = true := by kernel_rfl
theorem surgeShares_f9 : (Rows.surgeSharesRow.inPlace == Tryz.prog.inPlace 5) = true := by kernel_rfl
theorem surgeShares_f10 : (Rows.surgeSharesRow.unfollowed == Tryz.prog.unfollowed 5) = true := by kernel_rfl
theorem surgeShares_f11 : (Rows.surgeSharesRow.recurses == Tryz.prog.recurses 5) = true := by kernel_rfl
theorem surgeShares_f12 : (Rows.surgeSharesRow.named == Tryz.prog.varsNamed 5) = true := by kernel_rfl
theorem surgeShares_f13 : (Rows.surgeSharesRow.maps == (Tryz.f5.params.toList ++ (OpenSpec.ofChange Rows.surgeSharesSpec).bare.plain.varTypes Tryz.prog).any (Tryz.prog.mapsRec ·)) = true := by kernel_rfl
theorem surgeShares_f14 : (Rows.surgeSharesRow.ifaces == (Tryz.f5.params.toList ++ (OpenSpec.ofChange Rows.surgeSharesSpec).bare.plain.varTypes Tryz.prog).any (Tryz.prog.ifacesRec ·)) = true := by kernel_rfl
theorem surgeShares_f15 : (Rows.surgeSharesRow.mapsOut == Tryz.prog.mapsAmong Tryz.f5.resultTypes.toList) = true := by kernel_rfl
theorem surgeShares_f16 : (Rows.surgeSharesRow.loops == (Tryz.f5.params.toList ++ (OpenSpec.ofChange Rows.surgeSharesSpec).bare.plain.varTypes Tryz.prog).any (Tryz.prog.loopsFrom ·)) = true := by kernel_rfl
theorem surgeShares_f17 : (Rows.surgeSharesRow.wideKeys == (Tryz.f5.params.toList ++ (OpenSpec.ofChange Rows.surgeSharesSpec).bare.plain.varTypes Tryz.prog ++ Tryz.f5.resultTypes.toList).any (Tryz.prog.wideKeysFrom ·)) = true := by kernel_rfl
theorem surgeShares_f18 : (OpenSpec.ofChange Rows.surgeSharesSpec).bare.vars.all (Tryz.prog.varReadable ·) = true := by kernel_rfl
theorem surgeShares_f19 : Tryz.f5.resultTypes.all (fun t => Tryz.prog.readableRec t && decide (t < Tryz.prog.types.size)) = true := by kernel_rfl
theorem surgeShares_f20 : (Rows.surgeSharesRow.ifacesOut == Tryz.f5.resultTypes.toList.any (Tryz.prog.ifacesRec ·)) = true := by kernel_rfl
theorem surgeShares_f21 : (Rows.surgeSharesRow.loopsOut == Tryz.f5.resultTypes.toList.any (Tryz.prog.loopsFrom ·)) = true := by kernel_rfl
theorem surgeShares_f22 : (Rows.surgeSharesRow.plainKeys == Tryz.prog.plainKeys) = true := by kernel_rfl
theorem surgeShares_f23 : Rows.surgeSharesRow.shortTexts.isNone = true := by kernel_rfl
theorem surgeShares_f24 : Tryz.prog.stopsHeard = true := by kernel_rfl
theorem surgeShares_f25 : Tryz.prog.mayEnter = true := by kernel_rfl
theorem surgeShares_f26 : (Rows.surgeSharesRow.lifted == Tryz.prog.liftsFinal) = true := by kernel_rfl
theorem surgeShares_f27 : (Tryz.prog.make == some Rows.surgeSharesRow.make) = true := by kernel_rfl
theorem surgeShares_f28 : (Rows.surgeSharesRow.kinds == (if Rows.surgeSharesRow.domain.isEmpty then [] else Tryz.f5.params.toList.map fun t => match Tryz.prog.underlying t with | some (.int k) => some k | _ => none)) = true := by kernel_rfl
theorem surgeShares_f29 : (Rows.surgeSharesRow.pinned == Rows.surgeSharesRow.pinnedBy) = true := by kernel_rfl
theorem surgeShares_f30 : (Rows.surgeSharesRow.veiled == (Tryz.f5.params.toList ++ (OpenSpec.ofChange Rows.surgeSharesSpec).bare.plain.varTypes Tryz.prog ++ Tryz.f5.resultTypes.toList).any (Tryz.prog.veiledRec ·)) = true := by kernel_rfl
theorem surgeShares_f31 : Rows.surgeSharesRow.veiledFits Tryz.prog Tryz.f5.params.toList (Tryz.f5.params.toList ++ (OpenSpec.ofChange Rows.surgeSharesSpec).bare.plain.varTypes Tryz.prog ++ Tryz.f5.resultTypes.toList) = true := by kernel_rfl
set_option maxRecDepth 100000 in
theorem surgeShares_joined : joinedFacts Tryz.prog 5 Tryz.f5 (OpenSpec.ofChange Rows.surgeSharesSpec).bare Rows.surgeSharesRow = true := Go.Fs.joined_of surgeShares_f0 surgeShares_f1 surgeShares_f2 surgeShares_f3 surgeShares_f4 surgeShares_f5 surgeShares_f6 surgeShares_f7 surgeShares_f8 surgeShares_f9 surgeShares_f10 surgeShares_f11 surgeShares_f12 surgeShares_f13 surgeShares_f14 surgeShares_f15 surgeShares_f16 surgeShares_f17 surgeShares_f18 surgeShares_f19 surgeShares_f20 surgeShares_f21 surgeShares_f22 surgeShares_f23 surgeShares_f24 surgeShares_f25 surgeShares_f26 surgeShares_f27 surgeShares_f28 surgeShares_f29 surgeShares_f30 surgeShares_f31
end Go.Proofs.YtednnfllcafliaaGreatDoor
