/- The closed facts of the row of SurgeStores, one by one. No condition. -/
import Derived.Test.YtednnfllcafliaaGreatDoorRows
import Derived.Test.YtednnfllcafliaaGreatDoorP12FsFacts
import Derived.KernelRfl
set_option linter.all false
namespace Go.Proofs.YtednnfllcafliaaGreatDoor
theorem surgeStores_f0 : Rows.surgeStoresRow.wf (OpenSpec.ofChange (OpenSpec.ofChange Rows.surgeStoresSpec).bare) = true := by kernel_rfl
theorem surgeStores_f1 : laidOutB Tryz.prog = true := by kernel_rfl
theorem surgeStores_f2 : mapsRowed Tryz.prog = true := by kernel_rfl
theorem surgeStores_f3 : Tryz.f14.params.all (Tryz.prog.readableRec ·) = true := by kernel_rfl
theorem surgeStores_f4 : namedTie Tryz.prog Rows.surgeStoresRow.named (OpenSpec.ofChange Rows.surgeStoresSpec).bare.vars = true := by kernel_rfl
theorem surgeStores_f5 : (Rows.surgeStoresRow.stops == []) = true := by kernel_rfl
theorem surgeStores_f6 : (Tryz.prog.stops == []) = true := by kernel_rfl
theorem surgeStores_f7 : (Rows.surgeStoresRow.knobs == []) = true := by kernel_rfl
theorem surgeStores_f8 : (Tryz.prog.stopKnobs == []) = true := by kernel_rfl
theorem surgeStores_f9 : (Rows.surgeStoresRow.inPlace == Tryz.prog.inPlace 14) = true := by kernel_rfl
theorem surgeStores_f10 : (Rows.surgeStoresRow.unfollowed == Tryz.prog.unfollowed 14) = true := by kernel_rfl
theorem surgeStores_f11 : (Rows.surgeStoresRow.recurses == Tryz.prog.recurses 14) = true := by kernel_rfl
theorem surgeStores_f12 : (Rows.surgeStoresRow.named == Tryz.prog.varsNamed 14) = true := by kernel_rfl
theorem surgeStores_f13 : (Rows.surgeStoresRow.maps == (Tryz.f14.params.toList ++ (OpenSpec.ofChange Rows.surgeStoresSpec).bare.plain.varTypes Tryz.prog).any (Tryz.prog.mapsRec ·)) = true := by kernel_rfl
theorem surgeStores_f14 : (Rows.surgeStoresRow.ifaces == (Tryz.f14.params.toList ++ (OpenSpec.ofChange Rows.surgeStoresSpec).bare.plain.varTypes Tryz.prog).any (Tryz.prog.ifacesRec ·)) = true := by kernel_rfl
theorem surgeStores_f15 : (Rows.surgeStoresRow.mapsOut == Tryz.prog.mapsAmong Tryz.f14.resultTypes.toList) = true := by kernel_rfl
theorem surgeStores_f16 : (Rows.surgeStoresRow.loops == (Tryz.f14.params.toList ++ (OpenSpec.ofChange Rows.surgeStoresSpec).bare.plain.varTypes Tryz.prog).any (Tryz.prog.loopsFrom ·)) = true := by kernel_rfl
theorem surgeStores_f17 : (Rows.surgeStoresRow.wideKeys == (Tryz.f14.params.toList ++ (OpenSpec.ofChange Rows.surgeStoresSpec).bare.plain.varTypes Tryz.prog ++ Tryz.f14.resultTypes.toList).any (Tryz.prog.wideKeysFrom ·)) = true := by kernel_rfl
theorem surgeStores_f18 : (OpenSpec.ofChange Rows.surgeStoresSpec).bare.vars.all (Tryz.prog.varReadable ·) = true := by kernel_rfl
theorem surgeStores_f19 : Tryz.f14.resultTypes.all (fun t => Tryz.prog.readableRec t && decide (t < Tryz.prog.types.size)) = true := by kernel_rfl
theorem surgeStores_f20 : (Rows.surgeStoresRow.ifacesOut == Tryz.f14.resultTypes.toList.any (Tryz.prog.ifacesRec ·)) = true := by kernel_rfl
theorem surgeStores_f21 : (Rows.surgeStoresRow.loopsOut == Tryz.f14.resultTypes.toList.any (Tryz.prog.loopsFrom ·)) = true := by kernel_rfl
theorem surgeStores_f22 : (Rows.surgeStoresRow.plainKeys == Tryz.prog.plainKeys) = true := by kernel_rfl
theorem surgeStores_f23 : Rows.surgeStoresRow.shortTexts.isNone = true := by kernel_rfl
theorem surgeStores_f24 : Tryz.prog.stopsHeard = true := by kernel_rfl
theorem surgeStores_f25 : Tryz.prog.mayEnter = true := by kernel_rfl
theorem surgeStores_f26 : (Rows.surgeStoresRow.lifted == Tryz.prog.liftsFinal) = true := by kernel_rfl
theorem surgeStores_f27 : (Tryz.prog.make == some Rows.surgeStoresRow.make) = true := by kernel_rfl
theorem surgeStores_f28 : (Rows.surgeStoresRow.kinds == (if Rows.surgeStoresRow.domain.isEmpty then [] else Tryz.f14.params.toList.map fun t => match Tryz.prog.underlying t with | some (.int k) => some k | _ => none)) = true := by kernel_rfl
theorem surgeStores_f29 : (Rows.surgeStoresRow.pinned == Rows.surgeStoresRow.pinnedBy) = true := by kernel_rfl
theorem surgeStores_f30 : (Rows.surgeStoresRow.veiled == (Tryz.f14.params.toList ++ (OpenSpec.ofChange Rows.surgeStoresSpec).bare.plain.varTypes Tryz.prog ++ Tryz.f14.resultTypes.toList).any (Tryz.prog.veiledRec ·)) = true := by kernel_rfl
theorem surgeStores_f31 : Rows.surgeStoresRow.veiledFits Tryz.prog Tryz.f14.params.toList (Tryz.f14.params.toList ++ (OpenSpec.ofChange Rows.surgeStoresSpec).bare.plain.varTypes Tryz.prog ++ Tryz.f14.resultTypes.toList) = true := by kernel_rfl
set_option maxRecDepth 100000 in
theorem surgeStores_joined : joinedFacts Tryz.prog 14 Tryz.f14 (OpenSpec.ofChange Rows.surgeStoresSpec).bare Rows.surgeStoresRow = true := Go.Fs.joined_of surgeStores_f0 surgeStores_f1 surgeStores_f2 surgeStores_f3 surgeStores_f4 surgeStores_f5 surgeStores_f6 surgeStores_f7 surgeStores_f8 surgeStores_f9 surgeStores_f10 surgeStores_f11 surgeStores_f12 surgeStores_f13 surgeStores_f14 surgeStores_f15 surgeStores_f16 surgeStores_f17 surgeStores_f18 surgeStores_f19 surgeStores_f20 surgeStores_f21 surgeStores_f22 surgeStores_f23 surgeStores_f24 surgeStores_f25 surgeStores_f26 surgeStores_f27 surgeStores_f28 surgeStores_f29 surgeStores_f30 surgeStores_f31
end Go.Proofs.YtednnfllcafliaaGreatDoor
