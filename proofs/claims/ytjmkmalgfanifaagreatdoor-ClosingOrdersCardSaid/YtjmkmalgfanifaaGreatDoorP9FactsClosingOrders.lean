/- The closed facts of the row of ClosingOrders, one by one. No condition. -/
import Derived.Test.YtjmkmalgfanifaaGreatDoorRows
import Derived.Test.YtjmkmalgfanifaaGreatDoorP8FsFacts
import Derived.KernelRfl
set_option linter.all false
namespace Go.Proofs.YtjmkmalgfanifaaGreatDoor
theorem closingOrders_f0 : Rows.closingOrdersRow.wf (OpenSpec.ofChange (OpenSpec.ofChange Rows.closingOrdersSpec).bare) = true := by kernel_rfl
theorem closingOrders_f1 : laidOutB Tryz.prog = true := by kernel_rfl
theorem closingOrders_f2 : mapsRowed Tryz.prog = true := by kernel_rfl
theorem closingOrders_f3 : Tryz.f12.params.all (Tryz.prog.readableRec ·) = true := by kernel_rfl
theorem closingOrders_f4 : namedTie Tryz.prog Rows.closingOrdersRow.named (OpenSpec.ofChange Rows.closingOrdersSpec).bare.vars = true := by kernel_rfl
theorem closingOrders_f5 : (Rows.closingOrdersRow.stops == []) = true := by kernel_rfl
theorem closingOrders_f6 : (Tryz.prog.stops == []) = true := by kernel_rfl
theorem closingOrders_f7 : (Rows.closingOrdersRow.knobs == []) = true := by kernel_rfl
theorem closingOrders_f8 : (Tryz.prog.stopKnobs == []) = true := by kernel_rfl
theorem closingOrders_f9 : (Rows.closingOrdersRow.inPlace == Tryz.prog.inPlace 12) = true := by kernel_rfl
theorem closingOrders_f10 : (Rows.closingOrdersRow.unfollowed == Tryz.prog.unfollowed 12) = true := by kernel_rfl
theorem closingOrders_f11 : (Rows.closingOrdersRow.recurses == Tryz.prog.recurses 12) = true := by kernel_rfl
theorem closingOrders_f12 : (Rows.closingOrdersRow.named == Tryz.prog.varsNamed 12) = true := by kernel_rfl
theorem closingOrders_f13 : (Rows.closingOrdersRow.maps == (Tryz.f12.params.toList ++ (OpenSpec.ofChange Rows.closingOrdersSpec).bare.plain.varTypes Tryz.prog).any (Tryz.prog.mapsRec ·)) = true := by kernel_rfl
theorem closingOrders_f14 : (Rows.closingOrdersRow.ifaces == (Tryz.f12.params.toList ++ (OpenSpec.ofChange Rows.closingOrdersSpec).bare.plain.varTypes Tryz.prog).any (Tryz.prog.ifacesRec ·)) = true := by kernel_rfl
theorem closingOrders_f15 : (Rows.closingOrdersRow.mapsOut == Tryz.prog.mapsAmong Tryz.f12.resultTypes.toList) = true := by kernel_rfl
theorem closingOrders_f16 : (Rows.closingOrdersRow.loops == (Tryz.f12.params.toList ++ (OpenSpec.ofChange Rows.closingOrdersSpec).bare.plain.varTypes Tryz.prog).any (Tryz.prog.loopsFrom ·)) = true := by kernel_rfl
theorem closingOrders_f17 : (Rows.closingOrdersRow.wideKeys == (Tryz.f12.params.toList ++ (OpenSpec.ofChange Rows.closingOrdersSpec).bare.plain.varTypes Tryz.prog ++ Tryz.f12.resultTypes.toList).any (Tryz.prog.wideKeysFrom ·)) = true := by kernel_rfl
theorem closingOrders_f18 : (OpenSpec.ofChange Rows.closingOrdersSpec).bare.vars.all (Tryz.prog.varReadable ·) = true := by kernel_rfl
theorem closingOrders_f19 : Tryz.f12.resultTypes.all (fun t => Tryz.prog.readableRec t && decide (t < Tryz.prog.types.size)) = true := by kernel_rfl
theorem closingOrders_f20 : (Rows.closingOrdersRow.ifacesOut == Tryz.f12.resultTypes.toList.any (Tryz.prog.ifacesRec ·)) = true := by kernel_rfl
theorem closingOrders_f21 : (Rows.closingOrdersRow.loopsOut == Tryz.f12.resultTypes.toList.any (Tryz.prog.loopsFrom ·)) = true := by kernel_rfl
theorem closingOrders_f22 : (Rows.closingOrdersRow.plainKeys == Tryz.prog.plainKeys) = true := by kernel_rfl
theorem closingOrders_f23 : Rows.closingOrdersRow.shortTexts.isNone = true := by kernel_rfl
theorem closingOrders_f24 : Tryz.prog.stopsHeard = true := by kernel_rfl
theorem closingOrders_f25 : Tryz.prog.mayEnter = true := by kernel_rfl
theorem closingOrders_f26 : (Rows.closingOrdersRow.lifted == Tryz.prog.liftsFinal) = true := by kernel_rfl
theorem closingOrders_f27 : (Tryz.prog.make == some Rows.closingOrdersRow.make) = true := by kernel_rfl
theorem closingOrders_f28 : (Rows.closingOrdersRow.kinds == (if Rows.closingOrdersRow.domain.isEmpty then [] else Tryz.f12.params.toList.map fun t => match Tryz.prog.underlying t with | some (.int k) => some k | _ => none)) = true := by kernel_rfl
theorem closingOrders_f29 : (Rows.closingOrdersRow.pinned == Rows.closingOrdersRow.pinnedBy) = true := by kernel_rfl
theorem closingOrders_f30 : (Rows.closingOrdersRow.veiled == (Tryz.f12.params.toList ++ (OpenSpec.ofChange Rows.closingOrdersSpec).bare.plain.varTypes Tryz.prog ++ Tryz.f12.resultTypes.toList).any (Tryz.prog.veiledRec ·)) = true := by kernel_rfl
theorem closingOrders_f31 : Rows.closingOrdersRow.veiledFits Tryz.prog Tryz.f12.params.toList (Tryz.f12.params.toList ++ (OpenSpec.ofChange Rows.closingOrdersSpec).bare.plain.varTypes Tryz.prog ++ Tryz.f12.resultTypes.toList) = true := by kernel_rfl
set_option maxRecDepth 100000 in
theorem closingOrders_joined : joinedFacts Tryz.prog 12 Tryz.f12 (OpenSpec.ofChange Rows.closingOrdersSpec).bare Rows.closingOrdersRow = true := Go.Fs.joined_of closingOrders_f0 closingOrders_f1 closingOrders_f2 closingOrders_f3 closingOrders_f4 closingOrders_f5 closingOrders_f6 closingOrders_f7 closingOrders_f8 closingOrders_f9 closingOrders_f10 closingOrders_f11 closingOrders_f12 closingOrders_f13 closingOrders_f14 closingOrders_f15 closingOrders_f16 closingOrders_f17 closingOrders_f18 closingOrders_f19 closingOrders_f20 closingOrders_f21 closingOrders_f22 closingOrders_f23 closingOrders_f24 closingOrders_f25 closingOrders_f26 closingOrders_f27 closingOrders_f28 closingOrders_f29 closingOrders_f30 closingOrders_f31
end Go.Proofs.YtjmkmalgfanifaaGreatDoor
