/- The closed facts of the row of ClosingShips, one by one. No condition. -/
import Derived.Test.YtjmkmalgfanifaaGreatDoorRows
import Derived.Test.YtjmkmalgfanifaaGreatDoorP8FsFacts
import Derived.KernelRfl
set_option linter.all false
namespace Go.Proofs.YtjmkmalgfanifaaGreatDoor
theorem closingShips_f0 : Rows.closingShipsRow.wf (OpenSpec.ofChange (OpenSpec.ofChange Rows.closingShipsSpec).bare) = true := by kernel_rfl
theorem closingShips_f1 : laidOutB Tryz.prog = true := by kernel_rfl
theorem closingShips_f2 : mapsRowed Tryz.prog = true := by kernel_rfl
theorem closingShips_f3 : Tryz.f6.params.all (Tryz.prog.readableRec ·) = true := by kernel_rfl
theorem closingShips_f4 : namedTie Tryz.prog Rows.closingShipsRow.named (OpenSpec.ofChange Rows.closingShipsSpec).bare.vars = true := by kernel_rfl
theorem closingShips_f5 : (Rows.closingShipsRow.stops == []) = true := by kernel_rfl
theorem closingShips_f6 : (Tryz.prog.stops == []) = true := by kernel_rfl
theorem closingShips_f7 : (Rows.closingShipsRow.knobs == []) = true := by kernel_rfl
theorem closingShips_f8 : (Tryz.prog.stopKnobs == []) = true := by kernel_rfl
theorem closingShips_f9 : (Rows.closingShipsRow.inPlace == Tryz.prog.inPlace 6) = true := by kernel_rfl
theorem closingShips_f10 : (Rows.closingShipsRow.unfollowed == Tryz.prog.unfollowed 6) = true := by kernel_rfl
theorem closingShips_f11 : (Rows.closingShipsRow.recurses == Tryz.prog.recurses 6) = true := by kernel_rfl
theorem closingShips_f12 : (Rows.closingShipsRow.named == Tryz.prog.varsNamed 6) = true := by kernel_rfl
theorem closingShips_f13 : (Rows.closingShipsRow.maps == (Tryz.f6.params.toList ++ (OpenSpec.ofChange Rows.closingShipsSpec).bare.plain.varTypes Tryz.prog).any (Tryz.prog.mapsRec ·)) = true := by kernel_rfl
theorem closingShips_f14 : (Rows.closingShipsRow.ifaces == (Tryz.f6.params.toList ++ (OpenSpec.ofChange Rows.closingShipsSpec).bare.plain.varTypes Tryz.prog).any (Tryz.prog.ifacesRec ·)) = true := by kernel_rfl
theorem closingShips_f15 : (Rows.closingShipsRow.mapsOut == Tryz.prog.mapsAmong Tryz.f6.resultTypes.toList) = true := by kernel_rfl
theorem closingShips_f16 : (Rows.closingShipsRow.loops == (Tryz.f6.params.toList ++ (OpenSpec.ofChange Rows.closingShipsSpec).bare.plain.varTypes Tryz.prog).any (Tryz.prog.loopsFrom ·)) = true := by kernel_rfl
theorem closingShips_f17 : (Rows.closingShipsRow.wideKeys == (Tryz.f6.params.toList ++ (OpenSpec.ofChange Rows.closingShipsSpec).bare.plain.varTypes Tryz.prog ++ Tryz.f6.resultTypes.toList).any (Tryz.prog.wideKeysFrom ·)) = true := by kernel_rfl
theorem closingShips_f18 : (OpenSpec.ofChange Rows.closingShipsSpec).bare.vars.all (Tryz.prog.varReadable ·) = true := by kernel_rfl
theorem closingShips_f19 : Tryz.f6.resultTypes.all (fun t => Tryz.prog.readableRec t && decide (t < Tryz.prog.types.size)) = true := by kernel_rfl
theorem closingShips_f20 : (Rows.closingShipsRow.ifacesOut == Tryz.f6.resultTypes.toList.any (Tryz.prog.ifacesRec ·)) = true := by kernel_rfl
theorem closingShips_f21 : (Rows.closingShipsRow.loopsOut == Tryz.f6.resultTypes.toList.any (Tryz.prog.loopsFrom ·)) = true := by kernel_rfl
theorem closingShips_f22 : (Rows.closingShipsRow.plainKeys == Tryz.prog.plainKeys) = true := by kernel_rfl
theorem closingShips_f23 : Rows.closingShipsRow.shortTexts.isNone = true := by kernel_rfl
theorem closingShips_f24 : Tryz.prog.stopsHeard = true := by kernel_rfl
theorem closingShips_f25 : Tryz.prog.mayEnter = true := by kernel_rfl
theorem closingShips_f26 : (Rows.closingShipsRow.lifted == Tryz.prog.liftsFinal) = true := by kernel_rfl
theorem closingShips_f27 : (Tryz.prog.make == some Rows.closingShipsRow.make) = true := by kernel_rfl
theorem closingShips_f28 : (Rows.closingShipsRow.kinds == (if Rows.closingShipsRow.domain.isEmpty then [] else Tryz.f6.params.toList.map fun t => match Tryz.prog.underlying t with | some (.int k) => some k | _ => none)) = true := by kernel_rfl
theorem closingShips_f29 : (Rows.closingShipsRow.pinned == Rows.closingShipsRow.pinnedBy) = true := by kernel_rfl
theorem closingShips_f30 : (Rows.closingShipsRow.veiled == (Tryz.f6.params.toList ++ (OpenSpec.ofChange Rows.closingShipsSpec).bare.plain.varTypes Tryz.prog ++ Tryz.f6.resultTypes.toList).any (Tryz.prog.veiledRec ·)) = true := by kernel_rfl
theorem closingShips_f31 : Rows.closingShipsRow.veiledFits Tryz.prog Tryz.f6.params.toList (Tryz.f6.params.toList ++ (OpenSpec.ofChange Rows.closingShipsSpec).bare.plain.varTypes Tryz.prog ++ Tryz.f6.resultTypes.toList) = true := by kernel_rfl
set_option maxRecDepth 100000 in
theorem closingShips_joined : joinedFacts Tryz.prog 6 Tryz.f6 (OpenSpec.ofChange Rows.closingShipsSpec).bare Rows.closingShipsRow = true := Go.Fs.joined_of closingShips_f0 closingShips_f1 closingShips_f2 closingShips_f3 closingShips_f4 closingShips_f5 closingShips_f6 closingShips_f7 closingShips_f8 closingShips_f9 closingShips_f10 closingShips_f11 closingShips_f12 closingShips_f13 closingShips_f14 closingShips_f15 closingShips_f16 closingShips_f17 closingShips_f18 closingShips_f19 closingShips_f20 closingShips_f21 closingShips_f22 closingShips_f23 closingShips_f24 closingShips_f25 closingShips_f26 closingShips_f27 closingShips_f28 closingShips_f29 closingShips_f30 closingShips_f31
end Go.Proofs.YtjmkmalgfanifaaGreatDoor
