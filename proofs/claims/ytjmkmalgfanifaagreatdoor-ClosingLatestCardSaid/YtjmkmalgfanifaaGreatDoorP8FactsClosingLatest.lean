/- The closed facts of the row of ClosingLatest, one by one. No condition. -/
import Derived.Test.YtjmkmalgfanifaaGreatDoorRows
import Derived.Test.YtjmkmalgfanifaaGreatDoorP7FsFacts
import Derived.KernelRfl
set_option linter.all false
namespace Go.Proofs.YtjmkmalgfanifaaGreatDoor
theorem closingLatest_f0 : Rows.closingLatestRow.wf (OpenSpec.ofChange (OpenSpec.ofChange Rows.closingLatestSpec).bare) = true := by kernel_rfl
theorem closingLatest_f1 : laidOutB Tryz.prog = true := by kernel_rfl
theorem closingLatest_f2 : mapsRowed Tryz.prog = true := by kernel_rfl
theorem closingLatest_f3 : Tryz.f4.params.all (Tryz.prog.readableRec ·) = true := by kernel_rfl
theorem closingLatest_f4 : namedTie Tryz.prog Rows.closingLatestRow.named (OpenSpec.ofChange Rows.closingLatestSpec).bare.vars = true := by kernel_rfl
theorem closingLatest_f5 : (Rows.closingLatestRow.stops == []) = true := by kernel_rfl
theorem closingLatest_f6 : (Tryz.prog.stops == []) = true := by kernel_rfl
theorem closingLatest_f7 : (Rows.closingLatestRow.knobs == []) = true := by kernel_rfl
theorem closingLatest_f8 : (Tryz.prog.stopKnobs == []) = true := by kernel_rfl
theorem closingLatest_f9 : (Rows.closingLatestRow.inPlace == Tryz.prog.inPlace 4) = true := by kernel_rfl
theorem closingLatest_f10 : (Rows.closingLatestRow.unfollowed == Tryz.prog.unfollowed 4) = true := by kernel_rfl
theorem closingLatest_f11 : (Rows.closingLatestRow.recurses == Tryz.prog.recurses 4) = true := by kernel_rfl
theorem closingLatest_f12 : (Rows.closingLatestRow.named == Tryz.prog.varsNamed 4) = true := by kernel_rfl
theorem closingLatest_f13 : (Rows.closingLatestRow.maps == (Tryz.f4.params.toList ++ (OpenSpec.ofChange Rows.closingLatestSpec).bare.plain.varTypes Tryz.prog).any (Tryz.prog.mapsRec ·)) = true := by kernel_rfl
theorem closingLatest_f14 : (Rows.closingLatestRow.ifaces == (Tryz.f4.params.toList ++ (OpenSpec.ofChange Rows.closingLatestSpec).bare.plain.varTypes Tryz.prog).any (Tryz.prog.ifacesRec ·)) = true := by kernel_rfl
theorem closingLatest_f15 : (Rows.closingLatestRow.mapsOut == Tryz.prog.mapsAmong Tryz.f4.resultTypes.toList) = true := by kernel_rfl
theorem closingLatest_f16 : (Rows.closingLatestRow.loops == (Tryz.f4.params.toList ++ (OpenSpec.ofChange Rows.closingLatestSpec).bare.plain.varTypes Tryz.prog).any (Tryz.prog.loopsFrom ·)) = true := by kernel_rfl
theorem closingLatest_f17 : (Rows.closingLatestRow.wideKeys == (Tryz.f4.params.toList ++ (OpenSpec.ofChange Rows.closingLatestSpec).bare.plain.varTypes Tryz.prog ++ Tryz.f4.resultTypes.toList).any (Tryz.prog.wideKeysFrom ·)) = true := by kernel_rfl
theorem closingLatest_f18 : (OpenSpec.ofChange Rows.closingLatestSpec).bare.vars.all (Tryz.prog.varReadable ·) = true := by kernel_rfl
theorem closingLatest_f19 : Tryz.f4.resultTypes.all (fun t => Tryz.prog.readableRec t && decide (t < Tryz.prog.types.size)) = true := by kernel_rfl
theorem closingLatest_f20 : (Rows.closingLatestRow.ifacesOut == Tryz.f4.resultTypes.toList.any (Tryz.prog.ifacesRec ·)) = true := by kernel_rfl
theorem closingLatest_f21 : (Rows.closingLatestRow.loopsOut == Tryz.f4.resultTypes.toList.any (Tryz.prog.loopsFrom ·)) = true := by kernel_rfl
theorem closingLatest_f22 : (Rows.closingLatestRow.plainKeys == Tryz.prog.plainKeys) = true := by kernel_rfl
theorem closingLatest_f23 : Rows.closingLatestRow.shortTexts.isNone = true := by kernel_rfl
theorem closingLatest_f24 : Tryz.prog.stopsHeard = true := by kernel_rfl
theorem closingLatest_f25 : Tryz.prog.mayEnter = true := by kernel_rfl
theorem closingLatest_f26 : (Rows.closingLatestRow.lifted == Tryz.prog.liftsFinal) = true := by kernel_rfl
theorem closingLatest_f27 : (Tryz.prog.make == some Rows.closingLatestRow.make) = true := by kernel_rfl
theorem closingLatest_f28 : (Rows.closingLatestRow.kinds == (if Rows.closingLatestRow.domain.isEmpty then [] else Tryz.f4.params.toList.map fun t => match Tryz.prog.underlying t with | some (.int k) => some k | _ => none)) = true := by kernel_rfl
theorem closingLatest_f29 : (Rows.closingLatestRow.pinned == Rows.closingLatestRow.pinnedBy) = true := by kernel_rfl
theorem closingLatest_f30 : (Rows.closingLatestRow.veiled == (Tryz.f4.params.toList ++ (OpenSpec.ofChange Rows.closingLatestSpec).bare.plain.varTypes Tryz.prog ++ Tryz.f4.resultTypes.toList).any (Tryz.prog.veiledRec ·)) = true := by kernel_rfl
theorem closingLatest_f31 : Rows.closingLatestRow.veiledFits Tryz.prog Tryz.f4.params.toList (Tryz.f4.params.toList ++ (OpenSpec.ofChange Rows.closingLatestSpec).bare.plain.varTypes Tryz.prog ++ Tryz.f4.resultTypes.toList) = true := by kernel_rfl
set_option maxRecDepth 100000 in
theorem closingLatest_joined : joinedFacts Tryz.prog 4 Tryz.f4 (OpenSpec.ofChange Rows.closingLatestSpec).bare Rows.closingLatestRow = true := Go.Fs.joined_of closingLatest_f0 closingLatest_f1 closingLatest_f2 closingLatest_f3 closingLatest_f4 closingLatest_f5 closingLatest_f6 closingLatest_f7 closingLatest_f8 closingLatest_f9 closingLatest_f10 closingLatest_f11 closingLatest_f12 closingLatest_f13 closingLatest_f14 closingLatest_f15 closingLatest_f16 closingLatest_f17 closingLatest_f18 closingLatest_f19 closingLatest_f20 closingLatest_f21 closingLatest_f22 closingLatest_f23 closingLatest_f24 closingLatest_f25 closingLatest_f26 closingLatest_f27 closingLatest_f28 closingLatest_f29 closingLatest_f30 closingLatest_f31
end Go.Proofs.YtjmkmalgfanifaaGreatDoor
