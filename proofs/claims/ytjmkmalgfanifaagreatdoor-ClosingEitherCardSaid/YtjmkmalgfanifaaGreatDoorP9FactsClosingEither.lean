/- The closed facts of the row of ClosingEither, one by one. No condition. -/
import Derived.Test.YtjmkmalgfanifaaGreatDoorRows
import Derived.Test.YtjmkmalgfanifaaGreatDoorP8FsFacts
import Derived.KernelRfl
set_option linter.all false
namespace Go.Proofs.YtjmkmalgfanifaaGreatDoor
theorem closingEither_f0 : Rows.closingEitherRow.wf (OpenSpec.ofChange (OpenSpec.ofChange Rows.closingEitherSpec).bare) = true := by kernel_rfl
theorem closingEither_f1 : laidOutB Tryz.prog = true := by kernel_rfl
theorem closingEither_f2 : mapsRowed Tryz.prog = true := by kernel_rfl
theorem closingEither_f3 : Tryz.f13.params.all (Tryz.prog.readableRec ·) = true := by kernel_rfl
theorem closingEither_f4 : namedTie Tryz.prog Rows.closingEitherRow.named (OpenSpec.ofChange Rows.closingEitherSpec).bare.vars = true := by kernel_rfl
theorem closingEither_f5 : (Rows.closingEitherRow.stops == []) = true := by kernel_rfl
theorem closingEither_f6 : (Tryz.prog.stops == []) = true := by kernel_rfl
theorem closingEither_f7 : (Rows.closingEitherRow.knobs == []) = true := by kernel_rfl
theorem closingEither_f8 : (Tryz.prog.stopKnobs == []) = true := by kernel_rfl
theorem closingEither_f9 : (Rows.closingEitherRow.inPlace == Tryz.prog.inPlace 13) = true := by kernel_rfl
theorem closingEither_f10 : (Rows.closingEitherRow.unfollowed == Tryz.prog.unfollowed 13) = true := by kernel_rfl
theorem closingEither_f11 : (Rows.closingEitherRow.recurses == Tryz.prog.recurses 13) = true := by kernel_rfl
theorem closingEither_f12 : (Rows.closingEitherRow.named == Tryz.prog.varsNamed 13) = true := by kernel_rfl
theorem closingEither_f13 : (Rows.closingEitherRow.maps == (Tryz.f13.params.toList ++ (OpenSpec.ofChange Rows.closingEitherSpec).bare.plain.varTypes Tryz.prog).any (Tryz.prog.mapsRec ·)) = true := by kernel_rfl
theorem closingEither_f14 : (Rows.closingEitherRow.ifaces == (Tryz.f13.params.toList ++ (OpenSpec.ofChange Rows.closingEitherSpec).bare.plain.varTypes Tryz.prog).any (Tryz.prog.ifacesRec ·)) = true := by kernel_rfl
theorem closingEither_f15 : (Rows.closingEitherRow.mapsOut == Tryz.prog.mapsAmong Tryz.f13.resultTypes.toList) = true := by kernel_rfl
theorem closingEither_f16 : (Rows.closingEitherRow.loops == (Tryz.f13.params.toList ++ (OpenSpec.ofChange Rows.closingEitherSpec).bare.plain.varTypes Tryz.prog).any (Tryz.prog.loopsFrom ·)) = true := by kernel_rfl
theorem closingEither_f17 : (Rows.closingEitherRow.wideKeys == (Tryz.f13.params.toList ++ (OpenSpec.ofChange Rows.closingEitherSpec).bare.plain.varTypes Tryz.prog ++ Tryz.f13.resultTypes.toList).any (Tryz.prog.wideKeysFrom ·)) = true := by kernel_rfl
theorem closingEither_f18 : (OpenSpec.ofChange Rows.closingEitherSpec).bare.vars.all (Tryz.prog.varReadable ·) = true := by kernel_rfl
theorem closingEither_f19 : Tryz.f13.resultTypes.all (fun t => Tryz.prog.readableRec t && decide (t < Tryz.prog.types.size)) = true := by kernel_rfl
theorem closingEither_f20 : (Rows.closingEitherRow.ifacesOut == Tryz.f13.resultTypes.toList.any (Tryz.prog.ifacesRec ·)) = true := by kernel_rfl
theorem closingEither_f21 : (Rows.closingEitherRow.loopsOut == Tryz.f13.resultTypes.toList.any (Tryz.prog.loopsFrom ·)) = true := by kernel_rfl
theorem closingEither_f22 : (Rows.closingEitherRow.plainKeys == Tryz.prog.plainKeys) = true := by kernel_rfl
theorem closingEither_f23 : Rows.closingEitherRow.shortTexts.isNone = true := by kernel_rfl
theorem closingEither_f24 : Tryz.prog.stopsHeard = true := by kernel_rfl
theorem closingEither_f25 : Tryz.prog.mayEnter = true := by kernel_rfl
theorem closingEither_f26 : (Rows.closingEitherRow.lifted == Tryz.prog.liftsFinal) = true := by kernel_rfl
theorem closingEither_f27 : (Tryz.prog.make == some Rows.closingEitherRow.make) = true := by kernel_rfl
theorem closingEither_f28 : (Rows.closingEitherRow.kinds == (if Rows.closingEitherRow.domain.isEmpty then [] else Tryz.f13.params.toList.map fun t => match Tryz.prog.underlying t with | some (.int k) => some k | _ => none)) = true := by kernel_rfl
theorem closingEither_f29 : (Rows.closingEitherRow.pinned == Rows.closingEitherRow.pinnedBy) = true := by kernel_rfl
theorem closingEither_f30 : (Rows.closingEitherRow.veiled == (Tryz.f13.params.toList ++ (OpenSpec.ofChange Rows.closingEitherSpec).bare.plain.varTypes Tryz.prog ++ Tryz.f13.resultTypes.toList).any (Tryz.prog.veiledRec ·)) = true := by kernel_rfl
theorem closingEither_f31 : Rows.closingEitherRow.veiledFits Tryz.prog Tryz.f13.params.toList (Tryz.f13.params.toList ++ (OpenSpec.ofChange Rows.closingEitherSpec).bare.plain.varTypes Tryz.prog ++ Tryz.f13.resultTypes.toList) = true := by kernel_rfl
set_option maxRecDepth 100000 in
theorem closingEither_joined : joinedFacts Tryz.prog 13 Tryz.f13 (OpenSpec.ofChange Rows.closingEitherSpec).bare Rows.closingEitherRow = true := Go.Fs.joined_of closingEither_f0 closingEither_f1 closingEither_f2 closingEither_f3 closingEither_f4 closingEither_f5 closingEither_f6 closingEither_f7 closingEither_f8 closingEither_f9 closingEither_f10 closingEither_f11 closingEither_f12 closingEither_f13 closingEither_f14 closingEither_f15 closingEither_f16 closingEither_f17 closingEither_f18 closingEither_f19 closingEither_f20 closingEither_f21 closingEither_f22 closingEither_f23 closingEither_f24 closingEither_f25 closingEither_f26 closingEither_f27 closingEither_f28 closingEither_f29 closingEither_f30 closingEither_f31
end Go.Proofs.YtjmkmalgfanifaaGreatDoor
