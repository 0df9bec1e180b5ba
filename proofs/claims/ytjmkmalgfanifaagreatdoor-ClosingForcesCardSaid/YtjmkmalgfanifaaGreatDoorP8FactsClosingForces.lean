/- The closed facts of the row of ClosingForces, one by one. No condition. -/
import Derived.Test.YtjmkmalgfanifaaGreatDoorRows
import Derived.Test.YtjmkmalgfanifaaGreatDoorP7FsFacts
import Derived.KernelRfl
set_option linter.all false
namespace Go.Proofs.YtjmkmalgfanifaaGreatDoor
theorem closingForces_f0 : Rows.closingForcesRow.wf (OpenSpec.ofChange (OpenSpec.ofChange Rows.closingForcesSpec).bare) = true := by kernel_rfl
theorem closingForces_f1 : laidOutB Tryz.prog = true := by kernel_rfl
theorem closingForces_f2 : mapsRowed Tryz.prog = true := by kernel_rfl
theorem closingForces_f3 : Tryz.f9.params.all (Tryz.prog.readableRec ·) = true := by kernel_rfl
theorem closingForces_f4 : namedTie Tryz.prog Rows.closingForcesRow.named (OpenSpec.ofChange Rows.closingForcesSpec).bare.vars = true := by kernel_rfl
theorem closingForces_f5 : (Rows.closingForcesRow.stops == []) = true := by kernel_rfl
theorem closingForces_f6 : (Tryz.prog.stops == []) = true := by kernel_rfl
theorem closingForces_f7 : (Rows.closingForcesRow.knobs == []) = true := by kernel_rfl
theorem closingForces_f8 : (Tryz.prog.stopKnobs == []) = true := by kernel_rfl
theorem closingForces_f9 : (Rows.closingForcesRow.inPlace == Tryz.prog.inPlace 9) = true := by kernel_rfl
theorem closingForces_f10 : (Rows.closingForcesRow.unfollowed == Tryz.prog.unfollowed 9) = true := by kernel_rfl
theorem closingForces_f11 : (Rows.closingForcesRow.recurses == Tryz.prog.recurses 9) = true := by kernel_rfl
theorem closingForces_f12 : (Rows.closingForcesRow.named == Tryz.prog.varsNamed 9) = true := by kernel_rfl
theorem closingForces_f13 : (Rows.closingForcesRow.maps == (Tryz.f9.params.toList ++ (OpenSpec.ofChange Rows.closingForcesSpec).bare.plain.varTypes Tryz.prog).any (Tryz.prog.mapsRec ·)) = true := by kernel_rfl
theorem closingForces_f14 : (Rows.closingForcesRow.ifaces == (Tryz.f9.params.toList ++ (OpenSpec.ofChange Rows.closingForcesSpec).bare.plain.varTypes Tryz.prog).any (Tryz.prog.ifacesRec ·)) = true := by kernel_rfl
theorem closingForces_f15 : (Rows.closingForcesRow.mapsOut == Tryz.prog.mapsAmong Tryz.f9.resultTypes.toList) = true := by kernel_rfl
theorem closingForces_f16 : (Rows.closingForcesRow.loops == (Tryz.f9.params.toList ++ (OpenSpec.ofChange Rows.closingForcesSpec).bare.plain.varTypes Tryz.prog).any (Tryz.prog.loopsFrom ·)) = true := by kernel_rfl
theorem closingForces_f17 : (Rows.closingForcesRow.wideKeys == (Tryz.f9.params.toList ++ (OpenSpec.ofChange Rows.closingForcesSpec).bare.plain.varTypes Tryz.prog ++ Tryz.f9.resultTypes.toList).any (Tryz.prog.wideKeysFrom ·)) = true := by kernel_rfl
theorem closingForces_f18 : (OpenSpec.ofChange Rows.closingForcesSpec).bare.vars.all (Tryz.prog.varReadable ·) = true := by kernel_rfl
theorem closingForces_f19 : Tryz.f9.resultTypes.all (fun t => Tryz.prog.readableRec t && decide (t < Tryz.prog.types.size)) = true := by kernel_rfl
theorem closingForces_f20 : (Rows.closingForcesRow.ifacesOut == Tryz.f9.resultTypes.toList.any (Tryz.prog.ifacesRec ·)) = true := by kernel_rfl
theorem closingForces_f21 : (Rows.closingForcesRow.loopsOut == Tryz.f9.resultTypes.toList.any (Tryz.prog.loopsFrom ·)) = true := by kernel_rfl
theorem closingForces_f22 : (Rows.closingForcesRow.plainKeys == Tryz.prog.plainKeys) = true := by kernel_rfl
theorem closingForces_f23 : Rows.closingForcesRow.shortTexts.isNone = true := by kernel_rfl
theorem closingForces_f24 : Tryz.prog.stopsHeard = true := by kernel_rfl
theorem closingForces_f25 : Tryz.prog.mayEnter = true := by kernel_rfl
theorem closingForces_f26 : (Rows.closingForcesRow.lifted == Tryz.prog.liftsFinal) = true := by kernel_rfl
theorem closingForces_f27 : (Tryz.prog.make == some Rows.closingForcesRow.make) = true := by kernel_rfl
theorem closingForces_f28 : (Rows.closingForcesRow.kinds == (if Rows.closingForcesRow.domain.isEmpty then [] else Tryz.f9.params.toList.map fun t => match Tryz.prog.underlying t with | some (.int k) => some k | _ => none)) = true := by kernel_rfl
theorem closingForces_f29 : (Rows.closingForcesRow.pinned == Rows.closingForcesRow.pinnedBy) = true := by kernel_rfl
theorem closingForces_f30 : (Rows.closingForcesRow.veiled == (Tryz.f9.params.toList ++ (OpenSpec.ofChange Rows.closingForcesSpec).bare.plain.varTypes Tryz.prog ++ Tryz.f9.resultTypes.toList).any (Tryz.prog.veiledRec ·)) = true := by kernel_rfl
theorem closingForces_f31 : Rows.closingForcesRow.veiledFits Tryz.prog Tryz.f9.params.toList (Tryz.f9.params.toList ++ (OpenSpec.ofChange Rows.closingForcesSpec).bare.plain.varTypes Tryz.prog ++ Tryz.f9.resultTypes.toList) = true := by kernel_rfl
set_option maxRecDepth 100000 in
theorem closingForces_joined : joinedFacts Tryz.prog 9 Tryz.f9 (OpenSpec.ofChange Rows.closingForcesSpec).bare Rows.closingForcesRow = true := Go.Fs.joined_of closingForces_f0 closingForces_f1 closingForces_f2 closingForces_f3 closingForces_f4 closingForces_f5 closingForces_f6 closingForces_f7 closingForces_f8 closingForces_f9 closingForces_f10 closingForces_f11 closingForces_f12 closingForces_f13 closingForces_f14 closingForces_f15 closingForces_f16 closingForces_f17 closingForces_f18 closingForces_f19 closingForces_f20 closingForces_f21 closingForces_f22 closingForces_f23 closingForces_f24 closingForces_f25 closingForces_f26 closingForces_f27 closingForces_f28 closingForces_f29 closingForces_f30 closingForces_f31
end Go.Proofs.YtjmkmalgfanifaaGreatDoor
