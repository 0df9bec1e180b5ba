/- The closed facts of the row of SafetyApart, one by one. No condition. -/
import Derived.Test.YtligdjefbiebjaaGreatDoorRows
import Derived.Test.YtligdjefbiebjaaGreatDoorP11FsFacts
import Derived.KernelRfl
set_option linter.all false
namespace Go.Proofs.YtligdjefbiebjaaGreatDoor
theorem safetyApart_f0 : Rows.safetyApartRow.wf (OpenSpec.ofChange (OpenSpec.ofChange Rows.safetyApartSpec).bare) = true := by kernel_rfl
theorem safetyApart_f1 : laidOutB Tryz.prog = true := by kernel_rfl
theorem safetyApart_f2 : mapsRowed Tryz.prog = true := by kernel_rfl
theorem safetyApart_f3 : Tryz.f13.params.all (Tryz.prog.readableRec ·) = true := by kernel_rfl
theorem safetyApart_f4 : namedTie Tryz.prog Rows.safetyApartRow.named (OpenSpec.ofChange Rows.safetyApartSpec).bare.vars = true := by kernel_rfl
theorem safetyApart_f5 : (Rows.safetyApartRow.stops == []) = true := by kernel_rfl
theorem safetyApart_f6 : (Tryz.prog.stops == []) = true := by kernel_rfl
theorem safetyApart_f7 : (Rows.safetyApartRow.knobs == []) = true := by kernel_rfl
theorem safetyApart_f8 : (Tryz.prog.stopKnobs == []) = true := by kernel_rfl
theorem safetyApart_f9 : (Rows.safetyApartRow.inPlace == Tryz.prog.inPlace 13) = true := by kernel_rfl
theorem safetyApart_f10 : (Rows.safetyApartRow.unfollowed == Tryz.prog.unfollowed 13) = true := by kernel_rfl
theorem safetyApart_f11 : (Rows.safetyApartRow.recurses == Tryz.prog.recurses 13) = true := by kernel_rfl
theorem safetyApart_f12 : (Rows.safetyApartRow.named == Tryz.prog.varsNamed 13) = true := by kernel_rfl
theorem safetyApart_f13 : (Rows.safetyApartRow.maps == (Tryz.f13.params.toList ++ (OpenSpec.ofChange Rows.safetyApartSpec).bare.plain.varTypes Tryz.prog).any (Tryz.prog.mapsRec ·)) = true := by kernel_rfl
theorem safetyApart_f14 : (Rows.safetyApartRow.ifaces == (Tryz.f13.params.toList ++ (OpenSpec.ofChange Rows.safetyApartSpec).bare.plain.varTypes Tryz.prog).any (Tryz.prog.ifacesRec ·)) = true := by kernel_rfl
theorem safetyApart_f15 : (Rows.safetyApartRow.mapsOut == Tryz.prog.mapsAmong Tryz.f13.resultTypes.toList) = true := by kernel_rfl
theorem safetyApart_f16 : (Rows.safetyApartRow.loops == (Tryz.f13.params.toList ++ (OpenSpec.ofChange Rows.safetyApartSpec).bare.plain.varTypes Tryz.prog).any (Tryz.prog.loopsFrom ·)) = true := by kernel_rfl
theorem safetyApart_f17 : (Rows.safetyApartRow.wideKeys == (Tryz.f13.params.toList ++ (OpenSpec.ofChange Rows.safetyApartSpec).bare.plain.varTypes Tryz.prog ++ Tryz.f13.resultTypes.toList).any (Tryz.prog.wideKeysFrom ·)) = true := by kernel_rfl
theorem safetyApart_f18 : (OpenSpec.ofChange Rows.safetyApartSpec).bare.vars.all (Tryz.prog.varReadable ·) = true := by kernel_rfl
theorem safetyApart_f19 : Tryz.f13.resultTypes.all (fun t => Tryz.prog.readableRec t && decide (t < Tryz.prog.types.size)) = true := by kernel_rfl
theorem safetyApart_f20 : (Rows.safetyApartRow.ifacesOut == Tryz.f13.resultTypes.toList.any (Tryz.prog.ifacesRec ·)) = true := by kernel_rfl
theorem safetyApart_f21 : (Rows.safetyApartRow.loopsOut == Tryz.f13.resultTypes.toList.any (Tryz.prog.loopsFrom ·)) = true := by kernel_rfl
theorem safetyApart_f22 : (Rows.safetyApartRow.plainKeys == Tryz.prog.plainKeys) = true := by kernel_rfl
theorem safetyApart_f23 : Rows.safetyApartRow.shortTexts.isNone = true := by kernel_rfl
theorem safetyApart_f24 : Tryz.prog.stopsHeard = true := by kernel_rfl
theorem safetyApart_f25 : Tryz.prog.mayEnter = true := by kernel_rfl
theorem safetyApart_f26 : (Rows.safetyApartRow.lifted == Tryz.prog.liftsFinal) = true := by kernel_rfl
theorem safetyApart_f27 : (Tryz.prog.make == some Rows.safetyApartRow.make) = true := by kernel_rfl
theorem safetyApart_f28 : (Rows.safetyApartRow.kinds == (if Rows.safetyApartRow.domain.isEmpty then [] else Tryz.f13.params.toList.map fun t => match Tryz.prog.underlying t with | some (.int k) => some k | _ => none)) = true := by kernel_rfl
theorem safetyApart_f29 : (Rows.safetyApartRow.pinned == Rows.safetyApartRow.pinnedBy) = true := by kernel_rfl
theorem safetyApart_f30 : (Rows.safetyApartRow.veiled == (Tryz.f13.params.toList ++ (OpenSpec.ofChange Rows.safetyApartSpec).bare.plain.varTypes Tryz.prog ++ Tryz.f13.resultTypes.toList).any (Tryz.prog.veiledRec ·)) = true := by kernel_rfl
theorem safetyApart_f31 : Rows.safetyApartRow.veiledFits Tryz.prog Tryz.f13.params.toList (Tryz.f13.params.toList ++ (OpenSpec.ofChange Rows.safetyApartSpec).bare.plain.varTypes Tryz.prog ++ Tryz.f13.resultTypes.toList) = true := by kernel_rfl
set_option maxRecDepth 100000 in
theorem safetyApart_joined : joinedFacts Tryz.prog 13 Tryz.f13 (OpenSpec.ofChange Rows.safetyApartSpec).bare Rows.safetyApartRow = true := Go.Fs.joined_of safetyApart_f0 safetyApart_f1 safetyApart_f2 safetyApart_f3 safetyApart_f4 safetyApart_f5 safetyApart_f6 safetyApart_f7 safetyApart_f8 safetyApart_f9 safetyApart_f10 safetyApart_f11 safetyApart_f12 safetyApart_f13 safetyApart_f14 safetyApart_f15 safetyApart_f16 safetyApart_f17 safetyApart_f18 safetyApart_f19 safetyApart_f20 safetyApart_f21 safetyApart_f22 safetyApart_f23 safetyApart_f24 safetyApart_f25 safetyApart_f26 safetyApart_f27 safetyApart_f28 safetyApart_f29 safetyApart_f30 safetyApart_f31
end Go.Proofs.YtligdjefbiebjaaGreatDoor
