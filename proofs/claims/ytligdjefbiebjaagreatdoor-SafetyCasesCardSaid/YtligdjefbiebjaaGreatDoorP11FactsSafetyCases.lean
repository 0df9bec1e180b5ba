/- The closed facts of the row of SafetyCases, one by one. No condition. -/
import Derived.Test.YtligdjefbiebjaaGreatDoorRows
import Derived.Test.YtligdjefbiebjaaGreatDoorP10FsFacts
import Derived.KernelRfl
set_option linter.all false
namespace Go.Proofs.YtligdjefbiebjaaGreatDoor
theorem safetyCases_f0 : Rows.safetyCasesRow.wf (OpenSpec.ofChange (OpenSpec.ofChange Rows.safetyCasesSpec).bare) = true := by kernel_rfl
theorem safetyCases_f1 : laidOutB Tryz.prog = true := by kernel_rfl
theorem safetyCases_f2 : mapsRowed Tryz.prog = true := by kernel_rfl
theorem safetyCases_f3 : Tryz.f6.params.all (Tryz.prog.readableRec ·) = true := by kernel_rfl
theorem safetyCases_f4 : namedTie Tryz.prog Rows.safetyCasesRow.named (OpenSpec.ofChange Rows.safetyCasesSpec).bare.vars = true := by kernel_rfl
theorem safetyCases_f5 : (Rows.safetyCasesRow.stops == []) = true := by kernel_rfl
theorem safetyCases_f6 : (Tryz.prog.stops == []) = true := by kernel_rfl
theorem safetyCases_f7 : (Rows.safetyCasesRow.knobs == []) = true := by kernel_rfl
theorem safetyCases_f8 : (Tryz.prog.stopKnobs == []) = true := by kernel_rfl
theorem safetyCases_f9 : (Rows.safetyCasesRow.inPlace == Tryz.prog.inPlace 6) = true := by kernel_rfl
theorem safetyCases_f10 : (Rows.safetyCasesRow.unfollowed == Tryz.prog.unfollowed 6) = true := by kernel_rfl
theorem safetyCases_f11 : (Rows.safetyCasesRow.recurses == Tryz.prog.recurses 6) = true := by kernel_rfl
theorem safetyCases_f12 : (Rows.safetyCasesRow.named == Tryz.prog.varsNamed 6) = true := by kernel_rfl
theorem safetyCases_f13 : (Rows.safetyCasesRow.maps == (Tryz.f6.params.toList ++ (OpenSpec.ofChange Rows.safetyCasesSpec).bare.plain.varTypes Tryz.prog).any (Tryz.prog.mapsRec ·)) = true := by kernel_rfl
theorem safetyCases_f14 : (Rows.safetyCasesRow.ifaces == (Tryz.f6.params.toList ++ (OpenSpec.ofChange Rows.safetyCasesSpec).bare.plain.varTypes Tryz.prog).any (Tryz.prog.ifacesRec ·)) = true := by kernel_rfl
theorem safetyCases_f15 : (Rows.safetyCasesRow.mapsOut == Tryz.prog.mapsAmong Tryz.f6.resultTypes.toList) = true := by kernel_rfl
theorem safetyCases_f16 : (Rows.safetyCasesRow.loops == (Tryz.f6.params.toList ++ (OpenSpec.ofChange Rows.safetyCasesSpec).bare.plain.varTypes Tryz.prog).any (Tryz.prog.loopsFrom ·)) = true := by kernel_rfl
theorem safetyCases_f17 : (Rows.safetyCasesRow.wideKeys == (Tryz.f6.params.toList ++ (OpenSpec.ofChange Rows.safetyCasesSpec).bare.plain.varTypes Tryz.prog ++ Tryz.f6.resultTypes.toList).any (Tryz.prog.wideKeysFrom ·)) = true := by kernel_rfl
theorem safetyCases_f18 : (OpenSpec.ofChange Rows.safetyCasesSpec).bare.vars.all (Tryz.prog.varReadable ·) = true := by kernel_rfl
theorem safetyCases_f19 : Tryz.f6.resultTypes.all (fun t => Tryz.prog.readableRec t && decide (t < Tryz.prog.types.size)) = true := by kernel_rfl
theorem safetyCases_f20 : (Rows.safetyCasesRow.ifacesOut == Tryz.f6.resultTypes.toList.any (Tryz.prog.ifacesRec ·)) = true := by kernel_rfl
theorem safetyCases_f21 : (Rows.safetyCasesRow.loopsOut == Tryz.f6.resultTypes.toList.any (Tryz.prog.loopsFrom ·)) = true := by kernel_rfl
theorem safetyCases_f22 : (Rows.safetyCasesRow.plainKeys == Tryz.prog.plainKeys) = true := by kernel_rfl
theorem safetyCases_f23 : Rows.safetyCasesRow.shortTexts.isNone = true := by kernel_rfl
theorem safetyCases_f24 : Tryz.prog.stopsHeard = true := by kernel_rfl
theorem safetyCases_f25 : Tryz.prog.mayEnter = true := by kernel_rfl
theorem safetyCases_f26 : (Rows.safetyCasesRow.lifted == Tryz.prog.liftsFinal) = true := by kernel_rfl
theorem safetyCases_f27 : (Tryz.prog.make == some Rows.safetyCasesRow.make) = true := by kernel_rfl
theorem safetyCases_f28 : (Rows.safetyCasesRow.kinds == (if Rows.safetyCasesRow.domain.isEmpty then [] else Tryz.f6.params.toList.map fun t => match Tryz.prog.underlying t with | some (.int k) => some k | _ => none)) = true := by kernel_rfl
theorem safetyCases_f29 : (Rows.safetyCasesRow.pinned == Rows.safetyCasesRow.pinnedBy) = true := by kernel_rfl
theorem safetyCases_f30 : (Rows.safetyCasesRow.veiled == (Tryz.f6.params.toList ++ (OpenSpec.ofChange Rows.safetyCasesSpec).bare.plain.varTypes Tryz.prog ++ Tryz.f6.resultTypes.toList).any (Tryz.prog.veiledRec ·)) = true := by kernel_rfl
theorem safetyCases_f31 : Rows.safetyCasesRow.veiledFits Tryz.prog Tryz.f6.params.toList (Tryz.f6.params.toList ++ (OpenSpec.ofChange Rows.safetyCasesSpec).bare.plain.varTypes Tryz.prog ++ Tryz.f6.resultTypes.toList) = true := by kernel_rfl
set_option maxRecDepth 100000 in
theorem safetyCases_joined : joinedFacts Tryz.prog 6 Tryz.f6 (OpenSpec.ofChange Rows.safetyCasesSpec).bare Rows.safetyCasesRow = true := Go.Fs.joined_of safetyCases_f0 safetyCases_f1 safetyCases_f2 safetyCases_f3 safetyCases_f4 safetyCases_f5 safetyCases_f6 safetyCases_f7 safetyCases_f8 safetyCases_f9 safetyCases_f10 safetyCases_f11 safetyCases_f12 safetyCases_f13 safetyCases_f14 safetyCases_f15 safetyCases_f16 safetyCases_f17 safetyCases_f18 safetyCases_f19 safetyCases_f20 safetyCases_f21 safetyCases_f22 safetyCases_f23 safetyCases_f24 safetyCases_f25 safetyCases_f26 safetyCases_f27 safetyCases_f28 safetyCases_f29 safetyCases_f30 safetyCases_f31
end Go.Proofs.YtligdjefbiebjaaGreatDoor
