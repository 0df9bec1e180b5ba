/- The closed facts of the row of ClosingChains, one by one. No condition. -/
import Derived.Test.YtjmkmalgfanifaaGreatDoorRows
import Derived.Test.YtjmkmalgfanifaaGreatDoorP8FsFacts
import Derived.KernelRfl
set_option linter.all false
namespace Go.Proofs.YtjmkmalgfanifaaGreatDoor
theorem closingChains_f0 : Rows.closingChainsRow.wf (OpenSpec.ofChange (OpenSpec.ofChange Rows.closingChainsSpec).bare) = true := by kernel_rfl
theorem closingChains_f1 : laidOutB Tryz.prog = true := by kernel_rfl
theorem closingChains_f2 : mapsRowed Tryz.prog = true := by kernel_rfl
theorem closingChains_f3 : Tryz.f8.params.all (Tryz.prog.readableRec ·) = true := by kernel_rfl
theorem closingChains_f4 : namedTie Tryz.prog Rows.closingChainsRow.named (OpenSpec.ofChange Rows.closingChainsSpec).bare.vars = true := by kernel_rfl
theorem closingChains_f5 : (Rows.closingChainsRow.stops == []) = true := by kernel_rfl
theorem closingChains_f6 : (Tryz.prog.stops == []) = true := by kernel_rfl
theorem closingChains_f7 : (Rows.closingChainsRow.knobs == []) = true := by kernel_rfl
theorem closingChains_f8 : (Tryz.prog.stopKnobs == []) = true := by kernel_rfl
theorem closingChains_f9 : (Rows.closingChainsRow.inPlace == Tryz.prog.inPlace 8) = true := by kernel_rfl
theorem closingChains_f10 : (Rows.closingChainsRow.unfollowed == Tryz.prog.unfollowed 8) = true := by kernel_rfl
theorem closingChains_f11 : (Rows.closingChainsRow.recurses == Tryz.prog.recurses 8) = true := by kernel_rfl
theorem closingChains_f12 : (Rows.closingChainsRow.named == Tryz.prog.varsNamed 8) = true := by kernel_rfl
theorem closingChains_f13 : (Rows.closingChainsRow.maps == (Tryz.f8.params.toList ++ (OpenSpec.ofChange Rows.closingChainsSpec).bare.plain.varTypes Tryz.prog).any (Tryz.prog.mapsRec ·)) = true := by kernel_rfl
theorem closingChains_f14 : (Rows.closingChainsRow.ifaces == (Tryz.f8.params.toList ++ (OpenSpec.ofChange Rows.closingChainsSpec).bare.plain.varTypes Tryz.prog).any (Tryz.prog.ifacesRec ·)) = true := by kernel_rfl
theorem closingChains_f15 : (Rows.closingChainsRow.mapsOut == Tryz.prog.mapsAmong Tryz.f8.resultTypes.toList) = true := by kernel_rfl
theorem closingChains_f16 : (Rows.closingChainsRow.loops == (Tryz.f8.params.toList ++ (OpenSpec.ofChange Rows.closingChainsSpec).bare.plain.varTypes Tryz.prog).any (Tryz.prog.loopsFrom ·)) = true := by kernel_rfl
theorem closingChains_f17 : (Rows.closingChainsRow.wideKeys == (Tryz.f8.params.toList ++ (OpenSpec.ofChange Rows.closingChainsSpec).bare.plain.varTypes Tryz.prog ++ Tryz.f8.resultTypes.toList).any (Tryz.prog.wideKeysFrom ·)) = true := by kernel_rfl
theorem closingChains_f18 : (OpenSpec.ofChange Rows.closingChainsSpec).bare.vars.all (Tryz.prog.varReadable ·) = true := by kernel_rfl
theorem closingChains_f19 : Tryz.f8.resultTypes.all (fun t => Tryz.prog.readableRec t && decide (t < Tryz.prog.types.size)) = true := by kernel_rfl
theorem closingChains_f20 : (Rows.closingChainsRow.ifacesOut == Tryz.f8.resultTypes.toList.any (Tryz.prog.ifacesRec ·)) = true := by kernel_rfl
theorem closingChains_f21 : (Rows.closingChainsRow.loopsOut == Tryz.f8.resultTypes.toList.any (Tryz.prog.loopsFrom ·)) = true := by kernel_rfl
theorem closingChains_f22 : (Rows.closingChainsRow.plainKeys == Tryz.prog.plainKeys) = true := by kernel_rfl
theorem closingChains_f23 : Rows.closingChainsRow.shortTexts.isNone = true := by kernel_rfl
theorem closingChains_f24 : Tryz.prog.stopsHeard = true := by kernel_rfl
theorem closingChains_f25 : Tryz.prog.mayEnter = true := by kernel_rfl
theorem closingChains_f26 : (Rows.closingChainsRow.lifted == Tryz.prog.liftsFinal) = true := by kernel_rfl
theorem closingChains_f27 : (Tryz.prog.make == some Rows.closingChainsRow.make) = true := by kernel_rfl
theorem closingChains_f28 : (Rows.closingChainsRow.kinds == (if Rows.closingChainsRow.domain.isEmpty then [] else Tryz.f8.params.toList.map fun t => match Tryz.prog.underlying t with | some (.int k) => some k | _ => none)) = true := by kernel_rfl
theorem closingChains_f29 : (Rows.closingChainsRow.pinned == Rows.closingChainsRow.pinnedBy) = true := by kernel_rfl
theorem closingChains_f30 : (Rows.closingChainsRow.veiled == (Tryz.f8.params.toList ++ (OpenSpec.ofChange Rows.closingChainsSpec).bare.plain.varTypes Tryz.prog ++ Tryz.f8.resultTypes.toList).any (Tryz.prog.veiledRec ·)) = true := by kernel_rfl
theorem closingChains_f31 : Rows.closingChainsRow.veiledFits Tryz.prog Tryz.f8.params.toList (Tryz.f8.params.toList ++ (OpenSpec.ofChange Rows.closingChainsSpec).bare.plain.varTypes Tryz.prog ++ Tryz.f8.resultTypes.toList) = true := by kernel_rfl
set_option maxRecDepth 100000 in
theorem closingChains_joined : joinedFacts Tryz.prog 8 Tryz.f8 (OpenSpec.ofChange Rows.closingChainsSpec).bare Rows.closingChainsRow = true := Go.Fs.joined_of closingChains_f0 closingChains_f1 closingChains_f2 closingChains_f3 closingChains_f4 closingChains_f5 closingChains_f6 closingChains_f7 closingChains_f8 closingChains_f9 closingChains_f10 closingChains_f11 closingChains_f12 closingChains_f13 closingChains_f14 closingChains_f15 closingChains_f16 closingChains_f17 closingChains_f18 closingChains_f19 closingChains_f20 closingChains_f21 closingChains_f22 closingChains_f23 closingChains_f24 closingChains_f25 closingChains_f26 closingChains_f27 closingChains_f28 closingChains_f29 closingChains_f30 closingChains_f31
end Go.Proofs.YtjmkmalgfanifaaGreatDoor
