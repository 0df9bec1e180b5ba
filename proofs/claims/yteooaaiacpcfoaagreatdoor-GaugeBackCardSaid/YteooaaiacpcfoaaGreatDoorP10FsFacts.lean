/- A row's closed facts, one by one. No condition. -/
import Derived.JoinedOf
set_option linter.all false
namespace Go.Fs
variable {P : Program} {f : FuncId} {fn : Func} {s : ChangeSpec} {c : OpenClaim}
theorem Y5 (a0 : c.wf (OpenSpec.ofChange s) = true)
    (a1 : laidOutB P = true)
    (a2 : mapsRowed P = true)
    (a3 : fn.params.all (P.readableRec ·) = true)
    (a4 : namedTie P c.named s.vars = true)
    (a5 : (c.stops == []) = true)
    (a6 : (P.stops == []) = true)
    (a7 : (c.knobs == []) = true)
    (a8 : (P.stopKnobs == []) = true)
    (a9 : (c.inPlace == P.inPlace f) = true)
    (a10 : (c.unfollowed == P.unfollowed f) = true)
    (a11 : (c.recurses == P.recurses f) = true)
    (a12 : (c.named == P.varsNamed f) = true)
    (a13 : (c.maps == (fn.params.toList ++ s.plain.varTypes P).any (P.mapsRec ·)) = true)
    (a14 : (c.ifaces == (fn.params.toList ++ s.plain.varTypes P).any (P.ifacesRec ·)) = true)
    (a15 : (c.mapsOut == P.mapsAmong fn.resultTypes.toList) = true)
    (a16 : (c.loops == (fn.params.toList ++ s.plain.varTypes P).any (P.loopsFrom ·)) = true)
    (a17 : (c.wideKeys == (fn.params.toList ++ s.plain.varTypes P ++ fn.resultTypes.toList).any (P.wideKeysFrom ·)) = true)
    (a18 : s.vars.all (P.varReadable ·) = true)
    (a19 : fn.resultTypes.all (fun t => P.readableRec t && decide (t < P.types.size)) = true)
    (a20 : (c.ifacesOut == fn.resultTypes.toList.any (P.ifacesRec ·)) = true)
    (a21 : (c.loopsOut == fn.resultTypes.toList.any (P.loopsFrom ·)) = true)
    (a22 : (c.plainKeys == P.plainKeys) = true)
    (a23 : c.shortTexts.isNone = true)
    (a24 : P.stopsHeard = true)
    (a25 : P.mayEnter = true)
    (a26 : (c.lifted == P.liftsFinal) = true)
    (a27 : (P.make == some c.make) = true)
    (a28 : (c.kinds == (if c.domain.isEmpty then [] else fn.params.toList.map fun t => match P.underlying t with | some (.int k) => some k | _ => none)) = true)
    (a29 : (c.pinned == c.pinnedBy) = true)
    (a30 : (c.veiled == (fn.params.toList ++ s.plain.varTypes P ++ fn.resultTypes.toList).any (P.veiledRec ·)) = true)
    (a31 : c.veiledFits P fn.params.toList (fn.params.toList ++ s.plain.varTypes P ++ fn.resultTypes.toList) = true) : joinedFacts P f fn s c = true := by
  simp only [joinedFacts, Bool.and_eq_true]; exact ⟨⟨⟨⟨⟨⟨⟨⟨⟨⟨⟨⟨⟨⟨⟨⟨⟨⟨⟨⟨⟨⟨⟨⟨⟨⟨⟨⟨⟨⟨⟨a0, a1⟩, a2⟩, a3⟩, a4⟩, a5⟩, a6⟩, a7⟩, a8⟩, a9⟩, a10⟩, a11⟩, a12⟩, a13⟩, a14⟩, a15⟩, a16⟩, a17⟩, a18⟩, a19⟩, a20⟩, a21⟩, a22⟩, a23⟩, a24⟩, a25⟩, a26⟩, a27⟩, a28⟩, a29⟩, a30⟩, a31⟩
end Go.Fs
