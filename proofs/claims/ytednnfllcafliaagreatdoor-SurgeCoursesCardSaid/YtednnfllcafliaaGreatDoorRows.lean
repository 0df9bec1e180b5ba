/-
  NARROWER THAN 'FOR EVERY INPUT', by the rows' own cells (each row's printed sentence says how): SurgeTransfers: laid · SurgeNights: laid · SurgeShares: laid · SurgeEnclosures: laid · SurgeLearned: laid · SurgeLikely: laid · SurgeFields: laid · SurgePlaces: laid · SurgeSmooth: laid · SurgeCourses: laid · SurgeRuns: laid · SurgeStores: laid · SurgeMerged: laid.
  DERIVED. THE GIVEN ROWS OF THIS SEAT. 13 by the template 'for every input the law returns true; each argument reads behind the call as it read before'; 0 by the template 'total and deterministic' (their statements: YtednnfllcafliaaGreatDoorTotals.lean).
  GIVEN WITH THE SEED: the statements are not yours to turn. If you find one false, say at which input.
  Laid BY PROGRAM, IN A SANDBOX (cutbox-rows.mjs): the forced cells as the released guide's own fill.sh prints them over the translation 0b2b06db9acdd351… (all of the seat's roots in one cut). By AI agents, Wed Nov 11 2026. No macro, syntax, notation, axiom, sorry.
-/
import Derived.Test.YtednnfllcafliaaGreatDoorChecked
import GoSem.Claim
import GoSem.ClaimJoined
import GoSem.ClaimMapViews
import Derived.JoinedTies
import Derived.KernelRfl
namespace Go.Proofs.YtednnfllcafliaaGreatDoor
/- THE CELL 'sum', in the pinned program and in every row, IS THE sha256 OF THE DUMP (.gsa) THAT YtednnfllcafliaaGreatDoorProg.lean LOADS. Nothing in Lean hashes anything: it is a label: what it is worth is what the hold of that sum in a sandbox is worth. -/
noncomputable def Tryz.pinned : Pinned := { name := "ytednnfllcafliaagreatdoor", sum := "0b2b06db9acdd35145a14b06322149f4c834c31861095ac031c1be901ad0d707", checked := Tryz.checked }
namespace Rows
def none {H : Type} : Left H := { results := [], args := [] }

/- WHAT THE LISTED PACKAGE-LEVEL VARIABLES READ AS WHEN THE CALL BEGINS. Each datum BY PROGRAM (the guide's laid-datum.mjs) off the statement by which the dump's own 'gosem.cut.vars' lays the variable. In a bare row this is a premise. The card (YtednnfllcafliaaGreatDoorCards.lean) ties it to the program's text. -/
def laid_math_bits_deBruijn32tab {H : Type} : DataW H := .agg [.lit (.int .u8 0), .lit (.int .u8 1), .lit (.int .u8 28), .lit (.int .u8 2), .lit (.int .u8 29), .lit (.int .u8 14), .lit (.int .u8 24), .lit (.int .u8 3), .lit (.int .u8 30), .lit (.int .u8 22), .lit (.int .u8 20), .lit (.int .u8 15), .lit (.int .u8 25), .lit (.int .u8 17), .lit (.int .u8 4), .lit (.int .u8 8), .lit (.int .u8 31), .lit (.int .u8 27), .lit (.int .u8 13), .lit (.int .u8 23), .lit (.int .u8 21), .lit (.int .u8 19), .lit (.int .u8 16), .lit (.int .u8 7), .lit (.int .u8 26), .lit (.int .u8 12), .lit (.int .u8 18), .lit (.int .u8 6), .lit (.int .u8 11), .lit (.int .u8 5), .lit (.int .u8 10), .lit (.int .u8 9)]
def laid_math_bits_deBruijn64tab {H : Type} : DataW H := .agg [.lit (.int .u8 0), .lit (.int .u8 1), .lit (.int .u8 56), .lit (.int .u8 2), .lit (.int .u8 57), .lit (.int .u8 49), .lit (.int .u8 28), .lit (.int .u8 3), .lit (.int .u8 61), .lit (.int .u8 58), .lit (.int .u8 42), .lit (.int .u8 50), .lit (.int .u8 38), .lit (.int .u8 29), .lit (.int .u8 17), .lit (.int .u8 4), .lit (.int .u8 62), .lit (.int .u8 47), .lit (.int .u8 59), .lit (.int .u8 36), .lit (.int .u8 45), .lit (.int .u8 43), .lit (.int .u8 51), .lit (.int .u8 22), .lit (.int .u8 53), .lit (.int .u8 39), .lit (.int .u8 33), .lit (.int .u8 30), .lit (.int .u8 24), .lit (.int .u8 18), .lit (.int .u8 12), .lit (.int .u8 5), .lit (.int .u8 63), .lit (.int .u8 55), .lit (.int .u8 48), .lit (.int .u8 27), .lit (.int .u8 60), .lit (.int .u8 41), .lit (.int .u8 37), .lit (.int .u8 16), .lit (.int .u8 46), .lit (.int .u8 35), .lit (.int .u8 44), .lit (.int .u8 21), .lit (.int .u8 52), .lit (.int .u8 32), .lit (.int .u8 23), .lit (.int .u8 11), .lit (.int .u8 54), .lit (.int .u8 26), .lit (.int .u8 40), .lit (.int .u8 15), .lit (.int .u8 34), .lit (.int .u8 20), .lit (.int .u8 31), .lit (.int .u8 10), .lit (.int .u8 25), .lit (.int .u8 14), .lit (.int .u8 19), .lit (.int .u8 9), .lit (.int .u8 13), .lit (.int .u8 8), .lit (.int .u8 7), .lit (.int .u8 6)]
def laid_internal_strconv_uint64pow10 {H : Type} : DataW H := .agg [.lit (.int .u64 1), .lit (.int .u64 10), .lit (.int .u64 100), .lit (.int .u64 1000), .lit (.int .u64 10000), .lit (.int .u64 100000), .lit (.int .u64 1000000), .lit (.int .u64 10000000), .lit (.int .u64 100000000), .lit (.int .u64 1000000000), .lit (.int .u64 10000000000), .lit (.int .u64 100000000000), .lit (.int .u64 1000000000000), .lit (.int .u64 10000000000000), .lit (.int .u64 100000000000000), .lit (.int .u64 1000000000000000), .lit (.int .u64 10000000000000000), .lit (.int .u64 100000000000000000), .lit (.int .u64 1000000000000000000), .lit (.int .u64 10000000000000000000)]

/-- 'tidewaylaw03.SurgeTransfers': WHATEVER THE INPUT: true; the input reads as it did. -/
def surgeTransfersSpec : ChangeSpec := { name := "surgeTransfers", fn := fun _ => fun
  | [d1, d2] => { results := [.lit (.bool true)], args := [d1, d2] }
  | _ => none }
def surgeTransfersRow : OpenClaim := { program := "ytednnfllcafliaagreatdoor", sum := "0b2b06db9acdd35145a14b06322149f4c834c31861095ac031c1be901ad0d707", func := "tideway/tidewaylaw03.SurgeTransfers", spec := "surgeTransfers", inPlace := ["internal/abi.NoEscape", "internal/bytealg.MakeNoZero"], unfollowed := true, recurses := true, named := ["internal/strconv.uint64pow10", "math/bits.deBruijn32tab", "math/bits.deBruijn64tab"], plainKeys := false, apart := false, laid := [("math/bits.deBruijn32tab", laid_math_bits_deBruijn32tab), ("math/bits.deBruijn64tab", laid_math_bits_deBruijn64tab), ("internal/strconv.uint64pow10", laid_internal_strconv_uint64pow10)] }
def SurgeTransfersSaid : Prop := surgeTransfersRow.holds Tryz.pinned (OpenSpec.ofChange surgeTransfersSpec)

/-- ITS FALSE NEIGHBOUR: 'it returns false'. Refute it at one input. -/
def surgeTransfersWrong : ChangeSpec := { name := "surgeTransfers", fn := fun _ => fun
  | [d1, d2] => { results := [.lit (.bool false)], args := [d1, d2] }
  | _ => none }
def SurgeTransfersWrongFalsely : Prop := surgeTransfersRow.holds Tryz.pinned (OpenSpec.ofChange surgeTransfersWrong)

/-- 'tidewaylaw03.SurgeNights': WHATEVER THE INPUT: true; the input reads as it did. -/
def surgeNightsSpec : ChangeSpec := { name := "surgeNights", fn := fun _ => fun
  | [d1, d2] => { results := [.lit (.bool true)], args := [d1, d2] }
  | _ => none }
def surgeNightsRow : OpenClaim := { program := "ytednnfllcafliaagreatdoor", sum := "0b2b06db9acdd35145a14b06322149f4c834c31861095ac031c1be901ad0d707", func := "tideway/tidewaylaw03.SurgeNights", spec := "surgeNights", inPlace := ["internal/abi.NoEscape", "internal/bytealg.MakeNoZero"], unfollowed := true, recurses := true, named := ["internal/strconv.uint64pow10", "math/bits.deBruijn32tab", "math/bits.deBruijn64tab"], plainKeys := false, apart := false, laid := [("math/bits.deBruijn32tab", laid_math_bits_deBruijn32tab), ("math/bits.deBruijn64tab", laid_math_bits_deBruijn64tab), ("internal/strconv.uint64pow10", laid_internal_strconv_uint64pow10)] }
def SurgeNightsSaid : Prop := surgeNightsRow.holds Tryz.pinned (OpenSpec.ofChange surgeNightsSpec)

/-- ITS FALSE NEIGHBOUR: 'it returns false'. Refute it at one input. -/
def surgeNightsWrong : ChangeSpec := { name := "surgeNights", fn := fun _ => fun
  | [d1, d2] => { results := [.lit (.bool false)], args := [d1, d2] }
  | _ => none }
def SurgeNightsWrongFalsely : Prop := surgeNightsRow.holds Tryz.pinned (OpenSpec.ofChange surgeNightsWrong)

/-- 'tidewaylaw03.SurgeShares': WHATEVER THE INPUT: true; the input reads as it did. -/
def surgeSharesSpec : ChangeSpec := { name := "surgeShares", fn := fun _ => fun
  | [d1, d2] => { results := [.lit (.bool true)], args := [d1, d2] }
  | _ => none }
def surgeSharesRow : OpenClaim := { program := "ytednnfllcafliaagreatdoor", sum := "0b2b06db9acdd35145a14b06322149f4c834c31861095ac031c1be901ad0d707", func := "tideway/tidewaylaw03.SurgeShares", spec := "surgeShares", inPlace := ["internal/abi.NoEscape", "internal/bytealg.MakeNoZero"], unfollowed := true, recurses := true, named := ["internal/strconv.uint64pow10", "math/bits.deBruijn32tab", "math/bits.deBruijn64tab"], plainKeys := false, apart := false, laid := [("math/bits.deBruijn32tab", laid_math_bits_deBruijn32tab), ("math/bits.deBruijn64tab", laid_math_bits_deBruijn64tab), ("internal/strconv.uint64pow10", laid_internal_strconv_uint64pow10)] }
def SurgeSharesSaid : Prop := surgeSharesRow.holds Tryz.pinned (OpenSpec.ofChange surgeSharesSpec)

/-- ITS FALSE NEIGHBOUR: 'it returns false'. Refute it at one input. -/
def surgeSharesWrong : ChangeSpec := { name := "surgeShares", fn := fun _ => fun
  | [d1, d2] => { results := [.lit (.bool false)], args := [d1, d2] }
  | _ => none }
def SurgeSharesWrongFalsely : Prop := surgeSharesRow.holds Tryz.pinned (OpenSpec.ofChange surgeSharesWrong)

/-- 'tidewaylaw03.SurgeEnclosures': WHATEVER THE INPUT: true; the input reads as it did. -/
def surgeEnclosuresSpec : ChangeSpec := { name := "surgeEnclosures", fn := fun _ => fun
  | [d1, d2] => { results := [.lit (.bool true)], args := [d1, d2] }
  | _ => none }
def surgeEnclosuresRow : OpenClaim := { program := "ytednnfllcafliaagreatdoor", sum := "0b2b06db9acdd35145a14b06322149f4c834c31861095ac031c1be901ad0d707", func := "tideway/tidewaylaw03.SurgeEnclosures", spec := "surgeEnclosures", inPlace := ["internal/abi.NoEscape", "internal/bytealg.MakeNoZero"], unfollowed := true, recurses := true, named := ["internal/strconv.uint64pow10", "math/bits.deBruijn32tab", "math/bits.deBruijn64tab"], plainKeys := false, apart := false, laid := [("math/bits.deBruijn32tab", laid_math_bits_deBruijn32tab), ("math/bits.deBruijn64tab", laid_math_bits_deBruijn64tab), ("internal/strconv.uint64pow10", laid_internal_strconv_uint64pow10)] }
def SurgeEnclosuresSaid : Prop := surgeEnclosuresRow.holds Tryz.pinned (OpenSpec.ofChange surgeEnclosuresSpec)

/-- ITS FALSE NEIGHBOUR: 'it returns false'. Refute it at one input. -/
def surgeEnclosuresWrong : ChangeSpec := { name := "surgeEnclosures", fn := fun _ => fun
  | [d1, d2] => { results := [.lit (.bool false)], args := [d1, d2] }
  | _ => none }
def SurgeEnclosuresWrongFalsely : Prop := surgeEnclosuresRow.holds Tryz.pinned (OpenSpec.ofChange surgeEnclosuresWrong)

/-- 'tidewaylaw03.SurgeLearned': WHATEVER THE INPUT: true; the input reads as it did. -/
def surgeLearnedSpec : ChangeSpec := { name := "surgeLearned", fn := fun _ => fun
  | [d1, d2] => { results := [.lit (.bool true)], args := [d1, d2] }
  | _ => none }
def surgeLearnedRow : OpenClaim := { program := "ytednnfllcafliaagreatdoor", sum := "0b2b06db9acdd35145a14b06322149f4c834c31861095ac031c1be901ad0d707", func := "tideway/tidewaylaw03.SurgeLearned", spec := "surgeLearned", inPlace := ["internal/abi.NoEscape", "internal/bytealg.MakeNoZero"], unfollowed := true, recurses := true, named := ["internal/strconv.uint64pow10", "math/bits.deBruijn32tab", "math/bits.deBruijn64tab"], plainKeys := false, apart := false, laid := [("math/bits.deBruijn32tab", laid_math_bits_deBruijn32tab), ("math/bits.deBruijn64tab", laid_math_bits_deBruijn64tab), ("internal/strconv.uint64pow10", laid_internal_strconv_uint64pow10)] }
def SurgeLearnedSaid : Prop := surgeLearnedRow.holds Tryz.pinned (OpenSpec.ofChange surgeLearnedSpec)

/-- ITS FALSE NEIGHBOUR: 'it returns false'. Refute it at one input. -/
def surgeLearnedWrong : ChangeSpec := { name := "surgeLearned", fn := fun _ => fun
  | [d1, d2] => { results := [.lit (.bool false)], args := [d1, d2] }
  | _ => none }
def SurgeLearnedWrongFalsely : Prop := surgeLearnedRow.holds Tryz.pinned (OpenSpec.ofChange surgeLearnedWrong)

/-- 'tidewaylaw03.SurgeLikely': WHATEVER THE INPUT: true; the input reads as it did. -/
def surgeLikelySpec : ChangeSpec := { name := "surgeLikely", fn := fun _ => fun
  | [d1, d2, d3] => { results := [.lit (.bool true)], args := [d1, d2, d3] }
  | _ => none }
def surgeLikelyRow : OpenClaim := { program := "ytednnfllcafliaagreatdoor", sum := "0b2b06db9acdd35145a14b06322149f4c834c31861095ac031c1be901ad0d707", func := "tideway/tidewaylaw03.SurgeLikely", spec := "surgeLikely", inPlace := ["internal/abi.NoEscape", "internal/bytealg.MakeNoZero"], unfollowed := true, recurses := true, named := ["internal/strconv.uint64pow10", "math/bits.deBruijn32tab", "math/bits.deBruijn64tab"], plainKeys := false, apart := false, laid := [("math/bits.deBruijn32tab", laid_math_bits_deBruijn32tab), ("math/bits.deBruijn64tab", laid_math_bits_deBruijn64tab), ("internal/strconv.uint64pow10", laid_internal_strconv_uint64pow10)] }
def SurgeLikelySaid : Prop := surgeLikelyRow.holds Tryz.pinned (OpenSpec.ofChange surgeLikelySpec)

/-- ITS FALSE NEIGHBOUR: 'it returns false'. Refute it at one input. -/
def surgeLikelyWrong : ChangeSpec := { name := "surgeLikely", fn := fun _ => fun
  | [d1, d2, d3] => { results := [.lit (.bool false)], args := [d1, d2, d3] }
  | _ => none }
def SurgeLikelyWrongFalsely : Prop := surgeLikelyRow.holds Tryz.pinned (OpenSpec.ofChange surgeLikelyWrong)

/-- 'tidewaylaw03.SurgeFields': WHATEVER THE INPUT: true; the input reads as it did. -/
def surgeFieldsSpec : ChangeSpec := { name := "surgeFields", fn := fun _ => fun
  | [d1, d2, d3] => { results := [.lit (.bool true)], args := [d1, d2, d3] }
  | _ => none }
def surgeFieldsRow : OpenClaim := { program := "ytednnfllcafliaagreatdoor", sum := "0b2b06db9acdd35145a14b06322149f4c834c31861095ac031c1be901ad0d707", func := "tideway/tidewaylaw03.SurgeFields", spec := "surgeFields", inPlace := ["internal/abi.NoEscape", "internal/bytealg.MakeNoZero", "math.Float64bits", "math.Float64frombits", "math.archFloor", "math.archTrunc"], unfollowed := true, recurses := true, named := ["internal/strconv.uint64pow10", "math/bits.deBruijn32tab", "math/bits.deBruijn64tab"], plainKeys := false, apart := false, laid := [("math/bits.deBruijn32tab", laid_math_bits_deBruijn32tab), ("math/bits.deBruijn64tab", laid_math_bits_deBruijn64tab), ("internal/strconv.uint64pow10", laid_internal_strconv_uint64pow10)] }
def SurgeFieldsSaid : Prop := surgeFieldsRow.holds Tryz.pinned (OpenSpec.ofChange surgeFieldsSpec)

/-- ITS FALSE NEIGHBOUR: 'it returns false'. Refute it at one input. -/
def surgeFieldsWrong : ChangeSpec := { name := "surgeFields", fn := fun _ => fun
  | [d1, d2, d3] => { results := [.lit (.bool false)], args := [d1, d2, d3] }
  | _ => none }
def SurgeFieldsWrongFalsely : Prop := surgeFieldsRow.holds Tryz.pinned (OpenSpec.ofChange surgeFieldsWrong)

/-- 'tidewaylaw03.SurgePlaces': WHATEVER THE INPUT: true; the input reads as it did. -/
def surgePlacesSpec : ChangeSpec := { name := "surgePlaces", fn := fun _ => fun
  | [d1, d2] => { results := [.lit (.bool true)], args := [d1, d2] }
  | _ => none }
def surgePlacesRow : OpenClaim := { program := "ytednnfllcafliaagreatdoor", sum := "0b2b06db9acdd35145a14b06322149f4c834c31861095ac031c1be901ad0d707", func := "tideway/tidewaylaw03.SurgePlaces", spec := "surgePlaces", inPlace := ["internal/abi.NoEscape", "internal/bytealg.MakeNoZero", "math.Float64bits", "math.Float64frombits", "math.archFloor", "math.archTrunc"], unfollowed := true, recurses := true, named := ["internal/strconv.uint64pow10", "math/bits.deBruijn32tab", "math/bits.deBruijn64tab"], plainKeys := false, apart := false, laid := [("math/bits.deBruijn32tab", laid_math_bits_deBruijn32tab), ("math/bits.deBruijn64tab", laid_math_bits_deBruijn64tab), ("internal/strconv.uint64pow10", laid_internal_strconv_uint64pow10)] }
def SurgePlacesSaid : Prop := surgePlacesRow.holds Tryz.pinned (OpenSpec.ofChange surgePlacesSpec)

/-- ITS FALSE NEIGHBOUR: 'it returns false'. Refute it at one input. -/
def surgePlacesWrong : ChangeSpec := { name := "surgePlaces", fn := fun _ => fun
  | [d1, d2] => { results := [.lit (.bool false)], args := [d1, d2] }
  | _ => none }
def SurgePlacesWrongFalsely : Prop := surgePlacesRow.holds Tryz.pinned (OpenSpec.ofChange surgePlacesWrong)

/-- 'tidewaylaw03.SurgeSmooth': WHATEVER THE INPUT: true; the input reads as it did. -/
def surgeSmoothSpec : ChangeSpec := { name := "surgeSmooth", fn := fun _ => fun
  | [d1, d2, d3] => { results := [.lit (.bool true)], args := [d1, d2, d3] }
  | _ => none }
def surgeSmoothRow : OpenClaim := { program := "ytednnfllcafliaagreatdoor", sum := "0b2b06db9acdd35145a14b06322149f4c834c31861095ac031c1be901ad0d707", func := "tideway/tidewaylaw03.SurgeSmooth", spec := "surgeSmooth", inPlace := ["math.Float64bits", "math.Float64frombits", "math.archFloor", "math.archTrunc", "internal/abi.NoEscape", "internal/bytealg.MakeNoZero"], unfollowed := true, recurses := true, named := ["internal/strconv.uint64pow10", "math/bits.deBruijn32tab", "math/bits.deBruijn64tab"], plainKeys := false, apart := false, laid := [("math/bits.deBruijn32tab", laid_math_bits_deBruijn32tab), ("math/bits.deBruijn64tab", laid_math_bits_deBruijn64tab), ("internal/strconv.uint64pow10", laid_internal_strconv_uint64pow10)] }
def SurgeSmoothSaid : Prop := surgeSmoothRow.holds Tryz.pinned (OpenSpec.ofChange surgeSmoothSpec)

/-- ITS FALSE NEIGHBOUR: 'it returns false'. Refute it at one input. -/
def surgeSmoothWrong : ChangeSpec := { name := "surgeSmooth", fn := fun _ => fun
  | [d1, d2, d3] => { results := [.lit (.bool false)], args := [d1, d2, d3] }
  | _ => none }
def SurgeSmoothWrongFalsely : Prop := surgeSmoothRow.holds Tryz.pinned (OpenSpec.ofChange surgeSmoothWrong)

/-- 'tidewaylaw03.SurgeCourses': WHATEVER THE INPUT: true; the input reads as it did. -/
def surgeCoursesSpec : ChangeSpec := { name := "surgeCourses", fn := fun _ => fun
  | [d1, d2, d3] => { results := [.lit (.bool true)], args := [d1, d2, d3] }
  | _ => none }
def surgeCoursesRow : OpenClaim := { program := "ytednnfllcafliaagreatdoor", sum := "0b2b06db9acdd35145a14b06322149f4c834c31861095ac031c1be901ad0d707", func := "tideway/tidewaylaw03.SurgeCourses", spec := "surgeCourses", inPlace := ["internal/abi.NoEscape", "internal/bytealg.MakeNoZero", "math.Float64bits", "math.Float64frombits", "math.archFloor", "math.archTrunc"], unfollowed := true, recurses := true, named := ["internal/strconv.uint64pow10", "math/bits.deBruijn32tab", "math/bits.deBruijn64tab"], plainKeys := false, apart := false, laid := [("math/bits.deBruijn32tab", laid_math_bits_deBruijn32tab), ("math/bits.deBruijn64tab", laid_math_bits_deBruijn64tab), ("internal/strconv.uint64pow10", laid_internal_strconv_uint64pow10)] }
def SurgeCoursesSaid : Prop := surgeCoursesRow.holds Tryz.pinned (OpenSpec.ofChange surgeCoursesSpec)

/-- ITS FALSE NEIGHBOUR: 'it returns false'. Refute it at one input. -/
def surgeCoursesWrong : ChangeSpec := { name := "surgeCourses", fn := fun _ => fun
  | [d1, d2, d3] => { results := [.lit (.bool false)], args := [d1, d2, d3] }
  | _ => none }
def SurgeCoursesWrongFalsely : Prop := surgeCoursesRow.holds Tryz.pinned (OpenSpec.ofChange surgeCoursesWrong)

/-- 'tidewaylaw03.SurgeRuns': WHATEVER THE INPUT: true; the input reads as it did. -/
def surgeRunsSpec : ChangeSpec := { name := "surgeRuns", fn := fun _ => fun
  | [d1, d2, d3] => { results := [.lit (.bool true)], args := [d1, d2, d3] }
  | _ => none }
def surgeRunsRow : OpenClaim := { program := "ytednnfllcafliaagreatdoor", sum := "0b2b06db9acdd35145a14b06322149f4c834c31861095ac031c1be901ad0d707", func := "tideway/tidewaylaw03.SurgeRuns", spec := "surgeRuns", inPlace := ["internal/abi.NoEscape", "internal/bytealg.MakeNoZero", "math.Float64bits", "math.Float64frombits", "math.archFloor", "math.archTrunc"], unfollowed := true, recurses := true, named := ["internal/strconv.uint64pow10", "math/bits.deBruijn32tab", "math/bits.deBruijn64tab"], plainKeys := false, apart := false, laid := [("math/bits.deBruijn32tab", laid_math_bits_deBruijn32tab), ("math/bits.deBruijn64tab", laid_math_bits_deBruijn64tab), ("internal/strconv.uint64pow10", laid_internal_strconv_uint64pow10)] }
def SurgeRunsSaid : Prop := surgeRunsRow.holds Tryz.pinned (OpenSpec.ofChange surgeRunsSpec)

/-- ITS FALSE NEIGHBOUR: 'it returns false'. Refute it at one input. -/
def surgeRunsWrong : ChangeSpec := { name := "surgeRuns", fn := fun _ => fun
  | [d1, d2, d3] => { results := [.lit (.bool false)], args := [d1, d2, d3] }
  | _ => none }
def SurgeRunsWrongFalsely : Prop := surgeRunsRow.holds Tryz.pinned (OpenSpec.ofChange surgeRunsWrong)

/-- 'tidewaylaw03.SurgeStores': WHATEVER THE INPUT: true; the input reads as it did. -/
def surgeStoresSpec : ChangeSpec := { name := "surgeStores", fn := fun _ => fun
  | [d1, d2, d3] => { results := [.lit (.bool true)], args := [d1, d2, d3] }
  | _ => none }
def surgeStoresRow : OpenClaim := { program := "ytednnfllcafliaagreatdoor", sum := "0b2b06db9acdd35145a14b06322149f4c834c31861095ac031c1be901ad0d707", func := "tideway/tidewaylaw03.SurgeStores", spec := "surgeStores", inPlace := ["internal/abi.NoEscape", "internal/bytealg.MakeNoZero", "math.Float64bits", "math.Float64frombits", "math.archFloor", "math.archTrunc"], unfollowed := true, recurses := true, named := ["internal/strconv.uint64pow10", "math/bits.deBruijn32tab", "math/bits.deBruijn64tab"], plainKeys := false, apart := false, laid := [("math/bits.deBruijn32tab", laid_math_bits_deBruijn32tab), ("math/bits.deBruijn64tab", laid_math_bits_deBruijn64tab), ("internal/strconv.uint64pow10", laid_internal_strconv_uint64pow10)] }
def SurgeStoresSaid : Prop := surgeStoresRow.holds Tryz.pinned (OpenSpec.ofChange surgeStoresSpec)

/-- ITS FALSE NEIGHBOUR: 'it returns false'. Refute it at one input. -/
def surgeStoresWrong : ChangeSpec := { name := "surgeStores", fn := fun _ => fun
  | [d1, d2, d3] => { results := [.lit (.bool false)], args := [d1, d2, d3] }
  | _ => none }
def SurgeStoresWrongFalsely : Prop := surgeStoresRow.holds Tryz.pinned (OpenSpec.ofChange surgeStoresWrong)

/-- 'tidewaylaw03.SurgeMerged': WHATEVER THE INPUT: true; the input reads as it did. -/
def surgeMergedSpec : ChangeSpec := { name := "surgeMerged", fn := fun _ => fun
  | [d1, d2, d3] => { results := [.lit (.bool true)], args := [d1, d2, d3] }
  | _ => none }
def surgeMergedRow : OpenClaim := { program := "ytednnfllcafliaagreatdoor", sum := "0b2b06db9acdd35145a14b06322149f4c834c31861095ac031c1be901ad0d707", func := "tideway/tidewaylaw03.SurgeMerged", spec := "surgeMerged", inPlace := ["math.Float64bits", "math.Float64frombits", "math.archFloor", "math.archTrunc", "internal/abi.NoEscape", "internal/bytealg.MakeNoZero"], unfollowed := true, recurses := true, named := ["internal/strconv.uint64pow10", "math/bits.deBruijn32tab", "math/bits.deBruijn64tab"], plainKeys := false, apart := false, laid := [("math/bits.deBruijn32tab", laid_math_bits_deBruijn32tab), ("math/bits.deBruijn64tab", laid_math_bits_deBruijn64tab), ("internal/strconv.uint64pow10", laid_internal_strconv_uint64pow10)] }
def SurgeMergedSaid : Prop := surgeMergedRow.holds Tryz.pinned (OpenSpec.ofChange surgeMergedSpec)

/-- ITS FALSE NEIGHBOUR: 'it returns false'. Refute it at one input. -/
def surgeMergedWrong : ChangeSpec := { name := "surgeMerged", fn := fun _ => fun
  | [d1, d2, d3] => { results := [.lit (.bool false)], args := [d1, d2, d3] }
  | _ => none }
def SurgeMergedWrongFalsely : Prop := surgeMergedRow.holds Tryz.pinned (OpenSpec.ofChange surgeMergedWrong)

/- THE SECOND FORM. 'bulk': how many values and letters a reading holds, each counted each time it is reached (what is shared counts as often as it is met; a slice's spare places count too). A statement '..UptoSaid' is the law's where the arguments, and the package variables that the reading takes, are together of bulk at most 1048576: NARROWER than '..Said'. Prove '..Said' where nothing that the law and all that it calls make is longer than what came in: it says more and counts as full. Else prove '..UptoSaid'. A law counts once. -/
mutual
def uptoBulk {H : Type} : DataW H → Nat
  | .lit (.string bytes) => bytes.length + 1
  | .lit _ => 1
  | .nil => 1
  | .ptr d => uptoBulk d + 1
  | .slice elems spare => uptoBulkAll elems + uptoBulkAll spare + 1
  | .agg parts => uptoBulkAll parts + 1
  | .iface _ d => uptoBulk d + 1
  | .map entries => uptoBulkEntries entries + 1
  | .held _ => 1
def uptoBulkAll {H : Type} : List (DataW H) → Nat
  | [] => 0
  | d :: r => uptoBulk d + uptoBulkAll r
def uptoBulkEntries {H : Type} : List (Lit × DataW H) → Nat
  | [] => 0
  | x :: r => uptoBulkEntry x + uptoBulkEntries r
def uptoBulkEntry {H : Type} : Lit × DataW H → Nat
  | (.string bytes, d) => bytes.length + uptoBulk d + 1
  | (_, d) => uptoBulk d + 1
 end
def uptoSmall : (H : Type) → List (DataW H) → Bool := fun _ ds => decide (uptoBulkAll ds ≤ 1048576)
def OpenSpec.upto (s : _root_.Go.ChangeSpec) : _root_.Go.OpenSpec := { _root_.Go.OpenSpec.ofChange s with cond := some uptoSmall }

/-- 'tidewaylaw03.SurgeTransfers', WHERE WHAT IT READS IS OF BULK AT MOST 1048576: true; the input reads as it did. -/
def surgeTransfersUptoRow : OpenClaim := { program := "ytednnfllcafliaagreatdoor", sum := "0b2b06db9acdd35145a14b06322149f4c834c31861095ac031c1be901ad0d707", func := "tideway/tidewaylaw03.SurgeTransfers", spec := "surgeTransfers", inPlace := ["internal/abi.NoEscape", "internal/bytealg.MakeNoZero"], unfollowed := true, recurses := true, named := ["internal/strconv.uint64pow10", "math/bits.deBruijn32tab", "math/bits.deBruijn64tab"], plainKeys := false, apart := false, laid := [("math/bits.deBruijn32tab", laid_math_bits_deBruijn32tab), ("math/bits.deBruijn64tab", laid_math_bits_deBruijn64tab), ("internal/strconv.uint64pow10", laid_internal_strconv_uint64pow10)], narrowed := true }
def SurgeTransfersUptoSaid : Prop := surgeTransfersUptoRow.holds Tryz.pinned (OpenSpec.upto surgeTransfersSpec)

/-- 'tidewaylaw03.SurgeNights', WHERE WHAT IT READS IS OF BULK AT MOST 1048576: true; the input reads as it did. -/
def surgeNightsUptoRow : OpenClaim := { program := "ytednnfllcafliaagreatdoor", sum := "0b2b06db9acdd35145a14b06322149f4c834c31861095ac031c1be901ad0d707", func := "tideway/tidewaylaw03.SurgeNights", spec := "surgeNights", inPlace := ["internal/abi.NoEscape", "internal/bytealg.MakeNoZero"], unfollowed := true, recurses := true, named := ["internal/strconv.uint64pow10", "math/bits.deBruijn32tab", "math/bits.deBruijn64tab"], plainKeys := false, apart := false, laid := [("math/bits.deBruijn32tab", laid_math_bits_deBruijn32tab), ("math/bits.deBruijn64tab", laid_math_bits_deBruijn64tab), ("internal/strconv.uint64pow10", laid_internal_strconv_uint64pow10)], narrowed := true }
def SurgeNightsUptoSaid : Prop := surgeNightsUptoRow.holds Tryz.pinned (OpenSpec.upto surgeNightsSpec)

/-- 'tidewaylaw03.SurgeShares', WHERE WHAT IT READS IS OF BULK AT MOST 1048576: true; the input reads as it did. -/
def surgeSharesUptoRow : OpenClaim := { program := "ytednnfllcafliaagreatdoor", sum := "0b2b06db9acdd35145a14b06322149f4c834c31861095ac031c1be901ad0d707", func := "tideway/tidewaylaw03.SurgeShares", spec := "surgeShares", inPlace := ["internal/abi.NoEscape", "internal/bytealg.MakeNoZero"], unfollowed := true, recurses := true, named := ["internal/strconv.uint64pow10", "math/bits.deBruijn32tab", "math/bits.deBruijn64tab"], plainKeys := false, apart := false, laid := [("math/bits.deBruijn32tab", laid_math_bits_deBruijn32tab), ("math/bits.deBruijn64tab", laid_math_bits_deBruijn64tab), ("internal/strconv.uint64pow10", laid_internal_strconv_uint64pow10)], narrowed := true }
def SurgeSharesUptoSaid : Prop := surgeSharesUptoRow.holds Tryz.pinned (OpenSpec.upto surgeSharesSpec)

/-- 'tidewaylaw03.SurgeEnclosures', WHERE WHAT IT READS IS OF BULK AT MOST 1048576: true; the input reads as it did. -/
def surgeEnclosuresUptoRow : OpenClaim := { program := "ytednnfllcafliaagreatdoor", sum := "0b2b06db9acdd35145a14b06322149f4c834c31861095ac031c1be901ad0d707", func := "tideway/tidewaylaw03.SurgeEnclosures", spec := "surgeEnclosures", inPlace := ["internal/abi.NoEscape", "internal/bytealg.MakeNoZero"], unfollowed := true, recurses := true, named := ["internal/strconv.uint64pow10", "math/bits.deBruijn32tab", "math/bits.deBruijn64tab"], plainKeys := false, apart := false, laid := [("math/bits.deBruijn32tab", laid_math_bits_deBruijn32tab), ("math/bits.deBruijn64tab", laid_math_bits_deBruijn64tab), ("internal/strconv.uint64pow10", laid_internal_strconv_uint64pow10)], narrowed := true }
def SurgeEnclosuresUptoSaid : Prop := surgeEnclosuresUptoRow.holds Tryz.pinned (OpenSpec.upto surgeEnclosuresSpec)

/-- 'tidewaylaw03.SurgeLearned', WHERE WHAT IT READS IS OF BULK AT MOST 1048576: true; the input reads as it did. -/
def surgeLearnedUptoRow : OpenClaim := { program := "ytednnfllcafliaagreatdoor", sum := "0b2b06db9acdd35145a14b06322149f4c834c31861095ac031c1be901ad0d707", func := "tideway/tidewaylaw03.SurgeLearned", spec := "surgeLearned", inPlace := ["internal/abi.NoEscape", "internal/bytealg.MakeNoZero"], unfollowed := true, recurses := true, named := ["internal/strconv.uint64pow10", "math/bits.deBruijn32tab", "math/bits.deBruijn64tab"], plainKeys := false, apart := false, laid := [("math/bits.deBruijn32tab", laid_math_bits_deBruijn32tab), ("math/bits.deBruijn64tab", laid_math_bits_deBruijn64tab), ("internal/strconv.uint64pow10", laid_internal_strconv_uint64pow10)], narrowed := true }
def SurgeLearnedUptoSaid : Prop := surgeLearnedUptoRow.holds Tryz.pinned (OpenSpec.upto surgeLearnedSpec)

/-- 'tidewaylaw03.SurgeLikely', WHERE WHAT IT READS IS OF BULK AT MOST 1048576: true; the input reads as it did. -/
def surgeLikelyUptoRow : OpenClaim := { program := "ytednnfllcafliaagreatdoor", sum := "0b2b06db9acdd35145a14b06322149f4c834c31861095ac031c1be901ad0d707", func := "tideway/tidewaylaw03.SurgeLikely", spec := "surgeLikely", inPlace := ["internal/abi.NoEscape", "internal/bytealg.MakeNoZero"], unfollowed := true, recurses := true, named := ["internal/strconv.uint64pow10", "math/bits.deBruijn32tab", "math/bits.deBruijn64tab"], plainKeys := false, apart := false, laid := [("math/bits.deBruijn32tab", laid_math_bits_deBruijn32tab), ("math/bits.deBruijn64tab", laid_math_bits_deBruijn64tab), ("internal/strconv.uint64pow10", laid_internal_strconv_uint64pow10)], narrowed := true }
def SurgeLikelyUptoSaid : Prop := surgeLikelyUptoRow.holds Tryz.pinned (OpenSpec.upto surgeLikelySpec)

/-- 'tidewaylaw03.SurgeFields', WHERE WHAT IT READS IS OF BULK AT MOST 1048576: true; the input reads as it did. -/
def surgeFieldsUptoRow : OpenClaim := { program := "ytednnfllcafliaagreatdoor", sum := "0b2b06db9acdd35145a14b06322149f4c834c31861095ac031c1be901ad0d707", func := "tideway/tidewaylaw03.SurgeFields", spec := "surgeFields", inPlace := ["internal/abi.NoEscape", "internal/bytealg.MakeNoZero", "math.Float64bits", "math.Float64frombits", "math.archFloor", "math.archTrunc"], unfollowed := true, recurses := true, named := ["internal/strconv.uint64pow10", "math/bits.deBruijn32tab", "math/bits.deBruijn64tab"], plainKeys := false, apart := false, laid := [("math/bits.deBruijn32tab", laid_math_bits_deBruijn32tab), ("math/bits.deBruijn64tab", laid_math_bits_deBruijn64tab), ("internal/strconv.uint64pow10", laid_internal_strconv_uint64pow10)], narrowed := true }
def SurgeFieldsUptoSaid : Prop := surgeFieldsUptoRow.holds Tryz.pinned (OpenSpec.upto surgeFieldsSpec)

/-- 'tidewaylaw03.SurgePlaces', WHERE WHAT IT READS IS OF BULK AT MOST 1048576: true; the input reads as it did. -/
def surgePlacesUptoRow : OpenClaim := { program := "ytednnfllcafliaagreatdoor", sum := "0b2b06db9acdd35145a14b06322149f4c834c31861095ac031c1be901ad0d707", func := "tideway/tidewaylaw03.SurgePlaces", spec := "surgePlaces", inPlace := ["internal/abi.NoEscape", "internal/bytealg.MakeNoZero", "math.Float64bits", "math.Float64frombits", "math.archFloor", "math.archTrunc"], unfollowed := true, recurses := true, named := ["internal/strconv.uint64pow10", "math/bits.deBruijn32tab", "math/bits.deBruijn64tab"], plainKeys := false, apart := false, laid := [("math/bits.deBruijn32tab", laid_math_bits_deBruijn32tab), ("math/bits.deBruijn64tab", laid_math_bits_deBruijn64tab), ("internal/strconv.uint64pow10", laid_internal_strconv_uint64pow10)], narrowed := true }
def SurgePlacesUptoSaid : Prop := surgePlacesUptoRow.holds Tryz.pinned (OpenSpec.upto surgePlacesSpec)

/-- 'tidewaylaw03.SurgeSmooth', WHERE WHAT IT READS IS OF BULK AT MOST 1048576: true; the input reads as it did. -/
def surgeSmoothUptoRow : OpenClaim := { program := "ytednnfllcafliaagreatdoor", sum := "0b2b06db9acdd35145a14b06322149f4c834c31861095ac031c1be901ad0d707", func := "tideway/tidewaylaw03.SurgeSmooth", spec := "surgeSmooth", inPlace := ["math.Float64bits", "math.Float64frombits", "math.archFloor", "math.archTrunc", "internal/abi.NoEscape", "internal/bytealg.MakeNoZero"], unfollowed := true, recurses := true, named := ["internal/strconv.uint64pow10", "math/bits.deBruijn32tab", "math/bits.deBruijn64tab"], plainKeys := false, apart := false, laid := [("math/bits.deBruijn32tab", laid_math_bits_deBruijn32tab), ("math/bits.deBruijn64tab", laid_math_bits_deBruijn64tab), ("internal/strconv.uint64pow10", laid_internal_strconv_uint64pow10)], narrowed := true }
def SurgeSmoothUptoSaid : Prop := surgeSmoothUptoRow.holds Tryz.pinned (OpenSpec.upto surgeSmoothSpec)

/-- 'tidewaylaw03.SurgeCourses', WHERE WHAT IT READS IS OF BULK AT MOST 1048576: true; the input reads as it did. -/
def surgeCoursesUptoRow : OpenClaim := { program := "ytednnfllcafliaagreatdoor", sum := "0b2b06db9acdd35145a14b06322149f4c834c31861095ac031c1be901ad0d707", func := "tideway/tidewaylaw03.SurgeCourses", spec := "surgeCourses", inPlace := ["internal/abi.NoEscape", "internal/bytealg.MakeNoZero", "math.Float64bits", "math.Float64frombits", "math.archFloor", "math.archTrunc"], unfollowed := true, recurses := true, named := ["internal/strconv.uint64pow10", "math/bits.deBruijn32tab", "math/bits.deBruijn64tab"], plainKeys := false, apart := false, laid := [("math/bits.deBruijn32tab", laid_math_bits_deBruijn32tab), ("math/bits.deBruijn64tab", laid_math_bits_deBruijn64tab), ("internal/strconv.uint64pow10", laid_internal_strconv_uint64pow10)], narrowed := true }
def SurgeCoursesUptoSaid : Prop := surgeCoursesUptoRow.holds Tryz.pinned (OpenSpec.upto surgeCoursesSpec)

/-- 'tidewaylaw03.SurgeRuns', WHERE WHAT IT READS IS OF BULK AT MOST 1048576: true; the input reads as it did. -/
def surgeRunsUptoRow : OpenClaim := { program := "ytednnfllcafliaagreatdoor", sum := "0b2b06db9acdd35145a14b06322149f4c834c31861095ac031c1be901ad0d707", func := "tideway/tidewaylaw03.SurgeRuns", spec := "surgeRuns", inPlace := ["internal/abi.NoEscape", "internal/bytealg.MakeNoZero", "math.Float64bits", "math.Float64frombits", "math.archFloor", "math.archTrunc"], unfollowed := true, recurses := true, named := ["internal/strconv.uint64pow10", "math/bits.deBruijn32tab", "math/bits.deBruijn64tab"], plainKeys := false, apart := false, laid := [("math/bits.deBruijn32tab", laid_math_bits_deBruijn32tab), ("math/bits.deBruijn64tab", laid_math_bits_deBruijn64tab), ("internal/strconv.uint64pow10", laid_internal_strconv_uint64pow10)], narrowed := true }
def SurgeRunsUptoSaid : Prop := surgeRunsUptoRow.holds Tryz.pinned (OpenSpec.upto surgeRunsSpec)

/-- 'tidewaylaw03.SurgeStores', WHERE WHAT IT READS IS OF BULK AT MOST 1048576: true; the input reads as it did. -/
def surgeStoresUptoRow : OpenClaim := { program := "ytednnfllcafliaagreatdoor", sum := "0b2b06db9acdd35145a14b06322149f4c834c31861095ac031c1be901ad0d707", func := "tideway/tidewaylaw03.SurgeStores", spec := "surgeStores", inPlace := ["internal/abi.NoEscape", "internal/bytealg.MakeNoZero", "math.Float64bits", "math.Float64frombits", "math.archFloor", "math.archTrunc"], unfollowed := true, recurses := true, named := ["internal/strconv.uint64pow10", "math/bits.deBruijn32tab", "math/bits.deBruijn64tab"], plainKeys := false, apart := false, laid := [("math/bits.deBruijn32tab", laid_math_bits_deBruijn32tab), ("math/bits.deBruijn64tab", laid_math_bits_deBruijn64tab), ("internal/strconv.uint64pow10", laid_internal_strconv_uint64pow10)], narrowed := true }
def SurgeStoresUptoSaid : Prop := surgeStoresUptoRow.holds Tryz.pinned (OpenSpec.upto surgeStoresSpec)

/-- 'tidewaylaw03.SurgeMerged', WHERE WHAT IT READS IS OF BULK AT MOST 1048576: true; the input reads as it did. -/
def surgeMergedUptoRow : OpenClaim := { program := "ytednnfllcafliaagreatdoor", sum := "0b2b06db9acdd35145a14b06322149f4c834c31861095ac031c1be901ad0d707", func := "tideway/tidewaylaw03.SurgeMerged", spec := "surgeMerged", inPlace := ["math.Float64bits", "math.Float64frombits", "math.archFloor", "math.archTrunc", "internal/abi.NoEscape", "internal/bytealg.MakeNoZero"], unfollowed := true, recurses := true, named := ["internal/strconv.uint64pow10", "math/bits.deBruijn32tab", "math/bits.deBruijn64tab"], plainKeys := false, apart := false, laid := [("math/bits.deBruijn32tab", laid_math_bits_deBruijn32tab), ("math/bits.deBruijn64tab", laid_math_bits_deBruijn64tab), ("internal/strconv.uint64pow10", laid_internal_strconv_uint64pow10)], narrowed := true }
def SurgeMergedUptoSaid : Prop := surgeMergedUptoRow.holds Tryz.pinned (OpenSpec.upto surgeMergedSpec)

end Rows
end Go.Proofs.YtednnfllcafliaaGreatDoor
