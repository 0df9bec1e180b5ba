/-
  NARROWER THAN 'FOR EVERY INPUT', by the rows' own cells (each row's printed sentence says how): GaugeSpans: laid · GaugeSets: laid · GaugeBasics: laid · GaugeChecks: laid · GaugeCleans: laid · GaugeVotes: laid · GaugeWaters: laid · GaugeKeeps: laid · GaugeMiddle: laid · GaugeAppends: laid · GaugeFollows: laid · GaugeStreams: laid.
  DERIVED. THE GIVEN ROWS OF THIS SEAT. 12 by the template 'for every input the law returns true; each argument reads behind the call as it read before'; 0 by the template 'total and deterministic' (their statements: YthiofhkndpegjaaGreatDoorTotals.lean).
  GIVEN WITH THE SEED: the statements are not yours to turn. If you find one false, say at which input.
  Laid BY PROGRAM, IN A SANDBOX (cutbox-rows.mjs): the forced cells as the released guide's own fill.sh prints them over the translation 3f4e68bee9b9a28b… (all of the seat's roots in one cut). By AI agents, Wed Nov 11 2026. No macro, syntax, notation, axiom, sorry.
-/
import Derived.Test.YthiofhkndpegjaaGreatDoorChecked
import GoSem.Claim
import GoSem.ClaimJoined
import GoSem.ClaimMapViews
import Derived.JoinedTies
import Derived.KernelRfl
namespace Go.Proofs.YthiofhkndpegjaaGreatDoor
/- THE CELL 'sum', in the pinned program and in every row, IS THE sha256 OF THE DUMP (.gsa) THAT YthiofhkndpegjaaGreatDoorProg.lean LOADS. Nothing in Lean hashes anything: it is a label: what it is worth is what the hold of that sum in a sandbox is worth. -/
noncomputable def Tryz.pinned : Pinned := { name := "ythiofhkndpegjaagreatdoor", sum := "3f4e68bee9b9a28b6fc298d4cc2ff0edd42f23b72799108bf451a5b40a6bd58f", checked := Tryz.checked }
namespace Rows
def none {H : Type} : Left H := { results := [], args := [] }

/- WHAT THE LISTED PACKAGE-LEVEL VARIABLES READ AS WHEN THE CALL BEGINS. Each datum BY PROGRAM (the guide's laid-datum.mjs) off the statement by which the dump's own 'gosem.cut.vars' lays the variable. In a bare row this is a premise. The card (YthiofhkndpegjaaGreatDoorCards.lean) ties it to the program's text. -/
def laid_math_bits_deBruijn32tab {H : Type} : DataW H := .agg [.lit (.int .u8 0), .lit (.int .u8 1), .lit (.int .u8 28), .lit (.int .u8 2), .lit (.int .u8 29), .lit (.int .u8 14), .lit (.int .u8 24), .lit (.int .u8 3), .lit (.int .u8 30), .lit (.int .u8 22), .lit (.int .u8 20), .lit (.int .u8 15), .lit (.int .u8 25), .lit (.int .u8 17), .lit (.int .u8 4), .lit (.int .u8 8), .lit (.int .u8 31), .lit (.int .u8 27), .lit (.int .u8 13), .lit (.int .u8 23), .lit (.int .u8 21), .lit (.int .u8 19), .lit (.int .u8 16), .lit (.int .u8 7), .lit (.int .u8 26), .lit (.int .u8 12), .lit (.int .u8 18), .lit (.int .u8 6), .lit (.int .u8 11), .lit (.int .u8 5), .lit (.int .u8 10), .lit (.int .u8 9)]
def laid_math_bits_deBruijn64tab {H : Type} : DataW H := .agg [.lit (.int .u8 0), .lit (.int .u8 1), .lit (.int .u8 56), .lit (.int .u8 2), .lit (.int .u8 57), .lit (.int .u8 49), .lit (.int .u8 28), .lit (.int .u8 3), .lit (.int .u8 61), .lit (.int .u8 58), .lit (.int .u8 42), .lit (.int .u8 50), .lit (.int .u8 38), .lit (.int .u8 29), .lit (.int .u8 17), .lit (.int .u8 4), .lit (.int .u8 62), .lit (.int .u8 47), .lit (.int .u8 59), .lit (.int .u8 36), .lit (.int .u8 45), .lit (.int .u8 43), .lit (.int .u8 51), .lit (.int .u8 22), .lit (.int .u8 53), .lit (.int .u8 39), .lit (.int .u8 33), .lit (.int .u8 30), .lit (.int .u8 24), .lit (.int .u8 18), .lit (.int .u8 12), .lit (.int .u8 5), .lit (.int .u8 63), .lit (.int .u8 55), .lit (.int .u8 48), .lit (.int .u8 27), .lit (.int .u8 60), .lit (.int .u8 41), .lit (.int .u8 37), .lit (.int .u8 16), .lit (.int .u8 46), .lit (.int .u8 35), .lit (.int .u8 44), .lit (.int .u8 21), .lit (.int .u8 52), .lit (.int .u8 32), .lit (.int .u8 23), .lit (.int .u8 11), .lit (.int .u8 54), .lit (.int .u8 26), .lit (.int .u8 40), .lit (.int .u8 15), .lit (.int .u8 34), .lit (.int .u8 20), .lit (.int .u8 31), .lit (.int .u8 10), .lit (.int .u8 25), .lit (.int .u8 14), .lit (.int .u8 19), .lit (.int .u8 9), .lit (.int .u8 13), .lit (.int .u8 8), .lit (.int .u8 7), .lit (.int .u8 6)]
def laid_internal_strconv_uint64pow10 {H : Type} : DataW H := .agg [.lit (.int .u64 1), .lit (.int .u64 10), .lit (.int .u64 100), .lit (.int .u64 1000), .lit (.int .u64 10000), .lit (.int .u64 100000), .lit (.int .u64 1000000), .lit (.int .u64 10000000), .lit (.int .u64 100000000), .lit (.int .u64 1000000000), .lit (.int .u64 10000000000), .lit (.int .u64 100000000000), .lit (.int .u64 1000000000000), .lit (.int .u64 10000000000000), .lit (.int .u64 100000000000000), .lit (.int .u64 1000000000000000), .lit (.int .u64 10000000000000000), .lit (.int .u64 100000000000000000), .lit (.int .u64 1000000000000000000), .lit (.int .u64 10000000000000000000)]

/-- 'tidewaylaw01.GaugeSpans': WHATEVER THE INPUT: true; the input reads as it did. -/
def gaugeSpansSpec : ChangeSpec := { name := "gaugeSpans", fn := fun _ => fun
  | [d1, d2] => { results := [.lit (.bool true)], args := [d1, d2] }
  | _ => none }
def gaugeSpansRow : OpenClaim := { program := "ythiofhkndpegjaagreatdoor", sum := "3f4e68bee9b9a28b6fc298d4cc2ff0edd42f23b72799108bf451a5b40a6bd58f", func := "tideway/tidewaylaw01.GaugeSpans", spec := "gaugeSpans", inPlace := ["internal/abi.NoEscape", "math.Float32bits"], unfollowed := true, recurses := true, named := ["internal/strconv.uint64pow10", "math/bits.deBruijn32tab", "math/bits.deBruijn64tab"], apart := false, laid := [("math/bits.deBruijn32tab", laid_math_bits_deBruijn32tab), ("math/bits.deBruijn64tab", laid_math_bits_deBruijn64tab), ("internal/strconv.uint64pow10", laid_internal_strconv_uint64pow10)] }
def GaugeSpansSaid : Prop := gaugeSpansRow.holds Tryz.pinned (OpenSpec.ofChange gaugeSpansSpec)

/-- ITS FALSE NEIGHBOUR: 'it returns false'. Refute it at one input. -/
def gaugeSpansWrong : ChangeSpec := { name := "gaugeSpans", fn := fun _ => fun
  | [d1, d2] => { results := [.lit (.bool false)], args := [d1, d2] }
  | _ => none }
def GaugeSpansWrongFalsely : Prop := gaugeSpansRow.holds Tryz.pinned (OpenSpec.ofChange gaugeSpansWrong)

/-- 'tidewaylaw01.GaugeSets': WHATEVER THE INPUT: true; the input reads as it did. -/
def gaugeSetsSpec : ChangeSpec := { name := "gaugeSets", fn := fun _ => fun
  | [d1, d2, d3] => { results := [.lit (.bool true)], args := [d1, d2, d3] }
  | _ => none }
def gaugeSetsRow : OpenClaim := { program := "ythiofhkndpegjaagreatdoor", sum := "3f4e68bee9b9a28b6fc298d4cc2ff0edd42f23b72799108bf451a5b40a6bd58f", func := "tideway/tidewaylaw01.GaugeSets", spec := "gaugeSets", inPlace := ["internal/abi.NoEscape", "math.Float32bits"], unfollowed := true, recurses := true, named := ["internal/strconv.uint64pow10", "math/bits.deBruijn32tab", "math/bits.deBruijn64tab"], apart := false, laid := [("math/bits.deBruijn32tab", laid_math_bits_deBruijn32tab), ("math/bits.deBruijn64tab", laid_math_bits_deBruijn64tab), ("internal/strconv.uint64pow10", laid_internal_strconv_uint64pow10)] }
def GaugeSetsSaid : Prop := gaugeSetsRow.holds Tryz.pinned (OpenSpec.ofChange gaugeSetsSpec)

/-- ITS FALSE NEIGHBOUR: 'it returns false'. Refute it at one input. -/
def gaugeSetsWrong : ChangeSpec := { name := "gaugeSets", fn := fun _ => fun
  | [d1, d2, d3] => { results := [.lit (.bool false)], args := [d1, d2, d3] }
  | _ => none }
def GaugeSetsWrongFalsely : Prop := gaugeSetsRow.holds Tryz.pinned (OpenSpec.ofChange gaugeSetsWrong)

/-- 'tidewaylaw01.GaugeBasics': WHATEVER THE INPUT: true; the input reads as it did. -/
def gaugeBasicsSpec : ChangeSpec := { name := "gaugeBasics", fn := fun _ => fun
  | [d1, d2, d3] => { results := [.lit (.bool true)], args := [d1, d2, d3] }
  | _ => none }
def gaugeBasicsRow : OpenClaim := { program := "ythiofhkndpegjaagreatdoor", sum := "3f4e68bee9b9a28b6fc298d4cc2ff0edd42f23b72799108bf451a5b40a6bd58f", func := "tideway/tidewaylaw01.GaugeBasics", spec := "gaugeBasics", inPlace := ["internal/abi.NoEscape", "math.Float32bits"], unfollowed := true, recurses := true, named := ["internal/strconv.uint64pow10", "math/bits.deBruijn32tab", "math/bits.deBruijn64tab"], apart := false, laid := [("math/bits.deBruijn32tab", laid_math_bits_deBruijn32tab), ("math/bits.deBruijn64tab", laid_math_bits_deBruijn64tab), ("internal/strconv.uint64pow10", laid_internal_strconv_uint64pow10)] }
def GaugeBasicsSaid : Prop := gaugeBasicsRow.holds Tryz.pinned (OpenSpec.ofChange gaugeBasicsSpec)

/-- ITS FALSE NEIGHBOUR: 'it returns false'. Refute it at one input. -/
def gaugeBasicsWrong : ChangeSpec := { name := "gaugeBasics", fn := fun _ => fun
  | [d1, d2, d3] => { results := [.lit (.bool false)], args := [d1, d2, d3] }
  | _ => none }
def GaugeBasicsWrongFalsely : Prop := gaugeBasicsRow.holds Tryz.pinned (OpenSpec.ofChange gaugeBasicsWrong)

/-- 'tidewaylaw01.GaugeChecks': WHATEVER THE INPUT: true; the input reads as it did. -/
def gaugeChecksSpec : ChangeSpec := { name := "gaugeChecks", fn := fun _ => fun
  | [d1, d2, d3] => { results := [.lit (.bool true)], args := [d1, d2, d3] }
  | _ => none }
def gaugeChecksRow : OpenClaim := { program := "ythiofhkndpegjaagreatdoor", sum := "3f4e68bee9b9a28b6fc298d4cc2ff0edd42f23b72799108bf451a5b40a6bd58f", func := "tideway/tidewaylaw01.GaugeChecks", spec := "gaugeChecks", inPlace := ["internal/abi.NoEscape", "math.Float32bits", "math.Float64bits", "math.Float64frombits", "math.archFloor", "math.archTrunc"], unfollowed := true, recurses := true, named := ["internal/strconv.uint64pow10", "math/bits.deBruijn32tab", "math/bits.deBruijn64tab"], apart := false, laid := [("math/bits.deBruijn32tab", laid_math_bits_deBruijn32tab), ("math/bits.deBruijn64tab", laid_math_bits_deBruijn64tab), ("internal/strconv.uint64pow10", laid_internal_strconv_uint64pow10)] }
def GaugeChecksSaid : Prop := gaugeChecksRow.holds Tryz.pinned (OpenSpec.ofChange gaugeChecksSpec)

/-- ITS FALSE NEIGHBOUR: 'it returns false'. Refute it at one input. -/
def gaugeChecksWrong : ChangeSpec := { name := "gaugeChecks", fn := fun _ => fun
  | [d1, d2, d3] => { results := [.lit (.bool false)], args := [d1, d2, d3] }
  | _ => none }
def GaugeChecksWrongFalsely : Prop := gaugeChecksRow.holds Tryz.pinned (OpenSpec.ofChange gaugeChecksWrong)

/-- 'tidewaylaw01.GaugeCleans': WHATEVER THE INPUT: true; the input reads as it did. -/
def gaugeCleansSpec : ChangeSpec := { name := "gaugeCleans", fn := fun _ => fun
  | [d1, d2, d3] => { results := [.lit (.bool true)], args := [d1, d2, d3] }
  | _ => none }
def gaugeCleansRow : OpenClaim := { program := "ythiofhkndpegjaagreatdoor", sum := "3f4e68bee9b9a28b6fc298d4cc2ff0edd42f23b72799108bf451a5b40a6bd58f", func := "tideway/tidewaylaw01.GaugeCleans", spec := "gaugeCleans", inPlace := ["internal/abi.NoEscape", "math.Float32bits", "math.Float64bits", "math.Float64frombits", "math.archFloor", "math.archTrunc"], unfollowed := true, recurses := true, named := ["internal/strconv.uint64pow10", "math/bits.deBruijn32tab", "math/bits.deBruijn64tab"], apart := false, laid := [("math/bits.deBruijn32tab", laid_math_bits_deBruijn32tab), ("math/bits.deBruijn64tab", laid_math_bits_deBruijn64tab), ("internal/strconv.uint64pow10", laid_internal_strconv_uint64pow10)] }
def GaugeCleansSaid : Prop := gaugeCleansRow.holds Tryz.pinned (OpenSpec.ofChange gaugeCleansSpec)

/-- ITS FALSE NEIGHBOUR: 'it returns false'. Refute it at one input. -/
def gaugeCleansWrong : ChangeSpec := { name := "gaugeCleans", fn := fun _ => fun
  | [d1, d2, d3] => { results := [.lit (.bool false)], args := [d1, d2, d3] }
  | _ => none }
def GaugeCleansWrongFalsely : Prop := gaugeCleansRow.holds Tryz.pinned (OpenSpec.ofChange gaugeCleansWrong)

/-- 'tidewaylaw01.GaugeVotes': WHATEVER THE INPUT: true; the input reads as it did. -/
def gaugeVotesSpec : ChangeSpec := { name := "gaugeVotes", fn := fun _ => fun
  | [d1, d2] => { results := [.lit (.bool true)], args := [d1, d2] }
  | _ => none }
def gaugeVotesRow : OpenClaim := { program := "ythiofhkndpegjaagreatdoor", sum := "3f4e68bee9b9a28b6fc298d4cc2ff0edd42f23b72799108bf451a5b40a6bd58f", func := "tideway/tidewaylaw01.GaugeVotes", spec := "gaugeVotes", inPlace := ["internal/abi.NoEscape", "math.Float32bits", "math.Float64bits", "math.Float64frombits", "math.archFloor", "math.archTrunc"], unfollowed := true, recurses := true, named := ["internal/strconv.uint64pow10", "math/bits.deBruijn32tab", "math/bits.deBruijn64tab"], apart := false, laid := [("math/bits.deBruijn32tab", laid_math_bits_deBruijn32tab), ("math/bits.deBruijn64tab", laid_math_bits_deBruijn64tab), ("internal/strconv.uint64pow10", laid_internal_strconv_uint64pow10)] }
def GaugeVotesSaid : Prop := gaugeVotesRow.holds Tryz.pinned (OpenSpec.ofChange gaugeVotesSpec)

/-- ITS FALSE NEIGHBOUR: 'it returns false'. Refute it at one input. -/
def gaugeVotesWrong : ChangeSpec := { name := "gaugeVotes", fn := fun _ => fun
  | [d1, d2] => { results := [.lit (.bool false)], args := [d1, d2] }
  | _ => none }
def GaugeVotesWrongFalsely : Prop := gaugeVotesRow.holds Tryz.pinned (OpenSpec.ofChange gaugeVotesWrong)

/-- 'tidewaylaw01.GaugeWaters': WHATEVER THE INPUT: true; the input reads as it did. -/
def gaugeWatersSpec : ChangeSpec := { name := "gaugeWaters", fn := fun _ => fun
  | [d1, d2, d3] => { results := [.lit (.bool true)], args := [d1, d2, d3] }
  | _ => none }
def gaugeWatersRow : OpenClaim := { program := "ythiofhkndpegjaagreatdoor", sum := "3f4e68bee9b9a28b6fc298d4cc2ff0edd42f23b72799108bf451a5b40a6bd58f", func := "tideway/tidewaylaw01.GaugeWaters", spec := "gaugeWaters", inPlace := ["internal/abi.NoEscape", "math.Float32bits", "math.Float64bits", "math.Float64frombits", "math.archFloor", "math.archTrunc"], unfollowed := true, recurses := true, named := ["internal/strconv.uint64pow10", "math/bits.deBruijn32tab", "math/bits.deBruijn64tab"], apart := false, laid := [("math/bits.deBruijn32tab", laid_math_bits_deBruijn32tab), ("math/bits.deBruijn64tab", laid_math_bits_deBruijn64tab), ("internal/strconv.uint64pow10", laid_internal_strconv_uint64pow10)] }
def GaugeWatersSaid : Prop := gaugeWatersRow.holds Tryz.pinned (OpenSpec.ofChange gaugeWatersSpec)

/-- ITS FALSE NEIGHBOUR: 'it returns false'. Refute it at one input. -/
def gaugeWatersWrong : ChangeSpec := { name := "gaugeWaters", fn := fun _ => fun
  | [d1, d2, d3] => { results := [.lit (.bool false)], args := [d1, d2, d3] }
  | _ => none }
def GaugeWatersWrongFalsely : Prop := gaugeWatersRow.holds Tryz.pinned (OpenSpec.ofChange gaugeWatersWrong)

/-- 'tidewaylaw01.GaugeKeeps': WHATEVER THE INPUT: true; the input reads as it did. -/
def gaugeKeepsSpec : ChangeSpec := { name := "gaugeKeeps", fn := fun _ => fun
  | [d1, d2] => { results := [.lit (.bool true)], args := [d1, d2] }
  | _ => none }
def gaugeKeepsRow : OpenClaim := { program := "ythiofhkndpegjaagreatdoor", sum := "3f4e68bee9b9a28b6fc298d4cc2ff0edd42f23b72799108bf451a5b40a6bd58f", func := "tideway/tidewaylaw01.GaugeKeeps", spec := "gaugeKeeps", inPlace := ["internal/abi.NoEscape", "math.Float32bits", "math.Float64bits", "math.Float64frombits", "math.archFloor", "math.archTrunc"], unfollowed := true, recurses := true, named := ["internal/strconv.uint64pow10", "math/bits.deBruijn32tab", "math/bits.deBruijn64tab"], apart := false, laid := [("math/bits.deBruijn32tab", laid_math_bits_deBruijn32tab), ("math/bits.deBruijn64tab", laid_math_bits_deBruijn64tab), ("internal/strconv.uint64pow10", laid_internal_strconv_uint64pow10)] }
def GaugeKeepsSaid : Prop := gaugeKeepsRow.holds Tryz.pinned (OpenSpec.ofChange gaugeKeepsSpec)

/-- ITS FALSE NEIGHBOUR: 'it returns false'. Refute it at one input. -/
def gaugeKeepsWrong : ChangeSpec := { name := "gaugeKeeps", fn := fun _ => fun
  | [d1, d2] => { results := [.lit (.bool false)], args := [d1, d2] }
  | _ => none }
def GaugeKeepsWrongFalsely : Prop := gaugeKeepsRow.holds Tryz.pinned (OpenSpec.ofChange gaugeKeepsWrong)

/-- 'tidewaylaw01.GaugeMiddle': WHATEVER THE INPUT: true; the input reads as it did. -/
def gaugeMiddleSpec : ChangeSpec := { name := "gaugeMiddle", fn := fun _ => fun
  | [d1, d2] => { results := [.lit (.bool true)], args := [d1, d2] }
  | _ => none }
def gaugeMiddleRow : OpenClaim := { program := "ythiofhkndpegjaagreatdoor", sum := "3f4e68bee9b9a28b6fc298d4cc2ff0edd42f23b72799108bf451a5b40a6bd58f", func := "tideway/tidewaylaw01.GaugeMiddle", spec := "gaugeMiddle", inPlace := ["internal/abi.NoEscape", "math.Float32bits", "math.Float64bits", "math.Float64frombits", "math.archFloor", "math.archTrunc"], unfollowed := true, recurses := true, named := ["internal/strconv.uint64pow10", "math/bits.deBruijn32tab", "math/bits.deBruijn64tab"], apart := false, laid := [("math/bits.deBruijn32tab", laid_math_bits_deBruijn32tab), ("math/bits.deBruijn64tab", laid_math_bits_deBruijn64tab), ("internal/strconv.uint64pow10", laid_internal_strconv_uint64pow10)] }
def GaugeMiddleSaid : Prop := gaugeMiddleRow.holds Tryz.pinned (OpenSpec.ofChange gaugeMiddleSpec)

/-- ITS FALSE NEIGHBOUR: 'it returns false'. Refute it at one input. -/
def gaugeMiddleWrong : ChangeSpec := { name := "gaugeMiddle", fn := fun _ => fun
  | [d1, d2] => { results := [.lit (.bool false)], args := [d1, d2] }
  | _ => none }
def GaugeMiddleWrongFalsely : Prop := gaugeMiddleRow.holds Tryz.pinned (OpenSpec.ofChange gaugeMiddleWrong)

/-- 'tidewaylaw01.GaugeAppends': WHATEVER THE INPUT: true; the input reads as it did. -/
def gaugeAppendsSpec : ChangeSpec := { name := "gaugeAppends", fn := fun _ => fun
  | [d1, d2] => { results := [.lit (.bool true)], args := [d1, d2] }
  | _ => none }
def gaugeAppendsRow : OpenClaim := { program := "ythiofhkndpegjaagreatdoor", sum := "3f4e68bee9b9a28b6fc298d4cc2ff0edd42f23b72799108bf451a5b40a6bd58f", func := "tideway/tidewaylaw01.GaugeAppends", spec := "gaugeAppends", inPlace := ["internal/abi.NoEscape", "math.Float32bits", "math.Float64bits", "math.Float64frombits", "math.archFloor", "math.archTrunc"], unfollowed := true, recurses := true, named := ["internal/strconv.uint64pow10", "math/bits.deBruijn32tab", "math/bits.deBruijn64tab"], apart := false, laid := [("math/bits.deBruijn32tab", laid_math_bits_deBruijn32tab), ("math/bits.deBruijn64tab", laid_math_bits_deBruijn64tab), ("internal/strconv.uint64pow10", laid_internal_strconv_uint64pow10)] }
def GaugeAppendsSaid : Prop := gaugeAppendsRow.holds Tryz.pinned (OpenSpec.ofChange gaugeAppendsSpec)

/-- ITS FALSE NEIGHBOUR: 'it returns false'. Refute it at one input. -/
def gaugeAppendsWrong : ChangeSpec := { name := "gaugeAppends", fn := fun _ => fun
  | [d1, d2] => { results := [.lit (.bool false)], args := [d1, d2] }
  | _ => none }
def GaugeAppendsWrongFalsely : Prop := gaugeAppendsRow.holds Tryz.pinned (OpenSpec.ofChange gaugeAppendsWrong)

/-- 'tidewaylaw01.GaugeFollows': WHATEVER THE INPUT: true; the input reads as it did. -/
def gaugeFollowsSpec : ChangeSpec := { name := "gaugeFollows", fn := fun _ => fun
  | [d1, d2] => { results := [.lit (.bool true)], args := [d1, d2] }
  | _ => none }
def gaugeFollowsRow : OpenClaim := { program := "ythiofhkndpegjaagreatdoor", sum := "3f4e68bee9b9a28b6fc298d4cc2ff0edd42f23b72799108bf451a5b40a6bd58f", func := "tideway/tidewaylaw01.GaugeFollows", spec := "gaugeFollows", inPlace := ["internal/abi.NoEscape", "math.Float32bits", "math.Float64bits", "math.Float64frombits", "math.archFloor", "math.archTrunc"], unfollowed := true, recurses := true, named := ["internal/strconv.uint64pow10", "math/bits.deBruijn32tab", "math/bits.deBruijn64tab"], apart := false, laid := [("math/bits.deBruijn32tab", laid_math_bits_deBruijn32tab), ("math/bits.deBruijn64tab", laid_math_bits_deBruijn64tab), ("internal/strconv.uint64pow10", laid_internal_strconv_uint64pow10)] }
def GaugeFollowsSaid : Prop := gaugeFollowsRow.holds Tryz.pinned (OpenSpec.ofChange gaugeFollowsSpec)

/-- ITS FALSE NEIGHBOUR: 'it returns false'. Refute it at one input. -/
def gaugeFollowsWrong : ChangeSpec := { name := "gaugeFollows", fn := fun _ => fun
  | [d1, d2] => { results := [.lit (.bool false)], args := [d1, d2] }
  | _ => none }
def GaugeFollowsWrongFalsely : Prop := gaugeFollowsRow.holds Tryz.pinned (OpenSpec.ofChange gaugeFollowsWrong)

/-- 'tidewaylaw01.GaugeStreams': WHATEVER THE INPUT: true; the input reads as it did. -/
def gaugeStreamsSpec : ChangeSpec := { name := "gaugeStreams", fn := fun _ => fun
  | [d1, d2] => { results := [.lit (.bool true)], args := [d1, d2] }
  | _ => none }
def gaugeStreamsRow : OpenClaim := { program := "ythiofhkndpegjaagreatdoor", sum := "3f4e68bee9b9a28b6fc298d4cc2ff0edd42f23b72799108bf451a5b40a6bd58f", func := "tideway/tidewaylaw01.GaugeStreams", spec := "gaugeStreams", inPlace := ["internal/abi.NoEscape", "math.Float32bits", "math.Float32frombits", "math.Float64bits", "math.Float64frombits", "math.archFloor", "math.archTrunc"], unfollowed := true, recurses := true, named := ["internal/strconv.uint64pow10", "math/bits.deBruijn32tab", "math/bits.deBruijn64tab"], apart := false, laid := [("math/bits.deBruijn32tab", laid_math_bits_deBruijn32tab), ("math/bits.deBruijn64tab", laid_math_bits_deBruijn64tab), ("internal/strconv.uint64pow10", laid_internal_strconv_uint64pow10)] }
def GaugeStreamsSaid : Prop := gaugeStreamsRow.holds Tryz.pinned (OpenSpec.ofChange gaugeStreamsSpec)

/-- ITS FALSE NEIGHBOUR: 'it returns false'. Refute it at one input. -/
def gaugeStreamsWrong : ChangeSpec := { name := "gaugeStreams", fn := fun _ => fun
  | [d1, d2] => { results := [.lit (.bool false)], args := [d1, d2] }
  | _ => none }
def GaugeStreamsWrongFalsely : Prop := gaugeStreamsRow.holds Tryz.pinned (OpenSpec.ofChange gaugeStreamsWrong)

/- THE SECOND FORM. 'bulk': how many values and letters a reading holds, each counted each time it is reached (what is shared counts as often as it is met; a slice's spare places count too). A statement '..UptoSaid' is the law's where the arguments, and the package variables that the reading takes, are together of bulk at most 1048576: NARROWER than '..Said'. Prove '..Said' where nothing that the law and all that it calls make is longer than what came in: it says more and counts as full. Else prove '..UptoSaid'. A law counts once. -/
mutual
def uptoBulk {H : Type} : DataW H → Nat
  | .lit (.string bytes) => bytes.length + 1
  | .lit _ => 1
  | .nil => 1
  | .ptr d => uptoBulk d + 1
  | .slice elems spare => uptoBulkAll elems + uptoBulkAll spare + 1
  | .agg parts => uptoBulkAll parts + 1
  | .iface _ d => uptoBulk d + 1
  | .map entries => uptoBulkEntries entries + 1
  | .held _ => 1
def uptoBulkAll {H : Type} : List (DataW H) → Nat
  | [] => 0
  | d :: r => uptoBulk d + uptoBulkAll r
def uptoBulkEntries {H : Type} : List (Lit × DataW H) → Nat
  | [] => 0
  | x :: r => uptoBulkEntry x + uptoBulkEntries r
def uptoBulkEntry {H : Type} : Lit × DataW H → Nat
  | (.string bytes, d) => bytes.length + uptoBulk d + 1
  | (_, d) => uptoBulk d + 1
 end
def uptoSmall : (H : Type) → List (DataW H) → Bool := fun _ ds => decide (uptoBulkAll ds ≤ 1048576)
def OpenSpec.upto (s : _root_.Go.ChangeSpec) : _root_.Go.OpenSpec := { _root_.Go.OpenSpec.ofChange s with cond := some uptoSmall }

/-- 'tidewaylaw01.GaugeSpans', WHERE WHAT IT READS IS OF BULK AT MOST 1048576: true; the input reads as it did. -/
def gaugeSpansUptoRow : OpenClaim := { program := "ythiofhkndpegjaagreatdoor", sum := "3f4e68bee9b9a28b6fc298d4cc2ff0edd42f23b72799108bf451a5b40a6bd58f", func := "tideway/tidewaylaw01.GaugeSpans", spec := "gaugeSpans", inPlace := ["internal/abi.NoEscape", "math.Float32bits"], unfollowed := true, recurses := true, named := ["internal/strconv.uint64pow10", "math/bits.deBruijn32tab", "math/bits.deBruijn64tab"], apart := false, laid := [("math/bits.deBruijn32tab", laid_math_bits_deBruijn32tab), ("math/bits.deBruijn64tab", laid_math_bits_deBruijn64tab), ("internal/strconv.uint64pow10", laid_internal_strconv_uint64pow10)], narrowed := true }
def GaugeSpansUptoSaid : Prop := gaugeSpansUptoRow.holds Tryz.pinned (OpenSpec.upto gaugeSpansSpec)

/-- 'tidewaylaw01.GaugeSets', WHERE WHAT IT READS IS OF BULK AT MOST 1048576: true; the input reads as it did. -/
def gaugeSetsUptoRow : OpenClaim := { program := "ythiofhkndpegjaagreatdoor", sum := "3f4e68bee9b9a28b6fc298d4cc2ff0edd42f23b72799108bf451a5b40a6bd58f", func := "tideway/tidewaylaw01.GaugeSets", spec := "gaugeSets", inPlace := ["internal/abi.NoEscape", "math.Float32bits"], unfollowed := true, recurses := true, named := ["internal/strconv.uint64pow10", "math/bits.deBruijn32tab", "math/bits.deBruijn64tab"], apart := false, laid := [("math/bits.deBruijn32tab", laid_math_bits_deBruijn32tab), ("math/bits.deBruijn64tab", laid_math_bits_deBruijn64tab), ("internal/strconv.uint64pow10", laid_internal_strconv_uint64pow10)], narrowed := true }
def GaugeSetsUptoSaid : Prop := gaugeSetsUptoRow.holds Tryz.pinned (OpenSpec.upto gaugeSetsSpec)

/-- 'tidewaylaw01.GaugeBasics', WHERE WHAT IT READS IS OF BULK AT MOST 1048576: true; the input reads as it did. -/
def gaugeBasicsUptoRow : OpenClaim := { program := "ythiofhkndpegjaagreatdoor", sum := "3f4e68bee9b9a28b6fc298d4cc2ff0edd42f23b72799108bf451a5b40a6bd58f", func := "tideway/tidewaylaw01.GaugeBasics", spec := "gaugeBasics", inPlace := ["internal/abi.NoEscape", "math.Float32bits"], unfollowed := true, recurses := true, named := ["internal/strconv.uint64pow10", "math/bits.deBruijn32tab", "math/bits.deBruijn64tab"], apart := false, laid := [("math/bits.deBruijn32tab", laid_math_bits_deBruijn32tab), ("math/bits.deBruijn64tab", laid_math_bits_deBruijn64tab), ("internal/strconv.uint64pow10", laid_internal_strconv_uint64pow10)], narrowed := true }
def GaugeBasicsUptoSaid : Prop := gaugeBasicsUptoRow.holds Tryz.pinned (OpenSpec.upto gaugeBasicsSpec)

/-- 'tidewaylaw01.GaugeChecks', WHERE WHAT IT READS IS OF BULK AT MOST 1048576: true; the input reads as it did. -/
def gaugeChecksUptoRow : OpenClaim := { program := "ythiofhkndpegjaagreatdoor", sum := "3f4e68bee9b9a28b6fc298d4cc2ff0edd42f23b72799108bf451a5b40a6bd58f", func := "tideway/tidewaylaw01.GaugeChecks", spec := "gaugeChecks", inPlace := ["internal/abi.NoEscape", "math.Float32bits", "math.Float64bits", "math.Float64frombits", "math.archFloor", "math.archTrunc"], unfollowed := true, recurses := true, named := ["internal/strconv.uint64pow10", "math/bits.deBruijn32tab", "math/bits.deBruijn64tab"], apart := false, laid := [("math/bits.deBruijn32tab", laid_math_bits_deBruijn32tab), ("math/bits.deBruijn64tab", laid_math_bits_deBruijn64tab), ("internal/strconv.uint64pow10", laid_internal_strconv_uint64pow10)], narrowed := true }
def GaugeChecksUptoSaid : Prop := gaugeChecksUptoRow.holds Tryz.pinned (OpenSpec.upto gaugeChecksSpec)

/-- 'tidewaylaw01.GaugeCleans', WHERE WHAT IT READS IS OF BULK AT MOST 1048576: true; the input reads as it did. -/
def gaugeCleansUptoRow : OpenClaim := { program := "ythiofhkndpegjaagreatdoor", sum := "3f4e68bee9b9a28b6fc298d4cc2ff0edd42f23b72799108bf451a5b40a6bd58f", func := "tideway/tidewaylaw01.GaugeCleans", spec := "gaugeCleans", inPlace := ["internal/abi.NoEscape", "math.Float32bits", "math.Float64bits", "math.Float64frombits", "math.archFloor", "math.archTrunc"], unfollowed := true, recurses := true, named := ["internal/strconv.uint64pow10", "math/bits.deBruijn32tab", "math/bits.deBruijn64tab"], apart := false, laid := [("math/bits.deBruijn32tab", laid_math_bits_deBruijn32tab), ("math/bits.deBruijn64tab", laid_math_bits_deBruijn64tab), ("internal/strconv.uint64pow10", laid_internal_strconv_uint64pow10)], narrowed := true }
def GaugeCleansUptoSaid : Prop := gaugeCleansUptoRow.holds Tryz.pinned (OpenSpec.upto gaugeCleansSpec)

/-- 'tidewaylaw01.GaugeVotes', WHERE WHAT IT READS IS OF BULK AT MOST 1048576: true; the input reads as it did. -/
def gaugeVotesUptoRow : OpenClaim := { program := "ythiofhkndpegjaagreatdoor", sum := "3f4e68bee9b9a28b6fc298d4cc2ff0edd42f23b72799108bf451a5b40a6bd58f", func := "tideway/tidewaylaw01.GaugeVotes", spec := "gaugeVotes", inPlace := ["internal/abi.NoEscape", "math.Float32bits", "math.Float64bits", "math.Float64frombits", "math.archFloor", "math.archTrunc"], unfollowed := true, recurses := true, named := ["internal/strconv.uint64pow10", "math/bits.deBruijn32tab", "math/bits.deBruijn64tab"], apart := false, laid := [("math/bits.deBruijn32tab", laid_math_bits_deBruijn32tab), ("math/bits.deBruijn64tab", laid_math_bits_deBruijn64tab), ("internal/strconv.uint64pow10", laid_internal_strconv_uint64pow10)], narrowed := true }
def GaugeVotesUptoSaid : Prop := gaugeVotesUptoRow.holds Tryz.pinned (OpenSpec.upto gaugeVotesSpec)

/-- 'tidewaylaw01.GaugeWaters', WHERE WHAT IT READS IS OF BULK AT MOST 1048576: true; the input reads as it did. -/
def gaugeWatersUptoRow : OpenClaim := { program := "ythiofhkndpegjaagreatdoor", sum := "3f4e68bee9b9a28b6fc298d4cc2ff0edd42f23b72799108bf451a5b40a6bd58f", func := "tideway/tidewaylaw01.GaugeWaters", spec := "gaugeWaters", inPlace := ["internal/abi.NoEscape", "math.Float32bits", "math.Float64bits", "math.Float64frombits", "math.archFloor", "math.archTrunc"], unfollowed := true, recurses := true, named := ["internal/strconv.uint64pow10", "math/bits.deBruijn32tab", "math/bits.deBruijn64tab"], apart := false, laid := [("math/bits.deBruijn32tab", laid_math_bits_deBruijn32tab), ("math/bits.deBruijn64tab", laid_math_bits_deBruijn64tab), ("internal/strconv.uint64pow10", laid_internal_strconv_uint64pow10)], narrowed := true }
def GaugeWatersUptoSaid : Prop := gaugeWatersUptoRow.holds Tryz.pinned (OpenSpec.upto gaugeWatersSpec)

/-- 'tidewaylaw01.GaugeKeeps', WHERE WHAT IT READS IS OF BULK AT MOST 1048576: true; the input reads as it did. -/
def gaugeKeepsUptoRow : OpenClaim := { program := "ythiofhkndpegjaagreatdoor", sum := "3f4e68bee9b9a28b6fc298d4cc2ff0edd42f23b72799108bf451a5b40a6bd58f", func := "tideway/tidewaylaw01.GaugeKeeps", spec := "gaugeKeeps", inPlace := ["internal/abi.NoEscape", "math.Float32bits", "math.Float64bits", "math.Float64frombits", "math.archFloor", "math.archTrunc"], unfollowed := true, recurses := true, named := ["internal/strconv.uint64pow10", "math/bits.deBruijn32tab", "math/bits.deBruijn64tab"], apart := false, laid := [("math/bits.deBruijn32tab", laid_math_bits_deBruijn32tab), ("math/bits.deBruijn64tab", laid_math_bits_deBruijn64tab), ("internal/strconv.uint64pow10", laid_internal_strconv_uint64pow10)], narrowed := true }
def GaugeKeepsUptoSaid : Prop := gaugeKeepsUptoRow.holds Tryz.pinned (OpenSpec.upto gaugeKeepsSpec)

/-- 'tidewaylaw01.GaugeMiddle', WHERE WHAT IT READS IS OF BULK AT MOST 1048576: true; the input reads as it did. -/
def gaugeMiddleUptoRow : OpenClaim := { program := "ythiofhkndpegjaagreatdoor", sum := "3f4e68bee9b9a28b6fc298d4cc2ff0edd42f23b72799108bf451a5b40a6bd58f", func := "tideway/tidewaylaw01.GaugeMiddle", spec := "gaugeMiddle", inPlace := ["internal/abi.NoEscape", "math.Float32bits", "math.Float64bits", "math.Float64frombits", "math.archFloor", "math.archTrunc"], unfollowed := true, recurses := true, named := ["internal/strconv.uint64pow10", "math/bits.deBruijn32tab", "math/bits.deBruijn64tab"], apart := false, laid := [("math/bits.deBruijn32tab", laid_math_bits_deBruijn32tab), ("math/bits.deBruijn64tab", laid_math_bits_deBruijn64tab), ("internal/strconv.uint64pow10", laid_internal_strconv_uint64pow10)], narrowed := true }
def GaugeMiddleUptoSaid : Prop := gaugeMiddleUptoRow.holds Tryz.pinned (OpenSpec.upto gaugeMiddleSpec)

/-- 'tidewaylaw01.GaugeAppends', WHERE WHAT IT READS IS OF BULK AT MOST 1048576: true; the input reads as it did. -/
def gaugeAppendsUptoRow : OpenClaim := { program := "ythiofhkndpegjaagreatdoor", sum := "3f4e68bee9b9a28b6fc298d4cc2ff0edd42f23b72799108bf451a5b40a6bd58f", func := "tideway/tidewaylaw01.GaugeAppends", spec := "gaugeAppends", inPlace := ["internal/abi.NoEscape", "math.Float32bits", "math.Float64bits", "math.Float64frombits", "math.archFloor", "math.archTrunc"], unfollowed := true, recurses := true, named := ["internal/strconv.uint64pow10", "math/bits.deBruijn32tab", "math/bits.deBruijn64tab"], apart := false, laid := [("math/bits.deBruijn32tab", laid_math_bits_deBruijn32tab), ("math/bits.deBruijn64tab", laid_math_bits_deBruijn64tab), ("internal/strconv.uint64pow10", laid_internal_strconv_uint64pow10)], narrowed := true }
def GaugeAppendsUptoSaid : Prop := gaugeAppendsUptoRow.holds Tryz.pinned (OpenSpec.upto gaugeAppendsSpec)

/-- 'tidewaylaw01.GaugeFollows', WHERE WHAT IT READS IS OF BULK AT MOST 1048576: true; the input reads as it did. -/
def gaugeFollowsUptoRow : OpenClaim := { program := "ythiofhkndpegjaagreatdoor", sum := "3f4e68bee9b9a28b6fc298d4cc2ff0edd42f23b72799108bf451a5b40a6bd58f", func := "tideway/tidewaylaw01.GaugeFollows", spec := "gaugeFollows", inPlace := ["internal/abi.NoEscape", "math.Float32bits", "math.Float64bits", "math.Float64frombits", "math.archFloor", "math.archTrunc"], unfollowed := true, recurses := true, named := ["internal/strconv.uint64pow10", "math/bits.deBruijn32tab", "math/bits.deBruijn64tab"], apart := false, laid := [("math/bits.deBruijn32tab", laid_math_bits_deBruijn32tab), ("math/bits.deBruijn64tab", laid_math_bits_deBruijn64tab), ("internal/strconv.uint64pow10", laid_internal_strconv_uint64pow10)], narrowed := true }
def GaugeFollowsUptoSaid : Prop := gaugeFollowsUptoRow.holds Tryz.pinned (OpenSpec.upto gaugeFollowsSpec)

/-- 'tidewaylaw01.GaugeStreams', WHERE WHAT IT READS IS OF BULK AT MOST 1048576: true; the input reads as it did. -/
def gaugeStreamsUptoRow : OpenClaim := { program := "ythiofhkndpegjaagreatdoor", sum := "3f4e68bee9b9a28b6fc298d4cc2ff0edd42f23b72799108bf451a5b40a6bd58f", func := "tideway/tidewaylaw01.GaugeStreams", spec := "gaugeStreams", inPlace := ["internal/abi.NoEscape", "math.Float32bits", "math.Float32frombits", "math.Float64bits", "math.Float64frombits", "math.archFloor", "math.archTrunc"], unfollowed := true, recurses := true, named := ["internal/strconv.uint64pow10", "math/bits.deBruijn32tab", "math/bits.deBruijn64tab"], apart := false, laid := [("math/bits.deBruijn32tab", laid_math_bits_deBruijn32tab), ("math/bits.deBruijn64tab", laid_math_bits_deBruijn64tab), ("internal/strconv.uint64pow10", laid_internal_strconv_uint64pow10)], narrowed := true }
def GaugeStreamsUptoSaid : Prop := gaugeStreamsUptoRow.holds Tryz.pinned (OpenSpec.upto gaugeStreamsSpec)

end Rows
end Go.Proofs.YthiofhkndpegjaaGreatDoor
