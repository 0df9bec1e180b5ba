/-
  NARROWER THAN 'FOR EVERY INPUT', by the rows' own cells (each row's printed sentence says how): SafetyPermits: laid · SafetyIssues: laid · SafetyEarliest: laid · SafetyCases: laid · SafetyChanges: laid · SafetyWaits: laid · SafetyRenews: laid · SafetySupports: laid · SafetyRests: laid · SafetyLists: laid · SafetyApart: laid.
  DERIVED. THE GIVEN ROWS OF THIS SEAT. 11 by the template 'for every input the law returns true; each argument reads behind the call as it read before'; 0 by the template 'total and deterministic' (their statements: YtligdjefbiebjaaGreatDoorTotals.lean).
  GIVEN WITH THE SEED: the statements are not yours to turn. If you find one false, say at which input.
  Laid BY PROGRAM, IN A SANDBOX (cutbox-rows.mjs): the forced cells as the released guide's own fill.sh prints them over the translation ab1ea12398928797… (all of the seat's roots in one cut). By AI agents, Wed Nov 11 2026. No macro, syntax, notation, axiom, sorry.
-/
import Derived.Test.YtligdjefbiebjaaGreatDoorChecked
import GoSem.Claim
import GoSem.ClaimJoined
import GoSem.ClaimMapViews
import Derived.JoinedTies
import Derived.KernelRfl
namespace Go.Proofs.YtligdjefbiebjaaGreatDoor
/- THE CELL 'sum', in the pinned program and in every row, IS THE sha256 OF THE DUMP (.gsa) THAT YtligdjefbiebjaaGreatDoorProg.lean LOADS. Nothing in Lean hashes anything: it is a label: what it is worth is what the hold of that sum in a sandbox is worth. -/
noncomputable def Tryz.pinned : Pinned := { name := "ytligdjefbiebjaagreatdoor", sum := "ab1ea12398928797826227d94ff78199c1bba57e0e459646316f165d68b1ba72", checked := Tryz.checked }
namespace Rows
def none {H : Type} : Left H := { results := [], args := [] }

/- WHAT THE LISTED PACKAGE-LEVEL VARIABLES READ AS WHEN THE CALL BEGINS. Each datum BY PROGRAM (the guide's laid-datum.mjs) off the statement by which the dump's own 'gosem.cut.vars' lays the variable. In a bare row this is a premise. The card (YtligdjefbiebjaaGreatDoorCards.lean) ties it to the program's text. -/
def laid_math_bits_deBruijn32tab {H : Type} : DataW H := .agg [.lit (.int .u8 0), .lit (.int .u8 1), .lit (.int .u8 28), .lit (.int .u8 2), .lit (.int .u8 29), .lit (.int .u8 14), .lit (.int .u8 24), .lit (.int .u8 3), .lit (.int .u8 30), .lit (.int .u8 22), .lit (.int .u8 20), .lit (.int .u8 15), .lit (.int .u8 25), .lit (.int .u8 17), .lit (.int .u8 4), .lit (.int .u8 8), .lit (.int .u8 31), .lit (.int .u8 27), .lit (.int .u8 13), .lit (.int .u8 23), .lit (.int .u8 21), .lit (.int .u8 19), .lit (.int .u8 16), .lit (.int .u8 7), .lit (.int .u8 26), .lit (.int .u8 12), .lit (.int .u8 18), .lit (.int .u8 6), .lit (.int .u8 11), .lit (.int .u8 5), .lit (.int .u8 10), .lit (.int .u8 9)]
def laid_math_bits_deBruijn64tab {H : Type} : DataW H := .agg [.lit (.int .u8 0), .lit (.int .u8 1), .lit (.int .u8 56), .lit (.int .u8 2), .lit (.int .u8 57), .lit (.int .u8 49), .lit (.int .u8 28), .lit (.int .u8 3), .lit (.int .u8 61), .lit (.int .u8 58), .lit (.int .u8 42), .lit (.int .u8 50), .lit (.int .u8 38), .lit (.int .u8 29), .lit (.int .u8 17), .lit (.int .u8 4), .lit (.int .u8 62), .lit (.int .u8 47), .lit (.int .u8 59), .lit (.int .u8 36), .lit (.int .u8 45), .lit (.int .u8 43), .lit (.int .u8 51), .lit (.int .u8 22), .lit (.int .u8 53), .lit (.int .u8 39), .lit (.int .u8 33), .lit (.int .u8 30), .lit (.int .u8 24), .lit (.int .u8 18), .lit (.int .u8 12), .lit (.int .u8 5), .lit (.int .u8 63), .lit (.int .u8 55), .lit (.int .u8 48), .lit (.int .u8 27), .lit (.int .u8 60), .lit (.int .u8 41), .lit (.int .u8 37), .lit (.int .u8 16), .lit (.int .u8 46), .lit (.int .u8 35), .lit (.int .u8 44), .lit (.int .u8 21), .lit (.int .u8 52), .lit (.int .u8 32), .lit (.int .u8 23), .lit (.int .u8 11), .lit (.int .u8 54), .lit (.int .u8 26), .lit (.int .u8 40), .lit (.int .u8 15), .lit (.int .u8 34), .lit (.int .u8 20), .lit (.int .u8 31), .lit (.int .u8 10), .lit (.int .u8 25), .lit (.int .u8 14), .lit (.int .u8 19), .lit (.int .u8 9), .lit (.int .u8 13), .lit (.int .u8 8), .lit (.int .u8 7), .lit (.int .u8 6)]
def laid_internal_strconv_uint64pow10 {H : Type} : DataW H := .agg [.lit (.int .u64 1), .lit (.int .u64 10), .lit (.int .u64 100), .lit (.int .u64 1000), .lit (.int .u64 10000), .lit (.int .u64 100000), .lit (.int .u64 1000000), .lit (.int .u64 10000000), .lit (.int .u64 100000000), .lit (.int .u64 1000000000), .lit (.int .u64 10000000000), .lit (.int .u64 100000000000), .lit (.int .u64 1000000000000), .lit (.int .u64 10000000000000), .lit (.int .u64 100000000000000), .lit (.int .u64 1000000000000000), .lit (.int .u64 10000000000000000), .lit (.int .u64 100000000000000000), .lit (.int .u64 1000000000000000000), .lit (.int .u64 10000000000000000000)]

/-- 'tidewaylaw09.SafetyPermits': WHATEVER THE INPUT: true; the input reads as it did. -/
def safetyPermitsSpec : ChangeSpec := { name := "safetyPermits", fn := fun _ => fun
  | [d1, d2] => { results := [.lit (.bool true)], args := [d1, d2] }
  | _ => none }
def safetyPermitsRow : OpenClaim := { program := "ytligdjefbiebjaagreatdoor", sum := "ab1ea12398928797826227d94ff78199c1bba57e0e459646316f165d68b1ba72", func := "tideway/tidewaylaw09.SafetyPermits", spec := "safetyPermits", inPlace := ["internal/abi.NoEscape", "internal/bytealg.MakeNoZero"], unfollowed := true, recurses := true, named := ["internal/strconv.uint64pow10", "math/bits.deBruijn32tab", "math/bits.deBruijn64tab"], plainKeys := false, apart := false, laid := [("math/bits.deBruijn32tab", laid_math_bits_deBruijn32tab), ("math/bits.deBruijn64tab", laid_math_bits_deBruijn64tab), ("internal/strconv.uint64pow10", laid_internal_strconv_uint64pow10)] }
def SafetyPermitsSaid : Prop := safetyPermitsRow.holds Tryz.pinned (OpenSpec.ofChange safetyPermitsSpec)

/-- ITS FALSE NEIGHBOUR: 'it returns false'. Refute it at one input. -/
def safetyPermitsWrong : ChangeSpec := { name := "safetyPermits", fn := fun _ => fun
  | [d1, d2] => { results := [.lit (.bool false)], args := [d1, d2] }
  | _ => none }
def SafetyPermitsWrongFalsely : Prop := safetyPermitsRow.holds Tryz.pinned (OpenSpec.ofChange safetyPermitsWrong)

/-- 'tidewaylaw09.SafetyIssues': WHATEVER THE INPUT: true; the input reads as it did. -/
def safetyIssuesSpec : ChangeSpec := { name := "safetyIssues", fn := fun _ => fun
  | [d1, d2, d3] => { results := [.lit (.bool true)], args := [d1, d2, d3] }
  | _ => none }
def safetyIssuesRow : OpenClaim := { program := "ytligdjefbiebjaagreatdoor", sum := "ab1ea12398928797826227d94ff78199c1bba57e0e459646316f165d68b1ba72", func := "tideway/tidewaylaw09.SafetyIssues", spec := "safetyIssues", inPlace := ["internal/abi.NoEscape", "internal/bytealg.MakeNoZero"], unfollowed := true, recurses := true, named := ["internal/strconv.uint64pow10", "math/bits.deBruijn32tab", "math/bits.deBruijn64tab"], plainKeys := false, apart := false, laid := [("math/bits.deBruijn32tab", laid_math_bits_deBruijn32tab), ("math/bits.deBruijn64tab", laid_math_bits_deBruijn64tab), ("internal/strconv.uint64pow10", laid_internal_strconv_uint64pow10)] }
def SafetyIssuesSaid : Prop := safetyIssuesRow.holds Tryz.pinned (OpenSpec.ofChange safetyIssuesSpec)

/-- ITS FALSE NEIGHBOUR: 'it returns false'. Refute it at one input. -/
def safetyIssuesWrong : ChangeSpec := { name := "safetyIssues", fn := fun _ => fun
  | [d1, d2, d3] => { results := [.lit (.bool false)], args := [d1, d2, d3] }
  | _ => none }
def SafetyIssuesWrongFalsely : Prop := safetyIssuesRow.holds Tryz.pinned (OpenSpec.ofChange safetyIssuesWrong)

/-- 'tidewaylaw09.SafetyEarliest': WHATEVER THE INPUT: true; the input reads as it did. -/
def safetyEarliestSpec : ChangeSpec := { name := "safetyEarliest", fn := fun _ => fun
  | [d1, d2, d3] => { results := [.lit (.bool true)], args := [d1, d2, d3] }
  | _ => none }
def safetyEarliestRow : OpenClaim := { program := "ytligdjefbiebjaagreatdoor", sum := "ab1ea12398928797826227d94ff78199c1bba57e0e459646316f165d68b1ba72", func := "tideway/tidewaylaw09.SafetyEarliest", spec := "safetyEarliest", inPlace := ["internal/abi.NoEscape", "internal/bytealg.MakeNoZero"], unfollowed := true, recurses := true, named := ["internal/strconv.uint64pow10", "math/bits.deBruijn32tab", "math/bits.deBruijn64tab"], plainKeys := false, apart := false, laid := [("math/bits.deBruijn32tab", laid_math_bits_deBruijn32tab), ("math/bits.deBruijn64tab", laid_math_bits_deBruijn64tab), ("internal/strconv.uint64pow10", laid_internal_strconv_uint64pow10)] }
def SafetyEarliestSaid : Prop := safetyEarliestRow.holds Tryz.pinned (OpenSpec.ofChange safetyEarliestSpec)

/-- ITS FALSE NEIGHBOUR: 'it returns false'. Refute it at one input. -/
def safetyEarliestWrong : ChangeSpec := { name := "safetyEarliest", fn := fun _ => fun
  | [d1, d2, d3] => { results := [.lit (.bool false)], args := [d1, d2, d3] }
  | _ => none }
def SafetyEarliestWrongFalsely : Prop := safetyEarliestRow.holds Tryz.pinned (OpenSpec.ofChange safetyEarliestWrong)

/-- 'tidewaylaw09.SafetyCases': WHATEVER THE INPUT: true; the input reads as it did. -/
def safetyCasesSpec : ChangeSpec := { name := "safetyCases", fn := fun _ => fun
  | [d1, d2] => { results := [.lit (.bool true)], args := [d1, d2] }
  | _ => none }
def safetyCasesRow : OpenClaim := { program := "ytligdjefbiebjaagreatdoor", sum := "ab1ea12398928797826227d94ff78199c1bba57e0e459646316f165d68b1ba72", func := "tideway/tidewaylaw09.SafetyCases", spec := "safetyCases", inPlace := ["internal/abi.NoEscape", "internal/bytealg.MakeNoZero"], unfollowed := true, recurses := true, named := ["internal/strconv.uint64pow10", "math/bits.deBruijn32tab", "math/bits.deBruijn64tab"], plainKeys := false, apart := false, laid := [("math/bits.deBruijn32tab", laid_math_bits_deBruijn32tab), ("math/bits.deBruijn64tab", laid_math_bits_deBruijn64tab), ("internal/strconv.uint64pow10", laid_internal_strconv_uint64pow10)] }
def SafetyCasesSaid : Prop := safetyCasesRow.holds Tryz.pinned (OpenSpec.ofChange safetyCasesSpec)

/-- ITS FALSE NEIGHBOUR: 'it returns false'. Refute it at one input. -/
def safetyCasesWrong : ChangeSpec := { name := "safetyCases", fn := fun _ => fun
  | [d1, d2] => { results := [.lit (.bool false)], args := [d1, d2] }
  | _ => none }
def SafetyCasesWrongFalsely : Prop := safetyCasesRow.holds Tryz.pinned (OpenSpec.ofChange safetyCasesWrong)

/-- 'tidewaylaw09.SafetyChanges': WHATEVER THE INPUT: true; the input reads as it did. -/
def safetyChangesSpec : ChangeSpec := { name := "safetyChanges", fn := fun _ => fun
  | [d1, d2, d3] => { results := [.lit (.bool true)], args := [d1, d2, d3] }
  | _ => none }
def safetyChangesRow : OpenClaim := { program := "ytligdjefbiebjaagreatdoor", sum := "ab1ea12398928797826227d94ff78199c1bba57e0e459646316f165d68b1ba72", func := "tideway/tidewaylaw09.SafetyChanges", spec := "safetyChanges", inPlace := ["internal/abi.NoEscape", "internal/bytealg.MakeNoZero"], unfollowed := true, recurses := true, named := ["internal/strconv.uint64pow10", "math/bits.deBruijn32tab", "math/bits.deBruijn64tab"], plainKeys := false, apart := false, laid := [("math/bits.deBruijn32tab", laid_math_bits_deBruijn32tab), ("math/bits.deBruijn64tab", laid_math_bits_deBruijn64tab), ("internal/strconv.uint64pow10", laid_internal_strconv_uint64pow10)] }
def SafetyChangesSaid : Prop := safetyChangesRow.holds Tryz.pinned (OpenSpec.ofChange safetyChangesSpec)

/-- ITS FALSE NEIGHBOUR: 'it returns false'. Refute it at one input. -/
def safetyChangesWrong : ChangeSpec := { name := "safetyChanges", fn := fun _ => fun
  | [d1, d2, d3] => { results := [.lit (.bool false)], args := [d1, d2, d3] }
  | _ => none }
def SafetyChangesWrongFalsely : Prop := safetyChangesRow.holds Tryz.pinned (OpenSpec.ofChange safetyChangesWrong)

/-- 'tidewaylaw09.SafetyWaits': WHATEVER THE INPUT: true; the input reads as it did. -/
def safetyWaitsSpec : ChangeSpec := { name := "safetyWaits", fn := fun _ => fun
  | [d1, d2, d3] => { results := [.lit (.bool true)], args := [d1, d2, d3] }
  | _ => none }
def safetyWaitsRow : OpenClaim := { program := "ytligdjefbiebjaagreatdoor", sum := "ab1ea12398928797826227d94ff78199c1bba57e0e459646316f165d68b1ba72", func := "tideway/tidewaylaw09.SafetyWaits", spec := "safetyWaits", inPlace := ["internal/abi.NoEscape", "internal/bytealg.MakeNoZero"], unfollowed := true, recurses := true, named := ["internal/strconv.uint64pow10", "math/bits.deBruijn32tab", "math/bits.deBruijn64tab"], plainKeys := false, apart := false, laid := [("math/bits.deBruijn32tab", laid_math_bits_deBruijn32tab), ("math/bits.deBruijn64tab", laid_math_bits_deBruijn64tab), ("internal/strconv.uint64pow10", laid_internal_strconv_uint64pow10)] }
def SafetyWaitsSaid : Prop := safetyWaitsRow.holds Tryz.pinned (OpenSpec.ofChange safetyWaitsSpec)

/-- ITS FALSE NEIGHBOUR: 'it returns false'. Refute it at one input. -/
def safetyWaitsWrong : ChangeSpec := { name := "safetyWaits", fn := fun _ => fun
  | [d1, d2, d3] => { results := [.lit (.bool false)], args := [d1, d2, d3] }
  | _ => none }
def SafetyWaitsWrongFalsely : Prop := safetyWaitsRow.holds Tryz.pinned (OpenSpec.ofChange safetyWaitsWrong)

/-- 'tidewaylaw09.SafetyRenews': WHATEVER THE INPUT: true; the input reads as it did. -/
def safetyRenewsSpec : ChangeSpec := { name := "safetyRenews", fn := fun _ => fun
  | [d1, d2, d3] => { results := [.lit (.bool true)], args := [d1, d2, d3] }
  | _ => none }
def safetyRenewsRow : OpenClaim := { program := "ytligdjefbiebjaagreatdoor", sum := "ab1ea12398928797826227d94ff78199c1bba57e0e459646316f165d68b1ba72", func := "tideway/tidewaylaw09.SafetyRenews", spec := "safetyRenews", inPlace := ["internal/abi.NoEscape", "internal/bytealg.MakeNoZero"], unfollowed := true, recurses := true, named := ["internal/strconv.uint64pow10", "math/bits.deBruijn32tab", "math/bits.deBruijn64tab"], plainKeys := false, apart := false, laid := [("math/bits.deBruijn32tab", laid_math_bits_deBruijn32tab), ("math/bits.deBruijn64tab", laid_math_bits_deBruijn64tab), ("internal/strconv.uint64pow10", laid_internal_strconv_uint64pow10)] }
def SafetyRenewsSaid : Prop := safetyRenewsRow.holds Tryz.pinned (OpenSpec.ofChange safetyRenewsSpec)

/-- ITS FALSE NEIGHBOUR: 'it returns false'. Refute it at one input. -/
def safetyRenewsWrong : ChangeSpec := { name := "safetyRenews", fn := fun _ => fun
  | [d1, d2, d3] => { results := [.lit (.bool false)], args := [d1, d2, d3] }
  | _ => none }
def SafetyRenewsWrongFalsely : Prop := safetyRenewsRow.holds Tryz.pinned (OpenSpec.ofChange safetyRenewsWrong)

/-- 'tidewaylaw09.SafetySupports': WHATEVER THE INPUT: true; the input reads as it did. -/
def safetySupportsSpec : ChangeSpec := { name := "safetySupports", fn := fun _ => fun
  | [d1, d2, d3] => { results := [.lit (.bool true)], args := [d1, d2, d3] }
  | _ => none }
def safetySupportsRow : OpenClaim := { program := "ytligdjefbiebjaagreatdoor", sum := "ab1ea12398928797826227d94ff78199c1bba57e0e459646316f165d68b1ba72", func := "tideway/tidewaylaw09.SafetySupports", spec := "safetySupports", inPlace := ["internal/abi.NoEscape", "internal/bytealg.MakeNoZero"], unfollowed := true, recurses := true, named := ["internal/strconv.uint64pow10", "math/bits.deBruijn32tab", "math/bits.deBruijn64tab"], plainKeys := false, apart := false, laid := [("math/bits.deBruijn32tab", laid_math_bits_deBruijn32tab), ("math/bits.deBruijn64tab", laid_math_bits_deBruijn64tab), ("internal/strconv.uint64pow10", laid_internal_strconv_uint64pow10)] }
def SafetySupportsSaid : Prop := safetySupportsRow.holds Tryz.pinned (OpenSpec.ofChange safetySupportsSpec)

/-- ITS FALSE NEIGHBOUR: 'it returns false'. Refute it at one input. -/
def safetySupportsWrong : ChangeSpec := { name := "safetySupports", fn := fun _ => fun
  | [d1, d2, d3] => { results := [.lit (.bool false)], args := [d1, d2, d3] }
  | _ => none }
def SafetySupportsWrongFalsely : Prop := safetySupportsRow.holds Tryz.pinned (OpenSpec.ofChange safetySupportsWrong)

/-- 'tidewaylaw09.SafetyRests': WHATEVER THE INPUT: true; the input reads as it did. -/
def safetyRestsSpec : ChangeSpec := { name := "safetyRests", fn := fun _ => fun
  | [d1, d2, d3] => { results := [.lit (.bool true)], args := [d1, d2, d3] }
  | _ => none }
def safetyRestsRow : OpenClaim := { program := "ytligdjefbiebjaagreatdoor", sum := "ab1ea12398928797826227d94ff78199c1bba57e0e459646316f165d68b1ba72", func := "tideway/tidewaylaw09.SafetyRests", spec := "safetyRests", inPlace := ["internal/abi.NoEscape", "internal/bytealg.MakeNoZero"], unfollowed := true, recurses := true, named := ["internal/strconv.uint64pow10", "math/bits.deBruijn32tab", "math/bits.deBruijn64tab"], plainKeys := false, apart := false, laid := [("math/bits.deBruijn32tab", laid_math_bits_deBruijn32tab), ("math/bits.deBruijn64tab", laid_math_bits_deBruijn64tab), ("internal/strconv.uint64pow10", laid_internal_strconv_uint64pow10)] }
def SafetyRestsSaid : Prop := safetyRestsRow.holds Tryz.pinned (OpenSpec.ofChange safetyRestsSpec)

/-- ITS FALSE NEIGHBOUR: 'it returns false'. Refute it at one input. -/
def safetyRestsWrong : ChangeSpec := { name := "safetyRests", fn := fun _ => fun
  | [d1, d2, d3] => { results := [.lit (.bool false)], args := [d1, d2, d3] }
  | _ => none }
def SafetyRestsWrongFalsely : Prop := safetyRestsRow.holds Tryz.pinned (OpenSpec.ofChange safetyRestsWrong)

/-- 'tidewaylaw09.SafetyLists': WHATEVER THE INPUT: true; the input reads as it did. -/
def safetyListsSpec : ChangeSpec := { name := "safetyLists", fn := fun _ => fun
  | [d1, d2] => { results := [.lit (.bool true)], args := [d1, d2] }
  | _ => none }
def safetyListsRow : OpenClaim := { program := "ytligdjefbiebjaagreatdoor", sum := "ab1ea12398928797826227d94ff78199c1bba57e0e459646316f165d68b1ba72", func := "tideway/tidewaylaw09.SafetyLists", spec := "safetyLists", inPlace := ["internal/abi.NoEscape", "internal/bytealg.MakeNoZero"], unfollowed := true, recurses := true, named := ["internal/strconv.uint64pow10", "math/bits.deBruijn32tab", "math/bits.deBruijn64tab"], plainKeys := false, apart := false, laid := [("math/bits.deBruijn32tab", laid_math_bits_deBruijn32tab), ("math/bits.deBruijn64tab", laid_math_bits_deBruijn64tab), ("internal/strconv.uint64pow10", laid_internal_strconv_uint64pow10)] }
def SafetyListsSaid : Prop := safetyListsRow.holds Tryz.pinned (OpenSpec.ofChange safetyListsSpec)

/-- ITS FALSE NEIGHBOUR: 'it returns false'. Refute it at one input. -/
def safetyListsWrong : ChangeSpec := { name := "safetyLists", fn := fun _ => fun
  | [d1, d2] => { results := [.lit (.bool false)], args := [d1, d2] }
  | _ => none }
def SafetyListsWrongFalsely : Prop := safetyListsRow.holds Tryz.pinned (OpenSpec.ofChange safetyListsWrong)

/-- 'tidewaylaw09.SafetyApart': WHATEVER THE INPUT: true; the input reads as it did. -/
def safetyApartSpec : ChangeSpec := { name := "safetyApart", fn := fun _ => fun
  | [d1, d2] => { results := [.lit (.bool true)], args := [d1, d2] }
  | _ => none }
def safetyApartRow : OpenClaim := { program := "ytligdjefbiebjaagreatdoor", sum := "ab1ea12398928797826227d94ff78199c1bba57e0e459646316f165d68b1ba72", func := "tideway/tidewaylaw09.SafetyApart", spec := "safetyApart", inPlace := ["internal/abi.NoEscape", "internal/bytealg.MakeNoZero"], unfollowed := true, recurses := true, named := ["internal/strconv.uint64pow10", "math/bits.deBruijn32tab", "math/bits.deBruijn64tab"], plainKeys := false, apart := false, laid := [("math/bits.deBruijn32tab", laid_math_bits_deBruijn32tab), ("math/bits.deBruijn64tab", laid_math_bits_deBruijn64tab), ("internal/strconv.uint64pow10", laid_internal_strconv_uint64pow10)] }
def SafetyApartSaid : Prop := safetyApartRow.holds Tryz.pinned (OpenSpec.ofChange safetyApartSpec)

/-- ITS FALSE NEIGHBOUR: 'it returns false'. Refute it at one input. -/
def safetyApartWrong : ChangeSpec := { name := "safetyApart", fn := fun _ => fun
  | [d1, d2] => { results := [.lit (.bool false)], args := [d1, d2] }
  | _ => none }
def SafetyApartWrongFalsely : Prop := safetyApartRow.holds Tryz.pinned (OpenSpec.ofChange safetyApartWrong)

/- THE SECOND FORM. 'bulk': how many values and letters a reading holds, each counted each time it is reached (what is shared counts as often as it is met; a slice's spare places count too). A statement '..UptoSaid' is the law's where the arguments, and the package variables that the reading takes, are together of bulk at most 1048576: NARROWER than '..Said'. Prove '..Said' where nothing that the law and all that it calls make is longer than what came in: it says more and counts as full. Else prove '..UptoSaid'. A law counts once. -/
mutual
def uptoBulk {H : Type} : DataW H → Nat
  | .lit (.string bytes) => bytes.length + 1
  | .lit _ => 1
  | .nil => 1
  | .ptr d => uptoBulk d + 1
  | .slice elems spare => uptoBulkAll elems + uptoBulkAll spare + 1
  | .agg parts => uptoBulkAll parts + 1
  | .iface _ d => uptoBulk d + 1
  | .map entries => uptoBulkEntries entries + 1
  | .held _ => 1
def uptoBulkAll {H : Type} : List (DataW H) → Nat
  | [] => 0
  | d :: r => uptoBulk d + uptoBulkAll r
def uptoBulkEntries {H : Type} : List (Lit × DataW H) → Nat
  | [] => 0
  | x :: r => uptoBulkEntry x + uptoBulkEntries r
def uptoBulkEntry {H : Type} : Lit × DataW H → Nat
  | (.string bytes, d) => bytes.length + uptoBulk d + 1
  | (_, d) => uptoBulk d + 1
 end
def uptoSmall : (H : Type) → List (DataW H) → Bool := fun _ ds => decide (uptoBulkAll ds ≤ 1048576)
def OpenSpec.upto (s : _root_.Go.ChangeSpec) : _root_.Go.OpenSpec := { _root_.Go.OpenSpec.ofChange s with cond := some uptoSmall }

/-- 'tidewaylaw09.SafetyPermits', WHERE WHAT IT READS IS OF BULK AT MOST 1048576: true; the input reads as it did. -/
def safetyPermitsUptoRow : OpenClaim := { program := "ytligdjefbiebjaagreatdoor", sum := "ab1ea12398928797826227d94ff78199c1bba57e0e459646316f165d68b1ba72", func := "tideway/tidewaylaw09.SafetyPermits", spec := "safetyPermits", inPlace := ["internal/abi.NoEscape", "internal/bytealg.MakeNoZero"], unfollowed := true, recurses := true, named := ["internal/strconv.uint64pow10", "math/bits.deBruijn32tab", "math/bits.deBruijn64tab"], plainKeys := false, apart := false, laid := [("math/bits.deBruijn32tab", laid_math_bits_deBruijn32tab), ("math/bits.deBruijn64tab", laid_math_bits_deBruijn64tab), ("internal/strconv.uint64pow10", laid_internal_strconv_uint64pow10)], narrowed := true }
def SafetyPermitsUptoSaid : Prop := safetyPermitsUptoRow.holds Tryz.pinned (OpenSpec.upto safetyPermitsSpec)

/-- 'tidewaylaw09.SafetyIssues', WHERE WHAT IT READS IS OF BULK AT MOST 1048576: true; the input reads as it did. -/
def safetyIssuesUptoRow : OpenClaim := { program := "ytligdjefbiebjaagreatdoor", sum := "ab1ea12398928797826227d94ff78199c1bba57e0e459646316f165d68b1ba72", func := "tideway/tidewaylaw09.SafetyIssues", spec := "safetyIssues", inPlace := ["internal/abi.NoEscape", "internal/bytealg.MakeNoZero"], unfollowed := true, recurses := true, named := ["internal/strconv.uint64pow10", "math/bits.deBruijn32tab", "math/bits.deBruijn64tab"], plainKeys := false, apart := false, laid := [("math/bits.deBruijn32tab", laid_math_bits_deBruijn32tab), ("math/bits.deBruijn64tab", laid_math_bits_deBruijn64tab), ("internal/strconv.uint64pow10", laid_internal_strconv_uint64pow10)], narrowed := true }
def SafetyIssuesUptoSaid : Prop := safetyIssuesUptoRow.holds Tryz.pinned (OpenSpec.upto safetyIssuesSpec)

/-- 'tidewaylaw09.SafetyEarliest', WHERE WHAT IT READS IS OF BULK AT MOST 1048576: true; the input reads as it did. -/
def safetyEarliestUptoRow : OpenClaim := { program := "ytligdjefbiebjaagreatdoor", sum := "ab1ea12398928797826227d94ff78199c1bba57e0e459646316f165d68b1ba72", func := "tideway/tidewaylaw09.SafetyEarliest", spec := "safetyEarliest", inPlace := ["internal/abi.NoEscape", "internal/bytealg.MakeNoZero"], unfollowed := true, recurses := true, named := ["internal/strconv.uint64pow10", "math/bits.deBruijn32tab", "math/bits.deBruijn64tab"], plainKeys := false, apart := false, laid := [("math/bits.deBruijn32tab", laid_math_bits_deBruijn32tab), ("math/bits.deBruijn64tab", laid_math_bits_deBruijn64tab), ("internal/strconv.uint64pow10", laid_internal_strconv_uint64pow10)], narrowed := true }
def SafetyEarliestUptoSaid : Prop := safetyEarliestUptoRow.holds Tryz.pinned (OpenSpec.upto safetyEarliestSpec)

/-- 'tidewaylaw09.SafetyCases', WHERE WHAT IT READS IS OF BULK AT MOST 1048576: true; the input reads as it did. -/
def safetyCasesUptoRow : OpenClaim := { program := "ytligdjefbiebjaagreatdoor", sum := "ab1ea12398928797826227d94ff78199c1bba57e0e459646316f165d68b1ba72", func := "tideway/tidewaylaw09.SafetyCases", spec := "safetyCases", inPlace := ["internal/abi.NoEscape", "internal/bytealg.MakeNoZero"], unfollowed := true, recurses := true, named := ["internal/strconv.uint64pow10", "math/bits.deBruijn32tab", "math/bits.deBruijn64tab"], plainKeys := false, apart := false, laid := [("math/bits.deBruijn32tab", laid_math_bits_deBruijn32tab), ("math/bits.deBruijn64tab", laid_math_bits_deBruijn64tab), ("internal/strconv.uint64pow10", laid_internal_strconv_uint64pow10)], narrowed := true }
def SafetyCasesUptoSaid : Prop := safetyCasesUptoRow.holds Tryz.pinned (OpenSpec.upto safetyCasesSpec)

/-- 'tidewaylaw09.SafetyChanges', WHERE WHAT IT READS IS OF BULK AT MOST 1048576: true; the input reads as it did. -/
def safetyChangesUptoRow : OpenClaim := { program := "ytligdjefbiebjaagreatdoor", sum := "ab1ea12398928797826227d94ff78199c1bba57e0e459646316f165d68b1ba72", func := "tideway/tidewaylaw09.SafetyChanges", spec := "safetyChanges", inPlace := ["internal/abi.NoEscape", "internal/bytealg.MakeNoZero"], unfollowed := true, recurses := true, named := ["internal/strconv.uint64pow10", "math/bits.deBruijn32tab", "math/bits.deBruijn64tab"], plainKeys := false, apart := false, laid := [("math/bits.deBruijn32tab", laid_math_bits_deBruijn32tab), ("math/bits.deBruijn64tab", laid_math_bits_deBruijn64tab), ("internal/strconv.uint64pow10", laid_internal_strconv_uint64pow10)], narrowed := true }
def SafetyChangesUptoSaid : Prop := safetyChangesUptoRow.holds Tryz.pinned (OpenSpec.upto safetyChangesSpec)

/-- 'tidewaylaw09.SafetyWaits', WHERE WHAT IT READS IS OF BULK AT MOST 1048576: true; the input reads as it did. -/
def safetyWaitsUptoRow : OpenClaim := { program := "ytligdjefbiebjaagreatdoor", sum := "ab1ea12398928797826227d94ff78199c1bba57e0e459646316f165d68b1ba72", func := "tideway/tidewaylaw09.SafetyWaits", spec := "safetyWaits", inPlace := ["internal/abi.NoEscape", "internal/bytealg.MakeNoZero"], unfollowed := true, recurses := true, named := ["internal/strconv.uint64pow10", "math/bits.deBruijn32tab", "math/bits.deBruijn64tab"], plainKeys := false, apart := false, laid := [("math/bits.deBruijn32tab", laid_math_bits_deBruijn32tab), ("math/bits.deBruijn64tab", laid_math_bits_deBruijn64tab), ("internal/strconv.uint64pow10", laid_internal_strconv_uint64pow10)], narrowed := true }
def SafetyWaitsUptoSaid : Prop := safetyWaitsUptoRow.holds Tryz.pinned (OpenSpec.upto safetyWaitsSpec)

/-- 'tidewaylaw09.SafetyRenews', WHERE WHAT IT READS IS OF BULK AT MOST 1048576: true; the input reads as it did. -/
def safetyRenewsUptoRow : OpenClaim := { program := "ytligdjefbiebjaagreatdoor", sum := "ab1ea12398928797826227d94ff78199c1bba57e0e459646316f165d68b1ba72", func := "tideway/tidewaylaw09.SafetyRenews", spec := "safetyRenews", inPlace := ["internal/abi.NoEscape", "internal/bytealg.MakeNoZero"], unfollowed := true, recurses := true, named := ["internal/strconv.uint64pow10", "math/bits.deBruijn32tab", "math/bits.deBruijn64tab"], plainKeys := false, apart := false, laid := [("math/bits.deBruijn32tab", laid_math_bits_deBruijn32tab), ("math/bits.deBruijn64tab", laid_math_bits_deBruijn64tab), ("internal/strconv.uint64pow10", laid_internal_strconv_uint64pow10)], narrowed := true }
def SafetyRenewsUptoSaid : Prop := safetyRenewsUptoRow.holds Tryz.pinned (OpenSpec.upto safetyRenewsSpec)

/-- 'tidewaylaw09.SafetySupports', WHERE WHAT IT READS IS OF BULK AT MOST 1048576: true; the input reads as it did. -/
def safetySupportsUptoRow : OpenClaim := { program := "ytligdjefbiebjaagreatdoor", sum := "ab1ea12398928797826227d94ff78199c1bba57e0e459646316f165d68b1ba72", func := "tideway/tidewaylaw09.SafetySupports", spec := "safetySupports", inPlace := ["internal/abi.NoEscape", "internal/bytealg.MakeNoZero"], unfollowed := true, recurses := true, named := ["internal/strconv.uint64pow10", "math/bits.deBruijn32tab", "math/bits.deBruijn64tab"], plainKeys := false, apart := false, laid := [("math/bits.deBruijn32tab", laid_math_bits_deBruijn32tab), ("math/bits.deBruijn64tab", laid_math_bits_deBruijn64tab), ("internal/strconv.uint64pow10", laid_internal_strconv_uint64pow10)], narrowed := true }
def SafetySupportsUptoSaid : Prop := safetySupportsUptoRow.holds Tryz.pinned (OpenSpec.upto safetySupportsSpec)

/-- 'tidewaylaw09.SafetyRests', WHERE WHAT IT READS IS OF BULK AT MOST 1048576: true; the input reads as it did. -/
def safetyRestsUptoRow : OpenClaim := { program := "ytligdjefbiebjaagreatdoor", sum := "ab1ea12398928797826227d94ff78199c1bba57e0e459646316f165d68b1ba72", func := "tideway/tidewaylaw09.SafetyRests", spec := "safetyRests", inPlace := ["internal/abi.NoEscape", "internal/bytealg.MakeNoZero"], unfollowed := true, recurses := true, named := ["internal/strconv.uint64pow10", "math/bits.deBruijn32tab", "math/bits.deBruijn64tab"], plainKeys := false, apart := false, laid := [("math/bits.deBruijn32tab", laid_math_bits_deBruijn32tab), ("math/bits.deBruijn64tab", laid_math_bits_deBruijn64tab), ("internal/strconv.uint64pow10", laid_internal_strconv_uint64pow10)], narrowed := true }
def SafetyRestsUptoSaid : Prop := safetyRestsUptoRow.holds Tryz.pinned (OpenSpec.upto safetyRestsSpec)

/-- 'tidewaylaw09.SafetyLists', WHERE WHAT IT READS IS OF BULK AT MOST 1048576: true; the input reads as it did. -/
def safetyListsUptoRow : OpenClaim := { program := "ytligdjefbiebjaagreatdoor", sum := "ab1ea12398928797826227d94ff78199c1bba57e0e459646316f165d68b1ba72", func := "tideway/tidewaylaw09.SafetyLists", spec := "safetyLists", inPlace := ["internal/abi.NoEscape", "internal/bytealg.MakeNoZero"], unfollowed := true, recurses := true, named := ["internal/strconv.uint64pow10", "math/bits.deBruijn32tab", "math/bits.deBruijn64tab"], plainKeys := false, apart := false, laid := [("math/bits.deBruijn32tab", laid_math_bits_deBruijn32tab), ("math/bits.deBruijn64tab", laid_math_bits_deBruijn64tab), ("internal/strconv.uint64pow10", laid_internal_strconv_uint64pow10)], narrowed := true }
def SafetyListsUptoSaid : Prop := safetyListsUptoRow.holds Tryz.pinned (OpenSpec.upto safetyListsSpec)

/-- 'tidewaylaw09.SafetyApart', WHERE WHAT IT READS IS OF BULK AT MOST 1048576: true; the input reads as it did. -/
def safetyApartUptoRow : OpenClaim := { program := "ytligdjefbiebjaagreatdoor", sum := "ab1ea12398928797826227d94ff78199c1bba57e0e459646316f165d68b1ba72", func := "tideway/tidewaylaw09.SafetyApart", spec := "safetyApart", inPlace := ["internal/abi.NoEscape", "internal/bytealg.MakeNoZero"], unfollowed := true, recurses := true, named := ["internal/strconv.uint64pow10", "math/bits.deBruijn32tab", "math/bits.deBruijn64tab"], plainKeys := false, apart := false, laid := [("math/bits.deBruijn32tab", laid_math_bits_deBruijn32tab), ("math/bits.deBruijn64tab", laid_math_bits_deBruijn64tab), ("internal/strconv.uint64pow10", laid_internal_strconv_uint64pow10)], narrowed := true }
def SafetyApartUptoSaid : Prop := safetyApartUptoRow.holds Tryz.pinned (OpenSpec.upto safetyApartSpec)

end Rows
end Go.Proofs.YtligdjefbiebjaaGreatDoor
