/-
  NARROWER THAN 'FOR EVERY INPUT', by the rows' own cells (each row's printed sentence says how): ClosingTimes: laid · ClosingLatest: laid · ClosingVerdicts: laid · ClosingShips: laid · ClosingBetween: laid · ClosingChains: laid · ClosingForces: laid · ClosingPassages: laid · ClosingCleared: laid · ClosingOrders: laid · ClosingEither: laid.
  DERIVED. THE GIVEN ROWS OF THIS SEAT. 11 by the template 'for every input the law returns true; each argument reads behind the call as it read before'; 0 by the template 'total and deterministic' (their statements: YtjmkmalgfanifaaGreatDoorTotals.lean).
  GIVEN WITH THE SEED: the statements are not yours to turn. If you find one false, say at which input.
  Laid BY PROGRAM, IN A SANDBOX (cutbox-rows.mjs): the forced cells as the released guide's own fill.sh prints them over the translation 058850c75b211cd8… (all of the seat's roots in one cut). By AI agents, Wed Nov 11 2026. No macro, syntax, notation, axiom, sorry.
-/
import Derived.Test.YtjmkmalgfanifaaGreatDoorChecked
import GoSem.Claim
import GoSem.ClaimJoined
import GoSem.ClaimMapViews
import Derived.JoinedTies
import Derived.KernelRfl
namespace Go.Proofs.YtjmkmalgfanifaaGreatDoor
/- THE CELL 'sum', in the pinned program and in every row, IS THE sha256 OF THE DUMP (.gsa) THAT YtjmkmalgfanifaaGreatDoorProg.lean LOADS. Nothing in Lean hashes anything: it is a label: what it is worth is what the hold of that sum in a sandbox is worth. -/
noncomputable def Tryz.pinned : Pinned := { name := "ytjmkmalgfanifaagreatdoor", sum := "058850c75b211cd8d2c3dedf17e59692b68ad136b8d65798017bb13d770f1469", checked := Tryz.checked }
namespace Rows
def none {H : Type} : Left H := { results := [], args := [] }

/- WHAT THE LISTED PACKAGE-LEVEL VARIABLES READ AS WHEN THE CALL BEGINS. Each datum BY PROGRAM (the guide's laid-datum.mjs) off the statement by which the dump's own 'gosem.cut.vars' lays the variable. In a bare row this is a premise. The card (YtjmkmalgfanifaaGreatDoorCards.lean) ties it to the program's text. -/
def laid_math_bits_deBruijn32tab {H : Type} : DataW H := .agg [.lit (.int .u8 0), .lit (.int .u8 1), .lit (.int .u8 28), .lit (.int .u8 2), .lit (.int .u8 29), .lit (.int .u8 14), .lit (.int .u8 24), .lit (.int .u8 3), .lit (.int .u8 30), .lit (.int .u8 22), .lit (.int .u8 20), .lit (.int .u8 15), .lit (.int .u8 25), .lit (.int .u8 17), .lit (.int .u8 4), .lit (.int .u8 8), .lit (.int .u8 31), .lit (.int .u8 27), .lit (.int .u8 13), .lit (.int .u8 23), .lit (.int .u8 21), .lit (.int .u8 19), .lit (.int .u8 16), .lit (.int .u8 7), .lit (.int .u8 26), .lit (.int .u8 12), .lit (.int .u8 18), .lit (.int .u8 6), .lit (.int .u8 11), .lit (.int .u8 5), .lit (.int .u8 10), .lit (.int .u8 9)]
def laid_math_bits_deBruijn64tab {H : Type} : DataW H := .agg [.lit (.int .u8 0), .lit (.int .u8 1), .lit (.int .u8 56), .lit (.int .u8 2), .lit (.int .u8 57), .lit (.int .u8 49), .lit (.int .u8 28), .lit (.int .u8 3), .lit (.int .u8 61), .lit (.int .u8 58), .lit (.int .u8 42), .lit (.int .u8 50), .lit (.int .u8 38), .lit (.int .u8 29), .lit (.int .u8 17), .lit (.int .u8 4), .lit (.int .u8 62), .lit (.int .u8 47), .lit (.int .u8 59), .lit (.int .u8 36), .lit (.int .u8 45), .lit (.int .u8 43), .lit (.int .u8 51), .lit (.int .u8 22), .lit (.int .u8 53), .lit (.int .u8 39), .lit (.int .u8 33), .lit (.int .u8 30), .lit (.int .u8 24), .lit (.int .u8 18), .lit (.int .u8 12), .lit (.int .u8 5), .lit (.int .u8 63), .lit (.int .u8 55), .lit (.int .u8 48), .lit (.int .u8 27), .lit (.int .u8 60), .lit (.int .u8 41), .lit (.int .u8 37), .lit (.int .u8 16), .lit (.int .u8 46), .lit (.int .u8 35), .lit (.int .u8 44), .lit (.int .u8 21), .lit (.int .u8 52), .lit (.int .u8 32), .lit (.int .u8 23), .lit (.int .u8 11), .lit (.int .u8 54), .lit (.int .u8 26), .lit (.int .u8 40), .lit (.int .u8 15), .lit (.int .u8 34), .lit (.int .u8 20), .lit (.int .u8 31), .lit (.int .u8 10), .lit (.int .u8 25), .lit (.int .u8 14), .lit (.int .u8 19), .lit (.int .u8 9), .lit (.int .u8 13), .lit (.int .u8 8), .lit (.int .u8 7), .lit (.int .u8 6)]
def laid_internal_strconv_uint64pow10 {H : Type} : DataW H := .agg [.lit (.int .u64 1), .lit (.int .u64 10), .lit (.int .u64 100), .lit (.int .u64 1000), .lit (.int .u64 10000), .lit (.int .u64 100000), .lit (.int .u64 1000000), .lit (.int .u64 10000000), .lit (.int .u64 100000000), .lit (.int .u64 1000000000), .lit (.int .u64 10000000000), .lit (.int .u64 100000000000), .lit (.int .u64 1000000000000), .lit (.int .u64 10000000000000), .lit (.int .u64 100000000000000), .lit (.int .u64 1000000000000000), .lit (.int .u64 10000000000000000), .lit (.int .u64 100000000000000000), .lit (.int .u64 1000000000000000000), .lit (.int .u64 10000000000000000000)]
def laid_tideway_closing_nobody {H : Type} : DataW H := .agg [.lit (.int .i64 (-1)), .lit (.int .i64 0)]
def laid_tideway_closing_verdicts {H : Type} : DataW H := .iface "func table" (.agg [.agg [.lit (.string [107, 101, 112, 116]), .iface "func" (.lit (.string [116, 105, 100, 101, 119, 97, 121, 47, 99, 108, 111, 115, 105, 110, 103, 46, 118, 101, 114, 100, 105, 99, 116, 115, 36, 49]))], .agg [.lit (.string [109, 105, 115, 115, 101, 100]), .iface "func" (.lit (.string [116, 105, 100, 101, 119, 97, 121, 47, 99, 108, 111, 115, 105, 110, 103, 46, 118, 101, 114, 100, 105, 99, 116, 115, 36, 50]))], .agg [.lit (.string [111, 112, 101, 110]), .iface "func" (.lit (.string [116, 105, 100, 101, 119, 97, 121, 47, 99, 108, 111, 115, 105, 110, 103, 46, 118, 101, 114, 100, 105, 99, 116, 115, 36, 51]))]])

/-- 'tidewaylaw08.ClosingTimes': WHATEVER THE INPUT: true; the input reads as it did. -/
def closingTimesSpec : ChangeSpec := { name := "closingTimes", fn := fun _ => fun
  | [d1, d2] => { results := [.lit (.bool true)], args := [d1, d2] }
  | _ => none }
def closingTimesRow : OpenClaim := { program := "ytjmkmalgfanifaagreatdoor", sum := "058850c75b211cd8d2c3dedf17e59692b68ad136b8d65798017bb13d770f1469", func := "tideway/tidewaylaw08.ClosingTimes", spec := "closingTimes", inPlace := ["internal/abi.NoEscape", "internal/bytealg.MakeNoZero"], unfollowed := true, recurses := true, named := ["tideway/closing.verdicts", "tideway/closing.nobody", "internal/strconv.uint64pow10", "math/bits.deBruijn32tab", "math/bits.deBruijn64tab"], apart := false, laid := [("math/bits.deBruijn32tab", laid_math_bits_deBruijn32tab), ("math/bits.deBruijn64tab", laid_math_bits_deBruijn64tab), ("internal/strconv.uint64pow10", laid_internal_strconv_uint64pow10), ("tideway/closing.nobody", laid_tideway_closing_nobody), ("tideway/closing.verdicts", laid_tideway_closing_verdicts)] }
def ClosingTimesSaid : Prop := closingTimesRow.holds Tryz.pinned (OpenSpec.ofChange closingTimesSpec)

/-- ITS FALSE NEIGHBOUR: 'it returns false'. Refute it at one input. -/
def closingTimesWrong : ChangeSpec := { name := "closingTimes", fn := fun _ => fun
  | [d1, d2] => { results := [.lit (.bool false)], args := [d1, d2] }
  | _ => none }
def ClosingTimesWrongFalsely : Prop := closingTimesRow.holds Tryz.pinned (OpenSpec.ofChange closingTimesWrong)

/-- 'tidewaylaw08.ClosingLatest': WHATEVER THE INPUT: true; the input reads as it did. -/
def closingLatestSpec : ChangeSpec := { name := "closingLatest", fn := fun _ => fun
  | [d1, d2] => { results := [.lit (.bool true)], args := [d1, d2] }
  | _ => none }
def closingLatestRow : OpenClaim := { program := "ytjmkmalgfanifaagreatdoor", sum := "058850c75b211cd8d2c3dedf17e59692b68ad136b8d65798017bb13d770f1469", func := "tideway/tidewaylaw08.ClosingLatest", spec := "closingLatest", inPlace := ["internal/abi.NoEscape", "internal/bytealg.MakeNoZero"], unfollowed := true, recurses := true, named := ["tideway/closing.verdicts", "tideway/closing.nobody", "internal/strconv.uint64pow10", "math/bits.deBruijn32tab", "math/bits.deBruijn64tab"], apart := false, laid := [("math/bits.deBruijn32tab", laid_math_bits_deBruijn32tab), ("math/bits.deBruijn64tab", laid_math_bits_deBruijn64tab), ("internal/strconv.uint64pow10", laid_internal_strconv_uint64pow10), ("tideway/closing.nobody", laid_tideway_closing_nobody), ("tideway/closing.verdicts", laid_tideway_closing_verdicts)] }
def ClosingLatestSaid : Prop := closingLatestRow.holds Tryz.pinned (OpenSpec.ofChange closingLatestSpec)

/-- ITS FALSE NEIGHBOUR: 'it returns false'. Refute it at one input. -/
def closingLatestWrong : ChangeSpec := { name := "closingLatest", fn := fun _ => fun
  | [d1, d2] => { results := [.lit (.bool false)], args := [d1, d2] }
  | _ => none }
def ClosingLatestWrongFalsely : Prop := closingLatestRow.holds Tryz.pinned (OpenSpec.ofChange closingLatestWrong)

/-- 'tidewaylaw08.ClosingVerdicts': WHATEVER THE INPUT: true; the input reads as it did. -/
def closingVerdictsSpec : ChangeSpec := { name := "closingVerdicts", fn := fun _ => fun
  | [d1, d2, d3] => { results := [.lit (.bool true)], args := [d1, d2, d3] }
  | _ => none }
def closingVerdictsRow : OpenClaim := { program := "ytjmkmalgfanifaagreatdoor", sum := "058850c75b211cd8d2c3dedf17e59692b68ad136b8d65798017bb13d770f1469", func := "tideway/tidewaylaw08.ClosingVerdicts", spec := "closingVerdicts", inPlace := ["internal/abi.NoEscape", "internal/bytealg.MakeNoZero"], unfollowed := true, recurses := true, named := ["tideway/closing.verdicts", "tideway/closing.nobody", "internal/strconv.uint64pow10", "math/bits.deBruijn32tab", "math/bits.deBruijn64tab"], apart := false, laid := [("math/bits.deBruijn32tab", laid_math_bits_deBruijn32tab), ("math/bits.deBruijn64tab", laid_math_bits_deBruijn64tab), ("internal/strconv.uint64pow10", laid_internal_strconv_uint64pow10), ("tideway/closing.nobody", laid_tideway_closing_nobody), ("tideway/closing.verdicts", laid_tideway_closing_verdicts)] }
def ClosingVerdictsSaid : Prop := closingVerdictsRow.holds Tryz.pinned (OpenSpec.ofChange closingVerdictsSpec)

/-- ITS FALSE NEIGHBOUR: 'it returns false'. Refute it at one input. -/
def closingVerdictsWrong : ChangeSpec := { name := "closingVerdicts", fn := fun _ => fun
  | [d1, d2, d3] => { results := [.lit (.bool false)], args := [d1, d2, d3] }
  | _ => none }
def ClosingVerdictsWrongFalsely : Prop := closingVerdictsRow.holds Tryz.pinned (OpenSpec.ofChange closingVerdictsWrong)

/-- 'tidewaylaw08.ClosingShips': WHATEVER THE INPUT: true; the input reads as it did. -/
def closingShipsSpec : ChangeSpec := { name := "closingShips", fn := fun _ => fun
  | [d1, d2, d3] => { results := [.lit (.bool true)], args := [d1, d2, d3] }
  | _ => none }
def closingShipsRow : OpenClaim := { program := "ytjmkmalgfanifaagreatdoor", sum := "058850c75b211cd8d2c3dedf17e59692b68ad136b8d65798017bb13d770f1469", func := "tideway/tidewaylaw08.ClosingShips", spec := "closingShips", inPlace := ["internal/abi.NoEscape", "internal/bytealg.MakeNoZero"], unfollowed := true, recurses := true, named := ["tideway/closing.verdicts", "tideway/closing.nobody", "internal/strconv.uint64pow10", "math/bits.deBruijn32tab", "math/bits.deBruijn64tab"], apart := false, laid := [("math/bits.deBruijn32tab", laid_math_bits_deBruijn32tab), ("math/bits.deBruijn64tab", laid_math_bits_deBruijn64tab), ("internal/strconv.uint64pow10", laid_internal_strconv_uint64pow10), ("tideway/closing.nobody", laid_tideway_closing_nobody), ("tideway/closing.verdicts", laid_tideway_closing_verdicts)] }
def ClosingShipsSaid : Prop := closingShipsRow.holds Tryz.pinned (OpenSpec.ofChange closingShipsSpec)

/-- ITS FALSE NEIGHBOUR: 'it returns false'. Refute it at one input. -/
def closingShipsWrong : ChangeSpec := { name := "closingShips", fn := fun _ => fun
  | [d1, d2, d3] => { results := [.lit (.bool false)], args := [d1, d2, d3] }
  | _ => none }
def ClosingShipsWrongFalsely : Prop := closingShipsRow.holds Tryz.pinned (OpenSpec.ofChange closingShipsWrong)

/-- 'tidewaylaw08.ClosingBetween': WHATEVER THE INPUT: true; the input reads as it did. -/
def closingBetweenSpec : ChangeSpec := { name := "closingBetween", fn := fun _ => fun
  | [d1, d2, d3] => { results := [.lit (.bool true)], args := [d1, d2, d3] }
  | _ => none }
def closingBetweenRow : OpenClaim := { program := "ytjmkmalgfanifaagreatdoor", sum := "058850c75b211cd8d2c3dedf17e59692b68ad136b8d65798017bb13d770f1469", func := "tideway/tidewaylaw08.ClosingBetween", spec := "closingBetween", inPlace := ["internal/abi.NoEscape", "internal/bytealg.MakeNoZero"], unfollowed := true, recurses := true, named := ["tideway/closing.verdicts", "tideway/closing.nobody", "internal/strconv.uint64pow10", "math/bits.deBruijn32tab", "math/bits.deBruijn64tab"], apart := false, laid := [("math/bits.deBruijn32tab", laid_math_bits_deBruijn32tab), ("math/bits.deBruijn64tab", laid_math_bits_deBruijn64tab), ("internal/strconv.uint64pow10", laid_internal_strconv_uint64pow10), ("tideway/closing.nobody", laid_tideway_closing_nobody), ("tideway/closing.verdicts", laid_tideway_closing_verdicts)] }
def ClosingBetweenSaid : Prop := closingBetweenRow.holds Tryz.pinned (OpenSpec.ofChange closingBetweenSpec)

/-- ITS FALSE NEIGHBOUR: 'it returns false'. Refute it at one input. -/
def closingBetweenWrong : ChangeSpec := { name := "closingBetween", fn := fun _ => fun
  | [d1, d2, d3] => { results := [.lit (.bool false)], args := [d1, d2, d3] }
  | _ => none }
def ClosingBetweenWrongFalsely : Prop := closingBetweenRow.holds Tryz.pinned (OpenSpec.ofChange closingBetweenWrong)

/-- 'tidewaylaw08.ClosingChains': WHATEVER THE INPUT: true; the input reads as it did. -/
def closingChainsSpec : ChangeSpec := { name := "closingChains", fn := fun _ => fun
  | [d1, d2, d3] => { results := [.lit (.bool true)], args := [d1, d2, d3] }
  | _ => none }
def closingChainsRow : OpenClaim := { program := "ytjmkmalgfanifaagreatdoor", sum := "058850c75b211cd8d2c3dedf17e59692b68ad136b8d65798017bb13d770f1469", func := "tideway/tidewaylaw08.ClosingChains", spec := "closingChains", inPlace := ["internal/abi.NoEscape", "internal/bytealg.MakeNoZero"], unfollowed := true, recurses := true, named := ["tideway/closing.verdicts", "tideway/closing.nobody", "internal/strconv.uint64pow10", "math/bits.deBruijn32tab", "math/bits.deBruijn64tab"], apart := false, laid := [("math/bits.deBruijn32tab", laid_math_bits_deBruijn32tab), ("math/bits.deBruijn64tab", laid_math_bits_deBruijn64tab), ("internal/strconv.uint64pow10", laid_internal_strconv_uint64pow10), ("tideway/closing.nobody", laid_tideway_closing_nobody), ("tideway/closing.verdicts", laid_tideway_closing_verdicts)] }
def ClosingChainsSaid : Prop := closingChainsRow.holds Tryz.pinned (OpenSpec.ofChange closingChainsSpec)

/-- ITS FALSE NEIGHBOUR: 'it returns false'. Refute it at one input. -/
def closingChainsWrong : ChangeSpec := { name := "closingChains", fn := fun _ => fun
  | [d1, d2, d3] => { results := [.lit (.bool false)], args := [d1, d2, d3] }
  | _ => none }
def ClosingChainsWrongFalsely : Prop := closingChainsRow.holds Tryz.pinned (OpenSpec.ofChange closingChainsWrong)

/-- 'tidewaylaw08.ClosingForces': WHATEVER THE INPUT: true; the input reads as it did. -/
def closingForcesSpec : ChangeSpec := { name := "closingForces", fn := fun _ => fun
  | [d1, d2, d3] => { results := [.lit (.bool true)], args := [d1, d2, d3] }
  | _ => none }
def closingForcesRow : OpenClaim := { program := "ytjmkmalgfanifaagreatdoor", sum := "058850c75b211cd8d2c3dedf17e59692b68ad136b8d65798017bb13d770f1469", func := "tideway/tidewaylaw08.ClosingForces", spec := "closingForces", inPlace := ["internal/abi.NoEscape", "internal/bytealg.MakeNoZero"], unfollowed := true, recurses := true, named := ["tideway/closing.verdicts", "tideway/closing.nobody", "internal/strconv.uint64pow10", "math/bits.deBruijn32tab", "math/bits.deBruijn64tab"], apart := false, laid := [("math/bits.deBruijn32tab", laid_math_bits_deBruijn32tab), ("math/bits.deBruijn64tab", laid_math_bits_deBruijn64tab), ("internal/strconv.uint64pow10", laid_internal_strconv_uint64pow10), ("tideway/closing.nobody", laid_tideway_closing_nobody), ("tideway/closing.verdicts", laid_tideway_closing_verdicts)] }
def ClosingForcesSaid : Prop := closingForcesRow.holds Tryz.pinned (OpenSpec.ofChange closingForcesSpec)

/-- ITS FALSE NEIGHBOUR: 'it returns false'. Refute it at one input. -/
def closingForcesWrong : ChangeSpec := { name := "closingForces", fn := fun _ => fun
  | [d1, d2, d3] => { results := [.lit (.bool false)], args := [d1, d2, d3] }
  | _ => none }
def ClosingForcesWrongFalsely : Prop := closingForcesRow.holds Tryz.pinned (OpenSpec.ofChange closingForcesWrong)

/-- 'tidewaylaw08.ClosingPassages': WHATEVER THE INPUT: true; the input reads as it did. -/
def closingPassagesSpec : ChangeSpec := { name := "closingPassages", fn := fun _ => fun
  | [d1, d2, d3] => { results := [.lit (.bool true)], args := [d1, d2, d3] }
  | _ => none }
def closingPassagesRow : OpenClaim := { program := "ytjmkmalgfanifaagreatdoor", sum := "058850c75b211cd8d2c3dedf17e59692b68ad136b8d65798017bb13d770f1469", func := "tideway/tidewaylaw08.ClosingPassages", spec := "closingPassages", inPlace := ["internal/abi.NoEscape", "internal/bytealg.MakeNoZero"], unfollowed := true, recurses := true, named := ["tideway/closing.verdicts", "tideway/closing.nobody", "internal/strconv.uint64pow10", "math/bits.deBruijn32tab", "math/bits.deBruijn64tab"], apart := false, laid := [("math/bits.deBruijn32tab", laid_math_bits_deBruijn32tab), ("math/bits.deBruijn64tab", laid_math_bits_deBruijn64tab), ("internal/strconv.uint64pow10", laid_internal_strconv_uint64pow10), ("tideway/closing.nobody", laid_tideway_closing_nobody), ("tideway/closing.verdicts", laid_tideway_closing_verdicts)] }
def ClosingPassagesSaid : Prop := closingPassagesRow.holds Tryz.pinned (OpenSpec.ofChange closingPassagesSpec)

/-- ITS FALSE NEIGHBOUR: 'it returns false'. Refute it at one input. -/
def closingPassagesWrong : ChangeSpec := { name := "closingPassages", fn := fun _ => fun
  | [d1, d2, d3] => { results := [.lit (.bool false)], args := [d1, d2, d3] }
  | _ => none }
def ClosingPassagesWrongFalsely : Prop := closingPassagesRow.holds Tryz.pinned (OpenSpec.ofChange closingPassagesWrong)

/-- 'tidewaylaw08.ClosingCleared': WHATEVER THE INPUT: true; the input reads as it did. -/
def closingClearedSpec : ChangeSpec := { name := "closingCleared", fn := fun _ => fun
  | [d1, d2, d3] => { results := [.lit (.bool true)], args := [d1, d2, d3] }
  | _ => none }
def closingClearedRow : OpenClaim := { program := "ytjmkmalgfanifaagreatdoor", sum := "058850c75b211cd8d2c3dedf17e59692b68ad136b8d65798017bb13d770f1469", func := "tideway/tidewaylaw08.ClosingCleared", spec := "closingCleared", inPlace := ["internal/abi.NoEscape", "internal/bytealg.MakeNoZero"], unfollowed := true, recurses := true, named := ["tideway/closing.verdicts", "tideway/closing.nobody", "internal/strconv.uint64pow10", "math/bits.deBruijn32tab", "math/bits.deBruijn64tab"], apart := false, laid := [("math/bits.deBruijn32tab", laid_math_bits_deBruijn32tab), ("math/bits.deBruijn64tab", laid_math_bits_deBruijn64tab), ("internal/strconv.uint64pow10", laid_internal_strconv_uint64pow10), ("tideway/closing.nobody", laid_tideway_closing_nobody), ("tideway/closing.verdicts", laid_tideway_closing_verdicts)] }
def ClosingClearedSaid : Prop := closingClearedRow.holds Tryz.pinned (OpenSpec.ofChange closingClearedSpec)

/-- ITS FALSE NEIGHBOUR: 'it returns false'. Refute it at one input. -/
def closingClearedWrong : ChangeSpec := { name := "closingCleared", fn := fun _ => fun
  | [d1, d2, d3] => { results := [.lit (.bool false)], args := [d1, d2, d3] }
  | _ => none }
def ClosingClearedWrongFalsely : Prop := closingClearedRow.holds Tryz.pinned (OpenSpec.ofChange closingClearedWrong)

/-- 'tidewaylaw08.ClosingOrders': WHATEVER THE INPUT: true; the input reads as it did. -/
def closingOrdersSpec : ChangeSpec := { name := "closingOrders", fn := fun _ => fun
  | [d1, d2, d3] => { results := [.lit (.bool true)], args := [d1, d2, d3] }
  | _ => none }
def closingOrdersRow : OpenClaim := { program := "ytjmkmalgfanifaagreatdoor", sum := "058850c75b211cd8d2c3dedf17e59692b68ad136b8d65798017bb13d770f1469", func := "tideway/tidewaylaw08.ClosingOrders", spec := "closingOrders", inPlace := ["internal/abi.NoEscape", "internal/bytealg.MakeNoZero"], unfollowed := true, recurses := true, named := ["tideway/closing.verdicts", "tideway/closing.nobody", "internal/strconv.uint64pow10", "math/bits.deBruijn32tab", "math/bits.deBruijn64tab"], apart := false, laid := [("math/bits.deBruijn32tab", laid_math_bits_deBruijn32tab), ("math/bits.deBruijn64tab", laid_math_bits_deBruijn64tab), ("internal/strconv.uint64pow10", laid_internal_strconv_uint64pow10), ("tideway/closing.nobody", laid_tideway_closing_nobody), ("tideway/closing.verdicts", laid_tideway_closing_verdicts)] }
def ClosingOrdersSaid : Prop := closingOrdersRow.holds Tryz.pinned (OpenSpec.ofChange closingOrdersSpec)

/-- ITS FALSE NEIGHBOUR: 'it returns false'. Refute it at one input. -/
def closingOrdersWrong : ChangeSpec := { name := "closingOrders", fn := fun _ => fun
  | [d1, d2, d3] => { results := [.lit (.bool false)], args := [d1, d2, d3] }
  | _ => none }
def ClosingOrdersWrongFalsely : Prop := closingOrdersRow.holds Tryz.pinned (OpenSpec.ofChange closingOrdersWrong)

/-- 'tidewaylaw08.ClosingEither': WHATEVER THE INPUT: true; the input reads as it did. -/
def closingEitherSpec : ChangeSpec := { name := "closingEither", fn := fun _ => fun
  | [d1, d2] => { results := [.lit (.bool true)], args := [d1, d2] }
  | _ => none }
def closingEitherRow : OpenClaim := { program := "ytjmkmalgfanifaagreatdoor", sum := "058850c75b211cd8d2c3dedf17e59692b68ad136b8d65798017bb13d770f1469", func := "tideway/tidewaylaw08.ClosingEither", spec := "closingEither", inPlace := ["internal/abi.NoEscape", "internal/bytealg.MakeNoZero"], unfollowed := true, recurses := true, named := ["tideway/closing.verdicts", "tideway/closing.nobody", "internal/strconv.uint64pow10", "math/bits.deBruijn32tab", "math/bits.deBruijn64tab"], apart := false, laid := [("math/bits.deBruijn32tab", laid_math_bits_deBruijn32tab), ("math/bits.deBruijn64tab", laid_math_bits_deBruijn64tab), ("internal/strconv.uint64pow10", laid_internal_strconv_uint64pow10), ("tideway/closing.nobody", laid_tideway_closing_nobody), ("tideway/closing.verdicts", laid_tideway_closing_verdicts)] }
def ClosingEitherSaid : Prop := closingEitherRow.holds Tryz.pinned (OpenSpec.ofChange closingEitherSpec)

/-- ITS FALSE NEIGHBOUR: 'it returns false'. Refute it at one input. -/
def closingEitherWrong : ChangeSpec := { name := "closingEither", fn := fun _ => fun
  | [d1, d2] => { results := [.lit (.bool false)], args := [d1, d2] }
  | _ => none }
def ClosingEitherWrongFalsely : Prop := closingEitherRow.holds Tryz.pinned (OpenSpec.ofChange closingEitherWrong)

/- THE SECOND FORM. 'bulk': how many values and letters a reading holds, each counted each time it is reached (what is shared counts as often as it is met; a slice's spare places count too). A statement '..UptoSaid' is the law's where the arguments, and the package variables that the reading takes, are together of bulk at most 1048576: NARROWER than '..Said'. Prove '..Said' where nothing that the law and all that it calls make is longer than what came in: it says more and counts as full. Else prove '..UptoSaid'. A law counts once. -/
mutual
def uptoBulk {H : Type} : DataW H → Nat
  | .lit (.string bytes) => bytes.length + 1
  | .lit _ => 1
  | .nil => 1
  | .ptr d => uptoBulk d + 1
  | .slice elems spare => uptoBulkAll elems + uptoBulkAll spare + 1
  | .agg parts => uptoBulkAll parts + 1
  | .iface _ d => uptoBulk d + 1
  | .map entries => uptoBulkEntries entries + 1
  | .held _ => 1
def uptoBulkAll {H : Type} : List (DataW H) → Nat
  | [] => 0
  | d :: r => uptoBulk d + uptoBulkAll r
def uptoBulkEntries {H : Type} : List (Lit × DataW H) → Nat
  | [] => 0
  | x :: r => uptoBulkEntry x + uptoBulkEntries r
def uptoBulkEntry {H : Type} : Lit × DataW H → Nat
  | (.string bytes, d) => bytes.length + uptoBulk d + 1
  | (_, d) => uptoBulk d + 1
 end
def uptoSmall : (H : Type) → List (DataW H) → Bool := fun _ ds => decide (uptoBulkAll ds ≤ 1048576)
def OpenSpec.upto (s : _root_.Go.ChangeSpec) : _root_.Go.OpenSpec := { _root_.Go.OpenSpec.ofChange s with cond := some uptoSmall }

/-- 'tidewaylaw08.ClosingTimes', WHERE WHAT IT READS IS OF BULK AT MOST 1048576: true; the input reads as it did. -/
def closingTimesUptoRow : OpenClaim := { program := "ytjmkmalgfanifaagreatdoor", sum := "058850c75b211cd8d2c3dedf17e59692b68ad136b8d65798017bb13d770f1469", func := "tideway/tidewaylaw08.ClosingTimes", spec := "closingTimes", inPlace := ["internal/abi.NoEscape", "internal/bytealg.MakeNoZero"], unfollowed := true, recurses := true, named := ["tideway/closing.verdicts", "tideway/closing.nobody", "internal/strconv.uint64pow10", "math/bits.deBruijn32tab", "math/bits.deBruijn64tab"], apart := false, laid := [("math/bits.deBruijn32tab", laid_math_bits_deBruijn32tab), ("math/bits.deBruijn64tab", laid_math_bits_deBruijn64tab), ("internal/strconv.uint64pow10", laid_internal_strconv_uint64pow10), ("tideway/closing.nobody", laid_tideway_closing_nobody), ("tideway/closing.verdicts", laid_tideway_closing_verdicts)], narrowed := true }
def ClosingTimesUptoSaid : Prop := closingTimesUptoRow.holds Tryz.pinned (OpenSpec.upto closingTimesSpec)

/-- 'tidewaylaw08.ClosingLatest', WHERE WHAT IT READS IS OF BULK AT MOST 1048576: true; the input reads as it did. -/
def closingLatestUptoRow : OpenClaim := { program := "ytjmkmalgfanifaagreatdoor", sum := "058850c75b211cd8d2c3dedf17e59692b68ad136b8d65798017bb13d770f1469", func := "tideway/tidewaylaw08.ClosingLatest", spec := "closingLatest", inPlace := ["internal/abi.NoEscape", "internal/bytealg.MakeNoZero"], unfollowed := true, recurses := true, named := ["tideway/closing.verdicts", "tideway/closing.nobody", "internal/strconv.uint64pow10", "math/bits.deBruijn32tab", "math/bits.deBruijn64tab"], apart := false, laid := [("math/bits.deBruijn32tab", laid_math_bits_deBruijn32tab), ("math/bits.deBruijn64tab", laid_math_bits_deBruijn64tab), ("internal/strconv.uint64pow10", laid_internal_strconv_uint64pow10), ("tideway/closing.nobody", laid_tideway_closing_nobody), ("tideway/closing.verdicts", laid_tideway_closing_verdicts)], narrowed := true }
def ClosingLatestUptoSaid : Prop := closingLatestUptoRow.holds Tryz.pinned (OpenSpec.upto closingLatestSpec)

/-- 'tidewaylaw08.ClosingVerdicts', WHERE WHAT IT READS IS OF BULK AT MOST 1048576: true; the input reads as it did. -/
def closingVerdictsUptoRow : OpenClaim := { program := "ytjmkmalgfanifaagreatdoor", sum := "058850c75b211cd8d2c3dedf17e59692b68ad136b8d65798017bb13d770f1469", func := "tideway/tidewaylaw08.ClosingVerdicts", spec := "closingVerdicts", inPlace := ["internal/abi.NoEscape", "internal/bytealg.MakeNoZero"], unfollowed := true, recurses := true, named := ["tideway/closing.verdicts", "tideway/closing.nobody", "internal/strconv.uint64pow10", "math/bits.deBruijn32tab", "math/bits.deBruijn64tab"], apart := false, laid := [("math/bits.deBruijn32tab", laid_math_bits_deBruijn32tab), ("math/bits.deBruijn64tab", laid_math_bits_deBruijn64tab), ("internal/strconv.uint64pow10", laid_internal_strconv_uint64pow10), ("tideway/closing.nobody", laid_tideway_closing_nobody), ("tideway/closing.verdicts", laid_tideway_closing_verdicts)], narrowed := true }
def ClosingVerdictsUptoSaid : Prop := closingVerdictsUptoRow.holds Tryz.pinned (OpenSpec.upto closingVerdictsSpec)

/-- 'tidewaylaw08.ClosingShips', WHERE WHAT IT READS IS OF BULK AT MOST 1048576: true; the input reads as it did. -/
def closingShipsUptoRow : OpenClaim := { program := "ytjmkmalgfanifaagreatdoor", sum := "058850c75b211cd8d2c3dedf17e59692b68ad136b8d65798017bb13d770f1469", func := "tideway/tidewaylaw08.ClosingShips", spec := "closingShips", inPlace := ["internal/abi.NoEscape", "internal/bytealg.MakeNoZero"], unfollowed := true, recurses := true, named := ["tideway/closing.verdicts", "tideway/closing.nobody", "internal/strconv.uint64pow10", "math/bits.deBruijn32tab", "math/bits.deBruijn64tab"], apart := false, laid := [("math/bits.deBruijn32tab", laid_math_bits_deBruijn32tab), ("math/bits.deBruijn64tab", laid_math_bits_deBruijn64tab), ("internal/strconv.uint64pow10", laid_internal_strconv_uint64pow10), ("tideway/closing.nobody", laid_tideway_closing_nobody), ("tideway/closing.verdicts", laid_tideway_closing_verdicts)], narrowed := true }
def ClosingShipsUptoSaid : Prop := closingShipsUptoRow.holds Tryz.pinned (OpenSpec.upto closingShipsSpec)

/-- 'tidewaylaw08.ClosingBetween', WHERE WHAT IT READS IS OF BULK AT MOST 1048576: true; the input reads as it did. -/
def closingBetweenUptoRow : OpenClaim := { program := "ytjmkmalgfanifaagreatdoor", sum := "058850c75b211cd8d2c3dedf17e59692b68ad136b8d65798017bb13d770f1469", func := "tideway/tidewaylaw08.ClosingBetween", spec := "closingBetween", inPlace := ["internal/abi.NoEscape", "internal/bytealg.MakeNoZero"], unfollowed := true, recurses := true, named := ["tideway/closing.verdicts", "tideway/closing.nobody", "internal/strconv.uint64pow10", "math/bits.deBruijn32tab", "math/bits.deBruijn64tab"], apart := false, laid := [("math/bits.deBruijn32tab", laid_math_bits_deBruijn32tab), ("math/bits.deBruijn64tab", laid_math_bits_deBruijn64tab), ("internal/strconv.uint64pow10", laid_internal_strconv_uint64pow10), ("tideway/closing.nobody", laid_tideway_closing_nobody), ("tideway/closing.verdicts", laid_tideway_closing_verdicts)], narrowed := true }
def ClosingBetweenUptoSaid : Prop := closingBetweenUptoRow.holds Tryz.pinned (OpenSpec.upto closingBetweenSpec)

/-- 'tidewaylaw08.ClosingChains', WHERE WHAT IT READS IS OF BULK AT MOST 1048576: true; the input reads as it did. -/
def closingChainsUptoRow : OpenClaim := { program := "ytjmkmalgfanifaagreatdoor", sum := "058850c75b211cd8d2c3dedf17e59692b68ad136b8d65798017bb13d770f1469", func := "tideway/tidewaylaw08.ClosingChains", spec := "closingChains", inPlace := ["internal/abi.NoEscape", "internal/bytealg.MakeNoZero"], unfollowed := true, recurses := true, named := ["tideway/closing.verdicts", "tideway/closing.nobody", "internal/strconv.uint64pow10", "math/bits.deBruijn32tab", "math/bits.deBruijn64tab"], apart := false, laid := [("math/bits.deBruijn32tab", laid_math_bits_deBruijn32tab), ("math/bits.deBruijn64tab", laid_math_bits_deBruijn64tab), ("internal/strconv.uint64pow10", laid_internal_strconv_uint64pow10), ("tideway/closing.nobody", laid_tideway_closing_nobody), ("tideway/closing.verdicts", laid_tideway_closing_verdicts)], narrowed := true }
def ClosingChainsUptoSaid : Prop := closingChainsUptoRow.holds Tryz.pinned (OpenSpec.upto closingChainsSpec)

/-- 'tidewaylaw08.ClosingForces', WHERE WHAT IT READS IS OF BULK AT MOST 1048576: true; the input reads as it did. -/
def closingForcesUptoRow : OpenClaim := { program := "ytjmkmalgfanifaagreatdoor", sum := "058850c75b211cd8d2c3dedf17e59692b68ad136b8d65798017bb13d770f1469", func := "tideway/tidewaylaw08.ClosingForces", spec := "closingForces", inPlace := ["internal/abi.NoEscape", "internal/bytealg.MakeNoZero"], unfollowed := true, recurses := true, named := ["tideway/closing.verdicts", "tideway/closing.nobody", "internal/strconv.uint64pow10", "math/bits.deBruijn32tab", "math/bits.deBruijn64tab"], apart := false, laid := [("math/bits.deBruijn32tab", laid_math_bits_deBruijn32tab), ("math/bits.deBruijn64tab", laid_math_bits_deBruijn64tab), ("internal/strconv.uint64pow10", laid_internal_strconv_uint64pow10), ("tideway/closing.nobody", laid_tideway_closing_nobody), ("tideway/closing.verdicts", laid_tideway_closing_verdicts)], narrowed := true }
def ClosingForcesUptoSaid : Prop := closingForcesUptoRow.holds Tryz.pinned (OpenSpec.upto closingForcesSpec)

/-- 'tidewaylaw08.ClosingPassages', WHERE WHAT IT READS IS OF BULK AT MOST 1048576: true; the input reads as it did. -/
def closingPassagesUptoRow : OpenClaim := { program := "ytjmkmalgfanifaagreatdoor", sum := "058850c75b211cd8d2c3dedf17e59692b68ad136b8d65798017bb13d770f1469", func := "tideway/tidewaylaw08.ClosingPassages", spec := "closingPassages", inPlace := ["internal/abi.NoEscape", "internal/bytealg.MakeNoZero"], unfollowed := true, recurses := true, named := ["tideway/closing.verdicts", "tideway/closing.nobody", "internal/strconv.uint64pow10", "math/bits.deBruijn32tab", "math/bits.deBruijn64tab"], apart := false, laid := [("math/bits.deBruijn32tab", laid_math_bits_deBruijn32tab), ("math/bits.deBruijn64tab", laid_math_bits_deBruijn64tab), ("internal/strconv.uint64pow10", laid_internal_strconv_uint64pow10), ("tideway/closing.nobody", laid_tideway_closing_nobody), ("tideway/closing.verdicts", laid_tideway_closing_verdicts)], narrowed := true }
def ClosingPassagesUptoSaid : Prop := closingPassagesUptoRow.holds Tryz.pinned (OpenSpec.upto closingPassagesSpec)

/-- 'tidewaylaw08.ClosingCleared', WHERE WHAT IT READS IS OF BULK AT MOST 1048576: true; the input reads as it did. -/
def closingClearedUptoRow : OpenClaim := { program := "ytjmkmalgfanifaagreatdoor", sum := "058850c75b211cd8d2c3dedf17e59692b68ad136b8d65798017bb13d770f1469", func := "tideway/tidewaylaw08.ClosingCleared", spec := "closingCleared", inPlace := ["internal/abi.NoEscape", "internal/bytealg.MakeNoZero"], unfollowed := true, recurses := true, named := ["tideway/closing.verdicts", "tideway/closing.nobody", "internal/strconv.uint64pow10", "math/bits.deBruijn32tab", "math/bits.deBruijn64tab"], apart := false, laid := [("math/bits.deBruijn32tab", laid_math_bits_deBruijn32tab), ("math/bits.deBruijn64tab", laid_math_bits_deBruijn64tab), ("internal/strconv.uint64pow10", laid_internal_strconv_uint64pow10), ("tideway/closing.nobody", laid_tideway_closing_nobody), ("tideway/closing.verdicts", laid_tideway_closing_verdicts)], narrowed := true }
def ClosingClearedUptoSaid : Prop := closingClearedUptoRow.holds Tryz.pinned (OpenSpec.upto closingClearedSpec)

/-- 'tidewaylaw08.ClosingOrders', WHERE WHAT IT READS IS OF BULK AT MOST 1048576: true; the input reads as it did. -/
def closingOrdersUptoRow : OpenClaim := { program := "ytjmkmalgfanifaagreatdoor", sum := "058850c75b211cd8d2c3dedf17e59692b68ad136b8d65798017bb13d770f1469", func := "tideway/tidewaylaw08.ClosingOrders", spec := "closingOrders", inPlace := ["internal/abi.NoEscape", "internal/bytealg.MakeNoZero"], unfollowed := true, recurses := true, named := ["tideway/closing.verdicts", "tideway/closing.nobody", "internal/strconv.uint64pow10", "math/bits.deBruijn32tab", "math/bits.deBruijn64tab"], apart := false, laid := [("math/bits.deBruijn32tab", laid_math_bits_deBruijn32tab), ("math/bits.deBruijn64tab", laid_math_bits_deBruijn64tab), ("internal/strconv.uint64pow10", laid_internal_strconv_uint64pow10), ("tideway/closing.nobody", laid_tideway_closing_nobody), ("tideway/closing.verdicts", laid_tideway_closing_verdicts)], narrowed := true }
def ClosingOrdersUptoSaid : Prop := closingOrdersUptoRow.holds Tryz.pinned (OpenSpec.upto closingOrdersSpec)

/-- 'tidewaylaw08.ClosingEither', WHERE WHAT IT READS IS OF BULK AT MOST 1048576: true; the input reads as it did. -/
def closingEitherUptoRow : OpenClaim := { program := "ytjmkmalgfanifaagreatdoor", sum := "058850c75b211cd8d2c3dedf17e59692b68ad136b8d65798017bb13d770f1469", func := "tideway/tidewaylaw08.ClosingEither", spec := "closingEither", inPlace := ["internal/abi.NoEscape", "internal/bytealg.MakeNoZero"], unfollowed := true, recurses := true, named := ["tideway/closing.verdicts", "tideway/closing.nobody", "internal/strconv.uint64pow10", "math/bits.deBruijn32tab", "math/bits.deBruijn64tab"], apart := false, laid := [("math/bits.deBruijn32tab", laid_math_bits_deBruijn32tab), ("math/bits.deBruijn64tab", laid_math_bits_deBruijn64tab), ("internal/strconv.uint64pow10", laid_internal_strconv_uint64pow10), ("tideway/closing.nobody", laid_tideway_closing_nobody), ("tideway/closing.verdicts", laid_tideway_closing_verdicts)], narrowed := true }
def ClosingEitherUptoSaid : Prop := closingEitherUptoRow.holds Tryz.pinned (OpenSpec.upto closingEitherSpec)

end Rows
end Go.Proofs.YtjmkmalgfanifaaGreatDoor
