/-
  DERIVED. GIVEN WITH THE SEED: THE PROGRAM's TIES (one call each: nine closed facts by the kernel) AND EACH ROW's TIE, after the 31st guide's Derived/Test/Toyas{Tie, Card}.lean. No idea stands in it: it is a product of the set-up. Laid BY PROGRAM, IN A SANDBOX (cutbox-door.mjs). By AI agents, Wed Nov 11 2026. No macro, syntax, notation, axiom, sorry.
-/
import Derived.Test.YtjmkmalgfanifaaGreatDoorRows
import Derived.LaidByTextLater
import Derived.SevenTiedAt
import Derived.LaidSub
import Derived.LaidOnce
namespace Go.Proofs.YtjmkmalgfanifaaGreatDoor
open Go
set_option maxRecDepth 100000
theorem seatTie1 : Tryz.prog.laidByTextLater [("math/bits.deBruijn32tab", Rows.laid_math_bits_deBruijn32tab), ("math/bits.deBruijn64tab", Rows.laid_math_bits_deBruijn64tab), ("internal/strconv.uint64pow10", Rows.laid_internal_strconv_uint64pow10), ("tideway/closing.nobody", Rows.laid_tideway_closing_nobody), ("tideway/closing.verdicts", Rows.laid_tideway_closing_verdicts)] [.data, .data, .data, .data, .funcsDeep] true :=
  Program.laidByTextLater_by_one 37 8 65 (by kernel_rfl) (by kernel_rfl) (by kernel_rfl) (by kernel_rfl) (by kernel_rfl) (by kernel_rfl) (fun _ _ => by kernel_rfl)
theorem noOwnUnsafe : Tryz.pinned.checked.prog.headLifts.contains "ownunsafe" = false := by kernel_rfl
theorem tie : Tryz.prog.laidByTextLater [("math/bits.deBruijn32tab", Rows.laid_math_bits_deBruijn32tab), ("math/bits.deBruijn64tab", Rows.laid_math_bits_deBruijn64tab), ("internal/strconv.uint64pow10", Rows.laid_internal_strconv_uint64pow10), ("tideway/closing.nobody", Rows.laid_tideway_closing_nobody), ("tideway/closing.verdicts", Rows.laid_tideway_closing_verdicts)] [.data, .data, .data, .data, .funcsDeep] true :=
  Program.laidByTextLater.sub seatTie1 ["math/bits.deBruijn32tab", "math/bits.deBruijn64tab", "internal/strconv.uint64pow10", "tideway/closing.nobody", "tideway/closing.verdicts"] (by kernel_rfl) (by kernel_rfl)
theorem closingTimes_row_tie : Rows.closingTimesRow.laidByTextAt .later Tryz.pinned [.data, .data, .data, .data, .funcsDeep] true :=
  OpenClaim.laidByTextAt_later rfl rfl tie noOwnUnsafe
theorem closingLatest_row_tie : Rows.closingLatestRow.laidByTextAt .later Tryz.pinned [.data, .data, .data, .data, .funcsDeep] true :=
  OpenClaim.laidByTextAt_later rfl rfl tie noOwnUnsafe
theorem closingVerdicts_row_tie : Rows.closingVerdictsRow.laidByTextAt .later Tryz.pinned [.data, .data, .data, .data, .funcsDeep] true :=
  OpenClaim.laidByTextAt_later rfl rfl tie noOwnUnsafe
theorem closingShips_row_tie : Rows.closingShipsRow.laidByTextAt .later Tryz.pinned [.data, .data, .data, .data, .funcsDeep] true :=
  OpenClaim.laidByTextAt_later rfl rfl tie noOwnUnsafe
theorem closingBetween_row_tie : Rows.closingBetweenRow.laidByTextAt .later Tryz.pinned [.data, .data, .data, .data, .funcsDeep] true :=
  OpenClaim.laidByTextAt_later rfl rfl tie noOwnUnsafe
theorem closingChains_row_tie : Rows.closingChainsRow.laidByTextAt .later Tryz.pinned [.data, .data, .data, .data, .funcsDeep] true :=
  OpenClaim.laidByTextAt_later rfl rfl tie noOwnUnsafe
theorem closingForces_row_tie : Rows.closingForcesRow.laidByTextAt .later Tryz.pinned [.data, .data, .data, .data, .funcsDeep] true :=
  OpenClaim.laidByTextAt_later rfl rfl tie noOwnUnsafe
theorem closingPassages_row_tie : Rows.closingPassagesRow.laidByTextAt .later Tryz.pinned [.data, .data, .data, .data, .funcsDeep] true :=
  OpenClaim.laidByTextAt_later rfl rfl tie noOwnUnsafe
theorem closingCleared_row_tie : Rows.closingClearedRow.laidByTextAt .later Tryz.pinned [.data, .data, .data, .data, .funcsDeep] true :=
  OpenClaim.laidByTextAt_later rfl rfl tie noOwnUnsafe
theorem closingOrders_row_tie : Rows.closingOrdersRow.laidByTextAt .later Tryz.pinned [.data, .data, .data, .data, .funcsDeep] true :=
  OpenClaim.laidByTextAt_later rfl rfl tie noOwnUnsafe
theorem closingEither_row_tie : Rows.closingEitherRow.laidByTextAt .later Tryz.pinned [.data, .data, .data, .data, .funcsDeep] true :=
  OpenClaim.laidByTextAt_later rfl rfl tie noOwnUnsafe
theorem closingTimesUpto_row_tie : Rows.closingTimesUptoRow.laidByTextAt .later Tryz.pinned [.data, .data, .data, .data, .funcsDeep] true :=
  OpenClaim.laidByTextAt_later rfl rfl tie noOwnUnsafe
theorem closingLatestUpto_row_tie : Rows.closingLatestUptoRow.laidByTextAt .later Tryz.pinned [.data, .data, .data, .data, .funcsDeep] true :=
  OpenClaim.laidByTextAt_later rfl rfl tie noOwnUnsafe
theorem closingVerdictsUpto_row_tie : Rows.closingVerdictsUptoRow.laidByTextAt .later Tryz.pinned [.data, .data, .data, .data, .funcsDeep] true :=
  OpenClaim.laidByTextAt_later rfl rfl tie noOwnUnsafe
theorem closingShipsUpto_row_tie : Rows.closingShipsUptoRow.laidByTextAt .later Tryz.pinned [.data, .data, .data, .data, .funcsDeep] true :=
  OpenClaim.laidByTextAt_later rfl rfl tie noOwnUnsafe
theorem closingBetweenUpto_row_tie : Rows.closingBetweenUptoRow.laidByTextAt .later Tryz.pinned [.data, .data, .data, .data, .funcsDeep] true :=
  OpenClaim.laidByTextAt_later rfl rfl tie noOwnUnsafe
theorem closingChainsUpto_row_tie : Rows.closingChainsUptoRow.laidByTextAt .later Tryz.pinned [.data, .data, .data, .data, .funcsDeep] true :=
  OpenClaim.laidByTextAt_later rfl rfl tie noOwnUnsafe
theorem closingForcesUpto_row_tie : Rows.closingForcesUptoRow.laidByTextAt .later Tryz.pinned [.data, .data, .data, .data, .funcsDeep] true :=
  OpenClaim.laidByTextAt_later rfl rfl tie noOwnUnsafe
theorem closingPassagesUpto_row_tie : Rows.closingPassagesUptoRow.laidByTextAt .later Tryz.pinned [.data, .data, .data, .data, .funcsDeep] true :=
  OpenClaim.laidByTextAt_later rfl rfl tie noOwnUnsafe
theorem closingClearedUpto_row_tie : Rows.closingClearedUptoRow.laidByTextAt .later Tryz.pinned [.data, .data, .data, .data, .funcsDeep] true :=
  OpenClaim.laidByTextAt_later rfl rfl tie noOwnUnsafe
theorem closingOrdersUpto_row_tie : Rows.closingOrdersUptoRow.laidByTextAt .later Tryz.pinned [.data, .data, .data, .data, .funcsDeep] true :=
  OpenClaim.laidByTextAt_later rfl rfl tie noOwnUnsafe
theorem closingEitherUpto_row_tie : Rows.closingEitherUptoRow.laidByTextAt .later Tryz.pinned [.data, .data, .data, .data, .funcsDeep] true :=
  OpenClaim.laidByTextAt_later rfl rfl tie noOwnUnsafe
end Go.Proofs.YtjmkmalgfanifaaGreatDoor
