/- Contracts of functions of the program, over the evaluator: what each answers. Conditions: those in each statement. -/
import Derived.Test.YtednnfllcafliaaGreatDoorP5
import Derived.Test.YtednnfllcafliaaGreatDoorP8TryzShelf
import Derived.Lib.AppendIntMem
import Derived.Test.YtednnfllcafliaaGreatDoorChecked
import Derived.KernelRfl
set_option linter.all false
namespace Go.Proofs
open Go.Fs
open Go.RowKit (Below)
theorem tzAll : (Tryz.prog.funcs.toList.all fun fn => match fn.body with | some c => codeOk c && !(fn.name == "runtime.NumGoroutine") | none => true) = true := by kernel_rfl
theorem tzMixed : Tryz.prog.follows .mixedOrders = true := by kernel_rfl
theorem tzOk : ProgOk Tryz.prog where
  mixed := tzMixed
  name := fun f fn hf hb => by
    have := List.all_eq_true.1 tzAll fn (by rw [Array.mem_toList_iff]; exact Array.mem_of_getElem? hf)
    cases hx : fn.body with
    | none => rw [hx] at hb; cases hb
    | some c => rw [hx] at this; simpa using (band this).2
  code := fun f fn c hf hb => by
    have := List.all_eq_true.1 tzAll fn (by rw [Array.mem_toList_iff]; exact Array.mem_of_getElem? hf)
    rw [hb] at this
    exact (band this).1
theorem tzItoa : Fs.Enters Tryz.prog 211 := ⟨_, Tryz.func211, rfl, by kernel_rfl⟩
theorem tzJoin : Fs.Enters Tryz.prog 154 := ⟨_, Tryz.func154, rfl, by kernel_rfl⟩
theorem tzAwakeE : Fs.Enters Tryz.prog 16 := ⟨_, Tryz.func16, rfl, by kernel_rfl⟩
theorem tzOrc {B : Nat} {w0 : World} (hB : w0.heap.size ≤ B) (ht : ∀ w, Below B w0 w → Lib.TabIs Tryz.prog w "internal/strconv.uint64pow10" .u64 Lib.pow10Tab) : CallSound Tryz.prog B w0 (orcS 211 154) :=
  orcS_sound tzItoa tzJoin (fun n w hw h0 h1 => (Tryz.internal_strconv_Itoa n h0 h1 w (ht w hw)).mono fun e w' ⟨he, k, os, hw'⟩ => ⟨he, by rw [hw']; exact Lib.below_grow _ _ (Nat.le_refl _) _ _⟩)
    (fun bk o c xs sep w hcells hbk hN hcap hlen => Tryz.strings_Join bk o c xs sep w hcells hbk hN hcap hlen)
theorem tzRun : (fsEnter Tryz.prog (fsCode Tryz.prog (orcS 211 154) 100000) 16 [] ⟨1, 1, []⟩).map (·.1) = some (.bool true) := by kernel_rfl
end Go.Proofs
