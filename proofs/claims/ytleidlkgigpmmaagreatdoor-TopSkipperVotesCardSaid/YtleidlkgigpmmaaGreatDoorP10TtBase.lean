/- Contracts of functions of the program, over the evaluator: what each answers. Conditions: those in each statement. -/
import Derived.Test.YtleidlkgigpmmaaGreatDoorP8
import Derived.Shelf.Strings.BuilderF
import Derived.Shelf.Strings.OnBuilder
import Derived.Test.YtleidlkgigpmmaaGreatDoorP9TtShelf
import Derived.Lib.AppendIntMem
import Derived.Test.YtleidlkgigpmmaaGreatDoorChecked
import Derived.KernelRfl
set_option linter.all false
namespace Go.Proofs
open Go.Fs
open Go.Shelf
open Go.RowKit (Below)
theorem tzAll : (Tryz.prog.funcs.toList.all fun fn => match fn.body with | some c => codeOk c && !(fn.name == "runtime.NumGoroutine") | none => true) = true := by kernel_rfl
theorem tzMixed : Tryz.prog.follows .mixedOrders = true := by kernel_rfl
theorem tzOk : ProgOk Tryz.prog where
  mixed := tzMixed
  name := fun f fn hf hb => by
    have := List.all_eq_true.1 tzAll fn (by rw [Array.mem_toList_iff]; exact Array.mem_of_getElem? hf)
    cases hx : fn.body with
    | none => rw [hx] at hb; cases hb
    | some c => rw [hx] at this; simpa using (band this).2
  code := fun f fn c hf hb => by
    have := List.all_eq_true.1 tzAll fn (by rw [Array.mem_toList_iff]; exact Array.mem_of_getElem? hf); rw [hb] at this; exact (band this).1
theorem tzItoa : Fs.Enters Tryz.prog 66 := ⟨_, Tryz.func66, rfl, by kernel_rfl⟩
theorem tzCheck : Fs.Enters Tryz.prog 65 := ⟨_, Tryz.func65, rfl, by kernel_rfl⟩
theorem tzAwakeE : Fs.Enters Tryz.prog 6 := ⟨_, Tryz.func6, rfl, by kernel_rfl⟩
def tzRen : Go.Shelf.Ren := ⟨fun | 240 => 65 | 276 => 93 | n => n, fun | 0 => 0 | 4 => 4 | 9 => 9 | 20 => 20 | 70 => 86 | 72 => 89 | 164 => 144 | 37 => 87 | n => n, fun | n => n⟩
theorem tzLays : Go.Proofs.Lays.n240 Tryz.prog tzRen := {
  mixed := by kernel_rfl
  f240 := Tryz.func65.trans (congrArg some (by kernel_rfl))
  f276 := Tryz.func93.trans (congrArg some (by kernel_rfl))
  t0 := Tryz.underlying0
  a0 := Tryz.isAgg0
  z0 := Tryz.sizeOf0
  v0 := Tryz.zeroValue0
  t4 := Tryz.underlying4
  a4 := Tryz.isAgg4
  z4 := Tryz.sizeOf4
  v4 := Tryz.zeroValue4
  t9 := Tryz.underlying9
  a9 := Tryz.isAgg9
  z9 := Tryz.sizeOf9
  v9 := Tryz.zeroValue9
  t20 := Tryz.underlying20
  a20 := Tryz.isAgg20
  z20 := Tryz.sizeOf20
  v20 := Tryz.zeroValue20
  t70 := Tryz.underlying86
  a70 := Tryz.isAgg86
  z70 := Tryz.sizeOf86
  v70 := Tryz.zeroValue86
  t72 := Tryz.underlying89
  a72 := Tryz.isAgg89
  z72 := Tryz.sizeOf89
  v72 := Tryz.zeroValue89
  t164 := Tryz.underlying144
  a164 := Tryz.isAgg144
  z164 := Tryz.sizeOf144
  v164 := Tryz.zeroValue144 }
theorem tzX72 : Builder.X72 Tryz.prog tzRen := { sizeBuilder := by kernel_rfl, liesBuilder := by kernel_rfl }
abbrev OB := orcB 66 66 65 89
theorem tzOrc {B : Nat} {w0 : World} (hz : w0.drawn = 0) (hB : w0.heap.size ≤ B) (ht : ∀ w, Below B w0 w → Lib.TabIs Tryz.prog w "internal/strconv.uint64pow10" .u64 Lib.pow10Tab) : CallSound Tryz.prog B w0 (orcS 66 66) :=
  orcI_sound hz tzItoa (fun n w hw h0 h1 => (Tryz.internal_strconv_Itoa n h0 h1 w (ht w hw)).mono fun e w' ⟨he, k, os, hw'⟩ => ⟨he, by rw [hw']; exact Lib.below_grow _ _ (Nat.le_refl _) _ _⟩)
theorem tzOrcB {B : Nat} {w0 : World} (hz : w0.drawn = 0) (hB : w0.heap.size ≤ B) (ht : ∀ w, Below B w0 w → Lib.TabIs Tryz.prog w "internal/strconv.uint64pow10" .u64 Lib.pow10Tab) : CallSound Tryz.prog B w0 OB :=
  orcB_sound hz (tzOrc hz hB ht) tzCheck (fun b w h0 h1 h2 => Any.Builder_copyCheck_fresh tzLays tzX72 b w h0 h1 h2) (fun b w h0 => Any.Builder_copyCheck_used tzLays tzX72 b w h0)
end Go.Proofs
