/- Contracts of functions of the program, over the evaluator: what each answers. Conditions: those in each statement. -/
import Derived.Test.YthiofhkndpegjaaGreatDoorP9
import Derived.Shelf.Strings.BuilderF
import Derived.Shelf.Strings.OnBuilder
import Derived.Test.YthiofhkndpegjaaGreatDoorP10GauShelf
import Derived.Lib.AppendIntMem
import Derived.Test.YthiofhkndpegjaaGreatDoorChecked
import Derived.KernelRfl
set_option linter.all false
namespace Go.Proofs
open Go.Fs
open Go.Shelf
open Go.RowKit (Below)
theorem aeW : (Tryz.prog.funcs.toList.all fun fn => match fn.body with | some c => codeOk c && !(fn.name == "runtime.NumGoroutine") | none => true) = true := by kernel_rfl
theorem aeX : Tryz.prog.follows .mixedOrders = true := by kernel_rfl
theorem ajD : lW Tryz.prog where
  mixed := aeX
  name := fun f fn hf hb => by
    have := List.all_eq_true.1 aeW fn (by rw [Array.mem_toList_iff]; exact Array.mem_of_getElem? hf)
    cases hx : fn.body with
    | none => rw [hx] at hb; cases hb
    | some c => rw [hx] at this; simpa using (aQ this).2
  code := fun f fn c hf hb => by
    have := List.all_eq_true.1 aeW fn (by rw [Array.mem_toList_iff]; exact Array.mem_of_getElem? hf); rw [hb] at this; exact (aQ this).1
theorem ahV : Fs.Enters Tryz.prog 152 := ⟨_, Tryz.func152, rfl, by kernel_rfl⟩
theorem aeY : Fs.Enters Tryz.prog 151 := ⟨_, Tryz.func151, rfl, by kernel_rfl⟩
theorem abN : Fs.Enters Tryz.prog 15 := ⟨_, Tryz.func15, rfl, by kernel_rfl⟩
def aeZ : Go.Shelf.Ren := ⟨fun | 240 => 151 | 276 => 171 | n => n, fun | 0 => 0 | 4 => 4 | 9 => 9 | 20 => 20 | 70 => 185 | 72 => 187 | 164 => 237 | 37 => 118 | n => n, fun | n => n⟩
theorem aa0 : Go.Proofs.Lays.n240 Tryz.prog aeZ := {
  mixed := by kernel_rfl
  f240 := Tryz.func151.trans (congrArg some (by kernel_rfl))
  f276 := Tryz.func171.trans (congrArg some (by kernel_rfl))
  t0 := Tryz.underlying0
  a0 := Tryz.isAgg0
  z0 := Tryz.sizeOf0
  v0 := Tryz.zeroValue0
  t4 := Tryz.underlying4
  a4 := Tryz.isAgg4
  z4 := Tryz.sizeOf4
  v4 := Tryz.zeroValue4
  t9 := Tryz.underlying9
  a9 := Tryz.isAgg9
  z9 := Tryz.sizeOf9
  v9 := Tryz.zeroValue9
  t20 := Tryz.underlying20
  a20 := Tryz.isAgg20
  z20 := Tryz.sizeOf20
  v20 := Tryz.zeroValue20
  t70 := Tryz.underlying185
  a70 := Tryz.isAgg185
  z70 := Tryz.sizeOf185
  v70 := Tryz.zeroValue185
  t72 := Tryz.underlying187
  a72 := Tryz.isAgg187
  z72 := Tryz.sizeOf187
  v72 := Tryz.zeroValue187
  t164 := Tryz.underlying237
  a164 := Tryz.isAgg237
  z164 := Tryz.sizeOf237
  v164 := Tryz.zeroValue237 }
theorem af2 : Builder.X72 Tryz.prog aeZ := { sizeBuilder := by kernel_rfl, liesBuilder := by kernel_rfl }
abbrev OB := af3 152 152 151 187
theorem af4 {B : Nat} {w0 : World} (hz : w0.drawn = 0) (hB : w0.heap.size <= B) (ht : ∀ w, Below B w0 w -> Lib.TabIs Tryz.prog w "internal/strconv.uint64pow10" .u64 Lib.pow10Tab) : cY Tryz.prog B w0 (KE 152 152) :=
  T1 hz ahV (fun n w hw h0 h1 => (Tryz.internal_strconv_Itoa n h0 h1 w (ht w hw)).mono fun e w' ⟨he, k, os, KF⟩ => ⟨he, by rw [KF]; exact Lib.below_grow _ _ (Nat.le_refl _) _ _⟩)
theorem ahW {B : Nat} {w0 : World} (hz : w0.drawn = 0) (hB : w0.heap.size <= B) (ht : ∀ w, Below B w0 w -> Lib.TabIs Tryz.prog w "internal/strconv.uint64pow10" .u64 Lib.pow10Tab) : cY Tryz.prog B w0 OB :=
  T2 hz (af4 hz hB ht) aeY (fun b w h0 h1 h2 => Any.Builder_copyCheck_fresh aa0 af2 b w h0 h1 h2) (fun b w h0 => Any.Builder_copyCheck_used aa0 af2 b w h0)
end Go.Proofs
