/- Contracts of functions of the program, over the evaluator: what each answers. Conditions: those in each statement. -/
import Derived.Test.YtlkhimnkbboedaaGreatDoorP8
import Derived.Shelf.Strings.BuilderF
import Derived.Shelf.Strings.OnBuilder
import Derived.Test.YtlkhimnkbboedaaGreatDoorP9TmShelf
import Derived.Lib.AppendIntMem
import Derived.Test.YtlkhimnkbboedaaGreatDoorChecked
import Derived.KernelRfl
set_option linter.all false
namespace Go.Proofs
open Go.Fs
open Go.Shelf
open Go.RowKit (Below)
theorem tzAll : (Tryz.prog.funcs.toList.all fun fn => match fn.body with | some c => codeOk c && !(fn.name == "runtime.NumGoroutine") | none => true) = true := by kernel_rfl
theorem tzMixed : Tryz.prog.follows .mixedOrders = true := by kernel_rfl
theorem tzOk : ProgOk Tryz.prog where
  mixed := tzMixed
  name := fun f fn hf hb => by
    have := List.all_eq_true.1 tzAll fn (by rw [Array.mem_toList_iff]; exact Array.mem_of_getElem? hf)
    cases hx : fn.body with
    | none => rw [hx] at hb; cases hb
    | some c => rw [hx] at this; simpa using (band this).2
  code := fun f fn c hf hb => by
    have := List.all_eq_true.1 tzAll fn (by rw [Array.mem_toList_iff]; exact Array.mem_of_getElem? hf); rw [hb] at this; exact (band this).1
theorem tzItoa : Fs.Enters Tryz.prog 149 := ⟨_, Tryz.func149, rfl, by kernel_rfl⟩
theorem tzCheck : Fs.Enters Tryz.prog 147 := ⟨_, Tryz.func147, rfl, by kernel_rfl⟩
theorem tzAwakeE : Fs.Enters Tryz.prog 7 := ⟨_, Tryz.func7, rfl, by kernel_rfl⟩
def tzRen : Go.Shelf.Ren := ⟨fun | 240 => 147 | 276 => 160 | n => n, fun | 0 => 0 | 4 => 4 | 9 => 9 | 20 => 20 | 70 => 199 | 72 => 202 | 164 => 239 | 37 => 200 | n => n, fun | n => n⟩
theorem tzLays : Go.Proofs.Lays.n240 Tryz.prog tzRen := {
  mixed := by kernel_rfl
  f240 := Tryz.func147.trans (congrArg some (by kernel_rfl))
  f276 := Tryz.func160.trans (congrArg some (by kernel_rfl))
  t0 := Tryz.underlying0
  a0 := Tryz.isAgg0
  z0 := Tryz.sizeOf0
  v0 := Tryz.zeroValue0
  t4 := Tryz.underlying4
  a4 := Tryz.isAgg4
  z4 := Tryz.sizeOf4
  v4 := Tryz.zeroValue4
  t9 := Tryz.underlying9
  a9 := Tryz.isAgg9
  z9 := Tryz.sizeOf9
  v9 := Tryz.zeroValue9
  t20 := Tryz.underlying20
  a20 := Tryz.isAgg20
  z20 := Tryz.sizeOf20
  v20 := Tryz.zeroValue20
  t70 := Tryz.underlying199
  a70 := Tryz.isAgg199
  z70 := Tryz.sizeOf199
  v70 := Tryz.zeroValue199
  t72 := Tryz.underlying202
  a72 := Tryz.isAgg202
  z72 := Tryz.sizeOf202
  v72 := Tryz.zeroValue202
  t164 := Tryz.underlying239
  a164 := Tryz.isAgg239
  z164 := Tryz.sizeOf239
  v164 := Tryz.zeroValue239 }
theorem tzX72 : Builder.X72 Tryz.prog tzRen := { sizeBuilder := by kernel_rfl, liesBuilder := by kernel_rfl }
theorem tzJoin : Fs.Enters Tryz.prog 84 := ⟨_, Tryz.func84, rfl, by kernel_rfl⟩
abbrev OB := orcB 149 84 147 202
theorem tzOrc {B : Nat} {w0 : World} (hz : w0.drawn = 0) (hB : w0.heap.size ≤ B) (ht : ∀ w, Below B w0 w → Lib.TabIs Tryz.prog w "internal/strconv.uint64pow10" .u64 Lib.pow10Tab) : CallSound Tryz.prog B w0 (orcS 149 149) :=
  orcI_sound hz tzItoa (fun n w hw h0 h1 => (Tryz.internal_strconv_Itoa n h0 h1 w (ht w hw)).mono fun e w' ⟨he, k, os, hw'⟩ => ⟨he, by rw [hw']; exact Lib.below_grow _ _ (Nat.le_refl _) _ _⟩)
theorem tzOrcJ {B : Nat} {w0 : World} (hz : w0.drawn = 0) (hB : w0.heap.size ≤ B) (ht : ∀ w, Below B w0 w → Lib.TabIs Tryz.prog w "internal/strconv.uint64pow10" .u64 Lib.pow10Tab) : CallSound Tryz.prog B w0 (orcS 149 84) :=
  orcS_sound hz tzItoa tzJoin (fun n w hw h0 h1 => (Tryz.internal_strconv_Itoa n h0 h1 w (ht w hw)).mono fun e w' ⟨he, k, os, hw'⟩ => ⟨he, by rw [hw']; exact Lib.below_grow _ _ (Nat.le_refl _) _ _⟩)
    (fun bk o c xs sep w hcells hbk hN hcap hlen => Tryz.strings_Join bk o c xs sep w hcells hbk hN hcap hlen)
theorem tzOrcB {B : Nat} {w0 : World} (hz : w0.drawn = 0) (hB : w0.heap.size ≤ B) (ht : ∀ w, Below B w0 w → Lib.TabIs Tryz.prog w "internal/strconv.uint64pow10" .u64 Lib.pow10Tab) : CallSound Tryz.prog B w0 OB :=
  orcB_sound hz (tzOrcJ hz hB ht) tzCheck (fun b w h0 h1 h2 => Any.Builder_copyCheck_fresh tzLays tzX72 b w h0 h1 h2) (fun b w h0 => Any.Builder_copyCheck_used tzLays tzX72 b w h0)
end Go.Proofs
