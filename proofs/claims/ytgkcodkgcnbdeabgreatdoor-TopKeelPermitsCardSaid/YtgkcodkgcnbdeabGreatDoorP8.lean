/- Parts of the proof: an evaluator of the model, what it is sound for, and contracts of functions. No condition. -/
import Derived.Shelf.SlSortCmp.WholeK
import Derived.Shelf.SlSortCmp.NoneTotal
import Derived.Test.YtgkcodkgcnbdeabGreatDoorProg
import Derived.Test.YtgkcodkgcnbdeabGreatDoorP5
import Derived.Test.YtgkcodkgcnbdeabGreatDoorCards
import Derived.Test.YtgkcodkgcnbdeabGreatDoorTie
import Derived.Test.YtgkcodkgcnbdeabGreatDoorP6
import Derived.Test.YtgkcodkgcnbdeabGreatDoorP7
import Derived.WalkKit
import Derived.ProofKit
import Derived.LaidMore
import Derived.Deep.DeepHandedRow
import Derived.Lib.LaidTab
import Derived.Stop.LaidErr
set_option linter.all false
namespace Go.Proofs
open Go.Shelf
def Tryz.sortEdge_ren : Go.Shelf.Ren := ⟨fun | 6 => 47 | 15 => 93 | 14 => 92 | 28 => 131 | 29 => 132 | 20 => 123 | 21 => 124 | 22 => 125 | 23 => 126 | 24 => 127 | 25 => 128 | 26 => 129 | 27 => 130 | 46 => 163 | 47 => 164 | 48 => 165 | 49 => 166 | 50 => 167 | 57 => 181 | n => n, fun | 22 => 110 | 24 => 113 | 25 => 116 | 3 => 3 | 39 => 170 | 0 => 0 | 53 => 195 | 55 => 197 | 4 => 4 | 46 => 188 | 45 => 187 | 50 => 192 | 5 => 5 | 9 => 9 | 66 => 215 | 70 => 219 | 76 => 235 | 77 => 236 | n => n, fun | n => n⟩
theorem Tryz.sortEdge : Go.Proofs.SlLaysF0.n6 Tryz.prog Tryz.sortEdge_ren := {
  mixed := by kernel_rfl
  f6 := ⟨Tryz.f47.name, by decide, Tryz.func47.trans (congrArg some (by kernel_rfl))⟩
  f14 := ⟨Tryz.f92.name, by decide, Tryz.func92.trans (congrArg some (by kernel_rfl))⟩
  f15 := Tryz.func93.trans (congrArg some (by kernel_rfl))
  f20 := ⟨Tryz.f123.name, by decide, Tryz.func123.trans (congrArg some (by kernel_rfl))⟩
  f21 := ⟨Tryz.f124.name, by decide, Tryz.func124.trans (congrArg some (by kernel_rfl))⟩
  f22 := ⟨Tryz.f125.name, by decide, Tryz.func125.trans (congrArg some (by kernel_rfl))⟩
  f23 := ⟨Tryz.f126.name, by decide, Tryz.func126.trans (congrArg some (by kernel_rfl))⟩
  f24 := ⟨Tryz.f127.name, by decide, Tryz.func127.trans (congrArg some (by kernel_rfl))⟩
  f25 := ⟨Tryz.f128.name, by decide, Tryz.func128.trans (congrArg some (by kernel_rfl))⟩
  f26 := ⟨Tryz.f129.name, by decide, Tryz.func129.trans (congrArg some (by kernel_rfl))⟩
  f27 := ⟨Tryz.f130.name, by decide, Tryz.func130.trans (congrArg some (by kernel_rfl))⟩
  f28 := Tryz.func131.trans (congrArg some (by kernel_rfl))
  f29 := Tryz.func132.trans (congrArg some (by kernel_rfl))
  f46 := ⟨Tryz.f163.name, by decide, Tryz.func163.trans (congrArg some (by kernel_rfl))⟩
  f47 := Tryz.func164.trans (congrArg some (by kernel_rfl))
  f48 := Tryz.func165.trans (congrArg some (by kernel_rfl))
  f49 := ⟨Tryz.f166.name, by decide, Tryz.func166.trans (congrArg some (by kernel_rfl))⟩
  f50 := ⟨Tryz.f167.name, by decide, Tryz.func167.trans (congrArg some (by kernel_rfl))⟩
  f57 := ⟨Tryz.f181.name, by decide, Tryz.func181.trans (congrArg some (by kernel_rfl))⟩
  t0 := Tryz.underlying0
  a0 := Tryz.isAgg0
  z0 := Tryz.sizeOf0
  v0 := Tryz.zeroValue0
  t3 := Tryz.underlying3
  a3 := Tryz.isAgg3
  z3 := Tryz.sizeOf3
  v3 := Tryz.zeroValue3
  t4 := Tryz.underlying4
  a4 := Tryz.isAgg4
  z4 := Tryz.sizeOf4
  v4 := Tryz.zeroValue4
  t5 := Tryz.underlying5
  a5 := Tryz.isAgg5
  z5 := Tryz.sizeOf5
  v5 := Tryz.zeroValue5
  t9 := Tryz.underlying9
  a9 := Tryz.isAgg9
  z9 := Tryz.sizeOf9
  v9 := Tryz.zeroValue9
  t22 := Tryz.underlying110
  a22 := Tryz.isAgg110
  z22 := Tryz.sizeOf110
  v22 := Tryz.zeroValue110
  t25 := Tryz.underlying116
  a25 := Tryz.isAgg116
  z25 := Tryz.sizeOf116
  v25 := Tryz.zeroValue116
  t39 := Tryz.underlying170
  a39 := Tryz.isAgg170
  z39 := Tryz.sizeOf170
  v39 := Tryz.zeroValue170
  t45 := Tryz.underlying187
  a45 := Tryz.isAgg187
  z45 := Tryz.sizeOf187
  v45 := Tryz.zeroValue187
  t46 := Tryz.underlying188
  a46 := Tryz.isAgg188
  z46 := Tryz.sizeOf188
  v46 := Tryz.zeroValue188
  t50 := Tryz.underlying192
  a50 := Tryz.isAgg192
  z50 := Tryz.sizeOf192
  v50 := Tryz.zeroValue192
  t53 := Tryz.underlying195
  a53 := Tryz.isAgg195
  z53 := Tryz.sizeOf195
  v53 := Tryz.zeroValue195
  t55 := Tryz.underlying197
  a55 := Tryz.isAgg197
  z55 := Tryz.sizeOf197
  v55 := Tryz.zeroValue197
  t66 := Tryz.underlying215
  a66 := Tryz.isAgg215
  z66 := Tryz.sizeOf215
  v66 := Tryz.zeroValue215
  t70 := Tryz.underlying219
  a70 := Tryz.isAgg219
  z70 := Tryz.sizeOf219
  v70 := Tryz.zeroValue219
  t76 := Tryz.underlying235
  a76 := Tryz.isAgg235
  z76 := Tryz.sizeOf235
  v76 := Tryz.zeroValue235
  t77 := Tryz.underlying236
  a77 := Tryz.isAgg236
  z77 := Tryz.sizeOf236
  v77 := Tryz.zeroValue236 }
end Go.Proofs
namespace Go.Fs
open Go.Sort Go.Proofs Go.Shelf
theorem flatAny {α : Type} [Inhabited α] {enc : α → List Value} {k : Nat} (hk : 0 < k) (hl : ∀ x, (enc x).length = k) (ys : List α) : flatK enc k ys.toArray = (ys.flatMap enc).toArray := by
  have hlen : ∀ zs : List α, (zs.flatMap enc).length = zs.length * k := by
    intro zs
    induction zs with
    | nil => simp
    | cons z zs ih => rw [List.flatMap_cons, List.length_append, ih, hl, List.length_cons, Nat.add_mul]; omega
  refine ext_get! (by rw [size_flatK, List.size_toArray, List.size_toArray, hlen]) fun t ht => ?_
  have ht' : t < ys.length * k := by simpa using ht
  rw [get_flatK _ _ _ _ (by simpa using ht')]
  have key : ∀ (zs : List α) (t : Nat), t < zs.length * k → (zs.flatMap enc)[t]! = (enc (zs[t / k]!))[t % k]! := by
    intro zs
    induction zs with
    | nil => intro t ht; simp at ht
    | cons z zs ih =>
      intro t ht; rw [List.flatMap_cons]; by_cases h3 : t < k
      · rw [Nat.div_eq_of_lt h3, Nat.mod_eq_of_lt h3]
        have h4 : t < (enc z).length := by rw [hl]; exact h3
        have h5 : t < (enc z ++ zs.flatMap enc).length := by rw [List.length_append]; omega
        rw [getElem!_pos (enc z ++ zs.flatMap enc) t h5, List.getElem_append_left h4]; show _ = (enc z)[t]!; rw [getElem!_pos (enc z) t h4]
      obtain ⟨u, rfl⟩ : ∃ u, t = u + k := ⟨t - k, by omega⟩
      have hu : u < zs.length * k := by rw [List.length_cons, Nat.add_mul] at ht; omega
      have e1 : (u + k) / k = u / k + 1 := Nat.add_div_right u hk; have e2 : (u + k) % k = u % k := Nat.add_mod_right u k; rw [e1, e2]
      have h5 : u + k < (enc z ++ zs.flatMap enc).length := by rw [List.length_append, hl, hlen]; omega
      have h6 : u < (zs.flatMap enc).length := by rw [hlen]; exact hu
      have ih := ih u hu; rw [getElem!_pos (zs.flatMap enc) u h6] at ih; rw [getElem!_pos (enc z ++ zs.flatMap enc) (u + k) h5, List.getElem_append_right (by rw [hl]; omega)]
      have e3 : u + k - (enc z).length = u := by rw [hl]; omega
      simp only [e3]; rw [ih]; simp
  have := key ys t ht'; simpa using this.symm
end Go.Fs
namespace Go.Proofs.YtgkcodkgcnbdeabGreatDoor
open Go.ChangeShapes Go.WideShapes Go.ChangeAt Go.RowKit Go.Fs
theorem own : ownKnob Tryz.prog.godebug = none := by kernel_rfl
theorem laidOut : laidOutB Tryz.prog = true := by kernel_rfl
def tabL : List Int := [0, 1, 56, 2, 57, 49, 28, 3, 61, 58, 42, 50, 38, 29, 17, 4, 62, 47, 59, 36, 45, 43, 51, 22, 53, 39, 33, 30, 24, 18, 12, 5, 63, 55, 48, 27, 60, 41, 37, 16, 46, 35, 44, 21, 52, 32, 23, 11, 54, 26, 40, 15, 34, 20, 31, 10, 25, 14, 19, 9, 13, 8, 7, 6]
theorem gTabN : Tryz.prog.globalNamed "math/bits.deBruijn64tab" = some 1 := by kernel_rfl
theorem gTabT : (Tryz.prog.globals[1]?).map (·.type) = some 223 := by kernel_rfl
/-- The table of the places of single bits lies asl the row says. -/
theorem powTab {W : World} (h : laidMet Tryz.prog [("math/bits.deBruijn32tab", Rows.laid_math_bits_deBruijn32tab), ("math/bits.deBruijn64tab", Rows.laid_math_bits_deBruijn64tab)] W) : Lib.TabIs Tryz.prog W "math/bits.deBruijn64tab" .u8 tabL :=
  Lib.tabIs_of_head (rest := []) gTabN gTabT Tryz.underlying223 Tryz.underlying5 (by kernel_rfl) (by kernel_rfl) (laidMet.tail h)
theorem var_lt {P : Program} {w : World} {n : String} {g : Nat} {cs : Array Value} (hg : P.globalNamed n = some g) (h : w.var? P n = some cs) : g < w.heap.size := by
  simp only [World.var?, hg, Option.bind_some] at h; by_cases hl : g < w.heap.size
  · exact hl
  · rw [Array.getElem?_eq_none (by omega)] at h; cases h
theorem only_of {P : Program} {t : TypeId} {k : Nat} (h : ((List.range P.globals.size).all fun g => (match P.globals[g]? with | some gl => !(Nat.beq gl.type t) | none => true) || Nat.beq g k) = true) : ∀ (g : Nat) gl, P.globals[g]? = some gl → gl.type = t → g = k := fun g gl hg ht => by
  have hl : g < P.globals.size := by
    by_cases hl : g < P.globals.size
    · exact hl
    · rw [Array.getElem?_eq_none (by omega)] at hg; cases hg
  have := List.all_eq_true.1 h g (List.mem_range.2 hl); rw [hg] at this; simp only [ht] at this; have e : Nat.beq t t = true := Nat.beq_refl t; rw [e] at this; exact nbeq (by simpa using this)
theorem tabW {W : World} (h : Lib.TabIs Tryz.prog W "math/bits.deBruijn64tab" .u8 tabL) : GlobW Tryz.prog W.heap.size W (1, 223, tabL.map fun n => .int .u8 n) :=
  ⟨gTabT, only_of (by kernel_rfl), var_lt gTabN h, fun i hi => by
    have hi : i < tabL.length := by simpa using hi
    rw [h.cell gTabN i hi, List.getD_eq_getElem?_getD, List.getD_eq_getElem?_getD, List.getElem?_map, List.getElem?_eq_getElem hi]
    rfl, by kernel_rfl⟩
theorem tzGlob {W : World} (h : Lib.TabIs Tryz.prog W "math/bits.deBruijn64tab" .u8 tabL) : ∀ x ∈ tzG, GlobW Tryz.prog W.heap.size W x := fun x hx => by
  obtain rfl := List.mem_singleton.1 hx; exact tabW h
theorem tzGT : GT (⟨1, 1, []⟩ : Heap) [] := fun v hv => by cases hv
theorem seatHr {W : World} (h : laidMet Tryz.prog [("math/bits.deBruijn32tab", Rows.laid_math_bits_deBruijn32tab), ("math/bits.deBruijn64tab", Rows.laid_math_bits_deBruijn64tab)] W) : HR Tryz.prog (fun _ => Loc.clean 0 0 0 0) (fun _ => False) W.heap.size (Go.Fs.wz W) ⟨1, 1, []⟩ W := hr_empty (Nat.zero_le _)
theorem tzSort : Fs.Enters Tryz.prog 87 := ⟨_, Tryz.func87, rfl, by kernel_rfl⟩
theorem tzSortE : Fs.Enters Tryz.prog 47 := ⟨_, Tryz.func47, rfl, by kernel_rfl⟩
theorem tzCmpE : Fs.Enters Tryz.prog 48 := ⟨_, Tryz.func48, rfl, by kernel_rfl⟩
abbrev tyE : Ty := .pair (.int .i64) (.int .i64)
abbrev encE (x : Int × Int) : List Value := [.int .i64 x.1, .int .i64 x.2]
theorem tzCmp (x y : Int × Int) : EvF Tryz.prog orcN 48 [.agg (encE x).toArray, .agg (encE y).toArray] ⟨1, 1, []⟩ fun u _ => u = .int .i64 (cmpE x y) := by
  have hr : ∀ x : Int × Int, RepPV ⟨1, 1, []⟩ [] (.v tyE x) (.agg (encE x).toArray) := fun x => ⟨rfl, rfl, rfl⟩; exact (Cmp.nEdge_ok (x := x) (y := y) ⟨1, 1, []⟩ [] [.agg (encE x).toArray, .agg (encE y).toArray] (fun b o hg => by cases hg) ⟨fun b hb => (by cases hb), tzGT⟩ ⟨_, _, rfl, hr x, _, _, rfl, hr y, rfl⟩).mono fun u h' hq => RepV.int hq.2.1
/-- The sort of edges by the library's contract. -/
theorem tzSortT {B : Nat} {w0 : World} (blk cap n : Nat) (vs vs' : List Value) (w : World) (hl : vs.length = n * 2) (hs : srtG (τ := tyE) cmpE vs = some vs') (hb : Below B w0 w) (hBb : B ≤ blk) (hH : Go.Sort.Holds id w blk 0 vs.toArray) (hblk : blk < w.heap.size) (hn : n ≤ 1000000) :
    Calls Tryz.prog 47 #[.slice (some ⟨blk, 0, none⟩) n cap, .func (.func 48) #[] #[]] w fun e w' => e = .returned (.tuple #[]) ∧ ∃ q os, w' = Go.Sort.grow (Go.Sort.putRow id (Go.Sort.ahead w q) blk 0 vs'.toArray) os := by
  obtain ⟨xs, rfl, rfl⟩ := srtG_inv hs; have hlen : ∀ ys : List (Int × Int), (encL tyE ys).length = ys.length * 2 := fun ys => encL_len (τ := tyE) rfl ys
  have hxs : xs.length = n := by rw [hlen] at hl; omega
  have hflat : ∀ ys : List (Int × Int), Go.Sort.flatK encE 2 ys.toArray = (encL tyE ys).toArray := fun ys => flatAny (enc := encE) (k := 2) (by decide) (fun _ => rfl) ys; have hcmp := cmp_lays (P := Tryz.prog) tzOk tzCmpE (enc := encE) (k := 2) (cf := cmpE) (blk := blk) (off := 0) (size := xs.toArray.size) (w := w) (fun x => rfl) tzCmp; have hcon := AnyQ.slices_SortFunc_eq Tryz.sortEdge 2 Tryz.isAgg113 Tryz.sizeOf113 encE (fun _ => rfl) (fun x v hv => by simp [encE] at hv; rcases hv with rfl | rfl <;> rfl) cmpE swoE 48 #[] blk 0 cap xs.toArray w (callFunc_run tzCmpE) hcmp (by unfold Go.Sort.HoldsK; rw [hflat]; exact hH) hblk (by simp; omega); have hcon : Calls Tryz.prog 47 #[.slice (some ⟨blk, 0, none⟩) xs.toArray.size cap, .func (.func 48) #[] #[]] w _ := hcon; rw [show xs.toArray.size = n by simpa using hxs] at hcon; refine hcon.mono fun e w' he => ?_; obtain ⟨he, q, os, hw⟩ := he; refine ⟨he, q, os, ?_⟩; rw [hw]; unfold Go.Proofs.sortWorldK Go.Sort.putRowK
  have e2 : (Go.Sort.pdq (ltOf cmpE) xs.toArray 0 n (Lib.bitLen n) true true) = (Go.Fs.sortG (τ := tyE) cmpE xs).toArray := by unfold Go.Fs.sortG; simp [hxs]; rfl
  rw [e2, hflat]
/-- The oracle is sound wherever the table lies. -/
theorem orcOk {W : World} (ht : Lib.TabIs Tryz.prog W "math/bits.deBruijn64tab" .u8 tabL) : CallSound Tryz.prog W.heap.size (Go.Fs.wz W) OA := by
  refine orcF_sound rfl (srtG_ok rfl swoE) ?_ tzSortE (fun w hw => (AnyF.slices_SortFunc_none Tryz.sortEdge none 0 _ w).mono fun e w' he => by obtain ⟨rfl, rfl⟩ := he; exact ⟨rfl, Below.refl _ _⟩) tzSortT; refine orcT_sound rfl ?_ tzSort (fun w hw => fsX_closed tzOk (orcN_sound (B := w.heap.size) (w0 := Go.Fs.wz w)) (m := 300) (args := [.slice none 0 0]) rfl (by kernel_rfl) rfl) fun blk off cap ss w hH hblk hsz => Tryz.slices_Sort_string blk off cap ss w hH hblk hsz; refine orcW_sound rfl orcN_sound tzAwakeE fun w hw => ?_; exact awakeG_calls tzOk (n := 3) (L := tzG) (fun x hx => by obtain rfl := List.mem_singleton.1 hx; decide) (by decide) (tzGlob ht) (fun w hw => hw.size) (fun w' hw' => orcN_sound) tzRun w (below_z hw)
noncomputable def doorWorld (os : Os) : World := World.doorLaid Tryz.prog 24 os
end Go.Proofs.YtgkcodkgcnbdeabGreatDoor
