/- Contracts of functions of the program, over the evaluator: what each answers. Conditions: those in each statement. -/
import Derived.Test.YtjmkmalgfanifaaGreatDoorCards
import Derived.Test.YtjmkmalgfanifaaGreatDoorTie
import Derived.Test.YtjmkmalgfanifaaGreatDoorP7
import Derived.Test.YtjmkmalgfanifaaGreatDoorP5
import Derived.WalkKit
import Derived.ProofKit
import Derived.LaidMore
import Derived.Deep.DeepHandedRow
import Derived.Lib.LaidTab
import Derived.Stop.LaidErr
set_option linter.all false
namespace Go.Proofs.YtjmkmalgfanifaaGreatDoor
open Go.ChangeShapes Go.WideShapes Go.ChangeAt Go.RowKit Go.Fs
theorem own : ownKnob Tryz.prog.godebug = none := by kernel_rfl
theorem laidOut : laidOutB Tryz.prog = true := by kernel_rfl
theorem tzGlob {W : World} (h : laidMetH Tryz.prog laid5 W) : ∀ x ∈ tzG, GlobW Tryz.prog W.heap.size W x := fun x hx => by
  rcases List.mem_cons.1 hx with rfl | hx
  · exact verdictsW h
  · obtain rfl := List.mem_singleton.1 hx; exact nobodyW h
theorem tzGT : GT (gHeap 3 tzG) [] := fun v hv => by
  rcases List.mem_cons.1 hv with rfl | hv
  · exact ⟨[.int .i64 (-1), .int .i64 0], rfl, by simp, rfl, fun _ _ => ⟨rfl, rfl⟩⟩
  · obtain rfl := List.mem_singleton.1 hv; exact ⟨[.string ⟨#[107, 101, 112, 116]⟩, .func (.func 237) #[] #[], .string ⟨#[109, 105, 115, 115, 101, 100]⟩, .func (.func 238) #[] #[], .string ⟨#[111, 112, 101, 110]⟩, .func (.func 239) #[] #[]], rfl, by simp, rfl, fun _ _ => ⟨⟨rfl, rfl⟩, ⟨rfl, rfl⟩, rfl, rfl⟩⟩
theorem seatHr {W : World} (h : laidMetH Tryz.prog laid5 W) : HR Tryz.prog (globR Tryz.prog) (fun b => ∃ x ∈ tzG, b = x.1 + 1) W.heap.size (Go.Fs.wz W) (gHeap 3 tzG) W := gHeap_hr (by decide) (by decide) (tzGlob h)
theorem tzSortI : Fs.Enters Tryz.prog 139 := ⟨_, Tryz.func139, rfl, by kernel_rfl⟩
theorem tzSortE : Fs.Enters Tryz.prog 186 := ⟨_, Tryz.func186, rfl, by kernel_rfl⟩
theorem tzCmpE : Fs.Enters Tryz.prog 187 := ⟨_, Tryz.func187, rfl, by kernel_rfl⟩
abbrev tyE : Ty := .pair (.int .i64) (.int .i64)
abbrev encE (x : Int × Int) : List Value := [.int .i64 x.1, .int .i64 x.2]
theorem gHeap_ok {n : Nat} {L : List (Nat × TypeId × List Value)} (hn : ∀ x ∈ L, x.1 + 1 < n) : HOk (gHeap n L) := fun b o hg => by
  obtain ⟨x, hx, rfl, _⟩ := gHeap_get hg; exact hn x hx
theorem tzCmp (x y : Int × Int) : EvF Tryz.prog orcN 187 [.agg (encE x).toArray, .agg (encE y).toArray] (gHeap 3 tzG) fun u _ => u = .int .i64 (cmpE x y) := by
  have hr : ∀ x : Int × Int, RepPV (gHeap 3 tzG) [] (.v tyE x) (.agg (encE x).toArray) := fun x => ⟨rfl, rfl, rfl⟩; exact (Cmp.nPas_ok (x := x) (y := y) (gHeap 3 tzG) [] [.agg (encE x).toArray, .agg (encE y).toArray] (gHeap_ok (by decide)) ⟨fun b hb => (by cases hb), tzGT⟩ ⟨_, _, rfl, hr x, _, _, rfl, hr y, rfl⟩).mono fun u h' hq => RepV.int hq.2.1
/-- The sort of passages by the library's contract. -/
theorem tzSortT {W : World} (ht : laidMetH Tryz.prog laid5 W) (blk cap n : Nat) (vs vs' : List Value) (w : World) (hl : vs.length = n * 2) (hs : srtG (τ := tyE) cmpE vs = some vs') (hb : Below W.heap.size (Go.Fs.wz W) w) (hBb : W.heap.size ≤ blk) (hH : Go.Sort.Holds id w blk 0 vs.toArray) (hblk : blk < w.heap.size) (hn : n ≤ 1000000) :
    Calls Tryz.prog 186 #[.slice (some ⟨blk, 0, none⟩) n cap, .func (.func 187) #[] #[]] w fun e w' => e = .returned (.tuple #[]) ∧ ∃ q os, w' = Go.Sort.grow (Go.Sort.putRow id (Go.Sort.ahead w q) blk 0 vs'.toArray) os := by
  obtain ⟨xs, rfl, rfl⟩ := srtG_inv hs; have hlen : ∀ ys : List (Int × Int), (encL tyE ys).length = ys.length * 2 := fun ys => encL_len (τ := tyE) rfl ys
  have hxs : xs.length = n := by rw [hlen] at hl; omega
  have hflat : ∀ ys : List (Int × Int), Go.Sort.flatK encE 2 ys.toArray = (encL tyE ys).toArray := fun ys => flatAny (enc := encE) (k := 2) (by decide) (fun _ => rfl) ys; have hcmp := cmp_laysG (P := Tryz.prog) tzOk tzCmpE (enc := encE) (k := 2) (cf := cmpE) (blk := blk) (off := 0) (size := xs.toArray.size) (w := w) (n := 3) (L := tzG) (by decide) (by decide) hBb hb.size (fun x hx => (tzGlob ht x hx).below (below_z hb)) (fun x => rfl) tzCmp; have hcon := AnyQ.slices_SortFunc_eq Tryz.sortPas 2 Tryz.isAgg111 Tryz.sizeOf111 encE (fun _ => rfl) (fun x v hv => by simp [encE] at hv; rcases hv with rfl | rfl <;> rfl) cmpE swoE 187 #[] blk 0 cap xs.toArray w (callFunc_run tzCmpE) hcmp (by unfold Go.Sort.HoldsK; rw [hflat]; exact hH) hblk (by simp; omega); have hcon : Calls Tryz.prog 186 #[.slice (some ⟨blk, 0, none⟩) xs.toArray.size cap, .func (.func 187) #[] #[]] w _ := hcon; rw [show xs.toArray.size = n by simpa using hxs] at hcon; refine hcon.mono fun e w' he => ?_; obtain ⟨he, q, os, hw⟩ := he; refine ⟨he, q, os, ?_⟩; rw [hw]; unfold Go.Proofs.sortWorldK Go.Sort.putRowK
  have e2 : (Go.Sort.pdq (ltOf cmpE) xs.toArray 0 n (Lib.bitLen n) true true) = (Go.Fs.sortG (τ := tyE) cmpE xs).toArray := by unfold Go.Fs.sortG; simp [hxs]; rfl
  rw [e2, hflat]
/-- The oracle is sound wherever the tables lie. -/
theorem orcOk {W : World} (h : laidMetH Tryz.prog laid5 W) : CallSound Tryz.prog W.heap.size (Go.Fs.wz W) OA := by
  have hT : ∀ w, Below W.heap.size W w → Lib.TabIs Tryz.prog w "internal/strconv.uint64pow10" .u64 Lib.pow10Tab := Lib.tabBelow_of_tabIs (powTab h)
  have hS : ∀ w, Below W.heap.size W w → CallSound Tryz.prog w.heap.size (Go.Fs.wz w) OB := fun w hw =>
    tzOrcB rfl (Nat.le_refl _) fun w' hw' => hT w' (hw.trans ((below_z hw').mono hw.size))
  refine orcF_sound rfl (srtG_ok rfl swoE) ?_ tzSortE (fun w hw => (AnyF.slices_SortFunc_none Tryz.sortPas none 0 _ w).mono fun e w' he => by obtain ⟨rfl, rfl⟩ := he; exact ⟨rfl, Below.refl _ _⟩) (tzSortT h); refine orcJ_sound rfl ?_ tzSortI (fun w hw => fsX_closed tzOk (hS w (below_z hw)) (m := 300) (args := [.slice none 0 0]) rfl (by kernel_rfl) rfl) fun blk off cap zs w hH hblk hsz => Tryz.slices_Sort_int blk off cap zs w hH hblk hsz; refine orcA_sound rfl (tzOrc rfl (Nat.le_refl _) fun w' hw' => hT w' (below_z hw')) tzAwakeE fun w hw => ?_; exact awakeGc_calls tzOk (n := 3) (L := tzG) (by decide) (by decide) (tzGlob h) (fun w hw => hw.size) (fun w' hw' => hS w' hw') tzRun w (below_z hw)
noncomputable def doorWorld (os : Os) : World := World.doorLaid Tryz.prog 200 os
end Go.Proofs.YtjmkmalgfanifaaGreatDoor
