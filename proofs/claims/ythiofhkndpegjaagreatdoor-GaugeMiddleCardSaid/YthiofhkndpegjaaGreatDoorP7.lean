/- Parts of the proof: an evaluator of the model, what it is sound for, and contracts of functions. No condition. -/
import Derived.Test.YthiofhkndpegjaaGreatDoorP6
import Derived.Test.YthiofhkndpegjaaGreatDoorP5
set_option linter.all false
namespace Go.Proofs
open Go.Fs Ieee
set_option maxHeartbeats 2000000
theorem zt55 : ZerT Tryz.prog 55 y55 := zerT_of (z := .agg #[.string ByteArray.empty, .int .i64 0, .slice none 0 0, .slice none 0 0]) (by kernel_rfl) rfl rfl
theorem zt59 : ZerT Tryz.prog 59 (.flt .f32) := zerT_of (z := .float .f32 0) (by kernel_rfl) rfl rfl
def canS (out : List (Int × Int)) (s : Int × Int) : List (Int × Int) :=
  if s.2 ≤ s.1 then out
  else if 0 < out.length ∧ s.1 ≤ (spX out (out.length - 1)).2 then out.set (out.length - 1) ((spX out (out.length - 1)).1, max (spX out (out.length - 1)).2 s.2)
  else out ++ [s]
def canE (l : List (Int × Int)) : List (Int × Int) := l.foldl canS []
theorem canE_snoc (l : List (Int × Int)) (s : Int × Int) : canE (l ++ [s]) = canS (canE l) s := by simp [canE]
theorem canE_next {l : List (Int × Int)} {j : Nat} (h : j < l.length) : canE (l.take (j + 1)) = canS (canE (l.take j)) l[j] := by
  rw [List.take_succ_eq_append_getElem h, canE_snoc]
theorem canS_len (out : List (Int × Int)) (s : Int × Int) : (canS out s).length ≤ out.length + 1 := by
  unfold canS; split
  · omega
  split
  · rw [List.length_set]; omega
  rw [List.length_append, List.length_singleton]; omega
theorem foldl_len : ∀ (l out : List (Int × Int)), (l.foldl canS out).length ≤ out.length + l.length
  | [], out => by simp
  | s :: l, out => by
    have h1 := foldl_len l (canS out s); have h2 := canS_len out s; rw [List.foldl_cons, List.length_cons]; omega
theorem canE_len (l : List (Int × Int)) : (canE l).length ≤ l.length := by
  have := foldl_len l []; simpa [canE] using this
theorem canS_0 {out : List (Int × Int)} {s : Int × Int} (h : s.2 ≤ s.1) : canS out s = out := by rw [canS, if_pos h]
theorem canS_1 {out : List (Int × Int)} {s : Int × Int} (h : ¬ s.2 ≤ s.1) (h0 : 0 < out.length) (h1 : s.1 ≤ (spX out (out.length - 1)).2) : canS out s = out.set (out.length - 1) ((spX out (out.length - 1)).1, max (spX out (out.length - 1)).2 s.2) := by rw [canS, if_neg h, if_pos ⟨h0, h1⟩]
theorem canS_2 {out : List (Int × Int)} {s : Int × Int} (h : ¬ s.2 ≤ s.1) (h1 : ¬ (0 < out.length ∧ s.1 ≤ (spX out (out.length - 1)).2)) : canS out s = out ++ [s] := by rw [canS, if_neg h, if_neg h1]
def gapS (out : List (Int × Int)) (i : Nat) : List (Int × Int) :=
  if 0 < out.length ∧ (spX out (out.length - 1)).2 = (i : Int) then out.set (out.length - 1) ((spX out (out.length - 1)).1, (i : Int) + 1)
  else out ++ [((i : Int), (i : Int) + 1)]
def gapsE (l : List Bool) : Nat → List (Int × Int)
  | 0 => []
  | i + 1 => if l.getD i false = true then gapsE l i else gapS (gapsE l i) i
theorem gapS_len (out : List (Int × Int)) (i : Nat) : (gapS out i).length ≤ out.length + 1 := by
  unfold gapS; split
  · rw [List.length_set]; omega
  rw [List.length_append, List.length_singleton]; omega
theorem gapsE_len (l : List Bool) : ∀ i, (gapsE l i).length ≤ i
  | 0 => Nat.le_refl _
  | i + 1 => by
    have h1 := gapsE_len l i; have h2 := gapS_len (gapsE l i) i; unfold gapsE; split <;> omega
theorem gapS_1 {out : List (Int × Int)} {i : Nat} (h0 : 0 < out.length) (h1 : (spX out (out.length - 1)).2 = (i : Int)) : gapS out i = out.set (out.length - 1) ((spX out (out.length - 1)).1, (i : Int) + 1) := by rw [gapS, if_pos ⟨h0, h1⟩]
theorem gapS_2 {out : List (Int × Int)} {i : Nat} (h1 : ¬ (0 < out.length ∧ (spX out (out.length - 1)).2 = (i : Int))) : gapS out i = out ++ [((i : Int), (i : Int) + 1)] := by rw [gapS, if_neg h1]
def unitE (l : List Bool) : Nat → List (Int × Int)
  | 0 => []
  | i + 1 => if l.getD i false = true then unitE l i else unitE l i ++ [((i : Int), (i : Int) + 1)]
theorem unitE_t {l : List Bool} {i : Nat} (h : i < l.length) (hb : l[i] = true) : unitE l (i + 1) = unitE l i := by
  rw [unitE, if_pos (by rw [List.getD_eq_getElem?_getD, List.getElem?_eq_getElem h]; exact hb)]
theorem unitE_f {l : List Bool} {i : Nat} (h : i < l.length) (hb : ¬ l[i] = true) : unitE l (i + 1) = unitE l i ++ [((i : Int), (i : Int) + 1)] := by
  rw [unitE, if_neg (by rw [List.getD_eq_getElem?_getD, List.getElem?_eq_getElem h]; exact hb)]
theorem unitE_len (l : List Bool) : ∀ i, (unitE l i).length ≤ i
  | 0 => Nat.le_refl _
  | i + 1 => by
    have h1 := unitE_len l i; unfold unitE; split
    · omega
    rw [List.length_append, List.length_singleton]; omega
theorem spX_last_set {out : List (Int × Int)} {s : Int × Int} (h : 0 < out.length) : spX (out.set (out.length - 1) s) ((out.set (out.length - 1) s).length - 1) = s := by
  rw [spX_eq (by rw [List.length_set]; omega), List.getElem_set, if_pos (by rw [List.length_set])]
theorem spX_last_app {out : List (Int × Int)} {s : Int × Int} : spX (out ++ [s]) ((out ++ [s]).length - 1) = s := by
  rw [spX_eq (by simp), List.getElem_append_right (by simp)]; simp
theorem gaps_last (l : List Bool) : ∀ i, 0 < (gapsE l i).length → (spX (gapsE l i) ((gapsE l i).length - 1)).2 ≤ (i : Int)
  | 0 => fun h => absurd h (by simp [gapsE])
  | i + 1 => fun h => by
    unfold gapsE at h ⊢; split at h
    · rename_i hb; rw [if_pos hb]; have := gaps_last l i h; omega
    rename_i hb; rw [if_neg hb]; unfold gapS; split
    · rename_i hc; rw [spX_last_set hc.1]; simp
    rw [spX_last_app]; simp
theorem unit_can (l : List Bool) : ∀ i, canE (unitE l i) = gapsE l i
  | 0 => rfl
  | i + 1 => by
    unfold unitE gapsE; split
    · exact unit_can l i
    rw [canE_snoc, unit_can l i]; have hl := gaps_last l i; by_cases hc : 0 < (gapsE l i).length ∧ (spX (gapsE l i) ((gapsE l i).length - 1)).2 = (i : Int)
    · rw [gapS_1 hc.1 hc.2, canS_1 (by show ¬ ((i : Int) + 1 ≤ (i : Int)); omega) hc.1 (by show (i : Int) ≤ _; omega)]; congr 2; show max _ ((i : Int) + 1) = _; omega
    rw [gapS_2 hc, canS_2 (by show ¬ ((i : Int) + 1 ≤ (i : Int)); omega) (fun hd => hc ⟨hd.1, by have := hl hd.1; have h2 : (i : Int) ≤ _ := hd.2; omega⟩)]
theorem spX_pre {l : List (Int × Int)} {n : Nat} (h0 : 0 < n) (h : ((n : Int) - 1).toNat < l.length) : l[((n : Int) - 1).toNat] = spX l (n - 1) := by
  have e : ((n : Int) - 1).toNat = n - 1 := by omega
  simp only [e] at h ⊢; exact (spX_eq h).symm
theorem gCanonO_ok {w_xs : Value} {xs : List (Int × Int)} (hl : xs.length < 1000000) : VFG Tryz.prog OA 113 [.raw w_xs] [(w_xs, .row 39 y39 xs)] (fun r' g => r' = (.v y22 (canE xs)) ∧ g = []) := by
  refine VFG.enterC Tryz.func113 rfl (fun _ _ => rfl) rfl ?_; show VC _ _ _ _ _ [(0, .raw w_xs)] [(w_xs, .row 39 y39 xs)] _; refine VC.seq (VC.text ?_); refine VO.c (.assign rfl) ?_; refine VO.go (VC.seq (VC.text ?_)); refine VO.c (.assign rfl) ?_; refine VO.go (VC.seq (VC.seq (VC.text ?_))); refine VO.c (.move rfl) ?_; refine VO.r (.lenO m0 el22) ?_; refine VO.c (.move rfl) ?_; refine VO.go (VC.block ?_); refine VC.cell0 39 y39 ?_; refine VC.keep [(3, .raw (.slice none 0 0)), (7, .raw w_xs), (8, I ((xs.length : Nat) : Int)), (9, I ((0 : Nat) : Int))] ⟨rfl, rfl, rfl, rfl, trivial⟩ ?_; refine VC.loop (I := fun kk ff ss => ∃ (i : Nat) (out : Value), kk = xs.length - i ∧ ff = [(3, .raw out), (7, .raw w_xs), (8, I ((xs.length : Nat) : Int)), (9, I ((i : Nat) : Int))] ∧ ss = [(out, .row 39 y39 (canE (xs.take i))), (w_xs, .row 39 y39 xs)] ∧ (i ≤ xs.length) ∧ ((canE (xs.take i)).length ≤ i)) ?_ _ _ _ ⟨0, (.slice none 0 0), rfl, rfl, rfl, Nat.zero_le _, (by rw [List.take_zero]; exact Nat.le_refl _)⟩; rintro kk ff ss ⟨i, out, hk0, rfl, rfl, hi, hcl⟩; refine VC.seq (VC.text ?_); refine VO.c (.lss) ?_; refine VO.go (VC.seq ?_); refine VC.condD rfl (fun c3 => ?_) (fun c3 => ?_)
  · refine VC.skip (VC.seq (VC.block (VC.seq (VC.text ?_)))); have e1 := canE_next (show i < xs.length by omega); refine VO.c (.ixO (j := i) rfl rfl m1 el22 (by omega)) ?_; refine VO.r (.ldO rfl m1 vt39 (by omega)) ?_; refine VO.cell (.alloc zt39) ?_; intro ww7; refine VO.setV (cs' := [I ((xs[i]).1), I ((xs[i]).2)]) vt39 .v ?_; refine VO.shut [(5, .p y39 (xs[i]))] (.cons rfl (.var m0 .refl) .nil) ?_; refine VO.go (VC.seq (VC.text ?_)); refine VO.c (.move rfl) ?_; refine VO.r (.lenO m0 el22) ?_; refine VO.c (.assign rfl) ?_; refine VO.go (VC.block (VC.seq (VC.text ?_))); refine VO.c (.fa (.l .o)) ?_; refine VO.r (.ld vt3) ?_; refine VO.c (.fa (.r .o)) ?_; refine VO.r (.ld vt3) ?_; refine VO.c (.geq) ?_; refine VO.c (.assign rfl) ?_; refine VO.go ?_; refine VC.condD rfl (fun c7 => ?_) (fun c7 => ?_)
    · have e3 := canS_0 (out := canE (xs.take i)) c7; refine VC.skip (VC.text ?_); refine VO.c (.add rfl rfl (by omega)) ?_; refine VO.c (.move rfl) ?_; refine VO.nil ?_; refine ⟨_, [(3, .raw out), (7, .raw w_xs), (8, I ((xs.length : Nat) : Int)), (9, I (((i + 1) : Nat) : Int))], ?_, ⟨rfl, rfl, rfl, rfl, trivial⟩, (i + 1), out, rfl, rfl, (by first | (rw [e1, e3]; done) | (rw [e1, e3, e2]; simp only [e4]; done) | (rw [e1, e3]; rfl)), (by omega), (by exact Nat.le_trans (canE_len _) (List.length_take_le _ _))⟩; omega
    refine VC.seq (VC.drawn ?_); refine VD.c (.move rfl) ?_; refine VD.c (.gtr) ?_; refine VD.c (.move rfl) ?_; refine VD.splitD (x := 28) rfl (fun g8_2 => ?_) (fun g8_2 => ?_)
    · refine VD.c (.move rfl) ?_; refine VD.c (.move rfl) ?_; refine VD.nw [] ?_; refine VD.c (.sub rfl rfl (by omega)) ?_; refine VD.co (.ixOZ (k := ((((canE (xs.take i)).length : Nat) : Int) - (1 : Int))) rfl rfl m0 el22 (by omega) (by omega)) ?_; refine VD.co (.faE (j := (Int.toNat ((((canE (xs.take i)).length : Nat) : Int) - (1 : Int)))) (k := 1) m0 (by omega)) ?_; refine VD.r [(out, .row 39 y39 (canE (xs.take i))), (w_xs, .row 39 y39 xs)] (.ldE (j := (Int.toNat ((((canE (xs.take i)).length : Nat) : Int) - (1 : Int)))) (k := 1) (by omega) (.r .o) rfl m0 vt3) (.inr ⟨rfl, rfl⟩) ?_; refine VD.c (.fa (.l .o)) ?_; refine VD.r [] (.ld vt3) (.inl rfl) ?_; refine VD.c (.geq) ?_; refine VD.nw [] ?_; refine VD.c (.pickT rfl rfl) ?_; refine VD.c (.assign rfl) ?_; refine VD.go ?_; refine VC.condD rfl (fun c8 => ?_) (fun c8 => ?_)
      · have h0 : 0 < (canE (xs.take i)).length := by omega
        have e2 := spX_pre (l := canE (xs.take i)) h0 (by omega); have e3 := canS_1 (out := canE (xs.take i)) c7 h0 (by rw [← e2]; exact c8)
        have e4 : ((((canE (xs.take i)).length : Nat) : Int) - (1 : Int)).toNat = (canE (xs.take i)).length - 1 := by omega
        refine VC.drawn ?_; refine VD.c (.move rfl) ?_; refine VD.c (.move rfl) ?_; refine VD.c (.sub rfl rfl (by omega)) ?_; refine VD.c (.move rfl) ?_; refine VD.c (.move rfl) ?_; refine VD.c (.sub rfl rfl (by omega)) ?_; refine VD.nw [] ?_; refine VD.co (.ixOZ (k := ((((canE (xs.take i)).length : Nat) : Int) - (1 : Int))) rfl rfl m0 el22 (by omega) (by omega)) ?_; refine VD.co (.faE (j := (Int.toNat ((((canE (xs.take i)).length : Nat) : Int) - (1 : Int)))) (k := 1) m0 (by omega)) ?_; refine VD.r [(out, .row 39 y39 (canE (xs.take i))), (w_xs, .row 39 y39 xs)] (.ldE (j := (Int.toNat ((((canE (xs.take i)).length : Nat) : Int) - (1 : Int)))) (k := 1) (by omega) (.r .o) rfl m0 vt3) (.inr ⟨rfl, rfl⟩) ?_; refine VD.c (.fa (.r .o)) ?_; refine VD.r [] (.ld vt3) (.inl rfl) ?_; refine VD.r [] (.max) (.inl rfl) ?_; refine VD.co (.ixOZ (k := ((((canE (xs.take i)).length : Nat) : Int) - (1 : Int))) rfl rfl m0 el22 (by omega) (by omega)) ?_; refine VD.nw [] ?_; refine VD.co (.faE (j := (Int.toNat ((((canE (xs.take i)).length : Nat) : Int) - (1 : Int)))) (k := 1) m0 (by omega)) ?_; refine VD.mk0 (MakeV.setEF (j := (Int.toNat ((((canE (xs.take i)).length : Nat) : Int) - (1 : Int)))) (k := 1) (dz := (((canE (xs.take i))[(Int.toNat ((((canE (xs.take i)).length : Nat) : Int) - (1 : Int)))]).1, (max (((canE (xs.take i))[(Int.toNat ((((canE (xs.take i)).length : Nat) : Int) - (1 : Int)))]).2) ((xs[i]).2)))) (by omega) vt3 (.r .o) rfl rfl) ?_; rintro _ _ tl8 ⟨rfl, rfl⟩; refine VD.nil ?_; refine VC.keep [(3, .raw out), (7, .raw w_xs), (8, I ((xs.length : Nat) : Int)), (9, I ((i : Nat) : Int))] ⟨rfl, rfl, rfl, rfl, trivial⟩ ?_; refine VC.text ?_; refine VO.c (.add rfl rfl (by omega)) ?_; refine VO.c (.move rfl) ?_; refine VO.nil ?_; refine ⟨_, [(3, .raw out), (7, .raw w_xs), (8, I ((xs.length : Nat) : Int)), (9, I (((i + 1) : Nat) : Int))], ?_, ⟨rfl, rfl, rfl, rfl, trivial⟩, (i + 1), out, rfl, rfl, (by first | (rw [e1, e3]; done) | (rw [e1, e3, e2]; simp only [e4]; done) | (rw [e1, e3]; rfl)), (by omega), (by exact Nat.le_trans (canE_len _) (List.length_take_le _ _))⟩; omega
      have e3 := canS_2 (out := canE (xs.take i)) c7 (fun hh => by first | exact absurd hh.1 (by omega) | (rw [← spX_pre hh.1 (by omega)] at hh; exact c8 hh.2)); refine VC.text ?_; refine VO.c (.move rfl) ?_; refine VO.r (.ld vt39) ?_; refine VO.new (.lit [xs[i]] el22) ?_; refine VO.app rfl rfl el22 el22 (by simp; omega) ?_; intro ww9; refine VO.c (.assign rfl) ?_; refine VO.nil ?_; refine VC.keep [(3, .raw ww9), (7, .raw w_xs), (8, I ((xs.length : Nat) : Int)), (9, I ((i : Nat) : Int))] ⟨rfl, rfl, rfl, rfl, trivial⟩ ?_; refine VC.text ?_; refine VO.c (.add rfl rfl (by omega)) ?_; refine VO.c (.move rfl) ?_; refine VO.nil ?_; refine ⟨_, [(3, .raw ww9), (7, .raw w_xs), (8, I ((xs.length : Nat) : Int)), (9, I (((i + 1) : Nat) : Int))], ?_, ⟨rfl, rfl, rfl, rfl, trivial⟩, (i + 1), ww9, rfl, rfl, (by first | (rw [e1, e3]; done) | (rw [e1, e3, e2]; simp only [e4]; done) | (rw [e1, e3]; rfl)), (by omega), (by exact Nat.le_trans (canE_len _) (List.length_take_le _ _))⟩; omega
    have e3 := canS_2 (out := canE (xs.take i)) c7 (fun hh => absurd hh.1 (by omega)); refine VD.skip ?_; refine VD.skip ?_; refine VD.nw [] ?_; refine VD.skip ?_; refine VD.skip ?_; refine VD.skip ?_; refine VD.skip ?_; refine VD.skip ?_; refine VD.skip ?_; refine VD.skip ?_; refine VD.nw [] ?_; refine VD.c (.pickF rfl rfl) ?_; refine VD.c (.assign rfl) ?_; refine VD.go ?_; refine VC.condF rfl ?_; refine VC.text ?_; refine VO.c (.move rfl) ?_; refine VO.r (.ld vt39) ?_; refine VO.new (.lit [xs[i]] el22) ?_; refine VO.app rfl rfl el22 el22 (by simp; omega) ?_; intro ww10; refine VO.c (.assign rfl) ?_; refine VO.nil ?_; refine VC.keep [(3, .raw ww10), (7, .raw w_xs), (8, I ((xs.length : Nat) : Int)), (9, I ((i : Nat) : Int))] ⟨rfl, rfl, rfl, rfl, trivial⟩ ?_; refine VC.text ?_; refine VO.c (.add rfl rfl (by omega)) ?_; refine VO.c (.move rfl) ?_; refine VO.nil ?_; refine ⟨_, [(3, .raw ww10), (7, .raw w_xs), (8, I ((xs.length : Nat) : Int)), (9, I (((i + 1) : Nat) : Int))], ?_, ⟨rfl, rfl, rfl, rfl, trivial⟩, (i + 1), ww10, rfl, rfl, (by first | (rw [e1, e3]; done) | (rw [e1, e3, e2]; simp only [e4]; done) | (rw [e1, e3]; rfl)), (by omega), (by exact Nat.le_trans (canE_len _) (List.length_take_le _ _))⟩; omega
  refine VC.exit (VC.seq (VC.text ?_)); refine VO.c (.move rfl) ?_; refine VO.c (.assign rfl) ?_; refine VO.go ?_; refine VC.ret ?_; exact VEnd.one rfl (evC (.row m0)) (pvE (by rw [List.take_of_length_le (by omega)]))
def keptL (r : Rec1) (l : List Bool) (f : Nat → Nat) (n : Nat) : List Nat := (List.range r.2.2.1.length).map fun i => if i < n ∧ l.getD i false = true then f (r.2.2.1.getD i 0) else 0
theorem keptL_len {r : Rec1} {l : List Bool} {f : Nat → Nat} {n : Nat} : (keptL r l f n).length = r.2.2.1.length := by simp [keptL]
theorem keptL_at {r : Rec1} {l : List Bool} {f : Nat → Nat} {n i : Nat} (h : i < r.2.2.1.length) : (keptL r l f n)[i]'(by rw [keptL_len]; exact h) = if i < n ∧ l.getD i false = true then f (r.2.2.1.getD i 0) else 0 := by
  unfold keptL; rw [List.getElem_map, List.getElem_range]
def plusZ (x : Nat) : Nat := (single.add x 0).getD 0
theorem u32_0 : u32 0 = some 0 := by decide +kernel
theorem plusZ_ok {x : Nat} (h : lvlE x = 0) : single.add x 0 = some (plusZ x) ∧ lvlE (plusZ x) = 0 ∧ u32 (plusZ x) = u32 x := by
  obtain ⟨h1, h2, h3⟩ := lvl_ok h
  obtain ⟨r, hr, hr2⟩ := add32 h1 u32_0 (by
    rw [Int.add_zero, Int.natAbs_mul]
    exact rep_small (n := (sxE x).natAbs) (j := 145) (by show _ < 2 ^ (23 + 1); omega) (by decide))
  have e : plusZ x = r := by rw [plusZ, hr] <;> rfl
  rw [Int.add_zero] at hr2; rw [e]; exact ⟨hr, (lvl_of hr2 h2 h3).1, by rw [hr2, h1]⟩
def keepL (r : Rec1) (l : List Bool) (n : Nat) : List Nat := (List.range r.2.2.1.length).map fun i => if i < n then (if l.getD i false = true then plusZ (r.2.2.1.getD i 0) else 0) else r.2.2.1.getD i 0
theorem keepL_len {r : Rec1} {l : List Bool} {n : Nat} : (keepL r l n).length = r.2.2.1.length := by simp [keepL]
theorem keepL_at {r : Rec1} {l : List Bool} {n i : Nat} (h : i < r.2.2.1.length) : (keepL r l n)[i]'(by rw [keepL_len]; exact h) = if i < n then (if l.getD i false = true then plusZ (r.2.2.1.getD i 0) else 0) else r.2.2.1.getD i 0 := by
  unfold keepL; rw [List.getElem_map, List.getElem_range]
theorem getDat {α : Type} {l : List α} {i : Nat} {d : α} (h : i < l.length) : l.getD i d = l[i] := by
  rw [List.getD_eq_getElem?_getD, List.getElem?_eq_getElem h] <;> rfl
theorem keepL_0 {r : Rec1} {l : List Bool} : r.2.2.1 = keepL r l 0 := by
  refine List.ext_getElem (by rw [keepL_len]) fun i h1 h2 => ?_; rw [keepL_at h1, if_neg (by omega), getDat h1]
theorem keepL_cur {r : Rec1} {l : List Bool} {n : Nat} (hn : n < r.2.2.1.length) (h : n < (keepL r l n).length) : (keepL r l n)[n] = r.2.2.1[n] := by
  rw [keepL_at hn, if_neg (by omega), getDat hn]
theorem keepL_s {r : Rec1} {l : List Bool} {n : Nat} (hn : n < r.2.2.1.length) : keepL r l (n + 1) = (keepL r l n).set n (if l.getD n false = true then plusZ (r.2.2.1.getD n 0) else 0) := by
  refine List.ext_getElem (by rw [List.length_set, keepL_len, keepL_len]) fun i h1 h2 => ?_; rw [keepL_len] at h1; rw [List.getElem_set, keepL_at h1]; by_cases e : n = i
  · subst e; rw [if_pos rfl, if_pos (by omega)]
  rw [if_neg e, keepL_at h1]; exact ite_congr (propext ⟨fun hh => by omega, fun hh => by omega⟩) (fun _ => rfl) (fun _ => rfl)
theorem keepL_t {r : Rec1} {l : List Bool} {n : Nat} (hn : n < r.2.2.1.length) (h : n < l.length) (hb : l[n] = true) : keepL r l (n + 1) = (keepL r l n).set n (plusZ r.2.2.1[n]) := by
  rw [keepL_s hn, if_pos (by rw [getDat h]; exact hb), getDat hn]
theorem keepL_f {r : Rec1} {l : List Bool} {n : Nat} (hn : n < r.2.2.1.length) (h : n < l.length) (hb : l[n] = false) : keepL r l (n + 1) = (keepL r l n).set n 0 := by
  rw [keepL_s hn, if_neg (by rw [getDat h, hb]; exact Bool.false_ne_true)]
theorem keepL_all {r : Rec1} {l : List Bool} (h : l.length = r.2.2.1.length) : keepL r l l.length = keptL r l plusZ l.length := by
  refine List.ext_getElem (by rw [keepL_len, keptL_len]) fun i h1 h2 => ?_; rw [keepL_len] at h1; rw [keepL_at h1, keptL_at h1, if_pos (by omega)]; exact ite_congr (propext ⟨fun hh => ⟨by omega, hh⟩, fun hh => hh.2⟩) (fun _ => rfl) (fun _ => rfl)
theorem gKeeping_ok {r : ByteArray × Int × (List Nat) × (List (Int × Int))} {l : List Bool} (hr : r.2.2.1.length < 1000000) (hl : l.length = r.2.2.1.length) (hv : ∀ x ∈ r.2.2.1, lvlE x = 0) : VF Tryz.prog OA 101 [.v y65 r, .v (.sl .bool) l] (.v y65 (r.1, r.2.1, keptL r l plusZ l.length, gapsE l l.length)) := by
  refine VF.enter Tryz.func101 rfl (fun _ _ => rfl) rfl ?_; show VC _ _ _ _ _ [(0, .v y65 r), (1, .v (.sl .bool) l)] [] _; refine VC.seq (VC.text ?_); refine VO.new (.box) ?_; refine VO.cell (.alloc zt65) ?_; intro ww17; refine VO.go (VC.seq (VC.drawn ?_)); refine VD.c (.fa (.l .o)) ?_; refine VD.r [] (.ld vt9) (.inl rfl) ?_; refine VD.c (.fa (.r (.l .o))) ?_; refine VD.r [] (.ld vt3) (.inl rfl) ?_; refine VD.c (.fa (.r (.r (.l .o)))) ?_; refine VD.r [] (.ld vt53) (.inl rfl) ?_; refine VD.nw [] ?_; refine VD.r [] (.len el53) (.inl rfl) ?_; refine VD.cell (.make (k := r.2.2.1.length) rfl rfl el53 zt59 (by omega)) ?_; intro ww18; refine VD.one m0 fun ho19 => ?_; refine VD.c (.buildR (cs := [St r.1, I r.2.1, .raw ww18, nilV]) bt65 rfl rfl (.cons (.v) rfl rfl (.cons (.v) rfl rfl (.cons (.w ho19) rfl rfl (.nil rfl))))) ?_; refine VD.cell (.alloc zt65) ?_; intro ww20; refine VD.mk0 (MakeV.setF (k := 0) vt65 (.aggs rfl (allC rfl (allC rfl (allC (p := .raw ww18) ho19 (allC rfl rfl))))) (Nat.le_of_ble_eq_true rfl) (.inr ⟨rfl, rfl⟩) rfl rfl) ?_; rintro _ _ tl21 ⟨rfl, rfl⟩; refine VD.go (VC.seq (VC.text ?_)); refine VO.c (.faO (k := 2) m0) ?_; refine VO.r (.ldF (k := 2) m0 vt53) ?_; refine VO.c (.fa (.r (.r (.l .o)))) ?_; refine VO.r (.ld vt53) ?_; refine VO.perm swap1 ?_; refine VO.copy rfl rfl el53 (by simp) ?_; refine VO.go (VC.seq (VC.seq (VC.text ?_))); refine VO.c (.move rfl) ?_; refine VO.r (.len el156) ?_; refine VO.c (.move rfl) ?_; refine VO.go (VC.block ?_); refine VC.cell0 39 y39 ?_; refine VC.keep [(4, .raw ww17), (5, .raw ww20), (22, .v (.sl .bool) l), (23, I ((l.length : Nat) : Int)), (24, I ((0 : Nat) : Int))] ⟨rfl, rfl, rfl, rfl, rfl, trivial⟩ ?_; refine VC.loop (I := fun kk ff ss => ∃ (i : Nat) (w : Value), kk = l.length - i ∧ ff = [(4, .raw ww17), (5, .raw ww20), (22, .v (.sl .bool) l), (23, I ((l.length : Nat) : Int)), (24, I ((i : Nat) : Int))] ∧ ss = [(w, .row 39 y39 (unitE l i)), (ww18, .row 59 (.flt .f32) (keepL r l i)), (ww20, .var [St r.1, I r.2.1, .raw ww18, .raw w]), (ww17, .var [St ByteArray.empty, I (0 : Int), .v y53 [], .v y22 []])] ∧ (i ≤ l.length) ∧ ((keepL r l i).length = r.2.2.1.length) ∧ ((unitE l i).length ≤ i)) ?_ _ _ _ ⟨0, (.slice none 0 0), rfl, rfl, (by rw [← keepL_0] <;> rfl), Nat.zero_le _, (by exact keepL_len), (by exact Nat.le_refl _)⟩; rintro kk ff ss ⟨i, w, hk0, rfl, rfl, hi, hkl, hul⟩; refine VC.seq (VC.text ?_); refine VO.c (.lss) ?_; refine VO.go (VC.seq ?_); refine VC.condD rfl (fun c4 => ?_) (fun c4 => ?_)
  · have hil : i < r.2.2.1.length := by omega
    have hkc := keepL_cur (r := r) (l := l) hil (by omega)
    have hpz : single.add ((keepL r l i)[i]'(by omega)) 0 = some (plusZ r.2.2.1[i]) := by rw [hkc]; exact (plusZ_ok (hv _ (List.getElem_mem hil))).1
    refine VC.skip (VC.seq (VC.block (VC.seq (VC.text ?_)))); refine VO.c (.move rfl) ?_; refine VO.c (.ix (j := i) rfl rfl el156 (by omega)) ?_; refine VO.r (.ld vt4) ?_; refine VO.c (.assign rfl) ?_; refine VO.c (.assign rfl) ?_; refine VO.go (VC.seq (VC.seq (VC.text ?_))); refine VO.c (.move rfl) ?_; refine VO.go ?_; refine VC.condB rfl (fun c6 => ?_) (fun c6 => ?_)
    · refine VC.seq (VC.text ?_); refine VO.c (.faO (k := 2) m2) ?_; refine VO.r (.ldF (k := 2) m2 vt53) ?_; refine VO.c (.move rfl) ?_; refine VO.c (.ixO (j := i) rfl rfl m1 el53 (by omega)) ?_; refine VO.r (.ldO rfl m1 vt59 (by omega)) ?_; refine VO.c (.fop (add32E hpz)) ?_; refine VO.c (.ixO (j := i) rfl rfl m1 el53 (by omega)) ?_; refine VO.perm swap1 ?_; refine VO.setE i rfl rfl vt59 (by omega) ?_; refine VO.go (VC.exit (VC.text ?_)); refine VO.c (.add rfl rfl (by omega)) ?_; refine VO.c (.move rfl) ?_; refine VO.perm swap3 ?_; refine VO.perm swap3 ?_; refine VO.perm swap2 ?_; refine VO.perm swap3 ?_; refine VO.nil ?_; refine ⟨_, [(4, .raw ww17), (5, .raw ww20), (22, .v (.sl .bool) l), (23, I ((l.length : Nat) : Int)), (24, I (((i + 1) : Nat) : Int))], ?_, ⟨rfl, rfl, rfl, rfl, rfl, trivial⟩, (i + 1), w, rfl, rfl, (by first | (rw [keepL_t (by omega) (by omega) c6, unitE_t (by omega) c6]; done) | (rw [keepL_f (by omega) (by omega) c6, unitE_f (by omega) (by rw [c6]; exact Bool.false_ne_true)]; done) | (rw [keepL_t (by omega) (by omega) c6, unitE_t (by omega) c6]; rfl) | (rw [keepL_f (by omega) (by omega) c6, unitE_f (by omega) (by rw [c6]; exact Bool.false_ne_true)]; rfl)), (by omega), (by exact keepL_len), (by exact unitE_len l _)⟩; omega
    refine VC.skip (VC.seq (VC.text ?_)); refine VO.c (.faO (k := 2) m2) ?_; refine VO.r (.ldF (k := 2) m2 vt53) ?_; refine VO.c (.move rfl) ?_; refine VO.c (.ixO (j := i) rfl rfl m1 el53 (by omega)) ?_; refine VO.perm swap1 ?_; refine VO.setE i rfl rfl vt59 (by omega) ?_; refine VO.go (VC.text ?_); refine VO.c (.faO (k := 3) m2) ?_; refine VO.r (.ldF (k := 3) m2 vt22AP) ?_; refine VO.c (.move rfl) ?_; refine VO.c (.move rfl) ?_; refine VO.c (.add rfl rfl (by omega)) ?_; refine VO.c (.build (((i : Nat) : Int), (((i : Nat) : Int) + (1 : Int))) bt39) ?_; refine VO.new (.lit [(((i : Nat) : Int), (((i : Nat) : Int) + (1 : Int)))] el22) ?_; refine VO.perm swap1 ?_; refine VO.app rfl rfl el22 el22 (by simp; omega) ?_; intro ww22; refine VO.c (.faO (k := 3) m2) ?_; refine VO.perm swap2 ?_; refine VO.one m1 fun ho23 => ?_; refine VO.setF (cs' := [St r.1, I r.2.1, .raw ww18, .raw ww22]) 3 vt22AP (.raw rfl (agg_one ho23) ho23) ?_; refine VO.nil (VC.text ?_); refine VO.c (.add rfl rfl (by omega)) ?_; refine VO.c (.move rfl) ?_; refine VO.perm swap3 ?_; refine VO.perm swap1 ?_; refine VO.perm swap3 ?_; refine VO.perm swap3 ?_; refine VO.nil ?_; refine ⟨_, [(4, .raw ww17), (5, .raw ww20), (22, .v (.sl .bool) l), (23, I ((l.length : Nat) : Int)), (24, I (((i + 1) : Nat) : Int))], ?_, ⟨rfl, rfl, rfl, rfl, rfl, trivial⟩, (i + 1), ww22, rfl, rfl, (by first | (rw [keepL_t (by omega) (by omega) c6, unitE_t (by omega) c6]; done) | (rw [keepL_f (by omega) (by omega) c6, unitE_f (by omega) (by rw [c6]; exact Bool.false_ne_true)]; done) | (rw [keepL_t (by omega) (by omega) c6, unitE_t (by omega) c6]; rfl) | (rw [keepL_f (by omega) (by omega) c6, unitE_f (by omega) (by rw [c6]; exact Bool.false_ne_true)]; rfl)), (by omega), (by exact keepL_len), (by exact unitE_len l _)⟩; omega
  refine VC.exit (VC.seq (VC.text ?_)); refine VO.c (.faO (k := 3) m2) ?_; refine VO.r (.ldF (k := 3) m2 vt22AP) ?_; refine VO.callG [(w, .row 39 y39 (unitE l i))] rfl rfl rfl (VFG.call (gCanonO_ok (Nat.lt_of_le_of_lt (unitE_len _ _) (by omega)))) ?_; rintro _ _ ⟨rfl, rfl⟩; show VO _ _ _ _ _ _ [(ww18, .row 59 (.flt .f32) (keepL r l i)), (ww20, .var [St r.1, I r.2.1, .raw ww18, .raw w]), (ww17, .var [St ByteArray.empty, I (0 : Int), .v y53 [], .v y22 []])] _; refine VO.c (.faO (k := 3) m1) ?_; refine VO.perm swap1 ?_; refine VO.setF (cs' := [St r.1, I r.2.1, .raw ww18, .v y22 (canE (unitE l i))]) 3 vt22AP .v ?_; refine VO.go (VC.seq ?_); refine VC.perm swap1 ?_; refine VC.shutL [(ww18, .row 59 (.flt .f32) (keepL r l i)), (ww20, .var [St r.1, I r.2.1, .raw ww18, .v y22 (canE (unitE l i))])] [(5, .p y65 (r.1, r.2.1, (keepL r l i), canE (unitE l i)))] rfl (.cons rfl (.var m1 (.cons .same (.cons .same (.cons (.row m0) (.cons .same .nil))))) .nil) ?_; refine VC.text ?_; refine VO.r (.ld vt65) ?_; refine VO.setV (cs' := [St r.1, I r.2.1, .v y53 (keepL r l i), .v y22 (canE (unitE l i))]) vt65 .v ?_; refine VO.go ?_; refine VC.ret ?_; exact VEnd.one rfl (.cell (x := (r.1, r.2.1, (keepL r l i), canE (unitE l i))) rfl m0 vt65 .refl) (pvE (by rw [show i = l.length by omega, unit_can, keepL_all hl] <;> rfl))
end Go.Proofs
namespace Go.Fs
variable {P : Program} {fl : VL} {σ : Sto} {T T' : TypeId} {x y : Operand} {p q : Int}
end Go.Fs
namespace Go.Fs
variable {P : Program} {orc : FuncId → List Value → Heap → Option (Value × Heap)} {h : Heap} {σ ρ : Sto} {fl : VL} {ops : Array Oper} {n i mem : Nat} {l : List Oper} {K : VL → Sto → Prop} {nw bs : List Nat} {tl : Bool} {hr : Heap} {S0 A : List Nat} {t : Tr} {rd chg : List Nat}
end Go.Fs
namespace Go.Proofs
open Go.Fs Ieee
set_option maxHeartbeats 400000
theorem rec_ok {r : Rec1} (h : recE r = 0) : (0 ≤ r.2.1 ∧ r.2.1 ≤ 100000) ∧ r.2.2.1.length ≤ 4096 ∧ r.2.2.2.length ≤ 2048 ∧ (∀ x ∈ r.2.2.1, lvlE x = 0) ∧ ∀ s ∈ r.2.2.2, 0 ≤ s.1 ∧ s.1 < s.2 ∧ s.2 ≤ (r.2.2.1.length : Nat) := by
  unfold recE at h; split at h
  · rename_i h1; exact absurd h h1
  rename_i h1; split at h
  · rename_i h2; exact absurd h h2
  rename_i h2; split at h
  · cases h
  rename_i h3; have h1 := firstE_zero.1 (Classical.not_not.1 h1); have h2 := bodyE_zero.1 (Classical.not_not.1 h2); have h4 := spans_canon h2.2; have h5 := bey_f (by simpa using h3); have h6 := h1 (rangeE r.2.1 0 100000) (by simp); have h7 := h1 (whenE (decide ((4096 : Int) < (r.2.2.1.length : Nat))) 5) (by simp)
  have h6 : 0 ≤ r.2.1 ∧ r.2.1 ≤ 100000 := by
    unfold rangeE at h6; split at h6
    · cases h6
    omega
  rw [whenE_zero (by decide), decide_eq_false_iff_not] at h7; refine ⟨h6, by omega, h4.2, fun x hx => firstE_zero.1 h2.1 _ (List.mem_map.2 ⟨x, hx, rfl⟩), fun s hs => ?_⟩; have h8 := h4.1.1 s hs; exact ⟨h8.1, h8.2.1, h5 s hs⟩
def sameLv (a b : List Nat) : Bool := decide (a.length = b.length ∧ ∀ i, i < a.length → fcmpE .neq .f32 (a.getD i 0) (b.getD i 0) = false)
theorem rSameLv_ok {a : List Nat} {b : List Nat} (ha : a.length < 1000000) : VF Tryz.prog OA 67 [.v y53 a, .v y53 b] (B (sameLv a b)) := by
  refine VF.enter Tryz.func67 rfl (fun _ _ => rfl) rfl ?_; show VC _ _ _ _ _ [(0, .v y53 a), (1, .v y53 b)] [] _; refine VC.seq (VC.text ?_); refine VO.c (.assign rfl) ?_; refine VO.go (VC.seq (VC.seq (VC.text ?_))); refine VO.c (.move rfl) ?_; refine VO.r (.len el53) ?_; refine VO.c (.move rfl) ?_; refine VO.r (.len el53) ?_; refine VO.c (.neq) ?_; refine VO.go ?_; refine VC.condD rfl (fun c1 => ?_) (fun c1 => ?_)
  · have hne : ¬ a.length = b.length := by omega
    refine VC.seq (VC.text ?_); refine VO.c (.assign rfl) ?_; refine VO.go ?_; refine VC.ret ?_; exact VEnd.one rfl evT (pvE (by exact (decide_eq_false fun hh => hne hh.1).symm))
  have hle : a.length = b.length := by omega
  refine VC.skip (VC.seq (VC.seq (VC.text ?_))); refine VO.c (.assign rfl) ?_; refine VO.go (VC.block ?_); refine VC.keep [(0, .v y53 a), (1, .v y53 b), (5, I ((0 : Nat) : Int))] ⟨rfl, rfl, rfl, trivial⟩ ?_; refine VC.loop (I := fun kk ff ss => ∃ (i : Nat), kk = a.length - i ∧ ff = [(0, .v y53 a), (1, .v y53 b), (5, I ((i : Nat) : Int))] ∧ ss = [] ∧ (i ≤ a.length) ∧ (∀ j, j < i → fcmpE .neq .f32 (a.getD j 0) (b.getD j 0) = false)) ?_ _ _ _ ⟨0, rfl, rfl, rfl, Nat.zero_le _, (by intro j hj; omega)⟩; rintro kk ff ss ⟨i, hk0, rfl, rfl, hi, hn⟩; refine VC.seq (VC.seq (VC.text ?_)); refine VO.c (.move rfl) ?_; refine VO.c (.move rfl) ?_; refine VO.r (.len el53) ?_; refine VO.c (.lss) ?_; refine VO.go ?_; refine VC.condD rfl (fun c4 => ?_) (fun c4 => ?_)
  · have hi' : i < a.length := by omega
    refine VC.skip (VC.seq (VC.block (VC.seq (VC.drawn ?_)))); refine VD.c (.move rfl) ?_; refine VD.c (.move rfl) ?_; refine VD.c (.ix (j := i) rfl rfl el53 (by omega)) ?_; refine VD.r [] (.ld vt59) (.inl rfl) ?_; refine VD.c (.move rfl) ?_; refine VD.c (.move rfl) ?_; refine VD.nw [] ?_; refine VD.c (.ix (j := i) rfl rfl el53 (by omega)) ?_; refine VD.r [] (.ld vt59) (.inl rfl) ?_; refine VD.c (.fcmp .neq) ?_; refine VD.go ?_; refine VC.condB rfl (fun c6 => ?_) (fun c6 => ?_)
    · have c6' : fcmpE .neq .f32 (a.getD i 0) (b.getD i 0) = true := by simpa [hi', show i < b.length by omega] using c6
      refine VC.seq (VC.text ?_); refine VO.c (.assign rfl) ?_; refine VO.go ?_; refine VC.ret ?_; exact VEnd.one rfl evT (pvE (by exact (decide_eq_false fun hh => by rw [hh.2 i hi'] at c6'; cases c6').symm))
    have c6' : fcmpE .neq .f32 (a.getD i 0) (b.getD i 0) = false := by simpa [hi', show i < b.length by omega] using c6
    refine VC.skip (VC.text ?_); refine VO.c (.move rfl) ?_; refine VO.c (.add rfl rfl (by omega)) ?_; refine VO.c (.assign rfl) ?_; refine VO.nil ?_; refine ⟨_, [(0, .v y53 a), (1, .v y53 b), (5, I (((i + 1) : Nat) : Int))], ?_, ⟨rfl, rfl, rfl, trivial⟩, (i + 1), rfl, rfl, rfl, (by omega), (by intro j hj; rcases Nat.lt_succ_iff_lt_or_eq.1 hj with h | h; exact hn j h; subst h; exact c6')⟩; omega
  refine VC.exit (VC.seq (VC.text ?_)); refine VO.c (.assign rfl) ?_; refine VO.go ?_; refine VC.ret ?_; exact VEnd.one rfl evT (pvE (by exact (decide_eq_true ⟨hle, fun j hj => hn j (by omega)⟩).symm))
def sameRec (a b : Rec1) : Bool := decide (a.1 = b.1) && decide (a.2.1 = b.2.1) && sameLv a.2.2.1 b.2.2.1 && decide (a.2.2.2 = b.2.2.2)
theorem rSameRec_ok {a : ByteArray × Int × (List Nat) × (List (Int × Int))} {b : ByteArray × Int × (List Nat) × (List (Int × Int))} (ha : a.2.2.1.length < 1000000) (ha2 : a.2.2.2.length < 1000000) (hb2 : b.2.2.2.length < 1000000) : VF Tryz.prog OA 66 [.v y55 a, .v y55 b] (B (sameRec a b)) := by
  refine VF.enter Tryz.func66 rfl (fun _ _ => rfl) rfl ?_; show VC _ _ _ _ _ [(0, .v y55 a), (1, .v y55 b)] [] _; refine VC.seq (VC.text ?_); refine VO.new (.box) ?_; refine VO.new (.box) ?_; refine VO.c (.assign rfl) ?_; refine VO.go (VC.seq (VC.text ?_)); refine VO.c (.fa (.l .o)) ?_; refine VO.r (.ld vt9) ?_; refine VO.c (.fa (.l .o)) ?_; refine VO.r (.ld vt9) ?_; refine VO.c (.seql) ?_; refine VO.c (.move rfl) ?_; refine VO.cg (r := decide (a.1 = b.1)) (w := true) [] trivial (fun _ => (.fa (.r (.l .o)))) ?_; refine VO.rg (r := decide (a.1 = b.1)) (w := true) [(11, .p (.int .i64) a.2.1)] ⟨rfl, trivial⟩ (fun _ => (.ld vt3)) ?_; refine VO.cg (r := decide (a.1 = b.1)) (w := true) [] trivial (fun _ => (.fa (.r (.l .o)))) ?_; refine VO.rg (r := decide (a.1 = b.1)) (w := true) [(13, .p (.int .i64) b.2.1)] ⟨rfl, trivial⟩ (fun _ => (.ld vt3)) ?_; refine VO.cg (r := decide (a.1 = b.1)) (w := true) [(12, I a.2.1), (14, I b.2.1)] ⟨rfl, rfl, trivial⟩ (fun _ => (.eql)) ?_; refine VO.c (.and) ?_; refine VO.c (.move rfl) ?_; refine VO.cg (r := ((decide (a.1 = b.1)) && (decide (a.2.1 = b.2.1)))) (w := true) [] trivial (fun _ => (.fa (.r (.r (.l .o))))) ?_; refine VO.rg (r := ((decide (a.1 = b.1)) && (decide (a.2.1 = b.2.1)))) (w := true) [(18, .p y53 a.2.2.1)] ⟨rfl, trivial⟩ (fun _ => (.ld vt53)) ?_; refine VO.cg (r := ((decide (a.1 = b.1)) && (decide (a.2.1 = b.2.1)))) (w := true) [] trivial (fun _ => (.fa (.r (.r (.l .o))))) ?_; refine VO.rg (r := ((decide (a.1 = b.1)) && (decide (a.2.1 = b.2.1)))) (w := true) [(20, .p y53 b.2.2.1)] ⟨rfl, trivial⟩ (fun _ => (.ld vt53)) ?_; refine VO.callg (r0 := ((decide (a.1 = b.1)) && (decide (a.2.1 = b.2.1)))) (w := true) [(19, .v y53 a.2.2.1), (21, .v y53 b.2.2.1)] ⟨rfl, rfl, trivial⟩ rfl rfl .same .refl rfl (fun hgd => have g1_12 : ((decide (a.1 = b.1)) && (decide (a.2.1 = b.2.1))) = true := (by simpa using hgd); VF.call (rSameLv_ok (by first | assumption | omega | simp))) ?_; refine VO.c (.and) ?_; refine VO.c (.move rfl) ?_; refine VO.cg (r := (((decide (a.1 = b.1)) && (decide (a.2.1 = b.2.1))) && (sameLv a.2.2.1 b.2.2.1))) (w := true) [] trivial (fun _ => (.fa (.r (.r (.r (k := 0) .o))))) ?_; refine VO.rg (r := (((decide (a.1 = b.1)) && (decide (a.2.1 = b.2.1))) && (sameLv a.2.2.1 b.2.2.1))) (w := true) [(25, .p y22 a.2.2.2)] ⟨rfl, trivial⟩ (fun _ => (.ld vt22AP)) ?_; refine VO.cg (r := (((decide (a.1 = b.1)) && (decide (a.2.1 = b.2.1))) && (sameLv a.2.2.1 b.2.2.1))) (w := true) [] trivial (fun _ => (.fa (.r (.r (.r (k := 0) .o))))) ?_; refine VO.rg (r := (((decide (a.1 = b.1)) && (decide (a.2.1 = b.2.1))) && (sameLv a.2.2.1 b.2.2.1))) (w := true) [(27, .p y22 b.2.2.2)] ⟨rfl, trivial⟩ (fun _ => (.ld vt22AP)) ?_; refine VO.callg (r0 := (((decide (a.1 = b.1)) && (decide (a.2.1 = b.2.1))) && (sameLv a.2.2.1 b.2.2.1))) (w := true) [(26, .v y22 a.2.2.2), (28, .v y22 b.2.2.2)] ⟨rfl, rfl, trivial⟩ rfl rfl .same .refl rfl (fun hgd => have g1_19 : (((decide (a.1 = b.1)) && (decide (a.2.1 = b.2.1))) && (sameLv a.2.2.1 b.2.2.1)) = true := (by simpa using hgd); VF.call (rSameSp_ok (by first | assumption | omega | simp) (by first | assumption | omega | simp))) ?_; refine VO.c (.and) ?_; refine VO.c (.assign rfl) ?_; refine VO.go ?_; refine VC.ret ?_; exact VEnd.one rfl evT (pvE (by first | rfl | simp [sameRec, *]))
theorem lOwn_ok {r : ByteArray × Int × (List Nat) × (List (Int × Int))} : VF Tryz.prog OA 65 [.v y65 r] (.v y55 r) := by
  refine VF.enter Tryz.func65 rfl (fun _ _ => rfl) rfl ?_; show VC _ _ _ _ _ [(0, .v y65 r)] [] _; refine VC.seq (VC.text ?_); refine VO.new (.box) ?_; refine VO.cell (.alloc zt55) ?_; intro ww1; refine VO.go (VC.seq (VC.text ?_)); refine VO.r (.ld vt65) ?_; refine VO.setV (cs' := [St r.1, I r.2.1, .v y53 r.2.2.1, .v y22 r.2.2.2]) vt55 .v ?_; refine VO.go ?_; refine VC.ret ?_; exact VEnd.one rfl (.cell (x := r) rfl m0 vt55 .refl) (pvE (by rfl))
def zRec : Rec1 := (ByteArray.empty, 0, [], [])
def recB (r : Rec1) (i : Int) : Bool := decide (0 ≤ i) && decide (i < (r.2.2.1.length : Nat)) && !Sp.inL r.2.2.2 i
theorem recB_in {r : Rec1} {i : Nat} (h : i < r.2.2.1.length) : recB r i = !Sp.inL r.2.2.2 i := by
  unfold recB; rw [decide_eq_true (show (0 : Int) ≤ (i : Int) by omega), decide_eq_true (show (i : Int) < (r.2.2.1.length : Nat) by omega)] <;> rfl
def both (a b : Rec1) : Rec1 := (a.1, a.2.1, a.2.2.1 ++ b.2.2.1, [])
end Go.Proofs
namespace Go.Proofs
open Go.Fs Ieee
set_option maxHeartbeats 400000
end Go.Proofs
namespace Go.Fs
variable {P : Program} {σ : Sto} {fl : VL} {x y : Operand} {T : TypeId} {τ : Ty}
def arrNB (P : Program) (T e : TypeId) (m k : Nat) : Bool := match P.underlying T with
  | some (.array n e') => Nat.beq n m && Nat.beq e' e && (match P.info? e with | some i => Nat.beq i.size k | none => false)
  | _ => false
theorem ReadV.arr3 {a b c : τ.den} (e : TypeId) (hb : arrNB P T e 3 τ.size = true := by kernel_rfl) (hx : evV fl x = some (.p (.pair τ (.pair τ τ)) (a, b, c)) := by rfl) : ReadV P fl σ (.slice T x none none none) (.v (.sl τ) [a, b, c]) :=
  ⟨rfl, fun h S t hs _ => by
    have hp : RepP h S (.pair τ (.pair τ τ)) (evalO t x) (a, b, c) := hs x (by simp [Op.operands]) _ hx; obtain ⟨bb, o, e', rs, own, more, h1, h2, h3, h4, h5⟩ := hp; have h4 : o + (τ.size + (τ.size + τ.size)) ≤ rs.length := h4; have h5 : RepC h S τ (((rs.drop o).take (τ.size + (τ.size + τ.size))).take τ.size) a ∧ RepC h S τ ((((rs.drop o).take (τ.size + (τ.size + τ.size))).drop τ.size).take τ.size) b ∧ RepC h S τ ((((rs.drop o).take (τ.size + (τ.size + τ.size))).drop τ.size).drop τ.size) c := h5; refine ⟨.slice (some ⟨bb, o, none⟩) 3 1, SlV.rep (.inr ⟨bb, o, 1, rfl, .inr ⟨h2, e', rs, own, more, h3, by show o + 3 * τ.size ≤ _; omega, fun i hi => ?_⟩⟩), fun H _ _ _ _ _ _ => ?_⟩
    · have hi : i < 3 := hi; rcases i with _ | _ | _ | i
      · have := h5.1; rw [List.take_take, Nat.min_eq_left (by omega)] at this; rw [Nat.zero_mul, Nat.add_zero]; exact this
      · have := h5.2.1; rw [List.drop_take, List.drop_drop, List.take_take, Nat.min_eq_left (by omega)] at this; rw [show o + (0 + 1) * τ.size = o + τ.size by omega]; exact this
      · have := h5.2.2; rw [List.drop_take, List.drop_drop, List.drop_take, List.drop_drop] at this; rw [show o + (0 + 1 + 1) * τ.size = o + τ.size + τ.size by omega]; rw [show τ.size + (τ.size + τ.size) - τ.size - τ.size = τ.size by omega] at this; exact this
      omega
    show (fsSlice P T (evalO t x) none none none H).map _ = _; rw [h1]; unfold arrNB at hb; split at hb
    · rename_i n e2 hu; obtain ⟨b1, b2⟩ := band hb; obtain ⟨b3, b4⟩ := band b1; obtain rfl := nbeq b3; obtain rfl := nbeq b4; split at b2
      · rename_i i hi; unfold fsSlice; simp only [hu, hi, boundOf, Nat.zero_mul, Nat.add_zero]; rfl
      cases b2
    cases hb⟩
def arr3 {α : Type} (a b c : α) : Nat → α
  | 0 => a
  | 1 => b
  | _ => c
theorem CalmV.ixP3 {a b c : τ.den} (j : Nat) (hj : j < 3) (h0 : aofB P T 0 0 τ = true := by kernel_rfl) (h1 : aofB P T 1 τ.size τ = true := by kernel_rfl) (h2 : aofB P T 2 (τ.size + τ.size) τ = true := by kernel_rfl) (hx : evV fl x = some (.p (.pair τ (.pair τ τ)) (a, b, c)) := by rfl) (hy : evV fl y = some (.v (.int .i64) ((j : Nat) : Int)) := by rfl) : CalmV P fl σ (.indexAddr T x y) (.p τ (arr3 a b c j)) := by
  rcases j with _ | _ | _ | j
  · exact CalmV.ixP (k := 0) 0 (.l .o) h0 hx hy
  · exact CalmV.ixP (k := τ.size) 1 (.r (k := 0) (.l .o)) h1 hx hy
  · exact CalmV.ixP (k := τ.size + τ.size) 2 (.r (k := τ.size) (.r (k := 0) .o)) h2 hx hy
  omega
theorem CalmV.ixA3 {a b c : τ.den} (j : Nat) (hj : j < 3) (h0 : aofB P T 0 0 τ = true := by kernel_rfl) (h1 : aofB P T 1 τ.size τ = true := by kernel_rfl) (h2 : aofB P T 2 (τ.size + τ.size) τ = true := by kernel_rfl) (hx : evV fl x = some (.v (.pair τ (.pair τ τ)) (a, b, c)) := by rfl) (hy : evV fl y = some (.v (.int .i64) ((j : Nat) : Int)) := by rfl) : CalmV P fl σ (.index T x y) (.v τ (arr3 a b c j)) := by
  rcases j with _ | _ | _ | j
  · exact CalmV.ixA (k := 0) 0 (.l .o) rfl h0 hx hy
  · exact CalmV.ixA (k := τ.size) 1 (.r (k := 0) (.l .o)) rfl h1 hx hy
  · exact CalmV.ixA (k := τ.size + τ.size) 2 (.r (k := τ.size) (.r (k := 0) .o)) rfl h2 hx hy
  omega
end Go.Fs
namespace Go.Proofs
open Go.Fs
theorem cNaN_ok {x : Int} : VF Tryz.prog OA 181 [I x] (B false) := by
  refine VF.enter Tryz.func181 rfl (fun _ _ => rfl) rfl ?_; show VC _ _ _ _ _ [(0, I x)] [] _; refine VC.seq (VC.text ?_); refine VO.c (.assign rfl) ?_; refine VO.go (VC.seq (VC.text ?_)); refine VO.c (.move rfl) ?_; refine VO.c (.move rfl) ?_; refine VO.c (.neq) ?_; refine VO.c (.assign rfl) ?_; refine VO.go ?_; refine VC.ret ?_; exact VEnd.one rfl evT (pvE (by simp))
theorem cLess_ok {x : Int} {y : Int} : VF Tryz.prog OA 166 [I x, I y] (B (decide (x < y))) := by
  refine VF.enter Tryz.func166 rfl (fun _ _ => rfl) rfl ?_; show VC _ _ _ _ _ [(0, I x), (1, I y)] [] _; refine VC.seq (VC.text ?_); refine VO.c (.assign rfl) ?_; refine VO.go (VC.seq (VC.text ?_)); refine VO.c (.move rfl) ?_; refine VO.call rfl rfl (VF.call (cNaN_ok )) ?_; refine VO.c (.move rfl) ?_; refine VO.skip ?_; refine VO.skip ?_; refine VO.skip ?_; refine VO.c (.pickF rfl rfl) ?_; refine VO.c (.move rfl) ?_; refine VO.c (.move rfl) ?_; refine VO.c (.move rfl) ?_; refine VO.c (.lss) ?_; refine VO.c (.pickF rfl rfl) ?_; refine VO.c (.assign rfl) ?_; refine VO.go ?_; refine VC.ret ?_; exact VEnd.one rfl evT (pvE (by simp_all))
def sortN (l : List Int) : List Int := l.mergeSort fun a b => decide (a ≤ b)
theorem sortN_perm (l : List Int) : (sortN l).Perm l := List.mergeSort_perm _ _
theorem sortN_sorted (l : List Int) : (sortN l).Pairwise (· ≤ ·) := by
  have := List.pairwise_mergeSort (le := fun a b : Int => decide (a ≤ b)) (fun a b c h1 h2 => by simp at *; omega) (fun a b => by simp; omega) l; exact this.imp fun h => of_decide_eq_true h
theorem sortN_eq {l ys : List Int} (hp : ys.Perm l) (hs : ys.Pairwise (· ≤ ·)) : ys = sortN l :=
  List.Perm.eq_of_pairwise (le := (· ≤ ·)) (fun a b _ _ h1 h2 => by omega) hs (sortN_sorted l) (hp.trans (sortN_perm l).symm)
theorem getD_get {l : List Int} {k : Nat} (h : k < l.length) : l.getD k 0 = l[k] := by simp [List.getD, h]
def swapE (ws : List Int) (j : Nat) : List Int := (ws.set j (ws.getD (j - 1) 0)).set (j - 1) (ws.getD j 0)
theorem swap_perm {ws : List Int} {j : Nat} (h0 : 0 < j) (hl : j < ws.length) : (swapE ws j).Perm ws := by
  have h1 : j - 1 < ws.length := by omega
  have := List.set_set_perm hl h1; unfold swapE; rw [getD_get h1, getD_get hl]; exact this
theorem swap_get {ws : List Int} {j k : Nat} (h0 : 0 < j) (hl : j < ws.length) : (swapE ws j).getD k 0 = if k = j - 1 then ws.getD j 0 else if k = j then ws.getD (j - 1) 0 else ws.getD k 0 := by
  unfold swapE; simp only [List.getD_eq_getElem?_getD, List.getElem?_set, List.length_set]; by_cases h1 : k = j - 1
  · subst h1; rw [if_pos rfl, if_pos rfl, if_pos (by omega)] <;> rfl
  rw [if_neg (fun e => h1 e.symm), if_neg h1]; by_cases h2 : k = j
  · subst h2; rw [if_pos rfl, if_pos rfl, if_pos hl] <;> rfl
  rw [if_neg (fun e => h2 e.symm), if_neg h2]
def SortedTo (zs : List Int) (n : Nat) : Prop := ∀ p q, p < q → q < n → zs.getD p 0 ≤ zs.getD q 0
def InsInv (ws : List Int) (i j : Nat) : Prop := (∀ p q, p < q → q ≤ i → p ≠ j → q ≠ j → ws.getD p 0 ≤ ws.getD q 0) ∧ (∀ q, j < q → q ≤ i → ws.getD j 0 ≤ ws.getD q 0)
theorem ins_init {zs : List Int} {i : Nat} (h : SortedTo zs i) : InsInv zs i i := ⟨fun p q h1 h2 _ h4 => h p q h1 (by omega), fun q h1 h2 => by omega⟩
theorem ins_step {ws : List Int} {i j : Nat} (h : InsInv ws i j) (h0 : 0 < j) (hj : j ≤ i) (hl : i < ws.length) (hlt : ws.getD j 0 < ws.getD (j - 1) 0) : InsInv (swapE ws j) i (j - 1) := by
  constructor
  · intro p q h1 h2 h3 h4; rw [swap_get h0 (by omega), swap_get h0 (by omega), if_neg h3, if_neg h4]; by_cases hp : p = j
    · rw [if_pos hp, if_neg (by omega)]; exact h.1 (j - 1) q (by omega) h2 (by omega) (by omega)
    rw [if_neg hp]; by_cases hq : q = j
    · rw [if_pos hq]; exact h.1 p (j - 1) (by omega) (by omega) hp (by omega)
    rw [if_neg hq]; exact h.1 p q h1 h2 hp hq
  intro q h1 h2; rw [swap_get h0 (by omega), swap_get h0 (by omega), if_pos rfl, if_neg (by omega)]; by_cases hq : q = j
  · rw [if_pos hq]; omega
  rw [if_neg hq]; exact h.2 q (by omega) h2
theorem ins_end {ws : List Int} {i j : Nat} (h : InsInv ws i j) (hj : j ≤ i) (he : j = 0 ∨ ws.getD (j - 1) 0 ≤ ws.getD j 0) : SortedTo ws (i + 1) := by
  intro p q h1 h2; by_cases hp : p = j
  · rw [hp]; exact h.2 q (by omega) (by omega)
  by_cases hq : q = j
  · subst hq; rcases he with he | he
    · omega
    by_cases h3 : p = q - 1
    · rw [h3]; exact he
    have := h.1 p (q - 1) (by omega) (by omega) hp (by omega); omega
  exact h.1 p q h1 (by omega) hp hq
theorem sorted_end {zs : List Int} (h : SortedTo zs zs.length) : zs.Pairwise (· ≤ ·) := by
  rw [List.pairwise_iff_getElem]; intro i j hi hj hij; have := h i j hij hj
  rwa [getD_get hi, getD_get hj] at this
theorem swap_mem {ws : List Int} {j : Nat} {z : Int} (hz : z = (j : Int) - 1) (h0 : 0 < j) (hl : j < ws.length) : (ws.set j (ws[z.toNat]'(by omega))).set z.toNat ws[j] = swapE ws j := by
  have e : z.toNat = j - 1 := by omega
  unfold swapE; rw [getD_get (show j - 1 < ws.length by omega), getD_get hl]; simp only [e]
theorem ins_lt {ws : List Int} {j : Nat} {z : Int} (hz : z = (j : Int) - 1) (h0 : 0 < j) (hl : j < ws.length) : (ws[j] < ws[z.toNat]'(by omega)) ↔ ws.getD j 0 < ws.getD (j - 1) 0 := by
  have e : z.toNat = j - 1 := by omega
  rw [getD_get (show j - 1 < ws.length by omega), getD_get hl]; simp only [e]
theorem zIns_ok {w_l : Value} {l : List Int} {a : Int} {b : Int} (ha : a = 0) (hb : b = (l.length : Nat)) (hl : l.length < 100000) : VFG Tryz.prog OA 160 [.raw w_l, I a, I b] [(w_l, .row 3 (.int .i64) l)] (fun r g => r = .tup [] ∧ g = [(w_l, .row 3 (.int .i64) (sortN l))]) := by
  refine VFG.enter Tryz.func160 rfl (fun _ _ => rfl) rfl ?_; show VC _ _ _ _ _ [(0, .raw w_l), (1, I a), (2, I b)] [(w_l, .row 3 (.int .i64) l)] _; refine VC.seq (VC.text ?_); refine VO.c (.move rfl) ?_; refine VO.c (.add rfl rfl (by omega)) ?_; refine VO.c (.assign rfl) ?_; refine VO.go (VC.block ?_); refine VC.keep [(0, .raw w_l), (1, I a), (2, I b), (6, I ((1 : Nat) : Int))] ⟨rfl, rfl, rfl, slI rfl (by rw [ha] <;> rfl), trivial⟩ ?_; refine VC.loop (I := fun kk ff ss => ∃ (i : Nat) (zs : List Int), kk = l.length - i ∧ ff = [(0, .raw w_l), (1, I a), (2, I b), (6, I ((i : Nat) : Int))] ∧ ss = [(w_l, .row 3 (.int .i64) zs)] ∧ (1 ≤ i ∧ (i ≤ l.length ∨ i = 1)) ∧ (zs.Perm l) ∧ (SortedTo zs i)) ?_ _ _ _ ⟨1, l, rfl, rfl, rfl, (by omega), (by exact .refl _), (by (intro p q h1 h2; omega))⟩; rintro kk ff ss ⟨i, zs, hk0, rfl, rfl, hi, hp, hz⟩; have hzl := hp.length_eq; refine VC.seq (VC.seq (VC.text ?_)); refine VO.c (.move rfl) ?_; refine VO.c (.move rfl) ?_; refine VO.c (.lss) ?_; refine VO.go ?_; refine VC.condD rfl (fun c1 => ?_) (fun c1 => ?_)
  · refine VC.skip (VC.seq (VC.block (VC.seq (VC.text ?_)))); refine VO.c (.move rfl) ?_; refine VO.c (.assign rfl) ?_; refine VO.go (VC.block ?_); refine VC.keep [(0, .raw w_l), (1, I a), (2, I b), (6, I ((i : Nat) : Int)), (7, I ((i : Nat) : Int))] ⟨rfl, rfl, rfl, rfl, rfl, trivial⟩ ?_; refine VC.loop (I := fun kk ff ss => ∃ (j : Nat) (ws : List Int), kk = j ∧ ff = [(0, .raw w_l), (1, I a), (2, I b), (6, I ((i : Nat) : Int)), (7, I ((j : Nat) : Int))] ∧ ss = [(w_l, .row 3 (.int .i64) ws)] ∧ (j ≤ i) ∧ (ws.Perm l) ∧ (InsInv ws i j)) ?_ _ _ _ ⟨i, zs, rfl, rfl, rfl, (by omega), (by exact hp), (by exact ins_init hz)⟩; rintro kk ff ss ⟨j, ws, hk2, rfl, rfl, hj, hp2, hz2⟩; have hwl := hp2.length_eq; refine VC.seq (VC.seq (VC.drawn ?_)); refine VD.c (.move rfl) ?_; refine VD.c (.move rfl) ?_; refine VD.c (.gtr) ?_; refine VD.c (.move rfl) ?_; refine VD.splitD (x := 19) rfl (fun g4_3 => ?_) (fun g4_3 => ?_)
    · refine VD.c (.move rfl) ?_; refine VD.nw [] ?_; refine VD.c (.move rfl) ?_; refine VD.co (.ixO (j := j) rfl rfl m0 el37 (by omega)) ?_; refine VD.r [(w_l, .row 3 (.int .i64) ws)] (.ldO rfl m0 vt3 (by omega)) (.inr ⟨rfl, rfl⟩) ?_; refine VD.c (.move rfl) ?_; refine VD.c (.move rfl) ?_; refine VD.c (.sub rfl rfl (by omega)) ?_; refine VD.co (.ixOZ (k := (((j : Nat) : Int) - (1 : Int))) rfl rfl m0 el37 (by omega) (by omega)) ?_; refine VD.nw [] ?_; refine VD.r [(w_l, .row 3 (.int .i64) ws)] (.ldO rfl m0 vt3 (by omega)) (.inr ⟨rfl, rfl⟩) ?_; refine VD.call rfl rfl (VF.call (cLess_ok )) ?_; refine VD.c (.pickT rfl rfl) ?_; refine VD.go ?_; refine VC.condB rfl (fun c4 => ?_) (fun c4 => ?_)
      · try simp only [Bool.and_eq_true, Bool.or_eq_true, Bool.and_eq_false_iff, Bool.or_eq_false_iff, Bool.not_eq_true', Bool.not_eq_false', decide_eq_true_eq, decide_eq_false_iff_not] at c4
        refine VC.skip (VC.seq (VC.block (VC.drawn ?_))); refine VD.c (.move rfl) ?_; refine VD.c (.move rfl) ?_; refine VD.c (.move rfl) ?_; refine VD.c (.move rfl) ?_; refine VD.c (.sub rfl rfl (by omega)) ?_; refine VD.c (.move rfl) ?_; refine VD.nw [] ?_; refine VD.c (.move rfl) ?_; refine VD.c (.sub rfl rfl (by omega)) ?_; refine VD.co (.ixOZ (k := (((j : Nat) : Int) - (1 : Int))) rfl rfl m0 el37 (by omega) (by omega)) ?_; refine VD.r [(w_l, .row 3 (.int .i64) ws)] (.ldO rfl m0 vt3 (by omega)) (.inr ⟨rfl, rfl⟩) ?_; refine VD.c (.move rfl) ?_; refine VD.c (.move rfl) ?_; refine VD.co (.ixO (j := j) rfl rfl m0 el37 (by omega)) ?_; refine VD.nw [] ?_; refine VD.r [(w_l, .row 3 (.int .i64) ws)] (.ldO rfl m0 vt3 (by omega)) (.inr ⟨rfl, rfl⟩) ?_; refine VD.co (.ixO (j := j) rfl rfl m0 el37 (by omega)) ?_; refine VD.mk0 (MakeV.setE (j := j) vt3 (by omega) rfl rfl) ?_; rintro _ _ tl1 ⟨rfl, rfl⟩; refine VD.co (.ixOZ (k := (((j : Nat) : Int) - (1 : Int))) rfl rfl m0 el37 (by omega) (by simp; omega)) ?_; refine VD.mk0 (MakeV.setE (j := (Int.toNat (((j : Nat) : Int) - (1 : Int)))) vt3 (by simp; omega) rfl rfl) ?_; rintro _ _ tl2 ⟨rfl, rfl⟩; refine VD.nil ?_; refine VC.keep [(0, .raw w_l), (1, I a), (2, I b), (6, I ((i : Nat) : Int)), (7, I ((j : Nat) : Int))] ⟨rfl, rfl, rfl, rfl, rfl, trivial⟩ ?_; refine VC.text ?_; refine VO.c (.move rfl) ?_; refine VO.c (.sub rfl rfl (by omega)) ?_; refine VO.c (.assign rfl) ?_; refine VO.nil ?_; refine ⟨_, [(0, .raw w_l), (1, I a), (2, I b), (6, I ((i : Nat) : Int)), (7, I (((j - 1) : Nat) : Int))], ?_, ⟨rfl, rfl, rfl, rfl, slI rfl (by exact (by omega)), trivial⟩, (j - 1), (swapE ws j), rfl, rfl, (by rw [← swap_mem (z := (j : Int) - 1) rfl (by omega) (by omega)] <;> rfl), (by omega), (by exact (swap_perm (by omega) (by omega)).trans hp2), (by exact ins_step hz2 (by omega) hj (by omega) ((ins_lt rfl (by omega) (by omega)).1 (c4)))⟩; omega
      try simp only [Bool.and_eq_true, Bool.or_eq_true, Bool.and_eq_false_iff, Bool.or_eq_false_iff, Bool.not_eq_true', Bool.not_eq_false', decide_eq_true_eq, decide_eq_false_iff_not] at c4
      refine VC.exit (VC.text ?_); refine VO.c (.move rfl) ?_; refine VO.c (.add rfl rfl (by omega)) ?_; refine VO.c (.assign rfl) ?_; refine VO.nil ?_; refine ⟨_, [(0, .raw w_l), (1, I a), (2, I b), (6, I (((i + 1) : Nat) : Int))], ?_, ⟨rfl, rfl, rfl, rfl, trivial⟩, (i + 1), ws, rfl, rfl, (by simp), (by omega), (by exact hp2), (by exact ins_end hz2 hj (by first | (left; omega) | (right; have h9 := c4; rw [ins_lt rfl (by omega) (by omega)] at h9; omega)))⟩; omega
    refine VD.skip ?_; refine VD.nw [] ?_; refine VD.skip ?_; refine VD.skip ?_; refine VD.skip ?_; refine VD.skip ?_; refine VD.skip ?_; refine VD.skip ?_; refine VD.skip ?_; refine VD.nw [] ?_; refine VD.skip ?_; refine VD.skip ?_; refine VD.c (.pickF rfl rfl) ?_; refine VD.go ?_; refine VC.condF rfl ?_; refine VC.exit (VC.text ?_); refine VO.c (.move rfl) ?_; refine VO.c (.add rfl rfl (by omega)) ?_; refine VO.c (.assign rfl) ?_; refine VO.nil ?_; refine ⟨_, [(0, .raw w_l), (1, I a), (2, I b), (6, I (((i + 1) : Nat) : Int))], ?_, ⟨rfl, rfl, rfl, rfl, trivial⟩, (i + 1), ws, rfl, rfl, (by simp), (by omega), (by exact hp2), (by exact ins_end hz2 hj (by first | (left; omega) | (right; have h9 := c4; rw [ins_lt rfl (by omega) (by omega)] at h9; omega)))⟩; omega
  refine VC.exit ?_
  conv => whnf
  exact ⟨rfl, [], .nil, ⟨rfl, (by rw [show zs = sortN l from sortN_eq hp (sorted_end fun p q h1 h2 => hz p q h1 (by have := hp.length_eq; omega))])⟩, .inr (.inl ⟨rfl, List.all_eq_true.1 rfl⟩)⟩
theorem zPdq_ok {w_l : Value} {l : List Int} {a : Int} {b : Int} {k : Int} (ha : a = 0) (hb : b = (l.length : Nat)) (hl : l.length ≤ 12) : VFG Tryz.prog OA 146 [.raw w_l, I a, I b, I k] [(w_l, .row 3 (.int .i64) l)] (fun r g => r = .tup [] ∧ g = [(w_l, .row 3 (.int .i64) (sortN l))]) := by
  refine VFG.enter Tryz.func146 rfl (fun _ _ => rfl) rfl ?_; show VC _ _ _ _ _ [(0, .raw w_l), (1, I a), (2, I b), (3, I k)] [(w_l, .row 3 (.int .i64) l)] _; refine VC.seq (VC.text ?_); refine VO.c (.assign rfl) ?_; refine VO.go (VC.seq (VC.text ?_)); refine VO.c (.assign rfl) ?_; refine VO.go (VC.block ?_); refine VC.keep [(0, .raw w_l), (1, I a), (2, I b), (3, I k), (8, B true), (9, B true)] ⟨rfl, rfl, rfl, rfl, rfl, rfl, trivial⟩ ?_; refine VC.loop (I := fun kk ff ss => kk = 0 ∧ ff = [(0, .raw w_l), (1, I a), (2, I b), (3, I k), (8, B true), (9, B true)] ∧ ss = [(w_l, .row 3 (.int .i64) l)]) ?_ _ _ _ ⟨rfl, rfl, rfl⟩; rintro kk ff ss ⟨hk0, rfl, rfl⟩; refine VC.block (VC.seq (VC.text ?_)); refine VO.c (.move rfl) ?_; refine VO.c (.move rfl) ?_; refine VO.c (.sub rfl rfl (by omega)) ?_; refine VO.c (.assign rfl) ?_; refine VO.go (VC.seq (VC.seq (VC.text ?_))); refine VO.c (.move rfl) ?_; refine VO.c (.leq) ?_; refine VO.go ?_; refine VC.condD rfl (fun c3 => ?_) (fun c3 => ?_)
  · refine VC.seq (VC.text ?_); refine VO.c (.move rfl) ?_; refine VO.c (.move rfl) ?_; refine VO.c (.move rfl) ?_; refine VO.callG [(w_l, .row 3 (.int .i64) l)] rfl rfl rfl (VFG.call (zIns_ok ha hb (by omega))) ?_; rintro _ _ ⟨rfl, rfl⟩; show VO _ _ _ _ _ _ [(w_l, .row 3 (.int .i64) (sortN l))] _; refine VO.go ?_; refine VC.ret ?_
    conv => whnf
    exact ⟨rfl, [], .nil, ⟨rfl, (by rfl)⟩, .inr (.inl ⟨rfl, List.all_eq_true.1 rfl⟩)⟩
  exact absurd (by omega) c3
def lenE (n : Int) : Int := ([0, 1, 2, 2, 3, 3, 3, 3, 4, 4, 4, 4, 4] : List Int).getD n.toNat 0
theorem bLenA_ok {x : Int} (hx : 0 ≤ x ∧ x ≤ 12) : VF Tryz.prog OA 170 [.v (.int .u64) x] (I (lenE x)) := by
  have : x = 0 ∨ x = 1 ∨ x = 2 ∨ x = 3 ∨ x = 4 ∨ x = 5 ∨ x = 6 ∨ x = 7 ∨ x = 8 ∨ x = 9 ∨ x = 10 ∨ x = 11 ∨ x = 12 := by omega
  rcases this with rfl | rfl | rfl | rfl | rfl | rfl | rfl | rfl | rfl | rfl | rfl | rfl | rfl
  · exact VF.run (v := .int .i64 0) 100 Tryz.func170 rfl (fun _ _ => rfl) rfl repl_int (fun nx objs => by kernel_rfl) rfl (fun _ _ => RepV.ofInt _ _)
  · exact VF.run (v := .int .i64 1) 100 Tryz.func170 rfl (fun _ _ => rfl) rfl repl_int (fun nx objs => by kernel_rfl) rfl (fun _ _ => RepV.ofInt _ _)
  · exact VF.run (v := .int .i64 2) 100 Tryz.func170 rfl (fun _ _ => rfl) rfl repl_int (fun nx objs => by kernel_rfl) rfl (fun _ _ => RepV.ofInt _ _)
  · exact VF.run (v := .int .i64 2) 100 Tryz.func170 rfl (fun _ _ => rfl) rfl repl_int (fun nx objs => by kernel_rfl) rfl (fun _ _ => RepV.ofInt _ _)
  · exact VF.run (v := .int .i64 3) 100 Tryz.func170 rfl (fun _ _ => rfl) rfl repl_int (fun nx objs => by kernel_rfl) rfl (fun _ _ => RepV.ofInt _ _)
  · exact VF.run (v := .int .i64 3) 100 Tryz.func170 rfl (fun _ _ => rfl) rfl repl_int (fun nx objs => by kernel_rfl) rfl (fun _ _ => RepV.ofInt _ _)
  · exact VF.run (v := .int .i64 3) 100 Tryz.func170 rfl (fun _ _ => rfl) rfl repl_int (fun nx objs => by kernel_rfl) rfl (fun _ _ => RepV.ofInt _ _)
  · exact VF.run (v := .int .i64 3) 100 Tryz.func170 rfl (fun _ _ => rfl) rfl repl_int (fun nx objs => by kernel_rfl) rfl (fun _ _ => RepV.ofInt _ _)
  · exact VF.run (v := .int .i64 4) 100 Tryz.func170 rfl (fun _ _ => rfl) rfl repl_int (fun nx objs => by kernel_rfl) rfl (fun _ _ => RepV.ofInt _ _)
  · exact VF.run (v := .int .i64 4) 100 Tryz.func170 rfl (fun _ _ => rfl) rfl repl_int (fun nx objs => by kernel_rfl) rfl (fun _ _ => RepV.ofInt _ _)
  · exact VF.run (v := .int .i64 4) 100 Tryz.func170 rfl (fun _ _ => rfl) rfl repl_int (fun nx objs => by kernel_rfl) rfl (fun _ _ => RepV.ofInt _ _)
  · exact VF.run (v := .int .i64 4) 100 Tryz.func170 rfl (fun _ _ => rfl) rfl repl_int (fun nx objs => by kernel_rfl) rfl (fun _ _ => RepV.ofInt _ _)
  exact VF.run (v := .int .i64 4) 100 Tryz.func170 rfl (fun _ _ => rfl) rfl repl_int (fun nx objs => by kernel_rfl) rfl (fun _ _ => RepV.ofInt _ _)
theorem bLen_ok {x : Int} (hx : 0 ≤ x ∧ x ≤ 12) : VF Tryz.prog OA 147 [.v (.int .u64) x] (I (lenE x)) := by
  refine VF.enter Tryz.func147 rfl (fun _ _ => rfl) rfl ?_; show VC _ _ _ _ _ [(0, .v (.int .u64) x)] [] _; refine VC.seq (VC.text ?_); refine VO.c (.assign rfl) ?_; refine VO.go (VC.seq ?_); refine VC.condF rfl ?_; refine VC.skip (VC.seq (VC.text ?_)); refine VO.c (.move rfl) ?_; refine VO.call rfl rfl (VF.call (bLenA_ok hx)) ?_; refine VO.c (.assign rfl) ?_; refine VO.go ?_; refine VC.ret ?_; exact VEnd.one rfl evT (pvI (by first | rfl | simp))
theorem zSort_ok {w_l : Value} {l : List Int} (hl : l.length ≤ 12) : VFG Tryz.prog OA 108 [.raw w_l] [(w_l, .row 3 (.int .i64) l)] (fun r g => r = .tup [] ∧ g = [(w_l, .row 3 (.int .i64) (sortN l))]) := by
  refine VFG.enter Tryz.func108 rfl (fun _ _ => rfl) rfl ?_; show VC _ _ _ _ _ [(0, .raw w_l)] [(w_l, .row 3 (.int .i64) l)] _; refine VC.seq (VC.text ?_); refine VO.c (.move rfl) ?_; refine VO.r (.lenO m0 el37) ?_; refine VO.c (.assign rfl) ?_; refine VO.go (VC.text ?_); refine VO.c (.move rfl) ?_; refine VO.c (.move rfl) ?_; refine VO.c (.move rfl) ?_; refine VO.c (.convI rfl .u64 (by exact wrapU64 (by omega))) ?_; refine VO.call rfl rfl (VF.call (bLen_ok (by first | assumption | omega | simp))) ?_; refine VO.callG [(w_l, .row 3 (.int .i64) l)] rfl rfl rfl (VFG.call (zPdq_ok rfl rfl hl)) ?_; rintro _ _ ⟨rfl, rfl⟩; show VO _ _ _ _ _ _ [(w_l, .row 3 (.int .i64) (sortN l))] _; refine VO.nil ?_
  conv => whnf
  exact ⟨rfl, [], .nil, ⟨rfl, (by rfl)⟩, .inr (.inl ⟨rfl, List.all_eq_true.1 rfl⟩)⟩
def sort3 (x y z : Int) : List Int := if x ≤ y then (if y ≤ z then [x, y, z] else if x ≤ z then [x, z, y] else [z, x, y]) else (if x ≤ z then [y, x, z] else if y ≤ z then [y, z, x] else [z, y, x])
theorem sort3_eq (x y z : Int) : sortN [x, y, z] = sort3 x y z := by
  have p1 : [x, z, y].Perm [x, y, z] := .cons x (.swap y z []); have p2 : [z, x, y].Perm [x, y, z] := (List.Perm.swap x z [y]).trans p1; have p3 : [y, x, z].Perm [x, y, z] := .swap x y [z]; have p4 : [y, z, x].Perm [x, y, z] := (List.Perm.cons y (.swap x z [])).trans p3; have p5 : [z, y, x].Perm [x, y, z] := (List.Perm.swap y z [x]).trans p4
  symm
  unfold sort3; split
  · split
    · exact sortN_eq (.refl _) (by simp; omega)
    split
    · exact sortN_eq p1 (by simp; omega)
    exact sortN_eq p2 (by simp; omega)
  split
  · exact sortN_eq p3 (by simp; omega)
  split
  · exact sortN_eq p4 (by simp; omega)
  exact sortN_eq p5 (by simp; omega)
theorem sort2_eq (x y : Int) : sortN [x, y] = if x ≤ y then [x, y] else [y, x] := by
  symm
  split
  · exact sortN_eq (.refl _) (by simp; omega)
  exact sortN_eq (.swap x y []) (by simp; omega)
def votedE (l : List Int) (tol : Int) : Int × Bool :=
  if l.length = 3 then (l.getD 0 0 + l.getD 1 0 + l.getD 2 0 - min (min (l.getD 0 0) (l.getD 1 0)) (l.getD 2 0) - max (max (l.getD 0 0) (l.getD 1 0)) (l.getD 2 0), true)
  else if l.length = 2 ∧ max (l.getD 0 0 - l.getD 1 0) (l.getD 1 0 - l.getD 0 0) ≤ tol then (max (l.getD 0 0) (l.getD 1 0), true)
  else (0, false)
def voteP (l : List Int) (tol : Int) : Bool := decide (l.length = 3) || (decide (l.length = 2) && decide ((sortN l).getD (l.length - 1) 0 - (sortN l).getD 0 0 ≤ tol))
theorem vote_eq : ∀ {l : List Int} {tol : Int}, l.length ≤ 3 → votedE l tol = (if voteP l tol = true then (sortN l).getD 1 0 else 0, voteP l tol)
  | [], tol, _ => rfl
  | [x], tol, _ => rfl
  | [x, y], tol, _ => by
    unfold votedE voteP; rw [sort2_eq]; simp only [List.length_cons, List.length_nil, List.getD_cons_zero, List.getD_cons_succ]; by_cases h : x ≤ y
    · rw [if_pos h]; simp only [List.getD_cons_zero, List.getD_cons_succ]; by_cases h2 : y - x ≤ tol
      · rw [if_neg (by decide), if_pos ⟨trivial, by omega⟩, decide_eq_true (show _ from h2), show max x y = y by omega] <;> rfl
      rw [if_neg (by decide), if_neg (fun hh => h2 (by have := hh.2; omega)), decide_eq_false (show ¬ _ from h2)] <;> rfl
    rw [if_neg h]; simp only [List.getD_cons_zero, List.getD_cons_succ]; by_cases h2 : x - y ≤ tol
    · rw [if_neg (by decide), if_pos ⟨trivial, by omega⟩, decide_eq_true (show _ from h2), show max x y = x by omega] <;> rfl
    rw [if_neg (by decide), if_neg (fun hh => h2 (by have := hh.2; omega)), decide_eq_false (show ¬ _ from h2)] <;> rfl
  | [x, y, z], tol, _ => by
    unfold votedE voteP; rw [if_pos (show [x, y, z].length = 3 from rfl), sort3_eq]
    have e : (sort3 x y z).getD 1 0 = x + y + z - min (min x y) z - max (max x y) z := by
      unfold sort3; split <;> split <;> (try split) <;> simp <;> omega
    rw [decide_eq_true (show [x, y, z].length = 3 from rfl), Bool.true_or, if_pos rfl, e] <;> rfl
  | _ :: _ :: _ :: _ :: _, _, h => absurd h (by simp)
end Go.Proofs
namespace Go.Fs
variable {P : Program} {orc : FuncId → List Value → Heap → Option (Value × Heap)} {σ : Sto} {fl : VL} {ops : Array Oper} {n : Nat} {l : List Oper} {K : VL → Sto → Prop} {d : Tmp} {ty : TypeId} {pos : String} {after : Array Edge} {g : Option (Nat × Bool)} {x : Operand} {T e : TypeId} {τ : Ty}
end Go.Fs
namespace Go.Fs
variable {P : Program} {fl : VL} {e : TypeId} {τ : Ty}
theorem swap4 {a b c d e : Value × Cell} {r : Sto} : (a :: b :: c :: d :: e :: r).Perm (e :: a :: b :: c :: d :: r) := (swap3.cons a).trans (List.Perm.swap e a (b :: c :: d :: r))
theorem swap5 {a b c d e f : Value × Cell} {r : Sto} : (a :: b :: c :: d :: e :: f :: r).Perm (f :: a :: b :: c :: d :: e :: r) := (swap4.cons a).trans (List.Perm.swap f a (b :: c :: d :: e :: r))
end Go.Fs
namespace Go.Fs
variable {P : Program} {orc : FuncId → List Value → Heap → Option (Value × Heap)} {rnd : Option Nat} {h h' h0 h1 h2 hs : Heap} {S S' S0 B G : List Nat} {σ σ' : Sto} {t t' : Tr} {ms : List Nat} {fl : VL} {ops : Array Oper} {n i mem : Nat} {l : List Oper} {K : VL → Sto → Prop} {Q : Ex → VL → Sto → Prop}
  {d d1 d2 : Tmp} {ty ty1 ty2 : TypeId} {pos pos1 pos2 : String} {after after1 after2 : Array Edge} {op : Op} {v v1 : PV} {g g1 g2 : Option (Nat × Bool)} {bs nw : List Nat} {segs : List (Nat × Nat × Nat)} {tail so : Bool}
section
variable (P orc)
end
end Go.Fs
namespace Go.Fs
variable {P : Program} {orc : FuncId → List Value → Heap → Option (Value × Heap)} {rnd : Option Nat} {h h' h0 h1 h2 : Heap} {S S' S0 B G : List Nat} {σ σ' σr : Sto} {t t' : Tr} {ms : List Nat} {fl : VL} {ops : Array Oper} {n i mem : Nat} {l : List Oper} {K : VL → Sto → Prop} {Q : Ex → VL → Sto → Prop}
  {d : Tmp} {ty : TypeId} {pos : String} {after : Array Edge} {op : Op} {v pv : PV} {g : Option (Nat × Bool)} {x y z : Operand} {T T' e : TypeId} {τ τ' : Ty} {bs nw : List Nat} {segs : List (Nat × Nat × Nat)} {tail so : Bool} {w w' : Value} {c c' : Cell}
end Go.Fs
namespace Go.Fs
variable {P : Program} {orc : FuncId → List Value → Heap → Option (Value × Heap)} {rnd : Option Nat} {h h' h0 h1 h2 hr : Heap} {S S' S0 B G A : List Nat} {σ σ' σr ρ : Sto} {t t' : Tr} {ms : List Nat} {fl : VL} {ops : Array Oper} {n i mem : Nat} {l : List Oper} {K : VL → Sto → Prop}
  {d : Tmp} {ty : TypeId} {pos : String} {after : Array Edge} {op : Op} {v pv : PV} {g : Option (Nat × Bool)} {x y z : Operand} {T T' e : TypeId} {τ τ' : Ty} {bs nw rd chg : List Nat} {segs : List (Nat × Nat × Nat)} {tail tl : Bool} {w w' : Value}
theorem VLt.cR {b : Nat} {q : Value} (hc : CalmV P fl σ op (.raw q)) (hk : VLt P orc ops n l (i + 1) ((d, .raw q) :: fl) (nwSet true d nw) σ ρ (bs ++ [b]) mem tl K)
    (hb : beforeOf bs ⟨some d, op, ty, pos, after, g⟩ = b := by rfl) (hw : wantV ops fl g = some true := by rfl) (hn : (Nat.blt d n && Nat.ble n 4000) = true := by rfl) :
    VLt P orc ops n (⟨some d, op, ty, pos, after, g⟩ :: l) i fl nw σ ρ bs mem tl K := fun hr h0 G S0 A t h ms rd chg segs tail ht I L => by
  obtain ⟨n1, n2⟩ := fits hn; obtain ⟨u, e1, e2⟩ := hc.2 h (own σ ++ S0) t I.slots.sees I.cells; refine EvL.opr (x' := (⟨t.set depth d u, h, bs ++ [b], segs, mem, tail⟩, rd, chg)) ?_ (hk hr h0 G S0 A _ h ms rd chg segs tail ht (I.set e1 n2) (L.set n2 fun _ => (e1 : u = q))); unfold lateDraw; have hwt : fsWanted ops t ⟨some d, op, ty, pos, after, g⟩ = some true := want_ok I.slots hw; simp only [hwt, hc.1, if_true, e2, Nat.beq_refl, cond_true, put_fits n1, Option.map_some, hb]
end Go.Fs
namespace Go.Proofs
open Ieee
def q16 (n : Int) : Nat := (single.div (single.write (.number (n < 0) n.natAbs 0)) 1098907648).getD 0
def q16B (n : Int) : Bool := decide (lvlE (q16 n) = 0) && decide (sxE (q16 n) = n) && (single.div (single.write (.number (n < 0) n.natAbs 0)) 1098907648).isSome
theorem q16_all : (List.range 2049).all (fun k => q16B ((k : Int) - 1024)) = true := by decide +kernel
theorem q16_ok {n : Int} (h : -1024 ≤ n ∧ n ≤ 1024) : lvlE (q16 n) = 0 ∧ sxE (q16 n) = n ∧ single.div (single.write (.number (n < 0) n.natAbs 0)) 1098907648 = some (q16 n) := by
  have h1 := List.all_eq_true.1 q16_all (n + 1024).toNat (List.mem_range.2 (by omega)); rw [show (((n + 1024).toNat : Nat) : Int) - 1024 = n by omega] at h1; unfold q16B at h1; simp only [Bool.and_eq_true, decide_eq_true_eq] at h1; refine ⟨h1.1.1, h1.1.2, ?_⟩; obtain ⟨r, hr⟩ := Option.isSome_iff_exists.1 h1.2; rw [q16, hr]; rfl
theorem q16_z : q16 0 = 0 := by decide +kernel
end Go.Proofs
namespace Go.Proofs
open Go.Fs Ieee
set_option maxHeartbeats 400000
abbrev y84 : Ty := (.pair (.pair .str (.pair (.int .i64) (.pair (.sl (.flt .f32)) (.sl (.pair (.int .i64) (.int .i64)))))) (.pair (.pair .str (.pair (.int .i64) (.pair (.sl (.flt .f32)) (.sl (.pair (.int .i64) (.int .i64)))))) (.pair .str (.pair (.int .i64) (.pair (.sl (.flt .f32)) (.sl (.pair (.int .i64) (.int .i64))))))))
abbrev y85 : Ty := (.pair (.int .i64) (.pair (.int .i64) (.int .i64)))
abbrev y166 : Ty := (.sl (.pair .str (.pair (.int .i64) (.pair (.sl (.flt .f32)) (.sl (.pair (.int .i64) (.int .i64)))))))
theorem vt85 : ValT Tryz.prog 85 y85 := valT_of (by kernel_rfl)
theorem el166 : ElT Tryz.prog 166 65 y65 := elT_of (by kernel_rfl)
theorem zt85 : ZerT Tryz.prog 85 y85 := zerT_of (z := .agg #[.int .i64 0, .int .i64 0, .int .i64 0]) (by kernel_rfl) rfl rfl
theorem gMapRec_ok {F : Rec1 → Int} {l : List (ByteArray × Int × (List Nat) × (List (Int × Int)))} {f : PV} (hl : l.length < 100000) (hf : ∀ x ∈ l, VCall Tryz.prog OA f [.v y65 x] (I (F x))) : VF Tryz.prog OA 107 [.v y166 l, f] (.v y164 (l.map F)) := by
  refine VF.enter Tryz.func107 rfl (fun _ _ => rfl) rfl ?_; show VC _ _ _ _ _ [(0, .v y166 l), (1, f)] [] _; refine VC.seq (VC.text ?_); refine VO.c (.assign rfl) ?_; refine VO.go (VC.seq (VC.text ?_)); refine VO.c (.assign rfl) ?_; refine VO.go (VC.seq (VC.seq (VC.text ?_))); refine VO.c (.move rfl) ?_; refine VO.r (.len el166) ?_; refine VO.c (.move rfl) ?_; refine VO.go (VC.block ?_); refine VC.cell0 29 (.int .i64) ?_; refine VC.keep [(1, f), (5, .raw (.slice none 0 0)), (8, .v y166 l), (9, I ((l.length : Nat) : Int)), (10, I ((0 : Nat) : Int))] ⟨rfl, rfl, rfl, rfl, rfl, trivial⟩ ?_; refine VC.loop (I := fun kk ff ss => ∃ (j : Nat) (out : Value), kk = l.length - j ∧ ff = [(1, f), (5, .raw out), (8, .v y166 l), (9, I ((l.length : Nat) : Int)), (10, I ((j : Nat) : Int))] ∧ ss = [(out, .row 29 (.int .i64) ((l.take j).map F))] ∧ (j ≤ l.length)) ?_ _ _ _ ⟨0, (.slice none 0 0), rfl, rfl, rfl, Nat.zero_le _⟩; rintro kk ff ss ⟨j, out, hk0, rfl, rfl, hj⟩; refine VC.seq (VC.text ?_); refine VO.c (.lss) ?_; refine VO.go (VC.seq ?_); refine VC.condD rfl (fun c3 => ?_) (fun c3 => ?_)
  · refine VC.skip (VC.seq (VC.block (VC.seq (VC.text ?_)))); refine VO.c (.ix (j := j) rfl rfl el166 (by omega)) ?_; refine VO.r (.ld vt65) ?_; refine VO.cell (.alloc zt65) ?_; intro ww1; refine VO.setV (cs' := [St ((l[j]).1), I ((l[j]).2.1), .v y53 ((l[j]).2.2.1), .v y22 ((l[j]).2.2.2)]) vt65 .v ?_; refine VO.shut [(7, .p y65 (l[j]))] (.cons rfl (.var m0 .refl) .nil) ?_; refine VO.go (VC.text ?_); refine VO.c (.move rfl) ?_; refine VO.c (.move rfl) ?_; refine VO.r (.ld vt65) ?_; refine VO.call rfl rfl ((hf _ (List.getElem_mem _)) ) ?_; refine VO.new (.lit [F (l[j])] el164) ?_; refine VO.app rfl rfl el164 el164 (by simp; omega) ?_; intro ww2; refine VO.c (.assign rfl) ?_; refine VO.nil (VC.text ?_); refine VO.c (.add rfl rfl (by omega)) ?_; refine VO.c (.move rfl) ?_; refine VO.nil ?_; refine ⟨_, [(1, f), (5, .raw ww2), (8, .v y166 l), (9, I ((l.length : Nat) : Int)), (10, I (((j + 1) : Nat) : Int))], ?_, ⟨rfl, rfl, rfl, rfl, rfl, trivial⟩, (j + 1), ww2, rfl, rfl, (by rw [List.take_succ_eq_append_getElem (by omega), List.map_append] <;> rfl), (by omega)⟩; omega
  refine VC.exit (VC.seq (VC.text ?_)); refine VO.c (.move rfl) ?_; refine VO.c (.assign rfl) ?_; refine VO.go ?_; refine VC.ret ?_; exact VEnd.one rfl (evC (.row m0)) (pvE (by rw [List.take_of_length_le (by omega)]))
theorem votedE_3 {l : List Int} {tol : Int} (h : l.length = 3) : votedE l tol = (l[0]'(by omega) + l[1]'(by omega) + l[2]'(by omega) - min (min (l[0]'(by omega)) (l[1]'(by omega))) (l[2]'(by omega)) - max (max (l[0]'(by omega)) (l[1]'(by omega))) (l[2]'(by omega)), true) := by
  rw [votedE, if_pos h, getDat (show 0 < l.length by omega), getDat (show 1 < l.length by omega), getDat (show 2 < l.length by omega)]
theorem votedE_2 {l : List Int} {tol : Int} (h : l.length = 2) : votedE l tol = if max (l[0]'(by omega) - l[1]'(by omega)) (l[1]'(by omega) - l[0]'(by omega)) ≤ tol then (max (l[0]'(by omega)) (l[1]'(by omega)), true) else (0, false) := by
  rw [votedE, if_neg (by omega), getDat (show 0 < l.length by omega), getDat (show 1 < l.length by omega)]; exact ite_congr (propext ⟨fun hh => hh.2, fun hh => ⟨h, hh⟩⟩) (fun _ => rfl) (fun _ => rfl)
theorem votedE_n {l : List Int} {tol : Int} (h3 : ¬ l.length = 3) (h2 : ¬ l.length = 2) : votedE l tol = (0, false) := by
  rw [votedE, if_neg h3, if_neg (fun hh => h2 hh.1)]
abbrev Rec3 := Rec1 × Rec1 × Rec1
abbrev rk (l : Rec3) (k : Nat) : Rec1 := arr3 l.1 l.2.1 l.2.2 k
def toldL (l : Rec3) (i : Nat) : Nat → List Int
  | 0 => []
  | k + 1 => if recB (rk l k) i = true then toldL l i k ++ [sxE ((rk l k).2.2.1.getD i 0)] else toldL l i k
theorem toldL_t {l : Rec3} {i k : Nat} (h : recB (rk l k) i = true) : toldL l i (k + 1) = toldL l i k ++ [sxE ((rk l k).2.2.1.getD i 0)] := if_pos h
theorem toldL_f {l : Rec3} {i k : Nat} (h : recB (rk l k) i = false) : toldL l i (k + 1) = toldL l i k := if_neg (by rw [h]; exact Bool.false_ne_true)
theorem toldL_len {l : Rec3} {i : Nat} : ∀ k, (toldL l i k).length ≤ k
  | 0 => Nat.le_refl _
  | k + 1 => by
    have := toldL_len (l := l) (i := i) k; unfold toldL; split
    · rw [List.length_append, List.length_singleton]; omega
    omega
theorem getD_lvl {r : Rec1} {i : Nat} (h : ∀ x ∈ r.2.2.1, lvlE x = 0) : lvlE (r.2.2.1.getD i 0) = 0 := by
  by_cases hi : i < r.2.2.1.length
  · rw [getDat hi]; exact h _ (List.getElem_mem hi)
  rw [List.getD_eq_getElem?_getD, List.getElem?_eq_none (by omega)]; decide +kernel
theorem toldL_bnd {l : Rec3} {i : Nat} (hv : ∀ k, k < 3 → ∀ x ∈ (rk l k).2.2.1, lvlE x = 0) : ∀ k, k ≤ 3 → ∀ x ∈ toldL l i k, -1024 ≤ x ∧ x ≤ 1024
  | 0, _ => fun x hx => by cases hx
  | k + 1, hk => fun x hx => by
    have h1 := toldL_bnd (i := i) hv k (by omega); unfold toldL at hx; split at hx
    · rcases List.mem_append.1 hx with hx | hx
      · exact h1 x hx
      rw [List.mem_singleton.1 hx]; have := lvl_ok (getD_lvl (i := i) (hv k (by omega))); exact ⟨this.2.1, this.2.2⟩
    exact h1 x hx
def vE (l : Rec3) (tol : Int) (i : Nat) : Int × Bool := votedE (toldL l i 3) tol
theorem voted_bnd {l : List Int} {tol : Int} (hl : l.length ≤ 3) (hb : ∀ x ∈ l, -1024 ≤ x ∧ x ≤ 1024) : -1024 ≤ (votedE l tol).1 ∧ (votedE l tol).1 ≤ 1024 := by
  by_cases h3 : l.length = 3
  · have b0 := hb (l[0]'(by omega)) (List.getElem_mem _); have b1 := hb (l[1]'(by omega)) (List.getElem_mem _); have b2 := hb (l[2]'(by omega)) (List.getElem_mem _); rw [votedE_3 h3]; simp only; omega
  by_cases h2 : l.length = 2
  · have b0 := hb (l[0]'(by omega)) (List.getElem_mem _); have b1 := hb (l[1]'(by omega)) (List.getElem_mem _); rw [votedE_2 h2]; split
    · simp only; omega
    simp
  rw [votedE_n h3 h2]; simp
theorem vE_bnd {l : Rec3} {tol : Int} {i : Nat} (hv : ∀ k, k < 3 → ∀ x ∈ (rk l k).2.2.1, lvlE x = 0) : -1024 ≤ (vE l tol i).1 ∧ (vE l tol i).1 ≤ 1024 := voted_bnd (toldL_len 3) (toldL_bnd hv 3 (by omega))
def lvV (l : Rec3) (tol : Int) (n : Nat) : List Nat := (List.range l.1.2.2.1.length).map fun i => if i < n ∧ (vE l tol i).2 = true then q16 (vE l tol i).1 else 0
def isV (l : Rec3) (tol : Int) (n : Nat) : List Bool := (List.range l.1.2.2.1.length).map fun i => decide (i < n) && (vE l tol i).2
theorem lvV_len {l : Rec3} {tol : Int} {n : Nat} : (lvV l tol n).length = l.1.2.2.1.length := by simp [lvV]
theorem isV_len {l : Rec3} {tol : Int} {n : Nat} : (isV l tol n).length = l.1.2.2.1.length := by simp [isV]
theorem lvV_at {l : Rec3} {tol : Int} {n i : Nat} (h : i < l.1.2.2.1.length) : (lvV l tol n)[i]'(by rw [lvV_len]; exact h) = if i < n ∧ (vE l tol i).2 = true then q16 (vE l tol i).1 else 0 := by
  unfold lvV; rw [List.getElem_map, List.getElem_range]
theorem isV_at {l : Rec3} {tol : Int} {n i : Nat} (h : i < l.1.2.2.1.length) : (isV l tol n)[i]'(by rw [isV_len]; exact h) = (decide (i < n) && (vE l tol i).2) := by
  unfold isV; rw [List.getElem_map, List.getElem_range]
def dvB (l : Rec3) (tol : Int) (k i : Nat) : Bool := (vE l tol i).2 && recB (rk l k) i && decide (tol < max (sxE ((rk l k).2.2.1.getD i 0) - (vE l tol i).1) (0 - (sxE ((rk l k).2.2.1.getD i 0) - (vE l tol i).1)))
def dvE (l : Rec3) (tol : Int) (k : Nat) : Nat → Int
  | 0 => 0
  | i + 1 => if dvB l tol k i = true then dvE l tol k i + 1 else dvE l tol k i
theorem dvE_bnd {l : Rec3} {tol : Int} {k : Nat} : ∀ i : Nat, 0 ≤ dvE l tol k i ∧ dvE l tol k i ≤ (i : Int)
  | 0 => ⟨Int.le_refl _, Int.le_refl _⟩
  | i + 1 => by
    have := dvE_bnd (l := l) (tol := tol) (k := k) i; unfold dvE; split <;> omega
def dvK (l : Rec3) (tol : Int) (i j k : Nat) : Int := if j ≤ k then dvE l tol j (i + 1) else dvE l tol j i
theorem dvE_t {l : Rec3} {tol : Int} {k i : Nat} (h : dvB l tol k i = true) : dvE l tol k (i + 1) = dvE l tol k i + 1 := if_pos h
theorem dvE_f {l : Rec3} {tol : Int} {k i : Nat} (h : dvB l tol k i = false) : dvE l tol k (i + 1) = dvE l tol k i := if_neg (by rw [h]; exact Bool.false_ne_true)
theorem div32E {p q r : Nat} (h : single.div p q = some r) : fopE .quo .f32 p q = some r := h
structure Vot (l : Rec3) (tol : Int) : Prop where
  lv : ∀ k, k < 3 → ∀ x ∈ (rk l k).2.2.1, lvlE x = 0
  len : ∀ k, k < 3 → (rk l k).2.2.1.length = l.1.2.2.1.length
  n : l.1.2.2.1.length ≤ 4096
  gap : ∀ k, k < 3 → (rk l k).2.2.2.length < 1000000
  tol : 0 ≤ tol ∧ tol ≤ 2048
def lvR (l : Rec3) (tol : Int) : Rec1 := (l.1.1, l.1.2.1, lvV l tol l.1.2.2.1.length, [])
end Go.Proofs
namespace Go.Fs
variable {P : Program}
section
variable {orc : FuncId → List Value → Heap → Option (Value × Heap)} {h : Heap} {S : List Nat} {fl : VL} {σ : Sto} {T : TypeId} {τ : Ty}
theorem CalmV.buildV {pl : List (Nat × Nat)} {parts : Array (Nat × Operand)} {ps : List PV} {dx : τ.den} (hT : BldT P T τ pl) (hps : evVs fl (parts.toList.map (·.2)) = some ps := by rfl) (hb : bldL pl (cellsPV τ (zeroD τ)) (parts.toList.map (·.1)) ps = some (cellsPV τ dx) := by rfl) : CalmV P fl σ (.build T parts) (.v τ dx) := CalmV.build dx hT hps hb
end
end Go.Fs
namespace Go.Proofs
open Go.Fs Ieee
set_option maxHeartbeats 400000
abbrev y88 : Ty := (.pair (.pair .str (.pair (.int .i64) (.pair (.sl (.flt .f32)) (.sl (.pair (.int .i64) (.int .i64)))))) (.pair (.pair .str (.pair (.int .i64) (.pair (.sl (.flt .f32)) (.sl (.pair (.int .i64) (.int .i64)))))) (.pair .str (.pair (.int .i64) (.pair (.sl (.flt .f32)) (.sl (.pair (.int .i64) (.int .i64))))))))
abbrev y167 : Ty := (.pair (.sl .bool) (.pair (.sl .bool) (.sl .bool)))
theorem vt88 : ValT Tryz.prog 88 y88 := valT_of (by kernel_rfl)
theorem vt167 : ValT Tryz.prog 167 y167 := valT_of (by kernel_rfl)
theorem zt167 : ZerT Tryz.prog 167 y167 := zerT_of (z := .agg #[.slice none 0 0, .slice none 0 0, .slice none 0 0]) (by kernel_rfl) rfl rfl
theorem bt85 : BldT Tryz.prog 85 y85 [(0, 1), (1, 1), (2, 1)] := bldT_of zt85 rfl (by kernel_rfl)
theorem bt167 : BldT Tryz.prog 167 y167 [(0, 1), (1, 1), (2, 1)] := bldT_of zt167 rfl (by kernel_rfl)
theorem mem3 {Q : Rec1 → Prop} {l : Rec3} (h : ∀ k, k < 3 → Q (rk l k)) {x : Rec1} (hx : x ∈ [l.1, l.2.1, l.2.2]) : Q x := by
  simp only [List.mem_cons, List.not_mem_nil, or_false] at hx; rcases hx with rfl | rfl | rfl
  · exact h 0 (by decide)
  · exact h 1 (by decide)
  exact h 2 (by decide)
theorem all3 {Q : Rec1 → Prop} {l : Rec3} (h0 : Q l.1) (h1 : Q l.2.1) (h2 : Q l.2.2) : ∀ k, k < 3 → Q (rk l k)
  | 0, _ => h0
  | 1, _ => h1
  | 2, _ => h2
  | k + 3, h => absurd h (by omega)
def votC1 (l : Rec3) (tol : Int) : Int := firstE [firstE ([l.1, l.2.1, l.2.2].map recE), rangeE tol 0 2048]
theorem votC1_ok {l : Rec3} {tol : Int} (h : votC1 l tol = 0) : (∀ k, k < 3 → recE (rk l k) = 0) ∧ 0 ≤ tol ∧ tol ≤ 2048 := by
  have h1 := firstE_zero.1 h; have h2 := firstE_zero.1 (h1 _ (by simp : firstE ([l.1, l.2.1, l.2.2].map recE) ∈ _)); have h3 := h1 (rangeE tol 0 2048) (by simp); refine ⟨all3 (Q := fun r => recE r = 0) (h2 _ (by simp)) (h2 _ (by simp)) (h2 _ (by simp)), ?_⟩; unfold rangeE at h3; split at h3
  · cases h3
  omega
def sameSh (l : Rec3) : Prop := (l.2.1.2.1 = l.1.2.1 ∧ l.2.2.2.1 = l.1.2.1) ∧ l.2.1.2.2.1.length = l.1.2.2.1.length ∧ l.2.2.2.2.1.length = l.1.2.2.1.length
instance : DecidablePred sameSh := fun l => inferInstanceAs (Decidable ((l.2.1.2.1 = l.1.2.1 ∧ l.2.2.2.1 = l.1.2.1) ∧ l.2.1.2.2.1.length = l.1.2.2.1.length ∧ l.2.2.2.2.1.length = l.1.2.2.1.length))
def voteC (l : Rec3) (tol : Int) : Int := if votC1 l tol ≠ 0 then votC1 l tol else if sameSh l then 0 else 2
def voteR (l : Rec3) (tol : Int) : Rec1 := if voteC l tol ≠ 0 then zRec else (l.1.1, l.1.2.1, keptL (lvR l tol) (isV l tol l.1.2.2.1.length) plusZ (isV l tol l.1.2.2.1.length).length, gapsE (isV l tol l.1.2.2.1.length) (isV l tol l.1.2.2.1.length).length)
def voteO (l : Rec3) (tol : Int) : Int × Int × Int := if voteC l tol ≠ 0 then (0, 0, 0) else (dvE l tol 0 l.1.2.2.1.length, dvE l tol 1 l.1.2.2.1.length, dvE l tol 2 l.1.2.2.1.length)
theorem voteC_1 {l : Rec3} {tol : Int} (h : votC1 l tol ≠ 0) : voteC l tol = votC1 l tol := if_pos h
theorem voteC_2 {l : Rec3} {tol : Int} (h : ¬ votC1 l tol ≠ 0) (h2 : ¬ sameSh l) : voteC l tol = 2 := by rw [voteC, if_neg h, if_neg h2]
theorem voteC_0 {l : Rec3} {tol : Int} (h : ¬ votC1 l tol ≠ 0) (h2 : sameSh l) : voteC l tol = 0 := by rw [voteC, if_neg h, if_pos h2]
theorem vote_vot {l : Rec3} {tol : Int} (h : ¬ votC1 l tol ≠ 0) (h2 : sameSh l) (hg : ∀ k, k < 3 → (rk l k).2.2.2.length < 1000000) : Vot l tol := by
  obtain ⟨h3, h4⟩ := votC1_ok (Classical.not_not.1 h); refine ⟨fun k hk => (rec_ok (h3 k hk)).2.2.2.1, all3 (Q := fun r => r.2.2.1.length = l.1.2.2.1.length) rfl h2.2.1 h2.2.2, (rec_ok (h3 0 (by decide))).2.1, hg, h4⟩
def lvA (l : Rec3) (tol : Int) (n : Nat) : List Nat := (List.range n).map fun j => q16 (vE l tol j).1
def isA (l : Rec3) (tol : Int) (n : Nat) : List Bool := (List.range n).map fun j => (vE l tol j).2
theorem lvA_len {l : Rec3} {tol : Int} {n : Nat} : (lvA l tol n).length = n := by simp [lvA]
theorem isA_len {l : Rec3} {tol : Int} {n : Nat} : (isA l tol n).length = n := by simp [isA]
theorem lvA_at {l : Rec3} {tol : Int} {n i : Nat} (h : i < n) : (lvA l tol n)[i]'(by rw [lvA_len]; exact h) = q16 (vE l tol i).1 := by
  unfold lvA; rw [List.getElem_map, List.getElem_range]
theorem isA_at {l : Rec3} {tol : Int} {n i : Nat} (h : i < n) : (isA l tol n)[i]'(by rw [isA_len]; exact h) = (vE l tol i).2 := by
  unfold isA; rw [List.getElem_map, List.getElem_range]
theorem lvA_s {l : Rec3} {tol : Int} {n : Nat} : lvA l tol (n + 1) = lvA l tol n ++ [q16 (vE l tol n).1] := by
  unfold lvA; rw [List.range_succ, List.map_append] <;> rfl
theorem isA_s {l : Rec3} {tol : Int} {n : Nat} : isA l tol (n + 1) = isA l tol n ++ [(vE l tol n).2] := by
  unfold isA; rw [List.range_succ, List.map_append] <;> rfl
theorem vE_0 {l : Rec3} {tol : Int} {i : Nat} (h : (vE l tol i).2 = false) : (vE l tol i).1 = 0 := by
  unfold vE votedE at h ⊢; split
  · rename_i h3; rw [if_pos h3] at h; cases h
  rename_i h3; rw [if_neg h3] at h; split
  · rename_i h2; rw [if_pos h2] at h; cases h
  rfl
theorem lvA_V {l : Rec3} {tol : Int} : lvA l tol l.1.2.2.1.length = lvV l tol l.1.2.2.1.length := by
  refine List.ext_getElem (by rw [lvA_len, lvV_len]) fun i h1 h2 => ?_; rw [lvA_len] at h1; rw [lvV_at h1, lvA_at h1]
  cases hv : (vE l tol i).2 with
  | true => rw [if_pos ⟨h1, rfl⟩]
  | false => rw [if_neg (fun hh => Bool.false_ne_true hh.2), vE_0 hv, q16_z]
theorem isA_V {l : Rec3} {tol : Int} : isA l tol l.1.2.2.1.length = isV l tol l.1.2.2.1.length := by
  refine List.ext_getElem (by rw [isA_len, isV_len]) fun i h1 h2 => ?_; rw [isA_len] at h1; rw [isV_at h1, decide_eq_true h1, isA_at h1] <;> rfl
theorem arr3_map {α β : Type} (f : α → β) (a b c : α) : ∀ k, arr3 (f a) (f b) (f c) k = f (arr3 a b c k)
  | 0 => rfl
  | 1 => rfl
  | _ + 2 => rfl
theorem thereV_len {r : Rec1} : (thereE r).length = r.2.2.1.length := offB_len
theorem thereV_at {r : Rec1} {i : Nat} (h : i < r.2.2.1.length) (h2 : i < (thereE r).length) : (thereE r)[i] = recB r i := by
  have h3 := offB_at (p := Sp.inL r.2.2.2) h; exact h3.trans (recB_in h).symm
theorem there3 {l : Rec3} {k i : Nat} (h : i < (rk l k).2.2.1.length) (h2 : i < (arr3 (thereE l.1) (thereE l.2.1) (thereE l.2.2) k).length) : (arr3 (thereE l.1) (thereE l.2.1) (thereE l.2.2) k)[i] = recB (rk l k) i := by
  have e := arr3_map thereE l.1 l.2.1 l.2.2 k; rw [← thereV_at h (by rw [← e]; exact h2)]; simp only [e]
theorem sort_len {l : List Int} : (sortN l).length = l.length := (sortN_perm l).length_eq
theorem vote_3 {l : List Int} {tol : Int} (h : l.length = 3) : (votedE l tol).2 = true := by rw [votedE_3 h]
theorem vote_2 {l : List Int} {tol : Int} (h : l.length = 2) : (votedE l tol).2 = decide ((sortN l)[1]'(by rw [sort_len]; omega) - (sortN l)[0]'(by rw [sort_len]; omega) ≤ tol) := by
  rw [vote_eq (by omega)]; show voteP l tol = _; rw [voteP, decide_eq_false (by omega), decide_eq_true h, Bool.false_or, Bool.true_and, getDat (show 0 < (sortN l).length by rw [sort_len]; omega), show l.length - 1 = 1 by omega, getDat (show 1 < (sortN l).length by rw [sort_len]; omega)]
theorem vote_n {l : List Int} {tol : Int} (h3 : ¬ l.length = 3) (h2 : ¬ l.length = 2) : (votedE l tol).2 = false := by rw [votedE_n h3 h2]
theorem vote_ge {l : List Int} {tol : Int} (h : (votedE l tol).2 = true) : 2 ≤ l.length := by
  by_cases h3 : l.length = 3
  · omega
  by_cases h2 : l.length = 2
  · omega
  rw [vote_n h3 h2] at h; cases h
theorem vote_1 {l : List Int} {tol : Int} (hl : l.length ≤ 3) (h : (votedE l tol).2 = true) (h1 : 1 < (sortN l).length) : (votedE l tol).1 = (sortN l)[1] := by
  have e := vote_eq (tol := tol) hl
  have e2 : voteP l tol = true := by
    have := congrArg Prod.snd e; rw [h] at this; exact this.symm
  rw [e, e2, if_pos rfl, getDat h1]
theorem dv_there {l : Rec3} {tol : Int} {k i : Nat} (h : i < (rk l k).2.2.1.length) : dvB l tol k i = ((vE l tol i).2 && (thereE (rk l k)).getD i false && decide (tol < max (sxE ((rk l k).2.2.1[i]) - (vE l tol i).1) (-(sxE ((rk l k).2.2.1[i]) - (vE l tol i).1)))) := by
  unfold dvB; rw [getDat (d := 0) h, getDat (d := false) (show i < (thereE (rk l k)).length by rw [thereV_len]; exact h), thereV_at h, show (0 : Int) - (sxE ((rk l k).2.2.1[i]) - (vE l tol i).1) = -(sxE ((rk l k).2.2.1[i]) - (vE l tol i).1) by omega]
theorem and3_t {a b : Bool} {p : Prop} [Decidable p] (h : (a = true ∧ b = true) ∧ p) : (a && b && decide p) = true := by simp [h.1.1, h.1.2, h.2]
theorem and3_f {a b : Bool} {p : Prop} [Decidable p] (h : (a = false ∨ b = false) ∨ ¬ p) : (a && b && decide p) = false := by
  rcases h with (h | h) | h
  · simp [h]
  · simp [h]
  simp [h]
theorem at_last {l : List Int} (h : l.length = 2) (h1 : (max (0 : Int) (((l.length : Nat) : Int) - 1)).toNat < l.length) : l[(max (0 : Int) (((l.length : Nat) : Int) - 1)).toNat] = l[1]'(by omega) := by
  have e : (max (0 : Int) (((l.length : Nat) : Int) - 1)).toNat = 1 := by omega
  simp only [e]
theorem gVote_ok {l : (ByteArray × Int × (List Nat) × (List (Int × Int))) × (ByteArray × Int × (List Nat) × (List (Int × Int))) × (ByteArray × Int × (List Nat) × (List (Int × Int)))} {tol : Int} (hl0 : ∀ k, k < 3 → (rk l k).2.2.1.length < 100000) (hg0 : ∀ k, k < 3 → (rk l k).2.2.2.length < 1000000) : VF Tryz.prog OA 56 [.v y88 l, I tol] (.tup [.v y65 (voteR l tol), .v y85 (voteO l tol), I (voteC l tol)]) := by
  refine VF.enter Tryz.func56 rfl (fun _ _ => rfl) rfl ?_; show VC _ _ _ _ _ [(0, .v y88 l), (1, I tol)] [] _; refine VC.seq (VC.text ?_); refine VO.new (.box) ?_; refine VO.cell (.alloc zt65) ?_; intro ww1; refine VO.cell (.alloc zt85) ?_; intro ww2; refine VO.c (.assign rfl) ?_; refine VO.go (VC.seq (VC.seq (VC.text ?_))); refine VO.r (.arr3 (a := l.1) (b := l.2.1) (c := l.2.2) 65) ?_; refine VO.call rfl rfl (VF.call (gMapRec_ok (F := recE) (by simp) (fun x hx => VF.call (gRec_ok (Nat.lt_trans (mem3 (Q := fun r => r.2.2.1.length < 100000) hl0 hx) (by decide)) (mem3 (Q := fun r => r.2.2.2.length < 1000000) hg0 hx))))) ?_; refine VO.call rfl rfl (VF.call (gFirst_ok (by simp))) ?_; refine VO.c (.move rfl) ?_; refine VO.call rfl rfl (VF.call (gWithin_ok )) ?_; refine VO.new (.lit [firstE ([l.1, l.2.1, l.2.2].map recE), rangeE tol (0 : Int) (2048 : Int)] el164) ?_; refine VO.call rfl rfl (VF.call (gFirst_ok (by first | assumption | omega | simp))) ?_; refine VO.c (.assign rfl) ?_; refine VO.go (VC.seq (VC.text ?_)); refine VO.c (.move rfl) ?_; refine VO.c (.neq) ?_; refine VO.go ?_; refine VC.condD rfl (fun c2 => ?_) (fun c2 => ?_)
  · refine VC.seq (VC.text ?_); refine VO.c (.build (ByteArray.empty, 0, [], []) bt65) ?_; refine VO.c (.build (0, 0, 0) bt85) ?_; refine VO.c (.move rfl) ?_; refine VO.perm swap1 ?_; refine VO.setV (cs' := [St ByteArray.empty, I 0, .v y53 [], .v y22 []]) vt65 .v ?_; refine VO.perm swap1 ?_; refine VO.setV (cs' := [I 0, I 0, I 0]) vt85 .v ?_; refine VO.c (.assign rfl) ?_; refine VO.go ?_; refine VC.ret ?_; exact VEnd.three rfl (.cell (x := (ByteArray.empty, 0, [], [])) rfl m1 vt65 .refl) (.cell (x := (0, 0, 0)) rfl m0 vt85 .refl) evT (pvE (by rw [voteR, if_pos (by rw [voteC_1 c2]; exact c2)]; rfl)) (pvE (by rw [voteO, if_pos (by rw [voteC_1 c2]; exact c2)])) (pvI (by exact (voteC_1 c2).symm))
  obtain ⟨hz, ht⟩ := votC1_ok (Classical.not_not.1 c2); have hr0 : (0 ≤ l.1.2.1 ∧ l.1.2.1 ≤ 100000) ∧ l.1.2.2.1.length ≤ 4096 := ⟨(rec_ok (hz 0 (by decide))).1, (rec_ok (hz 0 (by decide))).2.1⟩; have hr1 : (0 ≤ l.2.1.2.1 ∧ l.2.1.2.1 ≤ 100000) ∧ l.2.1.2.2.1.length ≤ 4096 := ⟨(rec_ok (hz 1 (by decide))).1, (rec_ok (hz 1 (by decide))).2.1⟩; have hr2 : (0 ≤ l.2.2.2.1 ∧ l.2.2.2.1 ≤ 100000) ∧ l.2.2.2.2.1.length ≤ 4096 := ⟨(rec_ok (hz 2 (by decide))).1, (rec_ok (hz 2 (by decide))).2.1⟩; refine VC.skip (VC.seq (VC.text ?_)); refine VO.cell (.alloc zt85) ?_; intro ww3; refine VO.cell (.alloc zt85) ?_; intro ww4; refine VO.go (VC.seq (VC.seq (VC.text ?_))); refine VO.r (.ld vt88) ?_; refine VO.c (.move rfl) ?_; refine VO.go (VC.block ?_); refine VC.unroll ?_; refine VC.seq (VC.text ?_); refine VO.c (.lss) ?_; refine VO.go (VC.seq ?_); refine VC.condT rfl ?_; refine VC.skip (VC.seq (VC.block (VC.seq (VC.text ?_)))); refine VO.c (.move rfl) ?_; refine VO.c (.ixA 0 (.l .o)) ?_; refine VO.cell (.alloc zt65) ?_; intro ww5; refine VO.c (.assign rfl) ?_; refine VO.setV (cs' := [St l.1.1, I l.1.2.1, .v y53 l.1.2.2.1, .v y22 l.1.2.2.2]) vt65 .v ?_; refine VO.shut [(11, .p y65 l.1)] (.cons rfl (.var m0 .refl) .nil) ?_; refine VO.go ?_; refine VC.perm swap1 ?_; refine VC.late [(ww2, .var [I (0 : Int), I (0 : Int), I (0 : Int)]), (ww1, .var [St ByteArray.empty, I (0 : Int), .v y53 [], .v y22 []])] ⟨[(ww3, .var [I (0 : Int), I (0 : Int), I (0 : Int)]), (ww4, .var [I (0 : Int), I (0 : Int), I (0 : Int)])], rfl⟩ ?_; refine VLt.c (.move rfl) ?_; refine VLt.c (.move rfl) ?_; refine VLt.c (.fa (.r (.l .o))) ?_; refine VLt.q rfl (.ld vt3) ?_; refine VLt.c (.ixP 0 (.l .o)) ?_; refine VLt.c (.fa (.r (.l .o))) ?_; refine VLt.nws [] ?_; refine VLt.q rfl (.ld vt3) ?_; refine VLt.c (.sub rfl rfl (by omega)) ?_; refine VLt.c (.fa (.r (.r (.l .o)))) ?_; refine VLt.q rfl (.ld vt53) ?_; refine VLt.lenS el53 ?_; refine VLt.c (.ixP 0 (.l .o)) ?_; refine VLt.c (.fa (.r (.r (.l .o)))) ?_; refine VLt.nws [] ?_; refine VLt.q rfl (.ld vt53) ?_; refine VLt.lenS el53 ?_; refine VLt.c (.sub rfl rfl (by omega)) ?_; refine VLt.cR (.ixV 0 (k := 0) (τ' := (.int .i64)) m0) ?_; refine VLt.mk0 (MakeV.setF (k := 0) vt3 .v (Nat.le_of_ble_eq_true rfl) (.inl rfl) rfl rfl) (TurnV.store rfl (.inr ⟨_, rfl⟩)) ⟨[(ww4, .var [I (0 : Int), I (0 : Int), I (0 : Int)])], rfl⟩ ?_; rintro _ _ ⟨rfl, rfl⟩; refine ⟨⟨[(ww3, .var [I (l.1.2.1 - l.1.2.1), I (0 : Int), I (0 : Int)]), (ww4, .var [I (0 : Int), I (0 : Int), I (0 : Int)])], rfl⟩, ?_⟩; refine VLt.cR (.ixV 0 (k := 0) (τ' := (.int .i64)) m1) ?_; refine VLt.perm swap1 ⟨[(ww4, .var [I (0 : Int), I (0 : Int), I (0 : Int)]), (ww3, .var [I (l.1.2.1 - l.1.2.1), I (0 : Int), I (0 : Int)])], rfl⟩ ?_; refine VLt.mk0 (MakeV.setF (k := 0) vt3 .v (Nat.le_of_ble_eq_true rfl) (.inl rfl) rfl rfl) (TurnV.store rfl (.inr ⟨_, rfl⟩)) ⟨[(ww3, .var [I (l.1.2.1 - l.1.2.1), I (0 : Int), I (0 : Int)])], rfl⟩ ?_; rintro _ _ ⟨rfl, rfl⟩; refine ⟨⟨[(ww4, .var [I (((l.1.2.2.1.length : Nat) : Int) - ((l.1.2.2.1.length : Nat) : Int)), I (0 : Int), I (0 : Int)]), (ww3, .var [I (l.1.2.1 - l.1.2.1), I (0 : Int), I (0 : Int)])], rfl⟩, ?_⟩; refine VLt.nil ?_; refine VC.keep [(1, I tol), (2, .p y88 l), (4, .raw ww1), (5, .raw ww2), (8, .raw ww3), (9, .raw ww4), (37, .v y88 l), (38, I (0 : Int))] ⟨rfl, rfl, rfl, rfl, rfl, rfl, rfl, rfl, trivial⟩ ?_; refine VC.text ?_; refine VO.c (.add rfl rfl (by decide)) ?_; refine VO.c (.move rfl) ?_; refine VO.nil ?_; refine VC.unroll ?_; refine VC.seq (VC.text ?_); refine VO.c (.lss) ?_; refine VO.go (VC.seq ?_); refine VC.condT rfl ?_; refine VC.skip (VC.seq (VC.block (VC.seq (VC.text ?_)))); refine VO.c (.move rfl) ?_; refine VO.c (.ixA 1 (.r (.l .o))) ?_; refine VO.cell (.alloc zt65) ?_; intro ww6; refine VO.c (.assign rfl) ?_; refine VO.setV (cs' := [St l.2.1.1, I l.2.1.2.1, .v y53 l.2.1.2.2.1, .v y22 l.2.1.2.2.2]) vt65 .v ?_; refine VO.shut [(11, .p y65 l.2.1)] (.cons rfl (.var m0 .refl) .nil) ?_; refine VO.go ?_; refine VC.perm swap1 ?_; refine VC.late [(ww2, .var [I (0 : Int), I (0 : Int), I (0 : Int)]), (ww1, .var [St ByteArray.empty, I (0 : Int), .v y53 [], .v y22 []])] ⟨[(ww3, .var [I (l.1.2.1 - l.1.2.1), I (0 : Int), I (0 : Int)]), (ww4, .var [I (((l.1.2.2.1.length : Nat) : Int) - ((l.1.2.2.1.length : Nat) : Int)), I (0 : Int), I (0 : Int)])], rfl⟩ ?_; refine VLt.c (.move rfl) ?_; refine VLt.c (.move rfl) ?_; refine VLt.c (.fa (.r (.l .o))) ?_; refine VLt.q rfl (.ld vt3) ?_; refine VLt.c (.ixP 0 (.l .o)) ?_; refine VLt.c (.fa (.r (.l .o))) ?_; refine VLt.nws [] ?_; refine VLt.q rfl (.ld vt3) ?_; refine VLt.c (.sub rfl rfl (by omega)) ?_; refine VLt.c (.fa (.r (.r (.l .o)))) ?_; refine VLt.q rfl (.ld vt53) ?_; refine VLt.lenS el53 ?_; refine VLt.c (.ixP 0 (.l .o)) ?_; refine VLt.c (.fa (.r (.r (.l .o)))) ?_; refine VLt.nws [] ?_; refine VLt.q rfl (.ld vt53) ?_; refine VLt.lenS el53 ?_; refine VLt.c (.sub rfl rfl (by omega)) ?_; refine VLt.cR (.ixV 1 (k := 1) (τ' := (.int .i64)) m0) ?_; refine VLt.mk0 (MakeV.setF (k := 1) vt3 .v (Nat.le_of_ble_eq_true rfl) (.inl rfl) rfl rfl) (TurnV.store rfl (.inr ⟨_, rfl⟩)) ⟨[(ww4, .var [I (((l.1.2.2.1.length : Nat) : Int) - ((l.1.2.2.1.length : Nat) : Int)), I (0 : Int), I (0 : Int)])], rfl⟩ ?_; rintro _ _ ⟨rfl, rfl⟩; refine ⟨⟨[(ww3, .var [I (l.1.2.1 - l.1.2.1), I (l.2.1.2.1 - l.1.2.1), I (0 : Int)]), (ww4, .var [I (((l.1.2.2.1.length : Nat) : Int) - ((l.1.2.2.1.length : Nat) : Int)), I (0 : Int), I (0 : Int)])], rfl⟩, ?_⟩; refine VLt.cR (.ixV 1 (k := 1) (τ' := (.int .i64)) m1) ?_; refine VLt.perm swap1 ⟨[(ww4, .var [I (((l.1.2.2.1.length : Nat) : Int) - ((l.1.2.2.1.length : Nat) : Int)), I (0 : Int), I (0 : Int)]), (ww3, .var [I (l.1.2.1 - l.1.2.1), I (l.2.1.2.1 - l.1.2.1), I (0 : Int)])], rfl⟩ ?_; refine VLt.mk0 (MakeV.setF (k := 1) vt3 .v (Nat.le_of_ble_eq_true rfl) (.inl rfl) rfl rfl) (TurnV.store rfl (.inr ⟨_, rfl⟩)) ⟨[(ww3, .var [I (l.1.2.1 - l.1.2.1), I (l.2.1.2.1 - l.1.2.1), I (0 : Int)])], rfl⟩ ?_; rintro _ _ ⟨rfl, rfl⟩; refine ⟨⟨[(ww4, .var [I (((l.1.2.2.1.length : Nat) : Int) - ((l.1.2.2.1.length : Nat) : Int)), I (((l.2.1.2.2.1.length : Nat) : Int) - ((l.1.2.2.1.length : Nat) : Int)), I (0 : Int)]), (ww3, .var [I (l.1.2.1 - l.1.2.1), I (l.2.1.2.1 - l.1.2.1), I (0 : Int)])], rfl⟩, ?_⟩; refine VLt.nil ?_; refine VC.text ?_; refine VO.c (.add rfl rfl (by decide)) ?_; refine VO.c (.move rfl) ?_; refine VO.nil ?_; refine VC.unroll ?_; refine VC.seq (VC.text ?_); refine VO.c (.lss) ?_; refine VO.go (VC.seq ?_); refine VC.condT rfl ?_; refine VC.skip (VC.seq (VC.block (VC.seq (VC.text ?_)))); refine VO.c (.move rfl) ?_; refine VO.c (.ixA 2 (.r (.r .o))) ?_; refine VO.cell (.alloc zt65) ?_; intro ww7; refine VO.c (.assign rfl) ?_; refine VO.setV (cs' := [St l.2.2.1, I l.2.2.2.1, .v y53 l.2.2.2.2.1, .v y22 l.2.2.2.2.2]) vt65 .v ?_; refine VO.shut [(11, .p y65 l.2.2)] (.cons rfl (.var m0 .refl) .nil) ?_; refine VO.go ?_; refine VC.keep [(1, I tol), (2, .p y88 l), (4, .raw ww1), (5, .raw ww2), (8, .raw ww3), (9, .raw ww4), (10, I (2 : Int)), (11, .p y65 l.2.2), (37, .v y88 l), (38, I (2 : Int))] ⟨rfl, rfl, rfl, rfl, rfl, rfl, rfl, rfl, rfl, rfl, trivial⟩ ?_; refine VC.perm swap1 ?_; refine VC.late [(ww2, .var [I (0 : Int), I (0 : Int), I (0 : Int)]), (ww1, .var [St ByteArray.empty, I (0 : Int), .v y53 [], .v y22 []])] ⟨[(ww3, .var [I (l.1.2.1 - l.1.2.1), I (l.2.1.2.1 - l.1.2.1), I (0 : Int)]), (ww4, .var [I (((l.1.2.2.1.length : Nat) : Int) - ((l.1.2.2.1.length : Nat) : Int)), I (((l.2.1.2.2.1.length : Nat) : Int) - ((l.1.2.2.1.length : Nat) : Int)), I (0 : Int)])], rfl⟩ ?_; refine VLt.c (.move rfl) ?_; refine VLt.c (.move rfl) ?_; refine VLt.c (.fa (.r (.l .o))) ?_; refine VLt.q rfl (.ld vt3) ?_; refine VLt.c (.ixP 0 (.l .o)) ?_; refine VLt.c (.fa (.r (.l .o))) ?_; refine VLt.nws [] ?_; refine VLt.q rfl (.ld vt3) ?_; refine VLt.c (.sub rfl rfl (by omega)) ?_; refine VLt.c (.fa (.r (.r (.l .o)))) ?_; refine VLt.q rfl (.ld vt53) ?_; refine VLt.lenS el53 ?_; refine VLt.c (.ixP 0 (.l .o)) ?_; refine VLt.c (.fa (.r (.r (.l .o)))) ?_; refine VLt.nws [] ?_; refine VLt.q rfl (.ld vt53) ?_; refine VLt.lenS el53 ?_; refine VLt.c (.sub rfl rfl (by omega)) ?_; refine VLt.cR (.ixV 2 (k := 2) (τ' := (.int .i64)) m0) ?_; refine VLt.mk0 (MakeV.setF (k := 2) vt3 .v (Nat.le_of_ble_eq_true rfl) (.inl rfl) rfl rfl) (TurnV.store rfl (.inr ⟨_, rfl⟩)) ⟨[(ww4, .var [I (((l.1.2.2.1.length : Nat) : Int) - ((l.1.2.2.1.length : Nat) : Int)), I (((l.2.1.2.2.1.length : Nat) : Int) - ((l.1.2.2.1.length : Nat) : Int)), I (0 : Int)])], rfl⟩ ?_; rintro _ _ ⟨rfl, rfl⟩; refine ⟨⟨[(ww3, .var [I (l.1.2.1 - l.1.2.1), I (l.2.1.2.1 - l.1.2.1), I (l.2.2.2.1 - l.1.2.1)]), (ww4, .var [I (((l.1.2.2.1.length : Nat) : Int) - ((l.1.2.2.1.length : Nat) : Int)), I (((l.2.1.2.2.1.length : Nat) : Int) - ((l.1.2.2.1.length : Nat) : Int)), I (0 : Int)])], rfl⟩, ?_⟩; refine VLt.cR (.ixV 2 (k := 2) (τ' := (.int .i64)) m1) ?_; refine VLt.perm swap1 ⟨[(ww4, .var [I (((l.1.2.2.1.length : Nat) : Int) - ((l.1.2.2.1.length : Nat) : Int)), I (((l.2.1.2.2.1.length : Nat) : Int) - ((l.1.2.2.1.length : Nat) : Int)), I (0 : Int)]), (ww3, .var [I (l.1.2.1 - l.1.2.1), I (l.2.1.2.1 - l.1.2.1), I (l.2.2.2.1 - l.1.2.1)])], rfl⟩ ?_; refine VLt.mk0 (MakeV.setF (k := 2) vt3 .v (Nat.le_of_ble_eq_true rfl) (.inl rfl) rfl rfl) (TurnV.store rfl (.inr ⟨_, rfl⟩)) ⟨[(ww3, .var [I (l.1.2.1 - l.1.2.1), I (l.2.1.2.1 - l.1.2.1), I (l.2.2.2.1 - l.1.2.1)])], rfl⟩ ?_; rintro _ _ ⟨rfl, rfl⟩; refine ⟨⟨[(ww4, .var [I (((l.1.2.2.1.length : Nat) : Int) - ((l.1.2.2.1.length : Nat) : Int)), I (((l.2.1.2.2.1.length : Nat) : Int) - ((l.1.2.2.1.length : Nat) : Int)), I (((l.2.2.2.2.1.length : Nat) : Int) - ((l.1.2.2.1.length : Nat) : Int))]), (ww3, .var [I (l.1.2.1 - l.1.2.1), I (l.2.1.2.1 - l.1.2.1), I (l.2.2.2.1 - l.1.2.1)])], rfl⟩, ?_⟩; refine VLt.nil ?_; refine VC.text ?_; refine VO.c (.add rfl rfl (by decide)) ?_; refine VO.c (.move rfl) ?_; refine VO.nil ?_; refine VC.unroll ?_; refine VC.seq (VC.text ?_); refine VO.c (.lss) ?_; refine VO.go (VC.seq ?_); refine VC.condF rfl ?_; refine VC.exit (VC.seq (VC.seq (VC.text ?_))); refine VO.r (.ldA (dx := ((l.1.2.1 - l.1.2.1), (l.2.1.2.1 - l.1.2.1), (l.2.2.2.1 - l.1.2.1))) m1 vt85) ?_; refine VO.c (.build (0, 0, 0) bt85) ?_; refine VO.c (.arrCmp (xs := [(l.1.2.1 - l.1.2.1), (l.2.1.2.1 - l.1.2.1), (l.2.2.2.1 - l.1.2.1)]) (ys := [0, 0, 0]) (.inr ⟨rfl, rfl⟩) rfl rfl rfl rfl (by kernel_rfl) rfl) ?_; refine VO.c (.move rfl) ?_; refine VO.rg (r := (!decide ([(l.1.2.1 - l.1.2.1), (l.2.1.2.1 - l.1.2.1), (l.2.2.2.1 - l.1.2.1)] = [0, 0, 0]))) (w := false) [] trivial (fun _ => (.ldA (dx := ((((l.1.2.2.1.length : Nat) : Int) - ((l.1.2.2.1.length : Nat) : Int)), (((l.2.1.2.2.1.length : Nat) : Int) - ((l.1.2.2.1.length : Nat) : Int)), (((l.2.2.2.2.1.length : Nat) : Int) - ((l.1.2.2.1.length : Nat) : Int)))) m0 vt85)) ?_; refine VO.cg (v := .v y85 (0, 0, 0)) (r := (!decide ([(l.1.2.1 - l.1.2.1), (l.2.1.2.1 - l.1.2.1), (l.2.2.2.1 - l.1.2.1)] = [0, 0, 0]))) (w := false) [] trivial (fun _ => (.buildV bt85)) ?_; refine VO.cg (r := (!decide ([(l.1.2.1 - l.1.2.1), (l.2.1.2.1 - l.1.2.1), (l.2.2.2.1 - l.1.2.1)] = [0, 0, 0]))) (w := false) [(65, .v y85 ((((l.1.2.2.1.length : Nat) : Int) - ((l.1.2.2.1.length : Nat) : Int)), (((l.2.1.2.2.1.length : Nat) : Int) - ((l.1.2.2.1.length : Nat) : Int)), (((l.2.2.2.2.1.length : Nat) : Int) - ((l.1.2.2.1.length : Nat) : Int)))), (66, .v y85 (0, 0, 0))] ⟨rfl, rfl, trivial⟩ (fun hgd => have g10_3 : (!decide ([(l.1.2.1 - l.1.2.1), (l.2.1.2.1 - l.1.2.1), (l.2.2.2.1 - l.1.2.1)] = [0, 0, 0])) = false := (by simpa using hgd); (.arrCmp (xs := [(((l.1.2.2.1.length : Nat) : Int) - ((l.1.2.2.1.length : Nat) : Int)), (((l.2.1.2.2.1.length : Nat) : Int) - ((l.1.2.2.1.length : Nat) : Int)), (((l.2.2.2.2.1.length : Nat) : Int) - ((l.1.2.2.1.length : Nat) : Int))]) (ys := [0, 0, 0]) (.inr ⟨rfl, rfl⟩) rfl rfl rfl rfl (by kernel_rfl) rfl)) ?_; refine VO.c (.or) ?_; refine VO.go ?_; refine VC.condB rfl (fun c10 => ?_) (fun c10 => ?_)
  · try simp only [Bool.and_eq_true, Bool.or_eq_true, Bool.and_eq_false_iff, Bool.or_eq_false_iff, Bool.not_eq_true', Bool.not_eq_false', decide_eq_true_eq, decide_eq_false_iff_not] at c10
    have hns : ¬ sameSh l := fun hh => by
      obtain ⟨⟨s1, s2⟩, s3, s4⟩ := hh; rw [s1, s2, s3, s4] at c10; simp at c10
    have hvc := voteC_2 c2 hns; refine VC.seq (VC.text ?_); refine VO.c (.build (ByteArray.empty, 0, [], []) bt65) ?_; refine VO.c (.build (0, 0, 0) bt85) ?_; refine VO.perm swap3 ?_; refine VO.setV (cs' := [St ByteArray.empty, I 0, .v y53 [], .v y22 []]) vt65 .v ?_; refine VO.perm swap3 ?_; refine VO.setV (cs' := [I 0, I 0, I 0]) vt85 .v ?_; refine VO.c (.assign rfl) ?_; refine VO.go ?_; refine VC.ret ?_; exact VEnd.three rfl (.cell (x := (ByteArray.empty, 0, [], [])) rfl m1 vt65 .refl) (.cell (x := (0, 0, 0)) rfl m0 vt85 .refl) evT (pvE (by rw [voteR, if_pos (by rw [hvc]; decide)]; rfl)) (pvE (by rw [voteO, if_pos (by rw [hvc]; decide)])) (pvI (by exact hvc.symm))
  try simp only [Bool.and_eq_true, Bool.or_eq_true, Bool.and_eq_false_iff, Bool.or_eq_false_iff, Bool.not_eq_true', Bool.not_eq_false', decide_eq_true_eq, decide_eq_false_iff_not] at c10
  have hsh : sameSh l := by
    simp at c10; obtain ⟨⟨s1, s2⟩, s3, s4⟩ := c10; exact ⟨⟨by omega, by omega⟩, by omega, by omega⟩
  have hvc := voteC_0 c2 hsh; have hV := vote_vot c2 hsh hg0; have hn := hV.n; have hl1 : l.2.1.2.2.1.length = l.1.2.2.1.length := hV.len 1 (by decide); have hl2 : l.2.2.2.2.1.length = l.1.2.2.1.length := hV.len 2 (by decide); have hto0 := thereV_len (r := l.1); have hto1 := thereV_len (r := l.2.1); have hto2 := thereV_len (r := l.2.2); refine VC.skip (VC.seq ?_); refine VC.perm swap1 ?_; refine VC.shutL [(ww3, .var [I (l.1.2.1 - l.1.2.1), I (l.2.1.2.1 - l.1.2.1), I (l.2.2.2.1 - l.1.2.1)])] [(8, .p y85 ((l.1.2.1 - l.1.2.1), (l.2.1.2.1 - l.1.2.1), (l.2.2.2.1 - l.1.2.1)))] rfl (.cons rfl (.var m0 .refl) .nil) ?_; refine VC.shutL [(ww4, .var [I (((l.1.2.2.1.length : Nat) : Int) - ((l.1.2.2.1.length : Nat) : Int)), I (((l.2.1.2.2.1.length : Nat) : Int) - ((l.1.2.2.1.length : Nat) : Int)), I (((l.2.2.2.2.1.length : Nat) : Int) - ((l.1.2.2.1.length : Nat) : Int))])] [(9, .p y85 ((((l.1.2.2.1.length : Nat) : Int) - ((l.1.2.2.1.length : Nat) : Int)), (((l.2.1.2.2.1.length : Nat) : Int) - ((l.1.2.2.1.length : Nat) : Int)), (((l.2.2.2.2.1.length : Nat) : Int) - ((l.1.2.2.1.length : Nat) : Int))))] rfl (.cons rfl (.var m0 .refl) .nil) ?_; refine VC.drawn ?_; refine VD.c (.ixP 0 (.l .o)) ?_; refine VD.r [] (.ld vt65) (.inl rfl) ?_; refine VD.call rfl rfl (VF.call (gThere_ok hr0.2 (hg0 0 (by decide)) (rec_ok (hz 0 (by decide))).2.2.2.2)) ?_; refine VD.c (.ixP 1 (.r (.l .o))) ?_; refine VD.r [] (.ld vt65) (.inl rfl) ?_; refine VD.call rfl rfl (VF.call (gThere_ok hr1.2 (hg0 1 (by decide)) (rec_ok (hz 1 (by decide))).2.2.2.2)) ?_; refine VD.nw [76, 73] ?_; refine VD.c (.ixP 2 (.r (.r .o))) ?_; refine VD.r [] (.ld vt65) (.inl rfl) ?_; refine VD.call rfl rfl (VF.call (gThere_ok hr2.2 (hg0 2 (by decide)) (rec_ok (hz 2 (by decide))).2.2.2.2)) ?_; refine VD.c (.build (thereE l.1, thereE l.2.1, thereE l.2.2) bt167) ?_; refine VD.cell (.alloc zt167) ?_; intro ww8; refine VD.mk0 (MakeV.setF (k := 0) vt167 .v (Nat.le_of_ble_eq_true rfl) (.inr ⟨rfl, rfl⟩) rfl rfl) ?_; rintro _ _ tl9 ⟨rfl, rfl⟩; refine VD.go (VC.seq ?_); refine VC.shutL [(ww8, .var [.v (.sl .bool) (thereE l.1), .v (.sl .bool) (thereE l.2.1), .v (.sl .bool) (thereE l.2.2)])] [(12, .p y167 (thereE l.1, thereE l.2.1, thereE l.2.2))] rfl (.cons rfl (.var m0 .refl) .nil) ?_; refine VC.keep [(1, I tol), (2, .p y88 l), (4, .raw ww1), (5, .raw ww2), (12, .p y167 (thereE l.1, thereE l.2.1, thereE l.2.2))] ⟨rfl, rfl, rfl, rfl, rfl, trivial⟩ ?_; refine VC.text ?_; refine VO.c (.ixP 0 (.l .o)) ?_; refine VO.c (.fa (.l .o)) ?_; refine VO.r (.ld vt9) ?_; refine VO.c (.ixP 0 (.l .o)) ?_; refine VO.c (.fa (.r (.l .o))) ?_; refine VO.r (.ld vt3) ?_; refine VO.c (.buildA (cs := [St l.1.1, I l.1.2.1, nilV, nilV]) bt65 rfl) ?_; refine VO.cell (.alloc zt65) ?_; intro ww10; refine VO.setV (cs' := [St l.1.1, I l.1.2.1, nilV, nilV]) vt65 (.aggs rfl rfl) ?_; refine VO.go (VC.seq (VC.text ?_)); refine VO.c (.assign rfl) ?_; refine VO.go (VC.seq (VC.text ?_)); refine VO.cell (.alloc zt85) ?_; intro ww11; refine VO.go (VC.seq (VC.seq (VC.text ?_))); refine VO.c (.ixP 0 (.l .o)) ?_; refine VO.c (.fa (.r (.r (.l .o)))) ?_; refine VO.r (.ld vt53) ?_; refine VO.r (.len el53) ?_; refine VO.c (.move rfl) ?_; refine VO.go (VC.block ?_); refine VC.cell0 59 (.flt .f32) ?_; refine VC.cell0 4 .bool ?_; refine VC.keep [(1, I tol), (2, .p y88 l), (4, .raw ww1), (5, .raw ww2), (12, .p y167 (thereE l.1, thereE l.2.1, thereE l.2.2)), (13, .raw ww10), (14, .raw (.slice none 0 0)), (15, .raw ww11), (91, I ((l.1.2.2.1.length : Nat) : Int)), (92, I ((0 : Nat) : Int))] ⟨rfl, rfl, rfl, rfl, rfl, rfl, rfl, rfl, rfl, rfl, trivial⟩ ?_; refine VC.loop (I := fun kk ff ss => ∃ (i : Nat) (wis : Value) (wlv : Value), kk = l.1.2.2.1.length - i ∧ ff = [(1, I tol), (2, .p y88 l), (4, .raw ww1), (5, .raw ww2), (12, .p y167 (thereE l.1, thereE l.2.1, thereE l.2.2)), (13, .raw ww10), (14, .raw wis), (15, .raw ww11), (91, I ((l.1.2.2.1.length : Nat) : Int)), (92, I ((i : Nat) : Int))] ∧ ss = [(wis, .row 4 .bool (isA l tol i)), (wlv, .row 59 (.flt .f32) (lvA l tol i)), (ww11, .var [I (dvE l tol 0 i), I (dvE l tol 1 i), I (dvE l tol 2 i)]), (ww10, .var [St l.1.1, I l.1.2.1, .raw wlv, nilV]), (ww2, .var [I (0 : Int), I (0 : Int), I (0 : Int)]), (ww1, .var [St ByteArray.empty, I (0 : Int), .v y53 [], .v y22 []])] ∧ (i ≤ l.1.2.2.1.length) ∧ ((isA l tol i).length = i) ∧ ((lvA l tol i).length = i)) ?_ _ _ _ ⟨0, (.slice none 0 0), (.slice none 0 0), rfl, rfl, rfl, Nat.zero_le _, (by exact isA_len), (by exact lvA_len)⟩; rintro kk ff ss ⟨i, wis, wlv, hk2, rfl, rfl, hi, hil, hll⟩; refine VC.seq (VC.text ?_); refine VO.c (.lss) ?_; refine VO.go (VC.seq ?_); refine VC.condD rfl (fun c17 => ?_) (fun c17 => ?_)
  · have hib : i < l.1.2.2.1.length := by omega
    have hvb := vE_bnd (tol := tol) (i := i) hV.lv; have hd0 := dvE_bnd (l := l) (tol := tol) (k := 0) i; have hd1 := dvE_bnd (l := l) (tol := tol) (k := 1) i; have hd2 := dvE_bnd (l := l) (tol := tol) (k := 2) i; have hk10 : dvK l tol i 1 0 = dvE l tol 1 i := rfl; have hk21 : dvK l tol i 2 1 = dvE l tol 2 i := rfl; have hq := q16_ok hvb; have hvb2 : -1024 ≤ (votedE (toldL l i 3) tol).1 ∧ (votedE (toldL l i 3) tol).1 ≤ 1024 := hvb; have hv0 := dv_there (l := l) (tol := tol) (k := 0) (i := i) hib; have hv1 := dv_there (l := l) (tol := tol) (k := 1) (i := i) (by show i < l.2.1.2.2.1.length; omega); have hv2 := dv_there (l := l) (tol := tol) (k := 2) (i := i) (by show i < l.2.2.2.2.1.length; omega); have hs0 := (lvl_ok (hV.lv 0 (by decide) (l.1.2.2.1[i]) (List.getElem_mem _))).2; have hs1 := (lvl_ok (hV.lv 1 (by decide) (l.2.1.2.2.1[i]'(by omega)) (List.getElem_mem _))).2; have hs2 := (lvl_ok (hV.lv 2 (by decide) (l.2.2.2.2.1[i]'(by omega)) (List.getElem_mem _))).2; have hgt : (votedE (toldL l i 3) tol).1 = (vE l tol i).1 ∧ (votedE (toldL l i 3) tol).2 = (vE l tol i).2 := ⟨rfl, rfl⟩; have hsl := sort_len (l := toldL l i 3); have htl3 := toldL_len (l := l) (i := i) 3; have hsb : ∀ x ∈ sortN (toldL l i 3), -1024 ≤ x ∧ x ≤ 1024 := fun x hx => toldL_bnd hV.lv 3 (by omega) x ((sortN_perm _).mem_iff.1 hx); refine VC.skip (VC.seq (VC.block (VC.seq (VC.text ?_)))); refine VO.c (.move rfl) ?_; refine VO.c (.assign rfl) ?_; refine VO.go (VC.seq (VC.text ?_)); refine VO.c (.assign rfl) ?_; refine VO.go (VC.seq (VC.seq (VC.text ?_))); refine VO.r (.ld vt88) ?_; refine VO.c (.move rfl) ?_; refine VO.go (VC.block ?_); refine VC.cell0 3 (.int .i64) ?_; refine VC.keep [(1, I tol), (2, .p y88 l), (4, .raw ww1), (5, .raw ww2), (12, .p y167 (thereE l.1, thereE l.2.1, thereE l.2.2)), (13, .raw ww10), (14, .raw wis), (15, .raw ww11), (16, I ((i : Nat) : Int)), (17, .raw (.slice none 0 0)), (91, I ((l.1.2.2.1.length : Nat) : Int)), (92, I ((i : Nat) : Int)), (95, .v y88 l), (96, I ((0 : Nat) : Int))] ⟨rfl, rfl, rfl, rfl, rfl, rfl, rfl, rfl, rfl, rfl, rfl, rfl, rfl, rfl, trivial⟩ ?_; refine VC.loop (I := fun kk ff ss => ∃ (k : Nat) (out : Value), kk = 3 - k ∧ ff = [(1, I tol), (2, .p y88 l), (4, .raw ww1), (5, .raw ww2), (12, .p y167 (thereE l.1, thereE l.2.1, thereE l.2.2)), (13, .raw ww10), (14, .raw wis), (15, .raw ww11), (16, I ((i : Nat) : Int)), (17, .raw out), (91, I ((l.1.2.2.1.length : Nat) : Int)), (92, I ((i : Nat) : Int)), (95, .v y88 l), (96, I ((k : Nat) : Int))] ∧ ss = [(out, .row 3 (.int .i64) (toldL l i k)), (wis, .row 4 .bool (isA l tol i)), (wlv, .row 59 (.flt .f32) (lvA l tol i)), (ww11, .var [I (dvE l tol 0 i), I (dvE l tol 1 i), I (dvE l tol 2 i)]), (ww10, .var [St l.1.1, I l.1.2.1, .raw wlv, nilV]), (ww2, .var [I (0 : Int), I (0 : Int), I (0 : Int)]), (ww1, .var [St ByteArray.empty, I (0 : Int), .v y53 [], .v y22 []])] ∧ (k ≤ 3) ∧ ((toldL l i k).length ≤ k)) ?_ _ _ _ ⟨0, (.slice none 0 0), rfl, rfl, rfl, Nat.zero_le _, (by exact Nat.le_refl _)⟩; rintro kk ff ss ⟨k, out, hk4, rfl, rfl, hk, htl⟩; refine VC.seq (VC.text ?_); refine VO.c (.lss) ?_; refine VO.go (VC.seq ?_); refine VC.condD rfl (fun c21 => ?_) (fun c21 => ?_)
    · have hk3 : k < 3 := by omega
      have hkl := hV.len k hk3; have hka : (arr3 l.1 l.2.1 l.2.2 k).2.2.1.length = l.1.2.2.1.length := hkl; have hkv := hV.lv k hk3; refine VC.skip (VC.seq (VC.block (VC.seq (VC.text ?_)))); refine VO.c (.move rfl) ?_; refine VO.c (.ixA3 (a := l.1) (b := l.2.1) (c := l.2.2) k (by omega)) ?_; refine VO.cell (.alloc zt65) ?_; intro ww12; refine VO.c (.assign rfl) ?_; refine VO.setV (cs' := [St ((arr3 l.1 l.2.1 l.2.2 k).1), I ((arr3 l.1 l.2.1 l.2.2 k).2.1), .v y53 ((arr3 l.1 l.2.1 l.2.2 k).2.2.1), .v y22 ((arr3 l.1 l.2.1 l.2.2 k).2.2.2)]) vt65 .v ?_; refine VO.shut [(19, .p y65 (arr3 l.1 l.2.1 l.2.2 k))] (.cons rfl (.var m0 .refl) .nil) ?_; refine VO.go (VC.seq (VC.text ?_)); refine VO.c (.move rfl) ?_; refine VO.c (.ixP3 (a := thereE l.1) (b := thereE l.2.1) (c := thereE l.2.2) k (by omega)) ?_; refine VO.r (.ld vt156) ?_; refine VO.c (.move rfl) ?_; refine VO.c (.ix (j := i) rfl rfl el156 (by rw [arr3_map thereE, thereV_len]; omega)) ?_; refine VO.r (.ld vt4) ?_; refine VO.go ?_; refine VC.condB rfl (fun c23 => ?_) (fun c23 => ?_)
      · have hc : recB (rk l k) i = true := by rw [← there3 (l := l) (k := k) (by omega) (by rw [arr3_map thereE, thereV_len]; omega)]; exact c23
        have e1 := toldL_t hc; have hat : (rk l k).2.2.1.getD i 0 = (rk l k).2.2.1[i]'(by omega) := getDat (by omega); rw [hat] at e1; refine VC.text ?_; refine VO.c (.move rfl) ?_; refine VO.c (.fa (.r (.r (.l .o)))) ?_; refine VO.r (.ld vt53) ?_; refine VO.c (.move rfl) ?_; refine VO.c (.ix (j := i) rfl rfl el53 (by omega)) ?_; refine VO.r (.ld vt59) ?_; refine VO.call rfl rfl (VF.call (gSixL_ok (hkv _ (List.getElem_mem _)))) ?_; refine VO.new (.lit [sxE (((arr3 l.1 l.2.1 l.2.2 k).2.2.1)[i])] el37) ?_; refine VO.app rfl rfl el37 el37 (by simp; omega) ?_; intro ww13; refine VO.c (.assign rfl) ?_; refine VO.nil (VC.text ?_); refine VO.c (.add rfl rfl (by omega)) ?_; refine VO.c (.move rfl) ?_; refine VO.nil ?_; refine ⟨_, [(1, I tol), (2, .p y88 l), (4, .raw ww1), (5, .raw ww2), (12, .p y167 (thereE l.1, thereE l.2.1, thereE l.2.2)), (13, .raw ww10), (14, .raw wis), (15, .raw ww11), (16, I ((i : Nat) : Int)), (17, .raw ww13), (91, I ((l.1.2.2.1.length : Nat) : Int)), (92, I ((i : Nat) : Int)), (95, .v y88 l), (96, I (((k + 1) : Nat) : Int))], ?_, ⟨rfl, rfl, rfl, rfl, rfl, rfl, rfl, rfl, rfl, rfl, rfl, rfl, rfl, rfl, trivial⟩, (k + 1), ww13, rfl, rfl, (by first | (rw [e1]; done) | (rw [e1]; rfl)), (by omega), (by exact toldL_len _)⟩; omega
      have hc : recB (rk l k) i = false := by rw [← there3 (l := l) (k := k) (by omega) (by rw [arr3_map thereE, thereV_len]; omega)]; exact c23
      have e1 := toldL_f hc; refine VC.skip (VC.text ?_); refine VO.c (.add rfl rfl (by omega)) ?_; refine VO.c (.move rfl) ?_; refine VO.nil ?_; refine ⟨_, [(1, I tol), (2, .p y88 l), (4, .raw ww1), (5, .raw ww2), (12, .p y167 (thereE l.1, thereE l.2.1, thereE l.2.2)), (13, .raw ww10), (14, .raw wis), (15, .raw ww11), (16, I ((i : Nat) : Int)), (17, .raw out), (91, I ((l.1.2.2.1.length : Nat) : Int)), (92, I ((i : Nat) : Int)), (95, .v y88 l), (96, I (((k + 1) : Nat) : Int))], ?_, ⟨rfl, rfl, rfl, rfl, rfl, rfl, rfl, rfl, rfl, rfl, rfl, rfl, rfl, rfl, trivial⟩, (k + 1), out, rfl, rfl, (by first | (rw [e1]; done) | (rw [e1]; rfl)), (by omega), (by exact toldL_len _)⟩; omega
    refine VC.exit (VC.seq (VC.text ?_))
    obtain rfl : k = 3 := by omega
    refine VO.c (.move rfl) ?_; refine VO.callG [(out, .row 3 (.int .i64) (toldL l i 3))] rfl rfl rfl (VFG.call (zSort_ok (by omega))) ?_; rintro _ _ ⟨rfl, rfl⟩; show VO _ _ _ _ _ _ [(out, .row 3 (.int .i64) (sortN (toldL l i 3))), (wis, .row 4 .bool (isA l tol i)), (wlv, .row 59 (.flt .f32) (lvA l tol i)), (ww11, .var [I (dvE l tol 0 i), I (dvE l tol 1 i), I (dvE l tol 2 i)]), (ww10, .var [St l.1.1, I l.1.2.1, .raw wlv, nilV]), (ww2, .var [I (0 : Int), I (0 : Int), I (0 : Int)]), (ww1, .var [St ByteArray.empty, I (0 : Int), .v y53 [], .v y22 []])] _; refine VO.go (VC.seq ?_); refine VC.join [(1, I tol), (2, .p y88 l), (4, .raw ww1), (5, .raw ww2), (12, .p y167 (thereE l.1, thereE l.2.1, thereE l.2.2)), (13, .raw ww10), (14, .raw wis), (15, .raw ww11), (16, I ((i : Nat) : Int)), (17, .raw out), (20, B ((vE l tol i).2)), (91, I ((l.1.2.2.1.length : Nat) : Int)), (92, I ((i : Nat) : Int))] [(out, .row 3 (.int .i64) (sortN (toldL l i 3))), (wis, .row 4 .bool (isA l tol i)), (wlv, .row 59 (.flt .f32) (lvA l tol i)), (ww11, .var [I (dvE l tol 0 i), I (dvE l tol 1 i), I (dvE l tol 2 i)]), (ww10, .var [St l.1.1, I l.1.2.1, .raw wlv, nilV]), (ww2, .var [I (0 : Int), I (0 : Int), I (0 : Int)]), (ww1, .var [St ByteArray.empty, I (0 : Int), .v y53 [], .v y22 []])] ?_ ?_
    · skip
      refine VC.drawn ?_; refine VD.c (.move rfl) ?_; refine VD.r [(out, .row 3 (.int .i64) (sortN (toldL l i 3))), (wis, .row 4 .bool (isA l tol i)), (wlv, .row 59 (.flt .f32) (lvA l tol i)), (ww11, .var [I (dvE l tol 0 i), I (dvE l tol 1 i), I (dvE l tol 2 i)]), (ww10, .var [St l.1.1, I l.1.2.1, .raw wlv, nilV]), (ww2, .var [I (0 : Int), I (0 : Int), I (0 : Int)]), (ww1, .var [St ByteArray.empty, I (0 : Int), .v y53 [], .v y22 []])] (.lenO m0 el37) (.inr ⟨rfl, rfl⟩) ?_; refine VD.c (.eql) ?_; refine VD.c (.move rfl) ?_; refine VD.splitD (x := 121) rfl (fun g27_3 => ?_) (fun g27_3 => ?_)
      · refine VD.skip ?_; refine VD.nw [] ?_; refine VD.skip ?_; refine VD.skip ?_; refine VD.skip ?_; refine VD.skip ?_; refine VD.skip ?_; refine VD.skip ?_; refine VD.skip ?_; refine VD.nw [] ?_; refine VD.skip ?_; refine VD.skip ?_; refine VD.skip ?_; refine VD.skip ?_; refine VD.skip ?_; refine VD.skip ?_; refine VD.skip ?_; refine VD.nw [] ?_; refine VD.skip ?_; refine VD.skip ?_; refine VD.skip ?_; refine VD.c (.pickT rfl rfl) ?_; refine VD.c (.assign rfl) ?_; refine VD.nil ?_; exact ⟨⟨rfl, rfl, rfl, rfl, rfl, rfl, rfl, rfl, rfl, rfl, slE rfl (by first | exact (vote_3 (by omega)).symm | (rw [hla, ← hgt.2, vote_2 (by omega)]) | exact (vote_n (by omega) (by omega)).symm), rfl, rfl, trivial⟩, rfl⟩
      refine VD.c (.move rfl) ?_; refine VD.nw [] ?_; refine VD.r [(out, .row 3 (.int .i64) (sortN (toldL l i 3))), (wis, .row 4 .bool (isA l tol i)), (wlv, .row 59 (.flt .f32) (lvA l tol i)), (ww11, .var [I (dvE l tol 0 i), I (dvE l tol 1 i), I (dvE l tol 2 i)]), (ww10, .var [St l.1.1, I l.1.2.1, .raw wlv, nilV]), (ww2, .var [I (0 : Int), I (0 : Int), I (0 : Int)]), (ww1, .var [St ByteArray.empty, I (0 : Int), .v y53 [], .v y22 []])] (.lenO m0 el37) (.inr ⟨rfl, rfl⟩) ?_; refine VD.c (.eql) ?_; refine VD.c (.move rfl) ?_; refine VD.splitD (x := 125) rfl (fun g27_7 => ?_) (fun g27_7 => ?_)
      · have hla := at_last (l := sortN (toldL l i 3)) (by omega) (by omega); have hb0 := hsb _ (List.getElem_mem (show 0 < (sortN (toldL l i 3)).length by omega)); have hb1 := hsb _ (List.getElem_mem (show 1 < (sortN (toldL l i 3)).length by omega)); refine VD.c (.move rfl) ?_; refine VD.c (.move rfl) ?_; refine VD.r [(out, .row 3 (.int .i64) (sortN (toldL l i 3))), (wis, .row 4 .bool (isA l tol i)), (wlv, .row 59 (.flt .f32) (lvA l tol i)), (ww11, .var [I (dvE l tol 0 i), I (dvE l tol 1 i), I (dvE l tol 2 i)]), (ww10, .var [St l.1.1, I l.1.2.1, .raw wlv, nilV]), (ww2, .var [I (0 : Int), I (0 : Int), I (0 : Int)]), (ww1, .var [St ByteArray.empty, I (0 : Int), .v y53 [], .v y22 []])] (.lenO m0 el37) (.inr ⟨rfl, rfl⟩) ?_; refine VD.nw [] ?_; refine VD.c (.sub rfl rfl (by omega)) ?_; refine VD.r [] (.max) (.inl rfl) ?_; refine VD.co (.ixOZ (k := (max (0 : Int) ((((sortN (toldL l i 3)).length : Nat) : Int) - (1 : Int)))) rfl rfl m0 el37 (by omega) (by omega)) ?_; refine VD.r [(out, .row 3 (.int .i64) (sortN (toldL l i 3))), (wis, .row 4 .bool (isA l tol i)), (wlv, .row 59 (.flt .f32) (lvA l tol i)), (ww11, .var [I (dvE l tol 0 i), I (dvE l tol 1 i), I (dvE l tol 2 i)]), (ww10, .var [St l.1.1, I l.1.2.1, .raw wlv, nilV]), (ww2, .var [I (0 : Int), I (0 : Int), I (0 : Int)]), (ww1, .var [St ByteArray.empty, I (0 : Int), .v y53 [], .v y22 []])] (.ldO rfl m0 vt3 (by omega)) (.inr ⟨rfl, rfl⟩) ?_; refine VD.c (.move rfl) ?_; refine VD.co (.ixO (j := 0) rfl rfl m0 el37 (by omega)) ?_; refine VD.r [(out, .row 3 (.int .i64) (sortN (toldL l i 3))), (wis, .row 4 .bool (isA l tol i)), (wlv, .row 59 (.flt .f32) (lvA l tol i)), (ww11, .var [I (dvE l tol 0 i), I (dvE l tol 1 i), I (dvE l tol 2 i)]), (ww10, .var [St l.1.1, I l.1.2.1, .raw wlv, nilV]), (ww2, .var [I (0 : Int), I (0 : Int), I (0 : Int)]), (ww1, .var [St ByteArray.empty, I (0 : Int), .v y53 [], .v y22 []])] (.ldO rfl m0 vt3 (by omega)) (.inr ⟨rfl, rfl⟩) ?_; refine VD.nw [] ?_; refine VD.c (.sub rfl rfl (by rw [hla]; omega)) ?_; refine VD.c (.move rfl) ?_; refine VD.c (.leq) ?_; refine VD.c (.pickT rfl rfl) ?_; refine VD.c (.pickF rfl rfl) ?_; refine VD.c (.assign rfl) ?_; refine VD.nil ?_; exact ⟨⟨rfl, rfl, rfl, rfl, rfl, rfl, rfl, rfl, rfl, rfl, slE rfl (by first | exact (vote_3 (by omega)).symm | (rw [hla, ← hgt.2, vote_2 (by omega)]) | exact (vote_n (by omega) (by omega)).symm), rfl, rfl, trivial⟩, rfl⟩
      refine VD.skip ?_; refine VD.skip ?_; refine VD.skip ?_; refine VD.nw [] ?_; refine VD.skip ?_; refine VD.skip ?_; refine VD.skip ?_; refine VD.skip ?_; refine VD.skip ?_; refine VD.skip ?_; refine VD.skip ?_; refine VD.nw [] ?_; refine VD.skip ?_; refine VD.skip ?_; refine VD.skip ?_; refine VD.c (.pickF rfl rfl) ?_; refine VD.c (.pickF rfl rfl) ?_; refine VD.c (.assign rfl) ?_; refine VD.nil ?_; exact ⟨⟨rfl, rfl, rfl, rfl, rfl, rfl, rfl, rfl, rfl, rfl, slE rfl (by first | exact (vote_3 (by omega)).symm | (rw [hla, ← hgt.2, vote_2 (by omega)]) | exact (vote_n (by omega) (by omega)).symm), rfl, rfl, trivial⟩, rfl⟩
    refine VC.seq (VC.text ?_); refine VO.c (.assign rfl) ?_; refine VO.go (VC.seq (VC.seq ?_)); refine VC.shutL [(out, .row 3 (.int .i64) (sortN (toldL l i 3)))] [(17, .v y37 (sortN (toldL l i 3)))] rfl (.cons rfl (.row m0) .nil) ?_; refine VC.text ?_; refine VO.c (.move rfl) ?_; refine VO.go ?_; refine VC.join [(1, I tol), (2, .p y88 l), (4, .raw ww1), (5, .raw ww2), (12, .p y167 (thereE l.1, thereE l.2.1, thereE l.2.2)), (13, .raw ww10), (14, .raw wis), (15, .raw ww11), (16, I ((i : Nat) : Int)), (20, B ((vE l tol i).2)), (21, I ((vE l tol i).1)), (91, I ((l.1.2.2.1.length : Nat) : Int)), (92, I ((i : Nat) : Int))] [(wis, .row 4 .bool (isA l tol i)), (wlv, .row 59 (.flt .f32) (lvA l tol i)), (ww11, .var [I (dvE l tol 0 i), I (dvE l tol 1 i), I (dvE l tol 2 i)]), (ww10, .var [St l.1.1, I l.1.2.1, .raw wlv, nilV]), (ww2, .var [I (0 : Int), I (0 : Int), I (0 : Int)]), (ww1, .var [St ByteArray.empty, I (0 : Int), .v y53 [], .v y22 []])] ?_ ?_; refine VC.condB rfl (fun c29 => ?_) (fun c29 => ?_)
    · have hge := vote_ge (l := toldL l i 3) c29; refine VC.text ?_; refine VO.c (.move rfl) ?_; refine VO.c (.ix (j := 1) rfl rfl el37 (by omega)) ?_; refine VO.r (.ld vt3) ?_; refine VO.c (.assign rfl) ?_; refine VO.nil ?_; exact ⟨⟨rfl, rfl, rfl, rfl, rfl, rfl, rfl, rfl, rfl, rfl, slI rfl (by first | exact (vote_1 (toldL_len 3) c29 (by omega)).symm | exact (vE_0 c29).symm), rfl, rfl, trivial⟩, rfl⟩
    · refine VC.skip ?_; exact ⟨⟨rfl, rfl, rfl, rfl, rfl, rfl, rfl, rfl, rfl, rfl, slI rfl (by first | exact (vote_1 (toldL_len 3) c29 (by omega)).symm | exact (vE_0 c29).symm), rfl, rfl, trivial⟩, rfl⟩
    refine VC.seq (VC.text ?_); refine VO.c (.faO (k := 2) m3) ?_; refine VO.r (.ldF (k := 2) m3 vt53) ?_; refine VO.c (.move rfl) ?_; refine VO.c (.cvIF .f32) ?_; refine VO.c (.fop (div32E hq.2.2)) ?_; refine VO.new (.lit [q16 (vE l tol i).1] el53) ?_; refine VO.perm swap1 ?_; refine VO.app rfl rfl el53 el53 (by simp; omega) ?_; intro ww15; refine VO.c (.faO (k := 2) m3) ?_; refine VO.perm swap3 ?_; refine VO.one m1 fun ho16 => ?_; refine VO.setF (cs' := [St l.1.1, I l.1.2.1, .raw ww15, nilV]) 2 vt53 (.raw rfl (agg_one ho16) ho16) ?_; refine VO.go (VC.seq (VC.text ?_)); refine VO.c (.move rfl) ?_; refine VO.c (.move rfl) ?_; refine VO.new (.lit [(vE l tol i).2] el156) ?_; refine VO.perm swap2 ?_; refine VO.app rfl rfl el156 el156 (by simp; omega) ?_; intro ww17; refine VO.c (.assign rfl) ?_; refine VO.go (VC.seq (VC.text ?_)); refine VO.r (.ld vt88) ?_; refine VO.c (.move rfl) ?_; refine VO.go (VC.block ?_); refine VC.unroll ?_; refine VC.seq (VC.text ?_); refine VO.c (.lss) ?_; refine VO.go (VC.seq ?_); refine VC.condT rfl ?_; refine VC.skip (VC.seq (VC.block (VC.seq (VC.text ?_)))); refine VO.c (.move rfl) ?_; refine VO.c (.ixA 0 (.l .o)) ?_; refine VO.cell (.alloc zt65) ?_; intro ww18; refine VO.c (.assign rfl) ?_; refine VO.setV (cs' := [St l.1.1, I l.1.2.1, .v y53 l.1.2.2.1, .v y22 l.1.2.2.2]) vt65 .v ?_; refine VO.shut [(23, .p y65 l.1)] (.cons rfl (.var m0 .refl) .nil) ?_; refine VO.go (VC.seq (VC.text ?_)); refine VO.c (.fa (.r (.r (.l .o)))) ?_; refine VO.r (.ld vt53) ?_; refine VO.c (.move rfl) ?_; refine VO.c (.ix (j := i) rfl rfl el53 (by omega)) ?_; refine VO.r (.ld vt59) ?_; refine VO.call rfl rfl (VF.call (gSixL_ok (by first | exact hV.lv 0 (by decide) _ (List.getElem_mem _) | exact hV.lv 1 (by decide) _ (List.getElem_mem _) | exact hV.lv 2 (by decide) _ (List.getElem_mem _)))) ?_; refine VO.c (.move rfl) ?_; refine VO.c (.sub rfl rfl (by omega)) ?_; refine VO.c (.assign rfl) ?_; refine VO.go (VC.seq ?_); refine VC.keep [(1, I tol), (2, .p y88 l), (4, .raw ww1), (5, .raw ww2), (12, .p y167 (thereE l.1, thereE l.2.1, thereE l.2.2)), (13, .raw ww10), (14, .raw ww17), (15, .raw ww11), (16, I ((i : Nat) : Int)), (20, B ((vE l tol i).2)), (21, I ((vE l tol i).1)), (22, I (0 : Int)), (24, I (sxE (l.1.2.2.1[i]) - (vE l tol i).1)), (91, I ((l.1.2.2.1.length : Nat) : Int)), (92, I ((i : Nat) : Int)), (157, .v y88 l), (158, I (0 : Int))] ⟨rfl, rfl, rfl, rfl, rfl, rfl, rfl, rfl, rfl, rfl, rfl, rfl, rfl, rfl, rfl, rfl, rfl, trivial⟩ ?_; refine VC.text ?_; refine VO.c (.move rfl) ?_; refine VO.c (.move rfl) ?_; refine VO.cg (r := (vE l tol i).2) (w := true) [] trivial (fun _ => (.move rfl)) ?_; refine VO.cg (r := (vE l tol i).2) (w := true) [(172, I (0 : Int))] ⟨rfl, trivial⟩ (fun _ => (.ixP 0 (τ' := (.sl .bool)) (dy := thereE l.1) (.l .o))) ?_; refine VO.rg (r := (vE l tol i).2) (w := true) [(173, .p (.sl .bool) (thereE l.1))] ⟨rfl, trivial⟩ (fun _ => (.ld vt156)) ?_; refine VO.cg (r := (vE l tol i).2) (w := true) [] trivial (fun _ => (.move rfl)) ?_; refine VO.cg (r := (vE l tol i).2) (w := true) [(174, .v (.sl .bool) (thereE l.1)), (175, I ((i : Nat) : Int))] ⟨rfl, rfl, trivial⟩ (fun hgd => have g37_1 : (vE l tol i).2 = true := (by simpa using hgd); (.ixD (j := i) rfl rfl false el156 (by omega))) ?_; refine VO.rg (r := (vE l tol i).2) (w := true) [(176, .p .bool ((thereE l.1).getD i false))] ⟨rfl, trivial⟩ (fun _ => (.ld vt4)) ?_; refine VO.c (.and) ?_; refine VO.c (.move rfl) ?_; refine VO.cg (r := (((vE l tol i).2) && ((thereE l.1).getD i false))) (w := true) [] trivial (fun _ => (.move rfl)) ?_; refine VO.cg (r := (((vE l tol i).2) && ((thereE l.1).getD i false))) (w := true) [] trivial (fun _ => (.move rfl)) ?_; refine VO.cg (r := (((vE l tol i).2) && ((thereE l.1).getD i false))) (w := true) [(181, I (sxE (l.1.2.2.1[i]) - (vE l tol i).1))] ⟨rfl, trivial⟩ (fun hgd => have g37_9 : (((vE l tol i).2) && ((thereE l.1).getD i false)) = true := (by simpa using hgd); (.neg rfl (by omega))) ?_; refine VO.rg (r := (((vE l tol i).2) && ((thereE l.1).getD i false))) (w := true) [(180, I (sxE (l.1.2.2.1[i]) - (vE l tol i).1)), (182, I (-(sxE (l.1.2.2.1[i]) - (vE l tol i).1)))] ⟨rfl, rfl, trivial⟩ (fun _ => (.max)) ?_; refine VO.cg (r := (((vE l tol i).2) && ((thereE l.1).getD i false))) (w := true) [] trivial (fun _ => (.move rfl)) ?_; refine VO.cg (r := (((vE l tol i).2) && ((thereE l.1).getD i false))) (w := true) [(183, I (max (sxE (l.1.2.2.1[i]) - (vE l tol i).1) (-(sxE (l.1.2.2.1[i]) - (vE l tol i).1)))), (184, I tol)] ⟨rfl, rfl, trivial⟩ (fun _ => (.gtr)) ?_; refine VO.c (.and) ?_; refine VO.go ?_; refine VC.join [(1, I tol), (2, .p y88 l), (4, .raw ww1), (5, .raw ww2), (12, .p y167 (thereE l.1, thereE l.2.1, thereE l.2.2)), (13, .raw ww10), (14, .raw ww17), (15, .raw ww11), (16, I ((i : Nat) : Int)), (20, B ((vE l tol i).2)), (21, I ((vE l tol i).1)), (91, I ((l.1.2.2.1.length : Nat) : Int)), (92, I ((i : Nat) : Int)), (157, .v y88 l), (158, I (0 : Int))] [(ww17, .row 4 .bool ((isA l tol i) ++ [(vE l tol i).2])), (ww10, .var [St l.1.1, I l.1.2.1, .raw ww15, nilV]), (ww15, .row 59 (.flt .f32) ((lvA l tol i) ++ [q16 (vE l tol i).1])), (ww11, .var [I (dvK l tol i 0 0), I (dvK l tol i 1 0), I (dvK l tol i 2 0)]), (ww2, .var [I (0 : Int), I (0 : Int), I (0 : Int)]), (ww1, .var [St ByteArray.empty, I (0 : Int), .v y53 [], .v y22 []])] ?_ ?_; refine VC.condB rfl (fun c37 => ?_) (fun c37 => ?_)
    · try simp only [Bool.and_eq_true, Bool.or_eq_true, Bool.and_eq_false_iff, Bool.or_eq_false_iff, Bool.not_eq_true', Bool.not_eq_false', decide_eq_true_eq, decide_eq_false_iff_not] at c37
      refine VC.text ?_; refine VO.c (.move rfl) ?_; refine VO.c (.ixV 0 (k := 0) (τ' := (.int .i64)) m3) ?_; refine VO.r (.ldF (k := 0) m3 vt3) ?_; refine VO.c (.add rfl rfl (by omega)) ?_; refine VO.c (.ixV 0 (k := 0) (τ' := (.int .i64)) m3) ?_; refine VO.perm swap3 ?_; refine VO.setF (cs' := [I ((dvE l tol 0 i) + (1 : Int)), I (dvE l tol 1 i), I (dvE l tol 2 i)]) 0 vt3 .v ?_; refine VO.perm swap5 ?_; refine VO.perm swap5 ?_; refine VO.perm swap2 ?_; refine VO.perm swap5 ?_; refine VO.perm swap5 ?_; refine VO.perm swap5 ?_; refine VO.nil ?_; exact ⟨⟨rfl, rfl, rfl, rfl, rfl, rfl, rfl, rfl, rfl, rfl, rfl, rfl, rfl, rfl, rfl, trivial⟩, (by first | (rw [show dvK l tol i 0 0 = dvE l tol 0 i + 1 from dvE_t (hv0.trans (and3_t c37))]; rfl) | (rw [show dvK l tol i 0 0 = dvE l tol 0 i from dvE_f (hv0.trans (and3_f c37))]; rfl) | (rw [show dvK l tol i 1 1 = dvE l tol 1 i + 1 from dvE_t (hv1.trans (and3_t c37))]; rfl) | (rw [show dvK l tol i 1 1 = dvE l tol 1 i from dvE_f (hv1.trans (and3_f c37))]; rfl) | (rw [show dvK l tol i 2 2 = dvE l tol 2 i + 1 from dvE_t (hv2.trans (and3_t c37))]; rfl) | (rw [show dvK l tol i 2 2 = dvE l tol 2 i from dvE_f (hv2.trans (and3_f c37))]; rfl))⟩
    · try simp only [Bool.and_eq_true, Bool.or_eq_true, Bool.and_eq_false_iff, Bool.or_eq_false_iff, Bool.not_eq_true', Bool.not_eq_false', decide_eq_true_eq, decide_eq_false_iff_not] at c37
      refine VC.skip ?_; exact ⟨⟨rfl, rfl, rfl, rfl, rfl, rfl, rfl, rfl, rfl, rfl, rfl, rfl, rfl, rfl, rfl, trivial⟩, (by first | (rw [show dvK l tol i 0 0 = dvE l tol 0 i + 1 from dvE_t (hv0.trans (and3_t c37))]; rfl) | (rw [show dvK l tol i 0 0 = dvE l tol 0 i from dvE_f (hv0.trans (and3_f c37))]; rfl) | (rw [show dvK l tol i 1 1 = dvE l tol 1 i + 1 from dvE_t (hv1.trans (and3_t c37))]; rfl) | (rw [show dvK l tol i 1 1 = dvE l tol 1 i from dvE_f (hv1.trans (and3_f c37))]; rfl) | (rw [show dvK l tol i 2 2 = dvE l tol 2 i + 1 from dvE_t (hv2.trans (and3_t c37))]; rfl) | (rw [show dvK l tol i 2 2 = dvE l tol 2 i from dvE_f (hv2.trans (and3_f c37))]; rfl))⟩
    refine VC.text ?_; refine VO.c (.add rfl rfl (by decide)) ?_; refine VO.c (.move rfl) ?_; refine VO.nil ?_; refine VC.unroll ?_; refine VC.seq (VC.text ?_); refine VO.c (.lss) ?_; refine VO.go (VC.seq ?_); refine VC.condT rfl ?_; refine VC.skip (VC.seq (VC.block (VC.seq (VC.text ?_)))); refine VO.c (.move rfl) ?_; refine VO.c (.ixA 1 (.r (.l .o))) ?_; refine VO.cell (.alloc zt65) ?_; intro ww19; refine VO.c (.assign rfl) ?_; refine VO.setV (cs' := [St l.2.1.1, I l.2.1.2.1, .v y53 l.2.1.2.2.1, .v y22 l.2.1.2.2.2]) vt65 .v ?_; refine VO.shut [(23, .p y65 l.2.1)] (.cons rfl (.var m0 .refl) .nil) ?_; refine VO.go (VC.seq (VC.text ?_)); refine VO.c (.fa (.r (.r (.l .o)))) ?_; refine VO.r (.ld vt53) ?_; refine VO.c (.move rfl) ?_; refine VO.c (.ix (j := i) rfl rfl el53 (by omega)) ?_; refine VO.r (.ld vt59) ?_; refine VO.call rfl rfl (VF.call (gSixL_ok (by first | exact hV.lv 0 (by decide) _ (List.getElem_mem _) | exact hV.lv 1 (by decide) _ (List.getElem_mem _) | exact hV.lv 2 (by decide) _ (List.getElem_mem _)))) ?_; refine VO.c (.move rfl) ?_; refine VO.c (.sub rfl rfl (by omega)) ?_; refine VO.c (.assign rfl) ?_; refine VO.go (VC.seq (VC.text ?_)); refine VO.c (.move rfl) ?_; refine VO.c (.move rfl) ?_; refine VO.cg (r := (vE l tol i).2) (w := true) [] trivial (fun _ => (.move rfl)) ?_; refine VO.cg (r := (vE l tol i).2) (w := true) [(172, I (1 : Int))] ⟨rfl, trivial⟩ (fun _ => (.ixP 1 (τ' := (.sl .bool)) (dy := thereE l.2.1) (.r (.l .o)))) ?_; refine VO.rg (r := (vE l tol i).2) (w := true) [(173, .p (.sl .bool) (thereE l.2.1))] ⟨rfl, trivial⟩ (fun _ => (.ld vt156)) ?_; refine VO.cg (r := (vE l tol i).2) (w := true) [] trivial (fun _ => (.move rfl)) ?_; refine VO.cg (r := (vE l tol i).2) (w := true) [(174, .v (.sl .bool) (thereE l.2.1)), (175, I ((i : Nat) : Int))] ⟨rfl, rfl, trivial⟩ (fun hgd => have g37_1 : (vE l tol i).2 = true := (by simpa using hgd); (.ixD (j := i) rfl rfl false el156 (by omega))) ?_; refine VO.rg (r := (vE l tol i).2) (w := true) [(176, .p .bool ((thereE l.2.1).getD i false))] ⟨rfl, trivial⟩ (fun _ => (.ld vt4)) ?_; refine VO.c (.and) ?_; refine VO.c (.move rfl) ?_; refine VO.cg (r := (((vE l tol i).2) && ((thereE l.2.1).getD i false))) (w := true) [] trivial (fun _ => (.move rfl)) ?_; refine VO.cg (r := (((vE l tol i).2) && ((thereE l.2.1).getD i false))) (w := true) [] trivial (fun _ => (.move rfl)) ?_; refine VO.cg (r := (((vE l tol i).2) && ((thereE l.2.1).getD i false))) (w := true) [(181, I (sxE (l.2.1.2.2.1[i]) - (vE l tol i).1))] ⟨rfl, trivial⟩ (fun hgd => have g37_9 : (((vE l tol i).2) && ((thereE l.2.1).getD i false)) = true := (by simpa using hgd); (.neg rfl (by omega))) ?_; refine VO.rg (r := (((vE l tol i).2) && ((thereE l.2.1).getD i false))) (w := true) [(180, I (sxE (l.2.1.2.2.1[i]) - (vE l tol i).1)), (182, I (-(sxE (l.2.1.2.2.1[i]) - (vE l tol i).1)))] ⟨rfl, rfl, trivial⟩ (fun _ => (.max)) ?_; refine VO.cg (r := (((vE l tol i).2) && ((thereE l.2.1).getD i false))) (w := true) [] trivial (fun _ => (.move rfl)) ?_; refine VO.cg (r := (((vE l tol i).2) && ((thereE l.2.1).getD i false))) (w := true) [(183, I (max (sxE (l.2.1.2.2.1[i]) - (vE l tol i).1) (-(sxE (l.2.1.2.2.1[i]) - (vE l tol i).1)))), (184, I tol)] ⟨rfl, rfl, trivial⟩ (fun _ => (.gtr)) ?_; refine VO.c (.and) ?_; refine VO.go ?_; refine VC.join [(1, I tol), (2, .p y88 l), (4, .raw ww1), (5, .raw ww2), (12, .p y167 (thereE l.1, thereE l.2.1, thereE l.2.2)), (13, .raw ww10), (14, .raw ww17), (15, .raw ww11), (16, I ((i : Nat) : Int)), (20, B ((vE l tol i).2)), (21, I ((vE l tol i).1)), (91, I ((l.1.2.2.1.length : Nat) : Int)), (92, I ((i : Nat) : Int)), (157, .v y88 l), (158, I (1 : Int))] [(ww17, .row 4 .bool ((isA l tol i) ++ [(vE l tol i).2])), (ww10, .var [St l.1.1, I l.1.2.1, .raw ww15, nilV]), (ww15, .row 59 (.flt .f32) ((lvA l tol i) ++ [q16 (vE l tol i).1])), (ww11, .var [I (dvK l tol i 0 1), I (dvK l tol i 1 1), I (dvK l tol i 2 1)]), (ww2, .var [I (0 : Int), I (0 : Int), I (0 : Int)]), (ww1, .var [St ByteArray.empty, I (0 : Int), .v y53 [], .v y22 []])] ?_ ?_; refine VC.condB rfl (fun c37 => ?_) (fun c37 => ?_)
    · try simp only [Bool.and_eq_true, Bool.or_eq_true, Bool.and_eq_false_iff, Bool.or_eq_false_iff, Bool.not_eq_true', Bool.not_eq_false', decide_eq_true_eq, decide_eq_false_iff_not] at c37
      refine VC.text ?_; refine VO.c (.move rfl) ?_; refine VO.c (.ixV 1 (k := 1) (τ' := (.int .i64)) m3) ?_; refine VO.r (.ldF (k := 1) m3 vt3) ?_; refine VO.c (.add rfl rfl (by omega)) ?_; refine VO.c (.ixV 1 (k := 1) (τ' := (.int .i64)) m3) ?_; refine VO.perm swap3 ?_; refine VO.setF (cs' := [I (dvK l tol i 0 0), I ((dvK l tol i 1 0) + (1 : Int)), I (dvK l tol i 2 0)]) 1 vt3 .v ?_; refine VO.perm swap5 ?_; refine VO.perm swap5 ?_; refine VO.perm swap2 ?_; refine VO.perm swap5 ?_; refine VO.perm swap5 ?_; refine VO.perm swap5 ?_; refine VO.nil ?_; exact ⟨⟨rfl, rfl, rfl, rfl, rfl, rfl, rfl, rfl, rfl, rfl, rfl, rfl, rfl, rfl, rfl, trivial⟩, (by first | (rw [show dvK l tol i 0 0 = dvE l tol 0 i + 1 from dvE_t (hv0.trans (and3_t c37))]; rfl) | (rw [show dvK l tol i 0 0 = dvE l tol 0 i from dvE_f (hv0.trans (and3_f c37))]; rfl) | (rw [show dvK l tol i 1 1 = dvE l tol 1 i + 1 from dvE_t (hv1.trans (and3_t c37))]; rfl) | (rw [show dvK l tol i 1 1 = dvE l tol 1 i from dvE_f (hv1.trans (and3_f c37))]; rfl) | (rw [show dvK l tol i 2 2 = dvE l tol 2 i + 1 from dvE_t (hv2.trans (and3_t c37))]; rfl) | (rw [show dvK l tol i 2 2 = dvE l tol 2 i from dvE_f (hv2.trans (and3_f c37))]; rfl))⟩
    · try simp only [Bool.and_eq_true, Bool.or_eq_true, Bool.and_eq_false_iff, Bool.or_eq_false_iff, Bool.not_eq_true', Bool.not_eq_false', decide_eq_true_eq, decide_eq_false_iff_not] at c37
      refine VC.skip ?_; exact ⟨⟨rfl, rfl, rfl, rfl, rfl, rfl, rfl, rfl, rfl, rfl, rfl, rfl, rfl, rfl, rfl, trivial⟩, (by first | (rw [show dvK l tol i 0 0 = dvE l tol 0 i + 1 from dvE_t (hv0.trans (and3_t c37))]; rfl) | (rw [show dvK l tol i 0 0 = dvE l tol 0 i from dvE_f (hv0.trans (and3_f c37))]; rfl) | (rw [show dvK l tol i 1 1 = dvE l tol 1 i + 1 from dvE_t (hv1.trans (and3_t c37))]; rfl) | (rw [show dvK l tol i 1 1 = dvE l tol 1 i from dvE_f (hv1.trans (and3_f c37))]; rfl) | (rw [show dvK l tol i 2 2 = dvE l tol 2 i + 1 from dvE_t (hv2.trans (and3_t c37))]; rfl) | (rw [show dvK l tol i 2 2 = dvE l tol 2 i from dvE_f (hv2.trans (and3_f c37))]; rfl))⟩
    refine VC.text ?_; refine VO.c (.add rfl rfl (by decide)) ?_; refine VO.c (.move rfl) ?_; refine VO.nil ?_; refine VC.unroll ?_; refine VC.seq (VC.text ?_); refine VO.c (.lss) ?_; refine VO.go (VC.seq ?_); refine VC.condT rfl ?_; refine VC.skip (VC.seq (VC.block (VC.seq (VC.text ?_)))); refine VO.c (.move rfl) ?_; refine VO.c (.ixA 2 (.r (.r .o))) ?_; refine VO.cell (.alloc zt65) ?_; intro ww20; refine VO.c (.assign rfl) ?_; refine VO.setV (cs' := [St l.2.2.1, I l.2.2.2.1, .v y53 l.2.2.2.2.1, .v y22 l.2.2.2.2.2]) vt65 .v ?_; refine VO.shut [(23, .p y65 l.2.2)] (.cons rfl (.var m0 .refl) .nil) ?_; refine VO.go (VC.seq ?_); refine VC.keep [(1, I tol), (2, .p y88 l), (4, .raw ww1), (5, .raw ww2), (12, .p y167 (thereE l.1, thereE l.2.1, thereE l.2.2)), (13, .raw ww10), (14, .raw ww17), (15, .raw ww11), (16, I ((i : Nat) : Int)), (20, B ((vE l tol i).2)), (21, I ((vE l tol i).1)), (22, I (2 : Int)), (23, .p y65 l.2.2), (91, I ((l.1.2.2.1.length : Nat) : Int)), (92, I ((i : Nat) : Int)), (157, .v y88 l), (158, I (2 : Int))] ⟨rfl, rfl, rfl, rfl, rfl, rfl, rfl, rfl, rfl, rfl, rfl, rfl, rfl, rfl, rfl, rfl, rfl, trivial⟩ ?_; refine VC.text ?_; refine VO.c (.fa (.r (.r (.l .o)))) ?_; refine VO.r (.ld vt53) ?_; refine VO.c (.move rfl) ?_; refine VO.c (.ix (j := i) rfl rfl el53 (by omega)) ?_; refine VO.r (.ld vt59) ?_; refine VO.call rfl rfl (VF.call (gSixL_ok (by first | exact hV.lv 0 (by decide) _ (List.getElem_mem _) | exact hV.lv 1 (by decide) _ (List.getElem_mem _) | exact hV.lv 2 (by decide) _ (List.getElem_mem _)))) ?_; refine VO.c (.move rfl) ?_; refine VO.c (.sub rfl rfl (by omega)) ?_; refine VO.c (.assign rfl) ?_; refine VO.go (VC.seq (VC.text ?_)); refine VO.c (.move rfl) ?_; refine VO.c (.move rfl) ?_; refine VO.cg (r := (vE l tol i).2) (w := true) [] trivial (fun _ => (.move rfl)) ?_; refine VO.cg (r := (vE l tol i).2) (w := true) [(172, I (2 : Int))] ⟨rfl, trivial⟩ (fun _ => (.ixP 2 (τ' := (.sl .bool)) (dy := thereE l.2.2) (.r (.r (k := 0) .o)))) ?_; refine VO.rg (r := (vE l tol i).2) (w := true) [(173, .p (.sl .bool) (thereE l.2.2))] ⟨rfl, trivial⟩ (fun _ => (.ld vt156)) ?_; refine VO.cg (r := (vE l tol i).2) (w := true) [] trivial (fun _ => (.move rfl)) ?_; refine VO.cg (r := (vE l tol i).2) (w := true) [(174, .v (.sl .bool) (thereE l.2.2)), (175, I ((i : Nat) : Int))] ⟨rfl, rfl, trivial⟩ (fun hgd => have g37_1 : (vE l tol i).2 = true := (by simpa using hgd); (.ixD (j := i) rfl rfl false el156 (by omega))) ?_; refine VO.rg (r := (vE l tol i).2) (w := true) [(176, .p .bool ((thereE l.2.2).getD i false))] ⟨rfl, trivial⟩ (fun _ => (.ld vt4)) ?_; refine VO.c (.and) ?_; refine VO.c (.move rfl) ?_; refine VO.cg (r := (((vE l tol i).2) && ((thereE l.2.2).getD i false))) (w := true) [] trivial (fun _ => (.move rfl)) ?_; refine VO.cg (r := (((vE l tol i).2) && ((thereE l.2.2).getD i false))) (w := true) [] trivial (fun _ => (.move rfl)) ?_; refine VO.cg (r := (((vE l tol i).2) && ((thereE l.2.2).getD i false))) (w := true) [(181, I (sxE (l.2.2.2.2.1[i]) - (vE l tol i).1))] ⟨rfl, trivial⟩ (fun hgd => have g37_9 : (((vE l tol i).2) && ((thereE l.2.2).getD i false)) = true := (by simpa using hgd); (.neg rfl (by omega))) ?_; refine VO.rg (r := (((vE l tol i).2) && ((thereE l.2.2).getD i false))) (w := true) [(180, I (sxE (l.2.2.2.2.1[i]) - (vE l tol i).1)), (182, I (-(sxE (l.2.2.2.2.1[i]) - (vE l tol i).1)))] ⟨rfl, rfl, trivial⟩ (fun _ => (.max)) ?_; refine VO.cg (r := (((vE l tol i).2) && ((thereE l.2.2).getD i false))) (w := true) [] trivial (fun _ => (.move rfl)) ?_; refine VO.cg (r := (((vE l tol i).2) && ((thereE l.2.2).getD i false))) (w := true) [(183, I (max (sxE (l.2.2.2.2.1[i]) - (vE l tol i).1) (-(sxE (l.2.2.2.2.1[i]) - (vE l tol i).1)))), (184, I tol)] ⟨rfl, rfl, trivial⟩ (fun _ => (.gtr)) ?_; refine VO.c (.and) ?_; refine VO.go ?_; refine VC.join [(1, I tol), (2, .p y88 l), (4, .raw ww1), (5, .raw ww2), (12, .p y167 (thereE l.1, thereE l.2.1, thereE l.2.2)), (13, .raw ww10), (14, .raw ww17), (15, .raw ww11), (16, I ((i : Nat) : Int)), (20, B ((vE l tol i).2)), (21, I ((vE l tol i).1)), (91, I ((l.1.2.2.1.length : Nat) : Int)), (92, I ((i : Nat) : Int)), (157, .v y88 l), (158, I (2 : Int))] [(ww17, .row 4 .bool ((isA l tol i) ++ [(vE l tol i).2])), (ww10, .var [St l.1.1, I l.1.2.1, .raw ww15, nilV]), (ww15, .row 59 (.flt .f32) ((lvA l tol i) ++ [q16 (vE l tol i).1])), (ww11, .var [I (dvK l tol i 0 2), I (dvK l tol i 1 2), I (dvK l tol i 2 2)]), (ww2, .var [I (0 : Int), I (0 : Int), I (0 : Int)]), (ww1, .var [St ByteArray.empty, I (0 : Int), .v y53 [], .v y22 []])] ?_ ?_; refine VC.condB rfl (fun c37 => ?_) (fun c37 => ?_)
    · try simp only [Bool.and_eq_true, Bool.or_eq_true, Bool.and_eq_false_iff, Bool.or_eq_false_iff, Bool.not_eq_true', Bool.not_eq_false', decide_eq_true_eq, decide_eq_false_iff_not] at c37
      refine VC.text ?_; refine VO.c (.move rfl) ?_; refine VO.c (.ixV 2 (k := 2) (τ' := (.int .i64)) m3) ?_; refine VO.r (.ldF (k := 2) m3 vt3) ?_; refine VO.c (.add rfl rfl (by omega)) ?_; refine VO.c (.ixV 2 (k := 2) (τ' := (.int .i64)) m3) ?_; refine VO.perm swap3 ?_; refine VO.setF (cs' := [I (dvK l tol i 0 1), I (dvK l tol i 1 1), I ((dvK l tol i 2 1) + (1 : Int))]) 2 vt3 .v ?_; refine VO.perm swap5 ?_; refine VO.perm swap5 ?_; refine VO.perm swap2 ?_; refine VO.perm swap5 ?_; refine VO.perm swap5 ?_; refine VO.perm swap5 ?_; refine VO.nil ?_; exact ⟨⟨rfl, rfl, rfl, rfl, rfl, rfl, rfl, rfl, rfl, rfl, rfl, rfl, rfl, rfl, rfl, trivial⟩, (by first | (rw [show dvK l tol i 0 0 = dvE l tol 0 i + 1 from dvE_t (hv0.trans (and3_t c37))]; rfl) | (rw [show dvK l tol i 0 0 = dvE l tol 0 i from dvE_f (hv0.trans (and3_f c37))]; rfl) | (rw [show dvK l tol i 1 1 = dvE l tol 1 i + 1 from dvE_t (hv1.trans (and3_t c37))]; rfl) | (rw [show dvK l tol i 1 1 = dvE l tol 1 i from dvE_f (hv1.trans (and3_f c37))]; rfl) | (rw [show dvK l tol i 2 2 = dvE l tol 2 i + 1 from dvE_t (hv2.trans (and3_t c37))]; rfl) | (rw [show dvK l tol i 2 2 = dvE l tol 2 i from dvE_f (hv2.trans (and3_f c37))]; rfl))⟩
    · try simp only [Bool.and_eq_true, Bool.or_eq_true, Bool.and_eq_false_iff, Bool.or_eq_false_iff, Bool.not_eq_true', Bool.not_eq_false', decide_eq_true_eq, decide_eq_false_iff_not] at c37
      refine VC.skip ?_; exact ⟨⟨rfl, rfl, rfl, rfl, rfl, rfl, rfl, rfl, rfl, rfl, rfl, rfl, rfl, rfl, rfl, trivial⟩, (by first | (rw [show dvK l tol i 0 0 = dvE l tol 0 i + 1 from dvE_t (hv0.trans (and3_t c37))]; rfl) | (rw [show dvK l tol i 0 0 = dvE l tol 0 i from dvE_f (hv0.trans (and3_f c37))]; rfl) | (rw [show dvK l tol i 1 1 = dvE l tol 1 i + 1 from dvE_t (hv1.trans (and3_t c37))]; rfl) | (rw [show dvK l tol i 1 1 = dvE l tol 1 i from dvE_f (hv1.trans (and3_f c37))]; rfl) | (rw [show dvK l tol i 2 2 = dvE l tol 2 i + 1 from dvE_t (hv2.trans (and3_t c37))]; rfl) | (rw [show dvK l tol i 2 2 = dvE l tol 2 i from dvE_f (hv2.trans (and3_f c37))]; rfl))⟩
    refine VC.text ?_; refine VO.c (.add rfl rfl (by decide)) ?_; refine VO.c (.move rfl) ?_; refine VO.nil ?_; refine VC.unroll ?_; refine VC.seq (VC.text ?_); refine VO.c (.lss) ?_; refine VO.go (VC.seq ?_); refine VC.condF rfl ?_; refine VC.exit (VC.text ?_); refine VO.c (.add rfl rfl (by omega)) ?_; refine VO.c (.move rfl) ?_; refine VO.perm swap5 ?_; refine VO.perm swap5 ?_; refine VO.perm swap3 ?_; refine VO.perm swap5 ?_; refine VO.perm swap5 ?_; refine VO.perm swap5 ?_; refine VO.nil ?_; refine ⟨_, [(1, I tol), (2, .p y88 l), (4, .raw ww1), (5, .raw ww2), (12, .p y167 (thereE l.1, thereE l.2.1, thereE l.2.2)), (13, .raw ww10), (14, .raw ww17), (15, .raw ww11), (91, I ((l.1.2.2.1.length : Nat) : Int)), (92, I (((i + 1) : Nat) : Int))], ?_, ⟨rfl, rfl, rfl, rfl, rfl, rfl, rfl, rfl, rfl, rfl, trivial⟩, (i + 1), ww17, ww15, rfl, rfl, (by rw [lvA_s, isA_s] <;> rfl), (by omega), (by exact isA_len), (by exact lvA_len)⟩; omega
  refine VC.exit (VC.seq ?_); refine VC.perm swap3 ?_; refine VC.perm swap2 ?_; refine VC.shutL [(wlv, .row 59 (.flt .f32) (lvA l tol i)), (ww10, .var [St l.1.1, I l.1.2.1, .raw wlv, nilV])] [(13, .p y65 (l.1.1, l.1.2.1, (lvA l tol i), []))] rfl (.cons rfl (.var m1 (.cons .same (.cons .same (.cons (.row m0) (.cons .nil .nil))))) .nil) ?_; refine VC.shutL [(wis, .row 4 .bool (isA l tol i))] [(14, .v (.sl .bool) (isA l tol i))] rfl (.cons rfl (.row m0) .nil) ?_; refine VC.perm swap1 ?_; refine VC.perm swap2 ?_; refine VC.late [(ww11, .var [I (dvE l tol 0 i), I (dvE l tol 1 i), I (dvE l tol 2 i)])] ⟨[(ww1, .var [St ByteArray.empty, I (0 : Int), .v y53 [], .v y22 []]), (ww2, .var [I (0 : Int), I (0 : Int), I (0 : Int)])], rfl⟩ ?_
  have hie : i = l.1.2.2.1.length := by omega
  have hlv : ∀ x ∈ lvA l tol i, lvlE x = 0 := fun x hx => by
    obtain ⟨j, _, rfl⟩ := List.mem_map.1 hx; exact (q16_ok (vE_bnd hV.lv)).1
  refine VLt.q rfl (.ld vt65) ?_; refine VLt.c (.move rfl) ?_; refine VLt.callO rfl rfl (VF.call (gKeeping_ok (by show (lvA l tol i).length < _; omega) (by show (isA l tol i).length = (lvA l tol i).length; omega) hlv)) ?_; refine VLt.qo rfl m0 (.inl rfl) (.ldA (dx := ((dvE l tol 0 i), (dvE l tol 1 i), (dvE l tol 2 i))) m0 vt85) ?_; refine VLt.mk0 (MakeV.setF (k := 0) vt65 .v (Nat.le_of_ble_eq_true rfl) (.inr ⟨rfl, rfl⟩) rfl rfl) (TurnV.store rfl (.inl rfl)) ⟨[(ww2, .var [I (0 : Int), I (0 : Int), I (0 : Int)])], rfl⟩ ?_; rintro _ _ ⟨rfl, rfl⟩; refine ⟨⟨[(ww1, .var [St l.1.1, I l.1.2.1, .v y53 (keptL (l.1.1, l.1.2.1, (lvA l tol i), []) (isA l tol i) plusZ (isA l tol i).length), .v y22 (gapsE (isA l tol i) (isA l tol i).length)]), (ww2, .var [I (0 : Int), I (0 : Int), I (0 : Int)])], rfl⟩, ?_⟩; refine VLt.perm swap1 ⟨[(ww2, .var [I (0 : Int), I (0 : Int), I (0 : Int)]), (ww1, .var [St l.1.1, I l.1.2.1, .v y53 (keptL (l.1.1, l.1.2.1, (lvA l tol i), []) (isA l tol i) plusZ (isA l tol i).length), .v y22 (gapsE (isA l tol i) (isA l tol i).length)])], rfl⟩ ?_; refine VLt.mk0 (MakeV.setF (k := 0) vt85 .v (Nat.le_of_ble_eq_true rfl) (.inr ⟨rfl, rfl⟩) rfl rfl) (TurnV.store rfl (.inl rfl)) ⟨[(ww1, .var [St l.1.1, I l.1.2.1, .v y53 (keptL (l.1.1, l.1.2.1, (lvA l tol i), []) (isA l tol i) plusZ (isA l tol i).length), .v y22 (gapsE (isA l tol i) (isA l tol i).length)])], rfl⟩ ?_; rintro _ _ ⟨rfl, rfl⟩; refine ⟨⟨[(ww2, .var [I (dvE l tol 0 i), I (dvE l tol 1 i), I (dvE l tol 2 i)]), (ww1, .var [St l.1.1, I l.1.2.1, .v y53 (keptL (l.1.1, l.1.2.1, (lvA l tol i), []) (isA l tol i) plusZ (isA l tol i).length), .v y22 (gapsE (isA l tol i) (isA l tol i).length)])], rfl⟩, ?_⟩; refine VLt.nws [196] ?_; refine VLt.c (.assign rfl) ?_; refine VLt.go ?_; refine VC.ret ?_; exact VEnd.three rfl (.cell (x := (l.1.1, l.1.2.1, keptL (l.1.1, l.1.2.1, (lvA l tol i), []) (isA l tol i) plusZ (isA l tol i).length, gapsE (isA l tol i) (isA l tol i).length)) rfl m1 vt65 .refl) (.cell (x := ((dvE l tol 0 i), (dvE l tol 1 i), (dvE l tol 2 i))) rfl m0 vt85 .refl) evT (pvE (by rw [hie, lvA_V, isA_V, voteR, if_neg (by rw [hvc]; decide)]; rfl)) (pvE (by rw [hie, voteO, if_neg (by rw [hvc]; decide)])) (pvI (by exact hvc.symm))
end Go.Proofs
namespace Go.Proofs
open Go.Fs Ieee
set_option maxHeartbeats 400000
theorem vt84 : ValT Tryz.prog 84 y84 := valT_of (by kernel_rfl)
theorem zt88 : ZerT Tryz.prog 88 y88 := zerT_of (z := .agg #[.string ByteArray.empty, .int .i64 0, .slice none 0 0, .slice none 0 0, .string ByteArray.empty, .int .i64 0, .slice none 0 0, .slice none 0 0, .string ByteArray.empty, .int .i64 0, .slice none 0 0, .slice none 0 0]) (by kernel_rfl) rfl rfl
theorem bt88 : BldT Tryz.prog 88 y88 [(0, 4), (4, 4), (8, 4)] := bldT_of zt88 rfl (by kernel_rfl)
theorem lvV_lvl {l : Rec3} {tol : Int} {n : Nat} (hV : ∀ k, k < 3 → ∀ x ∈ (rk l k).2.2.1, lvlE x = 0) : ∀ x ∈ lvV l tol n, lvlE x = 0 := fun x hx => by
  obtain ⟨j, _, rfl⟩ := List.mem_map.1 hx; split
  · exact (q16_ok (vE_bnd hV)).1
  decide +kernel
end Go.Proofs
namespace Go.Proofs
open Go.Fs
set_option maxHeartbeats 2000000
def nextX (x : Int) : Int := (742938285 * x).tmod 2147483647
theorem next_ok {x : Int} (h0 : 0 ≤ x) : 0 ≤ nextX x ∧ nextX x < 2147483647 := by
  unfold nextX; rw [Int.tmod_eq_emod_of_nonneg (by omega)]; omega
theorem rangeE_zero {n lo hi : Int} : rangeE n lo hi = 0 ↔ lo ≤ n ∧ n ≤ hi := by
  unfold rangeE; split
  · exact ⟨fun h => absurd h (by decide), fun h => by omega⟩
  exact ⟨fun _ => by omega, fun _ => rfl⟩
end Go.Proofs
namespace Go.Proofs
open Go.Fs
set_option maxHeartbeats 2000000
end Go.Proofs
namespace Go.Proofs
open Go.Fs Ieee
set_option maxHeartbeats 400000
end Go.Proofs
namespace Go.Proofs
open Go.Fs Ieee
set_option maxHeartbeats 400000
theorem thereE_at {r : Rec1} {i : Nat} (h : i < r.2.2.1.length) (h2 : i < (thereE r).length) : (thereE r)[i] = recB r i := by
  rw [recB_in h]; exact offB_at h
theorem thereE_len {r : Rec1} : (thereE r).length = r.2.2.1.length := offB_len
end Go.Proofs
namespace Go.Proofs
open Go.Fs Ieee
set_option maxHeartbeats 400000
end Go.Proofs
namespace Go.Fs
variable {P : Program} {h : Heap} {S : List Nat}
variable {fl : VL} {σ : Sto} {x y : Operand} {T T' : TypeId} {τ : Ty}
end Go.Fs
namespace Go.Proofs
open Go.Fs Ieee
set_option maxHeartbeats 400000
end Go.Proofs
namespace Go.Proofs
open Go.Fs Ieee
set_option maxHeartbeats 400000
end Go.Proofs
namespace Go.Proofs
open Go.Fs Ieee
set_option maxHeartbeats 400000
end Go.Proofs
namespace Go.Proofs
open Go.Fs Ieee
set_option maxHeartbeats 400000
theorem neq_lv {x y : Nat} (hx : lvlE x = 0) (hy : lvlE y = 0) : fcmpE .neq .f32 x y = decide (sxE x ≠ sxE y) := by
  rw [(fcmp32 (lvl_ok hx).1 (lvl_ok hy).1).2.1]; exact decide_eq_decide.2 ⟨fun h e => h (by rw [e]), fun h e => h (by omega)⟩
end Go.Proofs
namespace Go.Proofs
open Go.Fs Ieee
set_option maxHeartbeats 400000
end Go.Proofs
namespace Go.Proofs
open Go.Fs Ieee
set_option maxHeartbeats 400000
end Go.Proofs
namespace Go.Proofs
open Go.Fs Ieee
set_option maxHeartbeats 400000
end Go.Proofs
namespace Go.Proofs
open Go.Fs Ieee
set_option maxHeartbeats 400000
end Go.Proofs
namespace Go.Fs
variable {P : Program} {orc : FuncId → List Value → Heap → Option (Value × Heap)} {ops : Array Oper} {n : Nat} {l : List Oper} {fl : VL} {σ : Sto} {K : VL → Sto → Prop}
  {d : Tmp} {ty : TypeId} {pos : String} {after : Array Edge} {g : Option (Nat × Bool)}
theorem m4 {a b c d e : Value × Cell} {r : Sto} : e ∈ a :: b :: c :: d :: e :: r := List.mem_cons_of_mem _ m3
theorem m5 {a b c d e f : Value × Cell} {r : Sto} : f ∈ a :: b :: c :: d :: e :: f :: r := List.mem_cons_of_mem _ m4
theorem m6 {a b c d e f g : Value × Cell} {r : Sto} : g ∈ a :: b :: c :: d :: e :: f :: g :: r := List.mem_cons_of_mem _ m5
end Go.Fs
namespace Go.Proofs
open Go.Fs Ieee
set_option maxHeartbeats 400000
end Go.Proofs
namespace Go.Proofs
open Go.Fs Ieee
set_option maxHeartbeats 400000
theorem in_cons {s : Int × Int} {a : List (Int × Int)} {t : Int} : Sp.inL (s :: a) t = true ↔ (s.1 ≤ t ∧ t < s.2) ∨ Sp.inL a t = true := by
  unfold Sp.inL; simp
theorem in_gt {a : List (Int × Int)} {c t : Int} (h : ∀ x ∈ a, c < x.1) (hi : Sp.inL a t = true) : c < t := by
  obtain ⟨x, hx, h2⟩ := List.any_eq_true.1 hi; simp only [Bool.and_eq_true, decide_eq_true_eq] at h2; have := h x hx; omega
theorem canon_tail {m : Int} {s : Int × Int} {a : List (Int × Int)} (h : Sp.Canon m (s :: a)) : Sp.Canon m a ∧ (s.1 < s.2) ∧ ∀ x ∈ a, s.2 < x.1 :=
  ⟨⟨fun x hx => h.1 x (List.mem_cons_of_mem _ hx), (List.pairwise_cons.1 h.2).2⟩, (h.1 s List.mem_cons_self).2.1, (List.pairwise_cons.1 h.2).1⟩
theorem canon_ext {m : Int} : ∀ {a b : List (Int × Int)}, Sp.Canon m a → Sp.Canon m b → (∀ t : Int, Sp.inL a t = Sp.inL b t) → a = b
  | [], [], _, _, _ => rfl
  | [], u :: b, _, hb, h => by
    have h1 := canon_tail hb; have h2 := in_cons.2 (.inl ⟨Int.le_refl u.1, h1.2.1⟩ : (u.1 ≤ u.1 ∧ u.1 < u.2) ∨ Sp.inL b u.1 = true); rw [← h u.1] at h2
    cases h2
  | s :: a, [], ha, _, h => by
    have h1 := canon_tail ha; have h2 := in_cons.2 (.inl ⟨Int.le_refl s.1, h1.2.1⟩ : (s.1 ≤ s.1 ∧ s.1 < s.2) ∨ Sp.inL a s.1 = true); rw [h s.1] at h2
    cases h2
  | s :: a, u :: b, ha, hb, h => by
    obtain ⟨ca, s0, sa⟩ := canon_tail ha; obtain ⟨cb, u0, ub⟩ := canon_tail hb
    have key : ∀ t, ((s.1 ≤ t ∧ t < s.2) ∨ Sp.inL a t = true) ↔ ((u.1 ≤ t ∧ t < u.2) ∨ Sp.inL b t = true) := fun t => by rw [← in_cons, ← in_cons, h t]
    have e1 : s.1 = u.1 := by
      have k1 := (key s.1).1 (.inl ⟨Int.le_refl _, s0⟩); have k2 := (key u.1).2 (.inl ⟨Int.le_refl _, u0⟩)
      have k1' : u.1 ≤ s.1 := by
        rcases k1 with k1 | k1
        · exact k1.1
        have := in_gt ub k1; omega
      have k2' : s.1 ≤ u.1 := by
        rcases k2 with k2 | k2
        · exact k2.1
        have := in_gt sa k2; omega
      omega
    have e2 : s.2 = u.2 := by
      rcases Int.lt_trichotomy s.2 u.2 with hlt | he | hlt
      · rcases (key s.2).2 (.inl ⟨by omega, hlt⟩) with k | k
        · omega
        have := in_gt sa k; omega
      · exact he
      rcases (key u.2).1 (.inl ⟨by omega, hlt⟩) with k | k
      · omega
      have := in_gt ub k; omega
    have e3 : a = b := canon_ext ca cb fun t => by
      rw [Bool.eq_iff_iff]; constructor
      · intro hi; have := in_gt sa hi; rcases (key t).1 (.inr hi) with k | k
        · omega
        exact k
      intro hi; have := in_gt ub hi; rcases (key t).2 (.inr hi) with k | k
      · omega
      exact k
    rw [e3, show s = u from Prod.ext e1 e2]
theorem last_split {α : Type} {l : List α} (h : 0 < l.length) : l = l.take (l.length - 1) ++ [l[l.length - 1]'(by omega)] := by
  have h2 := List.take_succ_eq_append_getElem (l := l) (i := l.length - 1) (by omega); rw [show l.length - 1 + 1 = l.length by omega, List.take_length] at h2; exact h2
theorem last_set {α : Type} {l : List α} {y : α} (h : 0 < l.length) : l.set (l.length - 1) y = l.take (l.length - 1) ++ [y] := by
  rw [List.set_eq_take_append_cons_drop, if_pos (by omega), List.drop_eq_nil_of_le (by omega)]
theorem gap_cases (out : List (Int × Int)) (i : Nat) : (∃ init x, out = init ++ [x] ∧ x.2 = (i : Int) ∧ gapS out i = init ++ [(x.1, (i : Int) + 1)]) ∨ ((out = [] ∨ ∃ init x, out = init ++ [x] ∧ x.2 ≠ (i : Int)) ∧ gapS out i = out ++ [((i : Int), (i : Int) + 1)]) := by
  by_cases h0 : 0 < out.length
  · have hs := last_split h0; have hx : spX out (out.length - 1) = out[out.length - 1]'(by omega) := spX_eq (by omega); by_cases h1 : (spX out (out.length - 1)).2 = (i : Int)
    · refine .inl ⟨_, _, hs, by rw [← hx]; exact h1, ?_⟩; rw [gapS_1 h0 h1, last_set h0, hx]
    refine .inr ⟨.inr ⟨_, _, hs, by rw [← hx]; exact h1⟩, gapS_2 (fun hh => h1 hh.2)⟩
  have h2 : out = [] := List.length_eq_zero_iff.1 (by omega); exact .inr ⟨.inl h2, gapS_2 (fun hh => h0 hh.1)⟩
theorem gapsE_s {l : List Bool} {i : Nat} : gapsE l (i + 1) = if l.getD i false = true then gapsE l i else gapS (gapsE l i) i := rfl
theorem gaps_canon {l : List Bool} : ∀ i : Nat, Sp.Canon (i : Int) (gapsE l i)
  | 0 => ⟨fun s hs => (by cases hs), List.Pairwise.nil⟩
  | i + 1 => by
    have ih := gaps_canon (l := l) i; rw [gapsE_s]; split
    · exact ⟨fun s hs => by have := ih.1 s hs; omega, ih.2⟩
    rcases gap_cases (gapsE l i) i with ⟨init, x, e1, e2, e3⟩ | ⟨e1, e3⟩
    · rw [e3]; rw [e1] at ih; have hx := ih.1 x (by simp); obtain ⟨p1, _, p3⟩ := List.pairwise_append.1 ih.2; refine ⟨fun s hs => ?_, List.pairwise_append.2 ⟨p1, List.pairwise_singleton _ _, fun s hs u hu => ?_⟩⟩
      · rcases List.mem_append.1 hs with hs | hs
        · have := ih.1 s (List.mem_append_left _ hs); omega
        rw [List.mem_singleton.1 hs]; show 0 ≤ x.1 ∧ x.1 < (i : Int) + 1 ∧ (i : Int) + 1 ≤ ((i + 1 : Nat) : Int); omega
      rw [List.mem_singleton.1 hu]; exact p3 s hs x (List.mem_singleton.2 rfl)
    rw [e3]
    have hlt : ∀ s ∈ gapsE l i, s.2 < (i : Int) := fun s hs => by
      rcases e1 with e1 | ⟨init, x, e1, e2⟩
      · rw [e1] at hs; cases hs
      rw [e1] at hs ih; have hx := ih.1 x (by simp); rcases List.mem_append.1 hs with hs | hs
      · have := (List.pairwise_append.1 ih.2).2.2 s hs x (List.mem_singleton.2 rfl); omega
      rw [List.mem_singleton.1 hs]; omega
    refine ⟨fun s hs => ?_, List.pairwise_append.2 ⟨ih.2, List.pairwise_singleton _ _, fun s hs u hu => ?_⟩⟩
    · rcases List.mem_append.1 hs with hs | hs
      · have := ih.1 s hs; omega
      rw [List.mem_singleton.1 hs]; show 0 ≤ (i : Int) ∧ (i : Int) < (i : Int) + 1 ∧ (i : Int) + 1 ≤ ((i + 1 : Nat) : Int); omega
    rw [List.mem_singleton.1 hu]; exact hlt s hs
theorem gaps_in {l : List Bool} {t : Int} : ∀ i : Nat, (Sp.inL (gapsE l i) t = true ↔ 0 ≤ t ∧ t < (i : Int) ∧ l.getD t.toNat false = false)
  | 0 => ⟨fun h => (by cases h), fun h => by omega⟩
  | i + 1 => by
    have ih := gaps_in (l := l) (t := t) i; have hc := gaps_canon (l := l) i; rw [gapsE_s]; split
    · rename_i hb; rw [ih]; refine ⟨fun h => ⟨h.1, by omega, h.2.2⟩, fun h => ⟨h.1, ?_, h.2.2⟩⟩; by_cases e : t = (i : Int)
      · have := h.2.2; rw [e, Int.toNat_natCast, hb] at this; cases this
      omega
    rename_i hb
    have hb : l.getD i false = false := by simpa using hb
    have hn : (0 ≤ t ∧ t < ((i + 1 : Nat) : Int) ∧ l.getD t.toNat false = false) ↔ ((0 ≤ t ∧ t < (i : Int) ∧ l.getD t.toNat false = false) ∨ t = (i : Int)) := by
      constructor
      · intro h; by_cases e : t = (i : Int)
        · exact .inr e
        exact .inl ⟨h.1, by omega, h.2.2⟩
      intro h; rcases h with h | h
      · exact ⟨h.1, by omega, h.2.2⟩
      refine ⟨by omega, by omega, ?_⟩; rw [h, Int.toNat_natCast]; exact hb
    rw [hn, ← ih]; rcases gap_cases (gapsE l i) i with ⟨init, x, e1, e2, e3⟩ | ⟨e1, e3⟩
    · have hx := hc.1 x (by rw [e1]; simp); rw [e3, e1, Sp.inL_app, Sp.inL_app, Bool.or_eq_true, Bool.or_eq_true, Sp.inL_one, show [x] = [(x.1, x.2)] from rfl, Sp.inL_one]; constructor
      · intro h; rcases h with h | h
        · exact .inl (.inl h)
        by_cases e : t = (i : Int)
        · exact .inr e
        exact .inl (.inr (by omega))
      intro h; rcases h with (h | h) | h
      · exact .inl h
      · exact .inr (by omega)
      exact .inr (by omega)
    rw [e3, Sp.inL_app, Bool.or_eq_true, Sp.inL_one]; constructor
    · intro h; rcases h with h | h
      · exact .inl h
      exact .inr (by omega)
    intro h; rcases h with h | h
    · exact .inl h
    exact .inr (by omega)
theorem offB_getD {n : Nat} {p : Int → Bool} {t : Nat} (h : t < n) : (offB n p).getD t false = !p (t : Int) := by
  rw [getDat (by rw [offB_len]; exact h), offB_at h]
theorem gaps_off {n : Nat} {G : List (Int × Int)} (h : Sp.Canon (n : Int) G) : gapsE (offB n (Sp.inL G)) n = G := by
  refine canon_ext (gaps_canon n) h fun t => ?_; rw [Bool.eq_iff_iff, gaps_in]; constructor
  · intro hh; have h1 := offB_getD (p := Sp.inL G) (show t.toNat < n by omega); rw [hh.2.2, show ((t.toNat : Nat) : Int) = t by omega] at h1; simpa using h1.symm
  intro hh; obtain ⟨x, hx, h2⟩ := List.any_eq_true.1 hh; simp only [Bool.and_eq_true, decide_eq_true_eq] at h2; have h3 := h.1 x hx; refine ⟨by omega, by omega, ?_⟩; rw [offB_getD (show t.toNat < n by omega), show ((t.toNat : Nat) : Int) = t by omega, hh] <;> rfl
theorem rec_canon {r : Rec1} (h : recE r = 0) : Sp.Canon (r.2.2.1.length : Nat) r.2.2.2 ∧ fillB r = false ∧ nameB r.1 = true := by
  have h0 := (rec_ok h).2.2.2.2; unfold recE at h; split at h
  · rename_i h1; exact absurd h h1
  rename_i h1; split at h
  · rename_i h2; exact absurd h h2
  rename_i h2; split at h
  · cases h
  rename_i h3; have h1 := firstE_zero.1 (Classical.not_not.1 h1); have h2 := bodyE_zero.1 (Classical.not_not.1 h2); have h4 := spans_canon h2.2; have h6 := h1 (whenE (!nameB r.1) 8) (by simp); rw [whenE_zero (by decide)] at h6 h; exact ⟨⟨h0, h4.1.2⟩, h, by simpa using h6⟩
theorem rec_gaps {r : Rec1} (h : recE r = 0) : gapsE (thereE r) (thereE r).length = r.2.2.2 := by
  unfold thereE; rw [offB_len]; exact gaps_off (rec_canon h).1
end Go.Proofs
namespace Go.Proofs
open Go.Fs Ieee
set_option maxHeartbeats 400000
def flP (n : Int) (g : Int × Int) : Prop := g.1 = 0 ∨ n < g.2 - g.1
instance (n : Int) (g : Int × Int) : Decidable (flP n g) := inferInstanceAs (Decidable (g.1 = 0 ∨ n < g.2 - g.1))
theorem getD_lv0 {r : Rec1} {i : Nat} (h : ∀ x ∈ r.2.2.1, lvlE x = 0) : lvlE (r.2.2.1.getD i 0) = 0 := by
  by_cases hi : i < r.2.2.1.length
  · rw [getDat hi]; exact h _ (List.getElem_mem hi)
  rw [List.getD_eq_getElem?_getD, List.getElem?_eq_none (by omega)]; decide +kernel
end Go.Proofs
namespace Go.Proofs
open Go.Fs Ieee
set_option maxHeartbeats 400000
structure LeftI (r : Rec1) (S : List Int × List Bool) : Prop where
  l1 : S.1.length = r.2.2.1.length
  l2 : S.2.length = r.2.2.1.length
  at_ : ∀ i : Nat, i < r.2.2.1.length → S.2.getD i false = (recB r i && decide (S.1.getD i 0 = 0))
theorem zero_of {x : Nat} (hv : lvlE x = 0) (h : nzE x = false) : fcmpE .neq .f32 0 x = false := by
  have h1 := lvl_ok hv; unfold nzE at h; rw [(fcmp32 h1.1 u32_0).2.1, decide_eq_false_iff_not] at h; rw [(fcmp32 u32_0 h1.1).2.1]; exact decide_eq_false (by omega)
end Go.Proofs
namespace Go.Proofs
open Go.Fs
set_option maxHeartbeats 2000000
theorem vt22 : ValT Tryz.prog 22 y22 := valT_of (by kernel_rfl)
end Go.Proofs
namespace Go.Proofs
open Go.Fs
set_option maxHeartbeats 2000000
theorem spans_of {l : List (Int × Int)} (h : Sp.Canon 100000 l) (hn : l.length ≤ 2048) : spansE l = 0 := by
  unfold spansE; rw [if_neg (by omega)]; unfold firstR; rw [firstE_zero]; intro x hx; obtain ⟨j, hj, rfl⟩ := List.mem_map.1 hx; rw [List.mem_range'_1] at hj
  have hjl : j < l.length := by omega
  unfold spanAt; rw [firstE_zero]; intro y hy; simp only [List.mem_cons, List.not_mem_nil, or_false] at hy; rcases hy with rfl | rfl
  · rw [spX_eq hjl]; exact spanE_zero.2 (h.1 _ (List.getElem_mem hjl))
  rw [whenE_zero (by decide)]; rcases Nat.eq_zero_or_pos j with h1 | h1
  · subst h1; rfl
  rw [decide_eq_true (show (0 : Int) < (j : Int) by omega), Bool.true_and, decide_eq_false_iff_not, spX_eq hjl, spX_eq (show j - 1 < l.length by omega)]; have := List.pairwise_iff_getElem.1 h.2 (j - 1) j (by omega) hjl (by omega); omega
end Go.Proofs
namespace Go.Proofs
open Go.Fs Ieee
set_option maxHeartbeats 400000
theorem rec_of {r : Rec1} (h1 : nameB r.1 = true) (h2 : 0 ≤ r.2.1 ∧ r.2.1 ≤ 100000) (h3 : r.2.2.1.length ≤ 4096) (h4 : ∀ x ∈ r.2.2.1, lvlE x = 0) (h5 : Sp.Canon (r.2.2.1.length : Nat) r.2.2.2) (h6 : r.2.2.2.length ≤ 2048) (h7 : fillB r = false) : recE r = 0 := by
  have a1 : headE r = 0 := firstE_zero.2 fun x hx => by
    simp only [List.mem_cons, List.not_mem_nil, or_false] at hx; rcases hx with rfl | rfl | rfl
    · rw [h1] <;> rfl
    · exact rangeE_zero.2 h2
    exact (whenE_zero (by decide)).2 (decide_eq_false (by omega))
  have a2 : bodyE r = 0 := bodyE_zero.2 ⟨firstE_zero.2 fun x hx => by
    obtain ⟨y, hy, rfl⟩ := List.mem_map.1 hx
    exact h4 y hy, spans_of ⟨fun s hs => by have := h5.1 s hs; omega, h5.2⟩ h6⟩
  have a3 : beyB r = false := List.any_eq_false.2 fun s hs => by
    have := h5.1 s hs; simp only [decide_eq_true_eq]; omega
  unfold recE; rw [if_neg (fun h => h a1), if_neg (fun h => h a2), a3, if_neg (by decide), h7] <;> rfl
abbrev keepR (r : Rec1) (l : List Bool) : Rec1 := (r.1, r.2.1, keptL r l plusZ l.length, gapsE l l.length)
theorem plus_lvl {r : Rec1} {l : List Bool} {n : Nat} (hv : ∀ x ∈ r.2.2.1, lvlE x = 0) : ∀ x ∈ keptL r l plusZ n, lvlE x = 0 := fun x hx => by
  obtain ⟨j, _, rfl⟩ := List.mem_map.1 hx; split
  · exact (plusZ_ok (getD_lv0 hv)).2.1
  decide +kernel
theorem nz0 : nzE 0 = false := by decide +kernel
theorem rec_keep {r : Rec1} {l : List Bool} (h : recE r = 0) (hl : l.length = r.2.2.1.length) (hn : l.length ≤ 2048) : recE (keepR r l) = 0 := by
  have hr := rec_ok h; have hc := rec_canon h
  have hk : (keptL r l plusZ l.length).length = l.length := by rw [keptL_len, hl]
  have hg := gaps_canon (l := l) l.length; have hgl := gapsE_len l l.length; refine rec_of hc.2.2 hr.1 (by show (keptL _ _ _ _).length ≤ _; omega) (plus_lvl hr.2.2.2.1) (by show Sp.Canon ((keptL _ _ _ _).length : Nat) _; rw [hk]; exact hg) (by show (gapsE _ _).length ≤ _; omega) ?_; refine fill_f (r := keepR r l) (fun i hi hh => ?_) fun s hs => ?_
  · have hi : i < (keptL r l plusZ l.length).length := hi; have h2 : Sp.inL (gapsE l l.length) (i : Int) = true := hh.2; have h3 := ((gaps_in l.length).1 h2).2.2; rw [Int.toNat_natCast] at h3; have h4 : nzE ((keptL r l plusZ l.length)[i]) = true := hh.1; rw [keptL_at (by omega), if_neg (fun hc => by rw [h3] at hc; exact absurd hc.2 (by decide)), nz0] at h4; cases h4
  have := hg.1 s hs; show 0 ≤ s.1 ∧ s.1 ≤ s.2 ∧ s.2 ≤ ((keptL r l plusZ l.length).length : Nat); omega
theorem there_keep {r : Rec1} {l : List Bool} (hl : l.length = r.2.2.1.length) : thereE (keepR r l) = l := by
  have hk : (keptL r l plusZ l.length).length = l.length := by rw [keptL_len, hl]
  refine List.ext_getElem (by rw [thereE_len]; exact hk) fun i h1 h2 => ?_; rw [thereE_at (show i < (keptL r l plusZ l.length).length by omega) h1, recB_in (show i < (keptL r l plusZ l.length).length by omega)]; show (!Sp.inL (gapsE l l.length) (i : Int)) = l[i]; have h3 := gaps_in (l := l) (t := (i : Int)) l.length; rw [Int.toNat_natCast, getDat h2] at h3
  cases hb : l[i] with
  | true =>
    rw [hb] at h3
    cases hi : Sp.inL (gapsE l l.length) (i : Int) with
    | false => rfl
    | true => exact absurd (h3.1 hi).2.2 (by decide)
  | false =>
    rw [hb] at h3; rw [h3.2 ⟨by omega, by omega, rfl⟩] <;> rfl
end Go.Proofs
namespace Go.Proofs
open Go.Fs Ieee
set_option maxHeartbeats 2000000
end Go.Proofs
namespace Ieee
theorem g145 : (44601490397061246283071436545296723011960832 : Nat) = 2 ^ 145 := by decide +kernel
theorem rep64 {n : Int} (m : Nat) (hm : m ≤ 8) (h : n.natAbs < 2 ^ 20) : double.Rep (n.natAbs * 2 ^ (145 + m + (single.leastPlace - double.leastPlace).toNat)) := by
  refine rep_small (f := double) (Nat.lt_of_lt_of_le h (by decide)) ?_
  have e : (single.leastPlace - double.leastPlace).toNat = 925 := by decide
  have e2 : (2 : Nat) ^ double.exponentBits = 2048 := by decide
  rw [e, e2]; omega
theorem nat64 {n : Int} : (n * 44601490397061246283071436545296723011960832 * ((kW : Nat) : Int)).natAbs = n.natAbs * 2 ^ (145 + 0 + (single.leastPlace - double.leastPlace).toNat) := by
  rw [Int.natAbs_mul, Int.natAbs_mul, Int.natAbs_natCast, Nat.pow_add, ← Nat.mul_assoc, Nat.add_zero, ← g145]; rfl
theorem wide_lv {x : Nat} (hx : lvlE x = 0) : u64 (double.write (single.read x)) = some (sxE x * 44601490397061246283071436545296723011960832 * ((kW : Nat) : Int)) := widen (lvl_ok hx).1 (u32_bound (lvl_ok hx).1)
theorem sub64 {x y : Nat} (hx : lvlE x = 0) (hy : lvlE y = 0) : ∃ r, double.sub (double.write (single.read x)) (double.write (single.read y)) = some r ∧ u64 r = some ((sxE x - sxE y) * 44601490397061246283071436545296723011960832 * ((kW : Nat) : Int)) := by
  have h1 := lvl_ok hx; have h2 := lvl_ok hy; refine Format.sub_exact (wide_lv hx) (wide_lv hy) ?_ ?_ dbl_good
  · rw [Int.sub_mul, Int.sub_mul]
  rw [nat64]; exact rep64 0 (by decide) (by omega)
theorem mul64s {w r : Nat} {n : Int} (hw : u64 w = some ((16 : Int) * ((713623846352979940529142984724747568191373312 * kW : Nat) : Int))) (hr : u64 r = some (n * 44601490397061246283071436545296723011960832 * ((kW : Nat) : Int))) (hn : n.natAbs < 2 ^ 20) : ∃ q, double.mul w r = some q ∧ u64 q = some (16 * (n * 44601490397061246283071436545296723011960832 * ((kW : Nat) : Int))) := by
  refine Format.mul_exact hw hr (by decide) ?_ ?_ dbl_good
  · rw [n1074, Int.mul_assoc, Int.mul_comm _ (n * 44601490397061246283071436545296723011960832 * ((kW : Nat) : Int)), ← Int.mul_assoc]
  rw [Int.natAbs_mul, nat64]
  have e : ∀ K : Nat, (16 : Int).natAbs * (n.natAbs * 2 ^ (145 + 0 + K)) = n.natAbs * 2 ^ (145 + 4 + K) := fun K => by
    rw [Nat.mul_left_comm, show (16 : Int).natAbs = 2 ^ 4 from rfl, ← Nat.pow_add, show 4 + (145 + 0 + K) = 145 + 4 + K by omega]
  rw [e]; exact rep64 4 (by decide) hn
theorem ofInt64 {n : Int} (hn : n.natAbs < 2 ^ 20) : u64 (double.write (.number (n < 0) n.natAbs 0)) = some (n * ((713623846352979940529142984724747568191373312 * kW : Nat) : Int)) := by
  have hr : ∀ K : Nat, K + 2 ≤ 2 ^ double.exponentBits - 1 → double.Rep (n.natAbs * 2 ^ K) := fun K hK => rep_small (f := double) (Nat.lt_of_lt_of_le hn (by decide)) hK
  have h := Format.ofInt_units (f := double) (n := n) (by decide) (by
    rw [m1074]
    exact hr 1074 (by decide)) dbl_good
  rw [n1074] at h; exact h
theorem wide_form {n k : Int} : 16 * (n * 44601490397061246283071436545296723011960832 * k) = n * (713623846352979940529142984724747568191373312 * k) := by
  rw [Int.mul_assoc, Int.mul_left_comm, ← Int.mul_assoc 16]; rfl
theorem wide_le {n t : Int} : (16 * (n * 44601490397061246283071436545296723011960832 * ((kW : Nat) : Int)) ≤ t * ((713623846352979940529142984724747568191373312 * kW : Nat) : Int)) ↔ n ≤ t := by
  rw [wide_form, cast_mk]; have := kW_int; exact ⟨fun h => Int.le_of_mul_le_mul_right h (by omega), fun h => Int.mul_le_mul_of_nonneg_right h (by omega)⟩
theorem wide_lt {n t : Int} : (16 * (n * 44601490397061246283071436545296723011960832 * ((kW : Nat) : Int)) < t * ((713623846352979940529142984724747568191373312 * kW : Nat) : Int)) ↔ n < t := by
  rw [wide_form, cast_mk]; have := kW_int; exact ⟨fun h => Int.lt_of_mul_lt_mul_right h (by omega), fun h => Int.mul_lt_mul_of_pos_right h (by omega)⟩
theorem wide_gt {n t : Int} : (t * ((713623846352979940529142984724747568191373312 * kW : Nat) : Int) < 16 * (n * 44601490397061246283071436545296723011960832 * ((kW : Nat) : Int))) ↔ t < n := by
  rw [wide_form, cast_mk]; have := kW_int; exact ⟨fun h => Int.lt_of_mul_lt_mul_right h (by omega), fun h => Int.mul_lt_mul_of_pos_right h (by omega)⟩
def negT (t : Nat) : Nat := (double.write (.number (decide ((t : Int) < 0)) (t : Int).natAbs 0)) ^^^ 2 ^ (double.exponentBits + double.fractionBits)
theorem negT_all : (List.range 256).all (fun t => decide (u64 (negT t) = some (-(t : Int) * ((713623846352979940529142984724747568191373312 * kW : Nat) : Int)))) = true := by decide +kernel
theorem neg64 {t : Int} (h : 0 ≤ t ∧ t < 256) : u64 ((double.write (.number (t < 0) t.natAbs 0)) ^^^ 2 ^ (double.exponentBits + double.fractionBits)) = some (-t * ((713623846352979940529142984724747568191373312 * kW : Nat) : Int)) := by
  obtain ⟨n, rfl⟩ : ∃ n : Nat, t = (n : Int) := ⟨t.toNat, by omega⟩; exact of_decide_eq_true (List.all_eq_true.1 negT_all n (List.mem_range.2 (by omega)))
end Ieee
namespace Go.Proofs
open Go.Fs Ieee
set_option maxHeartbeats 400000
def tld (r : Rec1) (i : Nat) : List Int := if recB r i = true then [sxE (r.2.2.1.getD i 0)] else []
theorem toldL_s {l : Rec3} {i k : Nat} : toldL l i (k + 1) = toldL l i k ++ tld (rk l k) i := by
  show (if recB (rk l k) i = true then _ else _) = _; unfold tld; split
  · rfl
  rw [List.append_nil]
theorem toldL_3 {l : Rec3} {i : Nat} : toldL l i 3 = tld l.1 i ++ (tld l.2.1 i ++ tld l.2.2 i) := by
  rw [toldL_s, toldL_s, toldL_s, List.append_assoc, List.append_assoc] <;> rfl
theorem vote_perm {l m : List Int} {tol : Int} (hp : l.Perm m) (hl : l.length ≤ 3) : votedE l tol = votedE m tol := by
  have hlen := hp.length_eq; have hs : sortN l = sortN m := sortN_eq ((sortN_perm l).trans hp) (sortN_sorted l); rw [vote_eq hl, vote_eq (by omega)]; unfold voteP; rw [hs, hlen]
abbrev rot (l : Rec3) : Rec3 := (l.2.2, l.1, l.2.1)
theorem vE_rot {l : Rec3} {tol : Int} {i : Nat} : vE (rot l) tol i = vE l tol i := by
  refine vote_perm ?_ (toldL_len 3); rw [toldL_3, toldL_3, ← List.append_assoc (tld l.1 i)]; exact List.perm_append_comm
theorem lvV_rot {l : Rec3} {tol : Int} (h : l.2.2.2.2.1.length = l.1.2.2.1.length) : lvV (rot l) tol l.2.2.2.2.1.length = lvV l tol l.1.2.2.1.length := by
  unfold lvV; show (List.range l.2.2.2.2.1.length).map _ = _; rw [h]; simp only [vE_rot]
theorem isV_rot {l : Rec3} {tol : Int} (h : l.2.2.2.2.1.length = l.1.2.2.1.length) : isV (rot l) tol l.2.2.2.2.1.length = isV l tol l.1.2.2.1.length := by
  unfold isV; show (List.range l.2.2.2.2.1.length).map _ = _; rw [h]; simp only [vE_rot]
theorem dv_congr {l m : Rec3} {tol : Int} {j k : Nat} (hv : ∀ i, vE m tol i = vE l tol i) (hr : rk m j = rk l k) : ∀ i : Nat, dvE m tol j i = dvE l tol k i
  | 0 => rfl
  | i + 1 => by
    have ih := dv_congr hv hr i
    have hb : dvB m tol j i = dvB l tol k i := by
      unfold dvB; rw [hv i, hr]
    show (if dvB m tol j i = true then _ else _) = (if dvB l tol k i = true then _ else _); rw [ih, hb]
abbrev voteK (l : Rec3) (tol : Int) : Rec1 := keepR (lvR l tol) (isV l tol l.1.2.2.1.length)
theorem lvR_ok {l : Rec3} {tol : Int} (h : recE l.1 = 0) (hv : ∀ k, k < 3 → ∀ x ∈ (rk l k).2.2.1, lvlE x = 0) : recE (lvR l tol) = 0 := by
  have hr := rec_ok h; have hc := rec_canon h; refine rec_of hc.2.2 hr.1 (by show (lvV _ _ _).length ≤ _; rw [lvV_len]; exact hr.2.1) (lvV_lvl hv) ⟨fun s hs => (by cases hs), List.Pairwise.nil⟩ (Nat.zero_le _) rfl
theorem voteK_rec {l : Rec3} {tol : Int} (h : recE l.1 = 0) (hv : ∀ k, k < 3 → ∀ x ∈ (rk l k).2.2.1, lvlE x = 0) (hn : l.1.2.2.1.length ≤ 2048) : recE (voteK l tol) = 0 :=
  rec_keep (lvR_ok h hv) (by rw [isV_len]; exact lvV_len.symm) (by rw [isV_len]; exact hn)
theorem same_refl {a : List Nat} (h : ∀ x ∈ a, lvlE x = 0) : sameLv a a = true := by
  refine decide_eq_true ⟨rfl, fun i hi => ?_⟩; rw [getDat hi]; have h1 := lvl_ok (h _ (List.getElem_mem hi)); rw [(fcmp32 h1.1 h1.1).2.1]; exact decide_eq_false (by simp)
theorem keptL_cong {r r' : Rec1} {l l' : List Bool} {f : Nat → Nat} (h : r.2.2.1 = r'.2.2.1) (hl : l = l') : keptL r l f l.length = keptL r' l' f l'.length := by
  subst hl; unfold keptL; rw [h]
theorem rot_same {l : Rec3} {tol : Int} (h : l.2.2.2.2.1.length = l.1.2.2.1.length) (hv : ∀ k, k < 3 → ∀ x ∈ (rk l k).2.2.1, lvlE x = 0) : sameLv (voteK l tol).2.2.1 (voteK (rot l) tol).2.2.1 = true ∧ (voteK l tol).2.2.2 = (voteK (rot l) tol).2.2.2 := by
  have e1 : (voteK (rot l) tol).2.2.1 = (voteK l tol).2.2.1 := keptL_cong (lvV_rot h) (isV_rot h); refine ⟨?_, ?_⟩
  · rw [e1]; exact same_refl (plus_lvl (lvV_lvl hv))
  show gapsE (isV l tol l.1.2.2.1.length) _ = gapsE (isV (rot l) tol l.2.2.2.2.1.length) _; rw [isV_rot h]
theorem vE_same {a : Rec1} {tol : Int} {i : Nat} : vE (a, a, a) tol i = if recB a i = true then (sxE (a.2.2.1.getD i 0), true) else (0, false) := by
  unfold vE; rw [toldL_3]; show votedE (tld a i ++ (tld a i ++ tld a i)) tol = _; unfold tld; split
  · show votedE [_, _, _] tol = _; rw [votedE_3 rfl]; simp <;> omega
  rfl
theorem isV_same {a : Rec1} {tol : Int} : isV (a, a, a) tol a.2.2.1.length = thereE a := by
  refine List.ext_getElem (by rw [isV_len, thereE_len]) fun i h1 h2 => ?_; rw [isV_len] at h1; have h1 : i < a.2.2.1.length := h1; rw [isV_at (l := (a, a, a)) h1, thereE_at h1 h2, vE_same, decide_eq_true h1, Bool.true_and]; split
  · rename_i h; exact h.symm
  rename_i h; simpa using h
theorem three_same {a : Rec1} {tol : Int} (h : recE a = 0) : sameRec (voteK (a, a, a) tol) a = true := by
  have hr := rec_ok h; have hc := rec_canon h
  have hs : sameLv (keptL (lvR (a, a, a) tol) (isV (a, a, a) tol a.2.2.1.length) plusZ (isV (a, a, a) tol a.2.2.1.length).length) a.2.2.1 = true := by
    rw [isV_same]; have hlen : (lvR (a, a, a) tol).2.2.1.length = a.2.2.1.length := lvV_len (l := (a, a, a)); refine decide_eq_true ⟨keptL_len.trans hlen, fun i hi => ?_⟩; rw [keptL_len, hlen] at hi; rw [getDat (by rw [keptL_len, hlen]; exact hi), getDat hi, keptL_at (by rw [hlen]; exact hi)]; have h1 := hr.2.2.2.1 _ (List.getElem_mem hi); have h2 := lvl_ok h1
    have hlt : i < (thereE a).length := by rw [thereE_len]; exact hi
    have h4 : (thereE a).getD i false = recB a i := by rw [getDat hlt, thereE_at hi hlt]
    by_cases hcc : i < (thereE a).length ∧ (thereE a).getD i false = true
    · rw [if_pos hcc, getDat (by rw [hlen]; exact hi)]
      have hb : recB a i = true := by rw [← h4]; exact hcc.2
      have hq := q16_ok (n := sxE a.2.2.1[i]) ⟨h2.2.1, h2.2.2⟩; have e0 := lvV_at (l := (a, a, a)) (tol := tol) (n := a.2.2.1.length) (i := i) hi; rw [vE_same, if_pos hb, if_pos ⟨hi, rfl⟩, getDat hi] at e0; have e : (lvR (a, a, a) tol).2.2.1[i]'(by rw [hlen]; exact hi) = q16 (sxE a.2.2.1[i]) := e0; rw [e]; have h5 := plusZ_ok hq.1; have h6 := lvl_ok hq.1; rw [hq.2.1, ← h2.1] at h6; rw [(fcmp32 (h5.2.2.trans (h6.1.trans h2.1)) h2.1).2.1]; exact decide_eq_false (by simp)
    rw [if_neg hcc]; refine zero_of h1 ?_
    have hin : Sp.inL a.2.2.2 (i : Int) = true := by
      cases hb : Sp.inL a.2.2.2 (i : Int) with
      | true => rfl
      | false =>
        rw [recB_in hi, hb] at h4; exact absurd ⟨hlt, h4⟩ hcc
    cases hz : nzE a.2.2.1[i] with
    | false => rfl
    | true => exact absurd (fill_t (fun s hs => ⟨(hr.2.2.2.2 s hs).1, by have := (hr.2.2.2.2 s hs).2.1; omega, (hr.2.2.2.2 s hs).2.2⟩) hi hz hin) (by rw [hc.2.1]; decide)
  unfold sameRec; show (decide (a.1 = a.1) && decide (a.2.1 = a.2.1) && sameLv (keptL (lvR (a, a, a) tol) (isV (a, a, a) tol a.2.2.1.length) plusZ (isV (a, a, a) tol a.2.2.1.length).length) a.2.2.1 && decide (gapsE (isV (a, a, a) tol a.2.2.1.length) (isV (a, a, a) tol a.2.2.1.length).length = a.2.2.2)) = true; rw [hs, decide_eq_true rfl, decide_eq_true rfl, isV_same, decide_eq_true (rec_gaps h)] <;> rfl
theorem dv_zero {l : Rec3} {tol : Int} {k : Nat} (h : ∀ i, dvB l tol k i = false) : ∀ i : Nat, dvE l tol k i = 0
  | 0 => rfl
  | i + 1 => by
    rw [dvE_f (h i)]; exact dv_zero h i
theorem three_none {a : Rec1} {tol : Int} (ht : 0 ≤ tol) {k : Nat} (hk : k < 3) (i : Nat) : dvE (a, a, a) tol k i = 0 := by
  refine dv_zero (fun j => ?_) i
  have hrk : rk (a, a, a) k = a := by
    rcases k with _ | _ | _ | k
    · rfl
    · rfl
    · rfl
    omega
  unfold dvB; rw [vE_same, hrk]
  cases hb : recB a j with
  | false => simp
  | true => simp; omega
theorem never_none {l : Rec3} (hv : ∀ k, k < 3 → ∀ x ∈ (rk l k).2.2.1, lvlE x = 0) {k : Nat} (hk : k < 3) (i : Nat) : dvE l 2048 k i = 0 := by
  refine dv_zero (fun j => ?_) i; have h1 := vE_bnd (tol := 2048) (i := j) hv; have h2 := lvl_ok (getD_lvl (i := j) (hv k hk)); unfold dvB; rw [decide_eq_false (by omega), Bool.and_false]
def lhS (l : Rec3) (i : Nat) : Nat → Nat × Nat × Nat
  | 0 => (0, 0, 0)
  | k + 1 => if recB (rk l k) i = true then ((lhS l i k).1 + 1, (if (lhS l i k).1 = 0 ∨ sxE ((rk l k).2.2.1.getD i 0) < sxE (lhS l i k).2.1 then (rk l k).2.2.1.getD i 0 else (lhS l i k).2.1), (if (lhS l i k).1 = 0 ∨ sxE (lhS l i k).2.2 < sxE ((rk l k).2.2.1.getD i 0) then (rk l k).2.2.1.getD i 0 else (lhS l i k).2.2)) else lhS l i k
structure LhI (T : List Int) (S : Nat × Nat × Nat) : Prop where
  n : S.1 = T.length
  lo : lvlE S.2.1 = 0
  hi : lvlE S.2.2 = 0
  mem : T ≠ [] → (sxE S.2.1 ∈ T ∧ ∀ y ∈ T, sxE S.2.1 ≤ y) ∧ (sxE S.2.2 ∈ T ∧ ∀ y ∈ T, y ≤ sxE S.2.2)
theorem lh_ok {l : Rec3} {i : Nat} (hv : ∀ k, k < 3 → ∀ x ∈ (rk l k).2.2.1, lvlE x = 0) : ∀ k : Nat, k ≤ 3 → LhI (toldL l i k) (lhS l i k)
  | 0, _ => ⟨rfl, by show lvlE 0 = 0; decide +kernel, by show lvlE 0 = 0; decide +kernel, fun h => absurd rfl h⟩
  | k + 1, hk => by
    have ih := lh_ok (i := i) hv k (by omega); have hx := getD_lvl (i := i) (hv k (by omega)); unfold lhS toldL; by_cases hb : recB (rk l k) i = true
    · rw [if_pos hb, if_pos hb]; generalize (rk l k).2.2.1.getD i 0 = x at hx; generalize lhS l i k = S at ih; generalize toldL l i k = T at ih; refine ⟨by rw [List.length_append, List.length_singleton, ih.n], ?_, ?_, fun _ => ⟨?_, ?_⟩⟩
      · show lvlE (if _ then _ else _) = 0; split
        · exact hx
        exact ih.lo
      · show lvlE (if _ then _ else _) = 0; split
        · exact hx
        exact ih.hi
      · show sxE (if S.1 = 0 ∨ sxE x < sxE S.2.1 then x else S.2.1) ∈ _ ∧ ∀ y ∈ T ++ [sxE x], sxE (if S.1 = 0 ∨ sxE x < sxE S.2.1 then x else S.2.1) ≤ y; by_cases hT : T = []
        · rw [if_pos (.inl (by rw [ih.n, hT]; rfl)), hT]; exact ⟨by simp, fun y hy => by simp at hy; omega⟩
        obtain ⟨⟨m1, m2⟩, _⟩ := ih.mem hT; have h0 : S.1 ≠ 0 := fun h => hT (List.length_eq_zero_iff.1 (by rw [← ih.n]; exact h)); by_cases hc : sxE x < sxE S.2.1
        · rw [if_pos (.inr hc)]; refine ⟨by simp, fun y hy => ?_⟩; rcases List.mem_append.1 hy with hy | hy
          · have := m2 y hy; omega
          rw [List.mem_singleton.1 hy]; exact Int.le_refl _
        rw [if_neg (fun hh => hh.elim h0 hc)]; refine ⟨List.mem_append_left _ m1, fun y hy => ?_⟩; rcases List.mem_append.1 hy with hy | hy
        · exact m2 y hy
        rw [List.mem_singleton.1 hy]; omega
      show sxE (if S.1 = 0 ∨ sxE S.2.2 < sxE x then x else S.2.2) ∈ _ ∧ ∀ y ∈ T ++ [sxE x], y ≤ sxE (if S.1 = 0 ∨ sxE S.2.2 < sxE x then x else S.2.2); by_cases hT : T = []
      · rw [if_pos (.inl (by rw [ih.n, hT]; rfl)), hT]; exact ⟨by simp, fun y hy => by simp at hy; omega⟩
      obtain ⟨_, ⟨m1, m2⟩⟩ := ih.mem hT; have h0 : S.1 ≠ 0 := fun h => hT (List.length_eq_zero_iff.1 (by rw [← ih.n]; exact h)); by_cases hc : sxE S.2.2 < sxE x
      · rw [if_pos (.inr hc)]; refine ⟨by simp, fun y hy => ?_⟩; rcases List.mem_append.1 hy with hy | hy
        · have := m2 y hy; omega
        rw [List.mem_singleton.1 hy]; exact Int.le_refl _
      rw [if_neg (fun hh => hh.elim h0 hc)]; refine ⟨List.mem_append_left _ m1, fun y hy => ?_⟩; rcases List.mem_append.1 hy with hy | hy
      · exact m2 y hy
      rw [List.mem_singleton.1 hy]; omega
    rw [if_neg hb, if_neg hb]; exact ih
theorem vote_lh {T : List Int} {tol lo hi : Int} (hl : T.length ≤ 3) (hm : T ≠ [] → (lo ∈ T ∧ ∀ y ∈ T, lo ≤ y) ∧ (hi ∈ T ∧ ∀ y ∈ T, y ≤ hi)) :
    (votedE T tol).2 = (decide (T.length = 3) || (decide (T.length = 2) && decide (hi - lo ≤ tol))) ∧ ((votedE T tol).2 = true → lo ≤ (votedE T tol).1 ∧ (votedE T tol).1 ≤ hi ∧ (T.length = 2 → (votedE T tol).1 = hi)) := by
  match T, hl, hm with
  | [], _, _ => exact ⟨rfl, fun h => by cases h⟩
  | [x], _, _ => exact ⟨rfl, fun h => by cases h⟩
  | [x, y], _, hm =>
    obtain ⟨⟨a1, a2⟩, b1, b2⟩ := hm (by simp); have c1 := a2 x (by simp); have c2 := a2 y (by simp); have c3 := b2 x (by simp); have c4 := b2 y (by simp)
    have a1 : lo = x ∨ lo = y := by simpa using a1
    have b1 : hi = x ∨ hi = y := by simpa using b1
    rw [votedE_2 (l := [x, y]) rfl]; show (if max (x - y) (y - x) ≤ tol then (max x y, true) else (0, false)).2 = (decide ((2 : Nat) = 3) || (decide ((2 : Nat) = 2) && decide (hi - lo ≤ tol))) ∧ ((if max (x - y) (y - x) ≤ tol then (max x y, true) else (0, false)).2 = true → lo ≤ (if max (x - y) (y - x) ≤ tol then (max x y, true) else (0, false)).1 ∧ (if max (x - y) (y - x) ≤ tol then (max x y, true) else (0, false)).1 ≤ hi ∧ ((2 : Nat) = 2 → (if max (x - y) (y - x) ≤ tol then (max x y, true) else (0, false)).1 = hi)); by_cases h : max (x - y) (y - x) ≤ tol
    · rw [if_pos h, decide_eq_true (show hi - lo ≤ tol by omega)]; exact ⟨rfl, fun _ => ⟨by show lo ≤ max x y; omega, by show max x y ≤ hi; omega, fun _ => by show max x y = hi; omega⟩⟩
    rw [if_neg h, decide_eq_false (show ¬ hi - lo ≤ tol by omega)]
    exact ⟨rfl, fun h => by cases h⟩
  | [x, y, z], _, hm =>
    obtain ⟨⟨a1, a2⟩, b1, b2⟩ := hm (by simp); have c1 := a2 x (by simp); have c2 := a2 y (by simp); have c3 := a2 z (by simp); have c4 := b2 x (by simp); have c5 := b2 y (by simp); have c6 := b2 z (by simp)
    have a1 : lo = x ∨ lo = y ∨ lo = z := by simpa using a1
    have b1 : hi = x ∨ hi = y ∨ hi = z := by simpa using b1
    rw [votedE_3 (l := [x, y, z]) rfl]; refine ⟨rfl, fun _ => ⟨?_, ?_, fun h => absurd h (by decide : ¬ (3 : Nat) = 2)⟩⟩
    · show lo ≤ x + y + z - min (min x y) z - max (max x y) z; omega
    show x + y + z - min (min x y) z - max (max x y) z ≤ hi
    omega
  | _ :: _ :: _ :: _ :: _, h, _ => exact absurd h (by simp)
end Go.Proofs
namespace Go.Fs
variable {P : Program} {fl : VL} {σ : Sto} {x : Operand} {T : TypeId}
theorem CalmV.fneg {k : FloatKind} {p : Nat} (hx : evV fl x = some (.v (.flt k) p) := by rfl) : CalmV P fl σ (.unOp .neg T x) (.v (.flt k) (Op.negFloat k p)) :=
  .un hx fun h S a ha => by
    obtain rfl := RepV.flt ha; exact ⟨.float k (Op.negFloat k p), RepV.ofFlt _ _, rfl, rfl⟩
end Go.Fs
