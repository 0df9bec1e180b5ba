/- Parts of the proof: an evaluator of the model, what it is sound for, and contracts of functions. No condition. -/
import Derived.Test.YthiofhkndpegjaaGreatDoorP6
import Derived.Test.YthiofhkndpegjaaGreatDoorP5
set_option linter.all false
namespace Go.Proofs
open Go.Fs Ieee
set_option linter.unusedVariables false
set_option maxHeartbeats 2000000
theorem zt55 : ZerT Tryz.prog 55 y55 := zerT_of (z := .agg #[.string ByteArray.empty, .int .i64 0, .slice none 0 0, .slice none 0 0]) (by kernel_rfl) rfl rfl
theorem zt59 : ZerT Tryz.prog 59 (.flt .f32) := zerT_of (z := .float .f32 0) (by kernel_rfl) rfl rfl
def canS (out : List (Int × Int)) (s : Int × Int) : List (Int × Int) :=
  if s.2 ≤ s.1 then out
  else if 0 < out.length ∧ s.1 ≤ (spX out (out.length - 1)).2 then out.set (out.length - 1) ((spX out (out.length - 1)).1, max (spX out (out.length - 1)).2 s.2)
  else out ++ [s]
def canE (l : List (Int × Int)) : List (Int × Int) := l.foldl canS []
theorem canE_snoc (l : List (Int × Int)) (s : Int × Int) : canE (l ++ [s]) = canS (canE l) s := by simp [canE]
theorem canE_next {l : List (Int × Int)} {j : Nat} (h : j < l.length) : canE (l.take (j + 1)) = canS (canE (l.take j)) l[j] := by
  rw [List.take_succ_eq_append_getElem h, canE_snoc]
theorem canS_len (out : List (Int × Int)) (s : Int × Int) : (canS out s).length ≤ out.length + 1 := by
  unfold canS
  split
  · omega
  split
  · rw [List.length_set]; omega
  rw [List.length_append, List.length_singleton]; omega
theorem foldl_len : ∀ (l out : List (Int × Int)), (l.foldl canS out).length ≤ out.length + l.length
  | [], out => by simp
  | s :: l, out => by
    have h1 := foldl_len l (canS out s)
    have h2 := canS_len out s
    rw [List.foldl_cons, List.length_cons]; omega
theorem canE_len (l : List (Int × Int)) : (canE l).length ≤ l.length := by
  have := foldl_len l []
  simpa [canE] using this
theorem canS_0 {out : List (Int × Int)} {s : Int × Int} (h : s.2 ≤ s.1) : canS out s = out := by rw [canS, if_pos h]
theorem canS_1 {out : List (Int × Int)} {s : Int × Int} (h : ¬ s.2 ≤ s.1) (h0 : 0 < out.length) (h1 : s.1 ≤ (spX out (out.length - 1)).2) : canS out s = out.set (out.length - 1) ((spX out (out.length - 1)).1, max (spX out (out.length - 1)).2 s.2) := by rw [canS, if_neg h, if_pos ⟨h0, h1⟩]
theorem canS_2 {out : List (Int × Int)} {s : Int × Int} (h : ¬ s.2 ≤ s.1) (h1 : ¬ (0 < out.length ∧ s.1 ≤ (spX out (out.length - 1)).2)) : canS out s = out ++ [s] := by rw [canS, if_neg h, if_neg h1]
def gapS (out : List (Int × Int)) (i : Nat) : List (Int × Int) :=
  if 0 < out.length ∧ (spX out (out.length - 1)).2 = (i : Int) then out.set (out.length - 1) ((spX out (out.length - 1)).1, (i : Int) + 1)
  else out ++ [((i : Int), (i : Int) + 1)]
def gapsE (l : List Bool) : Nat → List (Int × Int)
  | 0 => []
  | i + 1 => if l.getD i false = true then gapsE l i else gapS (gapsE l i) i
theorem gapS_len (out : List (Int × Int)) (i : Nat) : (gapS out i).length ≤ out.length + 1 := by
  unfold gapS
  split
  · rw [List.length_set]; omega
  rw [List.length_append, List.length_singleton]; omega
theorem gapsE_len (l : List Bool) : ∀ i, (gapsE l i).length ≤ i
  | 0 => Nat.le_refl _
  | i + 1 => by
    have h1 := gapsE_len l i
    have h2 := gapS_len (gapsE l i) i
    unfold gapsE
    split <;> omega
theorem gapS_1 {out : List (Int × Int)} {i : Nat} (h0 : 0 < out.length) (h1 : (spX out (out.length - 1)).2 = (i : Int)) : gapS out i = out.set (out.length - 1) ((spX out (out.length - 1)).1, (i : Int) + 1) := by rw [gapS, if_pos ⟨h0, h1⟩]
theorem gapS_2 {out : List (Int × Int)} {i : Nat} (h1 : ¬ (0 < out.length ∧ (spX out (out.length - 1)).2 = (i : Int))) : gapS out i = out ++ [((i : Int), (i : Int) + 1)] := by rw [gapS, if_neg h1]
def unitE (l : List Bool) : Nat → List (Int × Int)
  | 0 => []
  | i + 1 => if l.getD i false = true then unitE l i else unitE l i ++ [((i : Int), (i : Int) + 1)]
theorem unitE_t {l : List Bool} {i : Nat} (h : i < l.length) (hb : l[i] = true) : unitE l (i + 1) = unitE l i := by
  rw [unitE, if_pos (by rw [List.getD_eq_getElem?_getD, List.getElem?_eq_getElem h]; exact hb)]
theorem unitE_f {l : List Bool} {i : Nat} (h : i < l.length) (hb : ¬ l[i] = true) : unitE l (i + 1) = unitE l i ++ [((i : Int), (i : Int) + 1)] := by
  rw [unitE, if_neg (by rw [List.getD_eq_getElem?_getD, List.getElem?_eq_getElem h]; exact hb)]
theorem unitE_len (l : List Bool) : ∀ i, (unitE l i).length ≤ i
  | 0 => Nat.le_refl _
  | i + 1 => by
    have h1 := unitE_len l i
    unfold unitE
    split
    · omega
    rw [List.length_append, List.length_singleton]; omega
theorem spX_last_set {out : List (Int × Int)} {s : Int × Int} (h : 0 < out.length) : spX (out.set (out.length - 1) s) ((out.set (out.length - 1) s).length - 1) = s := by
  rw [spX_eq (by rw [List.length_set]; omega), List.getElem_set, if_pos (by rw [List.length_set])]
theorem spX_last_app {out : List (Int × Int)} {s : Int × Int} : spX (out ++ [s]) ((out ++ [s]).length - 1) = s := by
  rw [spX_eq (by simp), List.getElem_append_right (by simp)]; simp
theorem gaps_last (l : List Bool) : ∀ i, 0 < (gapsE l i).length → (spX (gapsE l i) ((gapsE l i).length - 1)).2 ≤ (i : Int)
  | 0 => fun h => absurd h (by simp [gapsE])
  | i + 1 => fun h => by
    unfold gapsE at h ⊢
    split at h
    · rename_i hb
      rw [if_pos hb] 
      have := gaps_last l i h
      omega
    rename_i hb
    rw [if_neg hb]
    unfold gapS
    split
    · rename_i hc
      rw [spX_last_set hc.1]; simp
    rw [spX_last_app]; simp
theorem unit_can (l : List Bool) : ∀ i, canE (unitE l i) = gapsE l i
  | 0 => rfl
  | i + 1 => by
    unfold unitE gapsE
    split
    · exact unit_can l i
    rw [canE_snoc, unit_can l i]
    have hl := gaps_last l i
    by_cases hc : 0 < (gapsE l i).length ∧ (spX (gapsE l i) ((gapsE l i).length - 1)).2 = (i : Int)
    · rw [gapS_1 hc.1 hc.2, canS_1 (by show ¬ ((i : Int) + 1 ≤ (i : Int)); omega) hc.1 (by show (i : Int) ≤ _; omega)]
      congr 2
      show max _ ((i : Int) + 1) = _
      omega
    rw [gapS_2 hc, canS_2 (by show ¬ ((i : Int) + 1 ≤ (i : Int)); omega) (fun hd => hc ⟨hd.1, by have := hl hd.1; have h2 : (i : Int) ≤ _ := hd.2; omega⟩)]
theorem spX_pre {l : List (Int × Int)} {n : Nat} (h0 : 0 < n) (h : ((n : Int) - 1).toNat < l.length) : l[((n : Int) - 1).toNat] = spX l (n - 1) := by
  have e : ((n : Int) - 1).toNat = n - 1 := by omega
  simp only [e] at h ⊢
  exact (spX_eq h).symm
theorem gCanonO_ok {w_xs : Value} {xs : List (Int × Int)} (hl : xs.length < 1000000) : VFG Tryz.prog OA 113 [.raw w_xs] [(w_xs, .row 39 y39 xs)] (fun r' g => r' = (.v y22 (canE xs)) ∧ g = []) := by
  refine VFG.enterC Tryz.func113 rfl (fun _ _ => rfl) rfl ?_
  show VC _ _ _ _ _ [(0, .raw w_xs)] [(w_xs, .row 39 y39 xs)] _
  refine VC.seq (VC.text ?_); refine VO.c (.assign rfl) ?_; refine VO.go (VC.seq (VC.text ?_)); refine VO.c (.assign rfl) ?_; refine VO.go (VC.seq (VC.seq (VC.text ?_))); refine VO.c (.move rfl) ?_; refine VO.r (.lenO m0 el22) ?_; refine VO.c (.move rfl) ?_; refine VO.go (VC.block ?_); refine VC.cell0 39 y39 ?_; refine VC.keep [(3, .raw (.slice none 0 0)), (7, .raw w_xs), (8, I ((xs.length : Nat) : Int)), (9, I ((0 : Nat) : Int))] ⟨rfl, rfl, rfl, rfl, trivial⟩ ?_; refine VC.loop (I := fun kk ff ss => ∃ (i : Nat) (out : Value), kk = xs.length - i ∧ ff = [(3, .raw out), (7, .raw w_xs), (8, I ((xs.length : Nat) : Int)), (9, I ((i : Nat) : Int))] ∧ ss = [(out, .row 39 y39 (canE (xs.take i))), (w_xs, .row 39 y39 xs)] ∧ (i ≤ xs.length) ∧ ((canE (xs.take i)).length ≤ i)) ?_ _ _ _ ⟨0, (.slice none 0 0), rfl, rfl, rfl, Nat.zero_le _, (by rw [List.take_zero]; exact Nat.le_refl _)⟩; rintro kk ff ss ⟨i, out, hk0, rfl, rfl, hi, hcl⟩; refine VC.seq (VC.text ?_); refine VO.c (.lss) ?_; refine VO.go (VC.seq ?_); refine VC.condD rfl (fun c3 => ?_) (fun c3 => ?_)
  · refine VC.skip (VC.seq (VC.block (VC.seq (VC.text ?_))))
    have e1 := canE_next (show i < xs.length by omega)
    refine VO.c (.ixO (j := i) rfl rfl m1 el22 (by omega)) ?_; refine VO.r (.ldO rfl m1 vt39 (by omega)) ?_; refine VO.cell (.alloc zt39) ?_; intro ww7; refine VO.setV (cs' := [I ((xs[i]).1), I ((xs[i]).2)]) vt39 .v ?_; refine VO.shut [(5, .p y39 (xs[i]))] (.cons rfl (.var m0 .refl) .nil) ?_; refine VO.go (VC.seq (VC.text ?_)); refine VO.c (.move rfl) ?_; refine VO.r (.lenO m0 el22) ?_; refine VO.c (.assign rfl) ?_; refine VO.go (VC.block (VC.seq (VC.text ?_))); refine VO.c (.fa (.l .o)) ?_; refine VO.r (.ld vt3) ?_; refine VO.c (.fa (.r .o)) ?_; refine VO.r (.ld vt3) ?_; refine VO.c (.geq) ?_; refine VO.c (.assign rfl) ?_; refine VO.go ?_; refine VC.condD rfl (fun c7 => ?_) (fun c7 => ?_)
    · have e3 := canS_0 (out := canE (xs.take i)) c7
      refine VC.skip (VC.text ?_); refine VO.c (.add rfl rfl (by omega)) ?_; refine VO.c (.move rfl) ?_; refine VO.nil ?_; refine ⟨_, [(3, .raw out), (7, .raw w_xs), (8, I ((xs.length : Nat) : Int)), (9, I (((i + 1) : Nat) : Int))], ?_, ⟨rfl, rfl, rfl, rfl, trivial⟩, (i + 1), out, rfl, rfl, (by first | (rw [e1, e3]; done) | (rw [e1, e3, e2]; simp only [e4]; done) | (rw [e1, e3]; rfl)), (by omega), (by exact Nat.le_trans (canE_len _) (List.length_take_le _ _))⟩
      omega
    refine VC.seq (VC.drawn ?_); refine VD.c (.move rfl) ?_; refine VD.c (.gtr) ?_; refine VD.c (.move rfl) ?_; refine VD.splitD (x := 28) rfl (fun g8_2 => ?_) (fun g8_2 => ?_)
    · refine VD.c (.move rfl) ?_; refine VD.c (.move rfl) ?_; refine VD.nw [] ?_; refine VD.c (.sub rfl rfl (by omega)) ?_; refine VD.co (.ixOZ (k := ((((canE (xs.take i)).length : Nat) : Int) - (1 : Int))) rfl rfl m0 el22 (by omega) (by omega)) ?_; refine VD.co (.faE (j := (Int.toNat ((((canE (xs.take i)).length : Nat) : Int) - (1 : Int)))) (k := 1) m0 (by omega)) ?_; refine VD.r [(out, .row 39 y39 (canE (xs.take i))), (w_xs, .row 39 y39 xs)] (.ldE (j := (Int.toNat ((((canE (xs.take i)).length : Nat) : Int) - (1 : Int)))) (k := 1) (by omega) (.r .o) rfl m0 vt3) (.inr ⟨rfl, rfl⟩) ?_; refine VD.c (.fa (.l .o)) ?_; refine VD.r [] (.ld vt3) (.inl rfl) ?_; refine VD.c (.geq) ?_; refine VD.nw [] ?_; refine VD.c (.pickT rfl rfl) ?_; refine VD.c (.assign rfl) ?_; refine VD.go ?_; refine VC.condD rfl (fun c8 => ?_) (fun c8 => ?_)
      · have h0 : 0 < (canE (xs.take i)).length := by omega
        have e2 := spX_pre (l := canE (xs.take i)) h0 (by omega)
        have e3 := canS_1 (out := canE (xs.take i)) c7 h0 (by rw [← e2]; exact c8)
        have e4 : ((((canE (xs.take i)).length : Nat) : Int) - (1 : Int)).toNat = (canE (xs.take i)).length - 1 := by omega
        refine VC.drawn ?_; refine VD.c (.move rfl) ?_; refine VD.c (.move rfl) ?_; refine VD.c (.sub rfl rfl (by omega)) ?_; refine VD.c (.move rfl) ?_; refine VD.c (.move rfl) ?_; refine VD.c (.sub rfl rfl (by omega)) ?_; refine VD.nw [] ?_; refine VD.co (.ixOZ (k := ((((canE (xs.take i)).length : Nat) : Int) - (1 : Int))) rfl rfl m0 el22 (by omega) (by omega)) ?_; refine VD.co (.faE (j := (Int.toNat ((((canE (xs.take i)).length : Nat) : Int) - (1 : Int)))) (k := 1) m0 (by omega)) ?_; refine VD.r [(out, .row 39 y39 (canE (xs.take i))), (w_xs, .row 39 y39 xs)] (.ldE (j := (Int.toNat ((((canE (xs.take i)).length : Nat) : Int) - (1 : Int)))) (k := 1) (by omega) (.r .o) rfl m0 vt3) (.inr ⟨rfl, rfl⟩) ?_; refine VD.c (.fa (.r .o)) ?_; refine VD.r [] (.ld vt3) (.inl rfl) ?_; refine VD.r [] (.max) (.inl rfl) ?_; refine VD.co (.ixOZ (k := ((((canE (xs.take i)).length : Nat) : Int) - (1 : Int))) rfl rfl m0 el22 (by omega) (by omega)) ?_; refine VD.nw [] ?_; refine VD.co (.faE (j := (Int.toNat ((((canE (xs.take i)).length : Nat) : Int) - (1 : Int)))) (k := 1) m0 (by omega)) ?_; refine VD.mk0 (MakeV.setEF (j := (Int.toNat ((((canE (xs.take i)).length : Nat) : Int) - (1 : Int)))) (k := 1) (dz := (((canE (xs.take i))[(Int.toNat ((((canE (xs.take i)).length : Nat) : Int) - (1 : Int)))]).1, (max (((canE (xs.take i))[(Int.toNat ((((canE (xs.take i)).length : Nat) : Int) - (1 : Int)))]).2) ((xs[i]).2)))) (by omega) vt3 (.r .o) rfl rfl) ?_; rintro _ _ tl8 ⟨rfl, rfl⟩; refine VD.nil ?_; refine VC.keep [(3, .raw out), (7, .raw w_xs), (8, I ((xs.length : Nat) : Int)), (9, I ((i : Nat) : Int))] ⟨rfl, rfl, rfl, rfl, trivial⟩ ?_; refine VC.text ?_; refine VO.c (.add rfl rfl (by omega)) ?_; refine VO.c (.move rfl) ?_; refine VO.nil ?_; refine ⟨_, [(3, .raw out), (7, .raw w_xs), (8, I ((xs.length : Nat) : Int)), (9, I (((i + 1) : Nat) : Int))], ?_, ⟨rfl, rfl, rfl, rfl, trivial⟩, (i + 1), out, rfl, rfl, (by first | (rw [e1, e3]; done) | (rw [e1, e3, e2]; simp only [e4]; done) | (rw [e1, e3]; rfl)), (by omega), (by exact Nat.le_trans (canE_len _) (List.length_take_le _ _))⟩
        omega
      have e3 := canS_2 (out := canE (xs.take i)) c7 (fun hh => by first | exact absurd hh.1 (by omega) | (rw [← spX_pre hh.1 (by omega)] at hh; exact c8 hh.2))
      refine VC.text ?_; refine VO.c (.move rfl) ?_; refine VO.r (.ld vt39) ?_; refine VO.new (.lit [xs[i]] el22) ?_; refine VO.app rfl rfl el22 el22 (by simp; omega) ?_; intro ww9; refine VO.c (.assign rfl) ?_; refine VO.nil ?_; refine VC.keep [(3, .raw ww9), (7, .raw w_xs), (8, I ((xs.length : Nat) : Int)), (9, I ((i : Nat) : Int))] ⟨rfl, rfl, rfl, rfl, trivial⟩ ?_; refine VC.text ?_; refine VO.c (.add rfl rfl (by omega)) ?_; refine VO.c (.move rfl) ?_; refine VO.nil ?_; refine ⟨_, [(3, .raw ww9), (7, .raw w_xs), (8, I ((xs.length : Nat) : Int)), (9, I (((i + 1) : Nat) : Int))], ?_, ⟨rfl, rfl, rfl, rfl, trivial⟩, (i + 1), ww9, rfl, rfl, (by first | (rw [e1, e3]; done) | (rw [e1, e3, e2]; simp only [e4]; done) | (rw [e1, e3]; rfl)), (by omega), (by exact Nat.le_trans (canE_len _) (List.length_take_le _ _))⟩
      omega
    have e3 := canS_2 (out := canE (xs.take i)) c7 (fun hh => absurd hh.1 (by omega))
    refine VD.skip ?_; refine VD.skip ?_; refine VD.nw [] ?_; refine VD.skip ?_; refine VD.skip ?_; refine VD.skip ?_; refine VD.skip ?_; refine VD.skip ?_; refine VD.skip ?_; refine VD.skip ?_; refine VD.nw [] ?_; refine VD.c (.pickF rfl rfl) ?_; refine VD.c (.assign rfl) ?_; refine VD.go ?_; refine VC.condF rfl ?_; refine VC.text ?_; refine VO.c (.move rfl) ?_; refine VO.r (.ld vt39) ?_; refine VO.new (.lit [xs[i]] el22) ?_; refine VO.app rfl rfl el22 el22 (by simp; omega) ?_; intro ww10; refine VO.c (.assign rfl) ?_; refine VO.nil ?_; refine VC.keep [(3, .raw ww10), (7, .raw w_xs), (8, I ((xs.length : Nat) : Int)), (9, I ((i : Nat) : Int))] ⟨rfl, rfl, rfl, rfl, trivial⟩ ?_; refine VC.text ?_; refine VO.c (.add rfl rfl (by omega)) ?_; refine VO.c (.move rfl) ?_; refine VO.nil ?_; refine ⟨_, [(3, .raw ww10), (7, .raw w_xs), (8, I ((xs.length : Nat) : Int)), (9, I (((i + 1) : Nat) : Int))], ?_, ⟨rfl, rfl, rfl, rfl, trivial⟩, (i + 1), ww10, rfl, rfl, (by first | (rw [e1, e3]; done) | (rw [e1, e3, e2]; simp only [e4]; done) | (rw [e1, e3]; rfl)), (by omega), (by exact Nat.le_trans (canE_len _) (List.length_take_le _ _))⟩
    omega
  refine VC.exit (VC.seq (VC.text ?_)); refine VO.c (.move rfl) ?_; refine VO.c (.assign rfl) ?_; refine VO.go ?_; refine VC.ret ?_; exact VEnd.one rfl (evC (.row m0)) (pvE (by rw [List.take_of_length_le (by omega)]))
def keptL (r : Rec1) (l : List Bool) (f : Nat → Nat) (n : Nat) : List Nat := (List.range r.2.2.1.length).map fun i => if i < n ∧ l.getD i false = true then f (r.2.2.1.getD i 0) else 0
theorem keptL_len {r : Rec1} {l : List Bool} {f : Nat → Nat} {n : Nat} : (keptL r l f n).length = r.2.2.1.length := by simp [keptL]
theorem keptL_at {r : Rec1} {l : List Bool} {f : Nat → Nat} {n i : Nat} (h : i < r.2.2.1.length) : (keptL r l f n)[i]'(by rw [keptL_len]; exact h) = if i < n ∧ l.getD i false = true then f (r.2.2.1.getD i 0) else 0 := by
  unfold keptL
  rw [List.getElem_map, List.getElem_range]
def plusZ (x : Nat) : Nat := (single.add x 0).getD 0
theorem u32_0 : u32 0 = some 0 := by decide +kernel
theorem plusZ_ok {x : Nat} (h : lvlE x = 0) : single.add x 0 = some (plusZ x) ∧ lvlE (plusZ x) = 0 ∧ u32 (plusZ x) = u32 x := by
  obtain ⟨h1, h2, h3⟩ := lvl_ok h
  obtain ⟨r, hr, hr2⟩ := add32 h1 u32_0 (by
    rw [Int.add_zero, Int.natAbs_mul]
    exact rep_small (n := (sxE x).natAbs) (j := 145) (by show _ < 2 ^ (23 + 1); omega) (by decide))
  have e : plusZ x = r := by rw [plusZ, hr] <;> rfl
  rw [Int.add_zero] at hr2
  rw [e]
  exact ⟨hr, (lvl_of hr2 h2 h3).1, by rw [hr2, h1]⟩
def keepL (r : Rec1) (l : List Bool) (n : Nat) : List Nat := (List.range r.2.2.1.length).map fun i => if i < n then (if l.getD i false = true then plusZ (r.2.2.1.getD i 0) else 0) else r.2.2.1.getD i 0
theorem keepL_len {r : Rec1} {l : List Bool} {n : Nat} : (keepL r l n).length = r.2.2.1.length := by simp [keepL]
theorem keepL_at {r : Rec1} {l : List Bool} {n i : Nat} (h : i < r.2.2.1.length) : (keepL r l n)[i]'(by rw [keepL_len]; exact h) = if i < n then (if l.getD i false = true then plusZ (r.2.2.1.getD i 0) else 0) else r.2.2.1.getD i 0 := by
  unfold keepL
  rw [List.getElem_map, List.getElem_range]
theorem getDat {α : Type} {l : List α} {i : Nat} {d : α} (h : i < l.length) : l.getD i d = l[i] := by
  rw [List.getD_eq_getElem?_getD, List.getElem?_eq_getElem h] <;> rfl
theorem keepL_0 {r : Rec1} {l : List Bool} : r.2.2.1 = keepL r l 0 := by
  refine List.ext_getElem (by rw [keepL_len]) fun i h1 h2 => ?_
  rw [keepL_at h1, if_neg (by omega), getDat h1]
theorem keepL_cur {r : Rec1} {l : List Bool} {n : Nat} (hn : n < r.2.2.1.length) (h : n < (keepL r l n).length) : (keepL r l n)[n] = r.2.2.1[n] := by
  rw [keepL_at hn, if_neg (by omega), getDat hn]
theorem keepL_s {r : Rec1} {l : List Bool} {n : Nat} (hn : n < r.2.2.1.length) : keepL r l (n + 1) = (keepL r l n).set n (if l.getD n false = true then plusZ (r.2.2.1.getD n 0) else 0) := by
  refine List.ext_getElem (by rw [List.length_set, keepL_len, keepL_len]) fun i h1 h2 => ?_
  rw [keepL_len] at h1
  rw [List.getElem_set, keepL_at h1]
  by_cases e : n = i
  · subst e
    rw [if_pos rfl, if_pos (by omega)]
  rw [if_neg e, keepL_at h1]
  exact ite_congr (propext ⟨fun hh => by omega, fun hh => by omega⟩) (fun _ => rfl) (fun _ => rfl)
theorem keepL_t {r : Rec1} {l : List Bool} {n : Nat} (hn : n < r.2.2.1.length) (h : n < l.length) (hb : l[n] = true) : keepL r l (n + 1) = (keepL r l n).set n (plusZ r.2.2.1[n]) := by
  rw [keepL_s hn, if_pos (by rw [getDat h]; exact hb), getDat hn]
theorem keepL_f {r : Rec1} {l : List Bool} {n : Nat} (hn : n < r.2.2.1.length) (h : n < l.length) (hb : l[n] = false) : keepL r l (n + 1) = (keepL r l n).set n 0 := by
  rw [keepL_s hn, if_neg (by rw [getDat h, hb]; exact Bool.false_ne_true)]
theorem keepL_all {r : Rec1} {l : List Bool} (h : l.length = r.2.2.1.length) : keepL r l l.length = keptL r l plusZ l.length := by
  refine List.ext_getElem (by rw [keepL_len, keptL_len]) fun i h1 h2 => ?_
  rw [keepL_len] at h1
  rw [keepL_at h1, keptL_at h1, if_pos (by omega)]
  exact ite_congr (propext ⟨fun hh => ⟨by omega, hh⟩, fun hh => hh.2⟩) (fun _ => rfl) (fun _ => rfl)
theorem gKeeping_ok {r : ByteArray × Int × (List Nat) × (List (Int × Int))} {l : List Bool} (hr : r.2.2.1.length < 1000000) (hl : l.length = r.2.2.1.length) (hv : ∀ x ∈ r.2.2.1, lvlE x = 0) : VF Tryz.prog OA 101 [.v y65 r, .v (.sl .bool) l] (.v y65 (r.1, r.2.1, keptL r l plusZ l.length, gapsE l l.length)) := by
  refine VF.enter Tryz.func101 rfl (fun _ _ => rfl) rfl ?_
  show VC _ _ _ _ _ [(0, .v y65 r), (1, .v (.sl .bool) l)] [] _
  refine VC.seq (VC.text ?_); refine VO.new (.box) ?_; refine VO.cell (.alloc zt65) ?_; intro ww17; refine VO.go (VC.seq (VC.drawn ?_)); refine VD.c (.fa (.l .o)) ?_; refine VD.r [] (.ld vt9) (.inl rfl) ?_; refine VD.c (.fa (.r (.l .o))) ?_; refine VD.r [] (.ld vt3) (.inl rfl) ?_; refine VD.c (.fa (.r (.r (.l .o)))) ?_; refine VD.r [] (.ld vt53) (.inl rfl) ?_; refine VD.nw [] ?_; refine VD.r [] (.len el53) (.inl rfl) ?_; refine VD.cell (.make (k := r.2.2.1.length) rfl rfl el53 zt59 (by omega)) ?_; intro ww18
  refine VD.one m0 fun ho19 => ?_
  refine VD.c (.buildR (cs := [St r.1, I r.2.1, .raw ww18, nilV]) bt65 rfl rfl (.cons (.v) rfl rfl (.cons (.v) rfl rfl (.cons (.w ho19) rfl rfl (.nil rfl))))) ?_; refine VD.cell (.alloc zt65) ?_; intro ww20; refine VD.mk0 (MakeV.setF (k := 0) vt65 (.aggs rfl (allC rfl (allC rfl (allC (p := .raw ww18) ho19 (allC rfl rfl))))) (Nat.le_of_ble_eq_true rfl) (.inr ⟨rfl, rfl⟩) rfl rfl) ?_; rintro _ _ tl21 ⟨rfl, rfl⟩; refine VD.go (VC.seq (VC.text ?_)); refine VO.c (.faO (k := 2) m0) ?_; refine VO.r (.ldF (k := 2) m0 vt53) ?_; refine VO.c (.fa (.r (.r (.l .o)))) ?_; refine VO.r (.ld vt53) ?_; refine VO.perm swap1 ?_; refine VO.copy rfl rfl el53 (by simp) ?_; refine VO.go (VC.seq (VC.seq (VC.text ?_))); refine VO.c (.move rfl) ?_; refine VO.r (.len el156) ?_; refine VO.c (.move rfl) ?_; refine VO.go (VC.block ?_); refine VC.cell0 39 y39 ?_; refine VC.keep [(4, .raw ww17), (5, .raw ww20), (22, .v (.sl .bool) l), (23, I ((l.length : Nat) : Int)), (24, I ((0 : Nat) : Int))] ⟨rfl, rfl, rfl, rfl, rfl, trivial⟩ ?_; refine VC.loop (I := fun kk ff ss => ∃ (i : Nat) (w : Value), kk = l.length - i ∧ ff = [(4, .raw ww17), (5, .raw ww20), (22, .v (.sl .bool) l), (23, I ((l.length : Nat) : Int)), (24, I ((i : Nat) : Int))] ∧ ss = [(w, .row 39 y39 (unitE l i)), (ww18, .row 59 (.flt .f32) (keepL r l i)), (ww20, .var [St r.1, I r.2.1, .raw ww18, .raw w]), (ww17, .var [St ByteArray.empty, I (0 : Int), .v y53 [], .v y22 []])] ∧ (i ≤ l.length) ∧ ((keepL r l i).length = r.2.2.1.length) ∧ ((unitE l i).length ≤ i)) ?_ _ _ _ ⟨0, (.slice none 0 0), rfl, rfl, (by rw [← keepL_0] <;> rfl), Nat.zero_le _, (by exact keepL_len), (by exact Nat.le_refl _)⟩; rintro kk ff ss ⟨i, w, hk0, rfl, rfl, hi, hkl, hul⟩; refine VC.seq (VC.text ?_); refine VO.c (.lss) ?_; refine VO.go (VC.seq ?_); refine VC.condD rfl (fun c4 => ?_) (fun c4 => ?_)
  · have hil : i < r.2.2.1.length := by omega
    have hkc := keepL_cur (r := r) (l := l) hil (by omega)
    have hpz : single.add ((keepL r l i)[i]'(by omega)) 0 = some (plusZ r.2.2.1[i]) := by rw [hkc]; exact (plusZ_ok (hv _ (List.getElem_mem hil))).1
    refine VC.skip (VC.seq (VC.block (VC.seq (VC.text ?_)))); refine VO.c (.move rfl) ?_; refine VO.c (.ix (j := i) rfl rfl el156 (by omega)) ?_; refine VO.r (.ld vt4) ?_; refine VO.c (.assign rfl) ?_; refine VO.c (.assign rfl) ?_; refine VO.go (VC.seq (VC.seq (VC.text ?_))); refine VO.c (.move rfl) ?_; refine VO.go ?_; refine VC.condB rfl (fun c6 => ?_) (fun c6 => ?_)
    · refine VC.seq (VC.text ?_); refine VO.c (.faO (k := 2) m2) ?_; refine VO.r (.ldF (k := 2) m2 vt53) ?_; refine VO.c (.move rfl) ?_; refine VO.c (.ixO (j := i) rfl rfl m1 el53 (by omega)) ?_; refine VO.r (.ldO rfl m1 vt59 (by omega)) ?_; refine VO.c (.fop (add32E hpz)) ?_; refine VO.c (.ixO (j := i) rfl rfl m1 el53 (by omega)) ?_; refine VO.perm swap1 ?_; refine VO.setE i rfl rfl vt59 (by omega) ?_; refine VO.go (VC.exit (VC.text ?_)); refine VO.c (.add rfl rfl (by omega)) ?_; refine VO.c (.move rfl) ?_; refine VO.perm swap3 ?_; refine VO.perm swap3 ?_; refine VO.perm swap2 ?_; refine VO.perm swap3 ?_; refine VO.nil ?_; refine ⟨_, [(4, .raw ww17), (5, .raw ww20), (22, .v (.sl .bool) l), (23, I ((l.length : Nat) : Int)), (24, I (((i + 1) : Nat) : Int))], ?_, ⟨rfl, rfl, rfl, rfl, rfl, trivial⟩, (i + 1), w, rfl, rfl, (by first | (rw [keepL_t (by omega) (by omega) c6, unitE_t (by omega) c6]; done) | (rw [keepL_f (by omega) (by omega) c6, unitE_f (by omega) (by rw [c6]; exact Bool.false_ne_true)]; done) | (rw [keepL_t (by omega) (by omega) c6, unitE_t (by omega) c6]; rfl) | (rw [keepL_f (by omega) (by omega) c6, unitE_f (by omega) (by rw [c6]; exact Bool.false_ne_true)]; rfl)), (by omega), (by exact keepL_len), (by exact unitE_len l _)⟩
      omega
    refine VC.skip (VC.seq (VC.text ?_)); refine VO.c (.faO (k := 2) m2) ?_; refine VO.r (.ldF (k := 2) m2 vt53) ?_; refine VO.c (.move rfl) ?_; refine VO.c (.ixO (j := i) rfl rfl m1 el53 (by omega)) ?_; refine VO.perm swap1 ?_; refine VO.setE i rfl rfl vt59 (by omega) ?_; refine VO.go (VC.text ?_); refine VO.c (.faO (k := 3) m2) ?_; refine VO.r (.ldF (k := 3) m2 vt22AP) ?_; refine VO.c (.move rfl) ?_; refine VO.c (.move rfl) ?_; refine VO.c (.add rfl rfl (by omega)) ?_; refine VO.c (.build (((i : Nat) : Int), (((i : Nat) : Int) + (1 : Int))) bt39) ?_; refine VO.new (.lit [(((i : Nat) : Int), (((i : Nat) : Int) + (1 : Int)))] el22) ?_; refine VO.perm swap1 ?_; refine VO.app rfl rfl el22 el22 (by simp; omega) ?_; intro ww22; refine VO.c (.faO (k := 3) m2) ?_; refine VO.perm swap2 ?_
    refine VO.one m1 fun ho23 => ?_
    refine VO.setF (cs' := [St r.1, I r.2.1, .raw ww18, .raw ww22]) 3 vt22AP (.raw rfl (agg_one ho23) ho23) ?_; refine VO.nil (VC.text ?_); refine VO.c (.add rfl rfl (by omega)) ?_; refine VO.c (.move rfl) ?_; refine VO.perm swap3 ?_; refine VO.perm swap1 ?_; refine VO.perm swap3 ?_; refine VO.perm swap3 ?_; refine VO.nil ?_; refine ⟨_, [(4, .raw ww17), (5, .raw ww20), (22, .v (.sl .bool) l), (23, I ((l.length : Nat) : Int)), (24, I (((i + 1) : Nat) : Int))], ?_, ⟨rfl, rfl, rfl, rfl, rfl, trivial⟩, (i + 1), ww22, rfl, rfl, (by first | (rw [keepL_t (by omega) (by omega) c6, unitE_t (by omega) c6]; done) | (rw [keepL_f (by omega) (by omega) c6, unitE_f (by omega) (by rw [c6]; exact Bool.false_ne_true)]; done) | (rw [keepL_t (by omega) (by omega) c6, unitE_t (by omega) c6]; rfl) | (rw [keepL_f (by omega) (by omega) c6, unitE_f (by omega) (by rw [c6]; exact Bool.false_ne_true)]; rfl)), (by omega), (by exact keepL_len), (by exact unitE_len l _)⟩
    omega
  refine VC.exit (VC.seq (VC.text ?_)); refine VO.c (.faO (k := 3) m2) ?_; refine VO.r (.ldF (k := 3) m2 vt22AP) ?_; refine VO.callG [(w, .row 39 y39 (unitE l i))] rfl rfl rfl (VFG.call (gCanonO_ok (Nat.lt_of_le_of_lt (unitE_len _ _) (by omega)))) ?_; rintro _ _ ⟨rfl, rfl⟩
  show VO _ _ _ _ _ _ [(ww18, .row 59 (.flt .f32) (keepL r l i)), (ww20, .var [St r.1, I r.2.1, .raw ww18, .raw w]), (ww17, .var [St ByteArray.empty, I (0 : Int), .v y53 [], .v y22 []])] _
  refine VO.c (.faO (k := 3) m1) ?_; refine VO.perm swap1 ?_; refine VO.setF (cs' := [St r.1, I r.2.1, .raw ww18, .v y22 (canE (unitE l i))]) 3 vt22AP .v ?_; refine VO.go (VC.seq ?_); refine VC.perm swap1 ?_; refine VC.shutL [(ww18, .row 59 (.flt .f32) (keepL r l i)), (ww20, .var [St r.1, I r.2.1, .raw ww18, .v y22 (canE (unitE l i))])] [(5, .p y65 (r.1, r.2.1, (keepL r l i), canE (unitE l i)))] rfl (.cons rfl (.var m1 (.cons .same (.cons .same (.cons (.row m0) (.cons .same .nil))))) .nil) ?_; refine VC.text ?_; refine VO.r (.ld vt65) ?_; refine VO.setV (cs' := [St r.1, I r.2.1, .v y53 (keepL r l i), .v y22 (canE (unitE l i))]) vt65 .v ?_; refine VO.go ?_; refine VC.ret ?_; exact VEnd.one rfl (.cell (x := (r.1, r.2.1, (keepL r l i), canE (unitE l i))) rfl m0 vt65 .refl) (pvE (by rw [show i = l.length by omega, unit_can, keepL_all hl] <;> rfl))
end Go.Proofs
namespace Go.Fs
variable {P : Program} {fl : VL} {σ : Sto} {T T' : TypeId} {x y : Operand} {p q : Int}
end Go.Fs
namespace Go.Fs
variable {P : Program} {orc : FuncId → List Value → Heap → Option (Value × Heap)} {h : Heap} {σ ρ : Sto} {fl : VL} {ops : Array Oper} {n i mem : Nat} {l : List Oper} {K : VL → Sto → Prop} {nw bs : List Nat} {tl : Bool} {hr : Heap} {S0 A : List Nat} {t : Tr} {rd chg : List Nat}
end Go.Fs
namespace Go.Proofs
open Go.Fs Ieee
set_option linter.unusedVariables false
set_option maxHeartbeats 400000

theorem rec_ok {r : Rec1} (h : recE r = 0) : (0 ≤ r.2.1 ∧ r.2.1 ≤ 100000) ∧ r.2.2.1.length ≤ 4096 ∧ r.2.2.2.length ≤ 2048 ∧ (∀ x ∈ r.2.2.1, lvlE x = 0) ∧ ∀ s ∈ r.2.2.2, 0 ≤ s.1 ∧ s.1 < s.2 ∧ s.2 ≤ (r.2.2.1.length : Nat) := by
  unfold recE at h
  split at h
  · rename_i h1; exact absurd h h1
  rename_i h1
  split at h
  · rename_i h2; exact absurd h h2
  rename_i h2
  split at h
  · cases h
  rename_i h3
  have h1 := firstE_zero.1 (Classical.not_not.1 h1)
  have h2 := bodyE_zero.1 (Classical.not_not.1 h2)
  have h4 := spans_canon h2.2
  have h5 := bey_f (by simpa using h3)
  have h6 := h1 (rangeE r.2.1 0 100000) (by simp)
  have h7 := h1 (whenE (decide ((4096 : Int) < (r.2.2.1.length : Nat))) 5) (by simp)
  have h6 : 0 ≤ r.2.1 ∧ r.2.1 ≤ 100000 := by
    unfold rangeE at h6
    split at h6
    · cases h6
    omega
  rw [whenE_zero (by decide), decide_eq_false_iff_not] at h7
  refine ⟨h6, by omega, h4.2, fun x hx => firstE_zero.1 h2.1 _ (List.mem_map.2 ⟨x, hx, rfl⟩), fun s hs => ?_⟩
  have h8 := h4.1.1 s hs
  exact ⟨h8.1, h8.2.1, h5 s hs⟩
def sameLv (a b : List Nat) : Bool := decide (a.length = b.length ∧ ∀ i, i < a.length → fcmpE .neq .f32 (a.getD i 0) (b.getD i 0) = false)
theorem rSameLv_ok {a : List Nat} {b : List Nat} (ha : a.length < 1000000) : VF Tryz.prog OA 67 [.v y53 a, .v y53 b] (B (sameLv a b)) := by
  refine VF.enter Tryz.func67 rfl (fun _ _ => rfl) rfl ?_
  show VC _ _ _ _ _ [(0, .v y53 a), (1, .v y53 b)] [] _
  refine VC.seq (VC.text ?_); refine VO.c (.assign rfl) ?_; refine VO.go (VC.seq (VC.seq (VC.text ?_))); refine VO.c (.move rfl) ?_; refine VO.r (.len el53) ?_; refine VO.c (.move rfl) ?_; refine VO.r (.len el53) ?_; refine VO.c (.neq) ?_; refine VO.go ?_; refine VC.condD rfl (fun c1 => ?_) (fun c1 => ?_)
  · have hne : ¬ a.length = b.length := by omega
    refine VC.seq (VC.text ?_); refine VO.c (.assign rfl) ?_; refine VO.go ?_; refine VC.ret ?_; exact VEnd.one rfl evT (pvE (by exact (decide_eq_false fun hh => hne hh.1).symm))
  have hle : a.length = b.length := by omega
  refine VC.skip (VC.seq (VC.seq (VC.text ?_))); refine VO.c (.assign rfl) ?_; refine VO.go (VC.block ?_); refine VC.keep [(0, .v y53 a), (1, .v y53 b), (5, I ((0 : Nat) : Int))] ⟨rfl, rfl, rfl, trivial⟩ ?_; refine VC.loop (I := fun kk ff ss => ∃ (i : Nat), kk = a.length - i ∧ ff = [(0, .v y53 a), (1, .v y53 b), (5, I ((i : Nat) : Int))] ∧ ss = [] ∧ (i ≤ a.length) ∧ (∀ j, j < i → fcmpE .neq .f32 (a.getD j 0) (b.getD j 0) = false)) ?_ _ _ _ ⟨0, rfl, rfl, rfl, Nat.zero_le _, (by intro j hj; omega)⟩; rintro kk ff ss ⟨i, hk0, rfl, rfl, hi, hn⟩; refine VC.seq (VC.seq (VC.text ?_)); refine VO.c (.move rfl) ?_; refine VO.c (.move rfl) ?_; refine VO.r (.len el53) ?_; refine VO.c (.lss) ?_; refine VO.go ?_; refine VC.condD rfl (fun c4 => ?_) (fun c4 => ?_)
  · have hi' : i < a.length := by omega
    refine VC.skip (VC.seq (VC.block (VC.seq (VC.drawn ?_)))); refine VD.c (.move rfl) ?_; refine VD.c (.move rfl) ?_; refine VD.c (.ix (j := i) rfl rfl el53 (by omega)) ?_; refine VD.r [] (.ld vt59) (.inl rfl) ?_; refine VD.c (.move rfl) ?_; refine VD.c (.move rfl) ?_; refine VD.nw [] ?_; refine VD.c (.ix (j := i) rfl rfl el53 (by omega)) ?_; refine VD.r [] (.ld vt59) (.inl rfl) ?_; refine VD.c (.fcmp .neq) ?_; refine VD.go ?_; refine VC.condB rfl (fun c6 => ?_) (fun c6 => ?_)
    · have c6' : fcmpE .neq .f32 (a.getD i 0) (b.getD i 0) = true := by simpa [hi', show i < b.length by omega] using c6
      refine VC.seq (VC.text ?_); refine VO.c (.assign rfl) ?_; refine VO.go ?_; refine VC.ret ?_; exact VEnd.one rfl evT (pvE (by exact (decide_eq_false fun hh => by rw [hh.2 i hi'] at c6'; cases c6').symm))
    have c6' : fcmpE .neq .f32 (a.getD i 0) (b.getD i 0) = false := by simpa [hi', show i < b.length by omega] using c6
    refine VC.skip (VC.text ?_); refine VO.c (.move rfl) ?_; refine VO.c (.add rfl rfl (by omega)) ?_; refine VO.c (.assign rfl) ?_; refine VO.nil ?_; refine ⟨_, [(0, .v y53 a), (1, .v y53 b), (5, I (((i + 1) : Nat) : Int))], ?_, ⟨rfl, rfl, rfl, trivial⟩, (i + 1), rfl, rfl, rfl, (by omega), (by intro j hj; rcases Nat.lt_succ_iff_lt_or_eq.1 hj with h | h; exact hn j h; subst h; exact c6')⟩
    omega
  refine VC.exit (VC.seq (VC.text ?_)); refine VO.c (.assign rfl) ?_; refine VO.go ?_; refine VC.ret ?_; exact VEnd.one rfl evT (pvE (by exact (decide_eq_true ⟨hle, fun j hj => hn j (by omega)⟩).symm))
def sameRec (a b : Rec1) : Bool := decide (a.1 = b.1) && decide (a.2.1 = b.2.1) && sameLv a.2.2.1 b.2.2.1 && decide (a.2.2.2 = b.2.2.2)
theorem rSameRec_ok {a : ByteArray × Int × (List Nat) × (List (Int × Int))} {b : ByteArray × Int × (List Nat) × (List (Int × Int))} (ha : a.2.2.1.length < 1000000) (ha2 : a.2.2.2.length < 1000000) (hb2 : b.2.2.2.length < 1000000) : VF Tryz.prog OA 66 [.v y55 a, .v y55 b] (B (sameRec a b)) := by
  refine VF.enter Tryz.func66 rfl (fun _ _ => rfl) rfl ?_
  show VC _ _ _ _ _ [(0, .v y55 a), (1, .v y55 b)] [] _
  refine VC.seq (VC.text ?_); refine VO.new (.box) ?_; refine VO.new (.box) ?_; refine VO.c (.assign rfl) ?_; refine VO.go (VC.seq (VC.text ?_)); refine VO.c (.fa (.l .o)) ?_; refine VO.r (.ld vt9) ?_; refine VO.c (.fa (.l .o)) ?_; refine VO.r (.ld vt9) ?_; refine VO.c (.seql) ?_; refine VO.c (.move rfl) ?_; refine VO.cg (r := decide (a.1 = b.1)) (w := true) [] trivial (fun _ => (.fa (.r (.l .o)))) ?_; refine VO.rg (r := decide (a.1 = b.1)) (w := true) [(11, .p (.int .i64) a.2.1)] ⟨rfl, trivial⟩ (fun _ => (.ld vt3)) ?_; refine VO.cg (r := decide (a.1 = b.1)) (w := true) [] trivial (fun _ => (.fa (.r (.l .o)))) ?_; refine VO.rg (r := decide (a.1 = b.1)) (w := true) [(13, .p (.int .i64) b.2.1)] ⟨rfl, trivial⟩ (fun _ => (.ld vt3)) ?_; refine VO.cg (r := decide (a.1 = b.1)) (w := true) [(12, I a.2.1), (14, I b.2.1)] ⟨rfl, rfl, trivial⟩ (fun _ => (.eql)) ?_; refine VO.c (.and) ?_; refine VO.c (.move rfl) ?_; refine VO.cg (r := ((decide (a.1 = b.1)) && (decide (a.2.1 = b.2.1)))) (w := true) [] trivial (fun _ => (.fa (.r (.r (.l .o))))) ?_; refine VO.rg (r := ((decide (a.1 = b.1)) && (decide (a.2.1 = b.2.1)))) (w := true) [(18, .p y53 a.2.2.1)] ⟨rfl, trivial⟩ (fun _ => (.ld vt53)) ?_; refine VO.cg (r := ((decide (a.1 = b.1)) && (decide (a.2.1 = b.2.1)))) (w := true) [] trivial (fun _ => (.fa (.r (.r (.l .o))))) ?_; refine VO.rg (r := ((decide (a.1 = b.1)) && (decide (a.2.1 = b.2.1)))) (w := true) [(20, .p y53 b.2.2.1)] ⟨rfl, trivial⟩ (fun _ => (.ld vt53)) ?_; refine VO.callg (r0 := ((decide (a.1 = b.1)) && (decide (a.2.1 = b.2.1)))) (w := true) [(19, .v y53 a.2.2.1), (21, .v y53 b.2.2.1)] ⟨rfl, rfl, trivial⟩ rfl rfl .same .refl rfl (fun hgd => have g1_12 : ((decide (a.1 = b.1)) && (decide (a.2.1 = b.2.1))) = true := (by simpa using hgd); VF.call (rSameLv_ok (by first | assumption | omega | simp))) ?_; refine VO.c (.and) ?_; refine VO.c (.move rfl) ?_; refine VO.cg (r := (((decide (a.1 = b.1)) && (decide (a.2.1 = b.2.1))) && (sameLv a.2.2.1 b.2.2.1))) (w := true) [] trivial (fun _ => (.fa (.r (.r (.r (k := 0) .o))))) ?_; refine VO.rg (r := (((decide (a.1 = b.1)) && (decide (a.2.1 = b.2.1))) && (sameLv a.2.2.1 b.2.2.1))) (w := true) [(25, .p y22 a.2.2.2)] ⟨rfl, trivial⟩ (fun _ => (.ld vt22AP)) ?_; refine VO.cg (r := (((decide (a.1 = b.1)) && (decide (a.2.1 = b.2.1))) && (sameLv a.2.2.1 b.2.2.1))) (w := true) [] trivial (fun _ => (.fa (.r (.r (.r (k := 0) .o))))) ?_; refine VO.rg (r := (((decide (a.1 = b.1)) && (decide (a.2.1 = b.2.1))) && (sameLv a.2.2.1 b.2.2.1))) (w := true) [(27, .p y22 b.2.2.2)] ⟨rfl, trivial⟩ (fun _ => (.ld vt22AP)) ?_; refine VO.callg (r0 := (((decide (a.1 = b.1)) && (decide (a.2.1 = b.2.1))) && (sameLv a.2.2.1 b.2.2.1))) (w := true) [(26, .v y22 a.2.2.2), (28, .v y22 b.2.2.2)] ⟨rfl, rfl, trivial⟩ rfl rfl .same .refl rfl (fun hgd => have g1_19 : (((decide (a.1 = b.1)) && (decide (a.2.1 = b.2.1))) && (sameLv a.2.2.1 b.2.2.1)) = true := (by simpa using hgd); VF.call (rSameSp_ok (by first | assumption | omega | simp) (by first | assumption | omega | simp))) ?_; refine VO.c (.and) ?_; refine VO.c (.assign rfl) ?_; refine VO.go ?_; refine VC.ret ?_; exact VEnd.one rfl evT (pvE (by first | rfl | simp [sameRec, *]))
theorem lOwn_ok {r : ByteArray × Int × (List Nat) × (List (Int × Int))} : VF Tryz.prog OA 65 [.v y65 r] (.v y55 r) := by
  refine VF.enter Tryz.func65 rfl (fun _ _ => rfl) rfl ?_
  show VC _ _ _ _ _ [(0, .v y65 r)] [] _
  refine VC.seq (VC.text ?_); refine VO.new (.box) ?_; refine VO.cell (.alloc zt55) ?_; intro ww1; refine VO.go (VC.seq (VC.text ?_)); refine VO.r (.ld vt65) ?_; refine VO.setV (cs' := [St r.1, I r.2.1, .v y53 r.2.2.1, .v y22 r.2.2.2]) vt55 .v ?_; refine VO.go ?_; refine VC.ret ?_; exact VEnd.one rfl (.cell (x := r) rfl m0 vt55 .refl) (pvE (by rfl))
def zRec : Rec1 := (ByteArray.empty, 0, [], [])
def recB (r : Rec1) (i : Int) : Bool := decide (0 ≤ i) && decide (i < (r.2.2.1.length : Nat)) && !Sp.inL r.2.2.2 i
theorem recB_in {r : Rec1} {i : Nat} (h : i < r.2.2.1.length) : recB r i = !Sp.inL r.2.2.2 i := by
  unfold recB
  rw [decide_eq_true (show (0 : Int) ≤ (i : Int) by omega), decide_eq_true (show (i : Int) < (r.2.2.1.length : Nat) by omega)] <;> rfl
def both (a b : Rec1) : Rec1 := (a.1, a.2.1, a.2.2.1 ++ b.2.2.1, [])
end Go.Proofs
namespace Go.Proofs
open Go.Fs
set_option linter.unusedVariables false
set_option maxHeartbeats 2000000

def nextX (x : Int) : Int := (742938285 * x).tmod 2147483647
theorem next_ok {x : Int} (h0 : 0 ≤ x) : 0 ≤ nextX x ∧ nextX x < 2147483647 := by
  unfold nextX
  rw [Int.tmod_eq_emod_of_nonneg (by omega)]
  omega
theorem rangeE_zero {n lo hi : Int} : rangeE n lo hi = 0 ↔ lo ≤ n ∧ n ≤ hi := by
  unfold rangeE
  split
  · exact ⟨fun h => absurd h (by decide), fun h => by omega⟩
  exact ⟨fun _ => by omega, fun _ => rfl⟩
end Go.Proofs
namespace Go.Proofs
open Go.Fs
set_option linter.unusedVariables false
set_option maxHeartbeats 2000000
end Go.Proofs
namespace Go.Proofs
open Go.Fs Ieee
set_option linter.unusedVariables false
set_option maxHeartbeats 400000

def levE (r : Rec1) (i : Nat) : Nat := r.2.2.1.getD i 0
theorem levE_at {r : Rec1} {i : Nat} (h : i < r.2.2.1.length) : levE r i = r.2.2.1[i] := getDat h
end Go.Proofs
namespace Go.Proofs
open Go.Fs Ieee
set_option linter.unusedVariables false
set_option maxHeartbeats 400000
theorem thereE_at {r : Rec1} {i : Nat} (h : i < r.2.2.1.length) (h2 : i < (thereE r).length) : (thereE r)[i] = recB r i := by
  rw [recB_in h]
  exact offB_at h
theorem thereE_len {r : Rec1} : (thereE r).length = r.2.2.1.length := offB_len
end Go.Proofs
namespace Go.Proofs
open Go.Fs Ieee
set_option linter.unusedVariables false
set_option maxHeartbeats 400000
theorem range14 {w : Int} (h : rangeE w 1 4096 = 0) : 1 ≤ w ∧ w ≤ 4096 := by
  unfold rangeE at h
  split at h
  · cases h
  omega
end Go.Proofs
namespace Go.Fs
variable {P : Program} {h : Heap} {S : List Nat}
variable {fl : VL} {σ : Sto} {x y : Operand} {T T' : TypeId} {τ : Ty}
end Go.Fs
namespace Go.Proofs
open Go.Fs Ieee
set_option linter.unusedVariables false
set_option maxHeartbeats 400000
end Go.Proofs
namespace Go.Proofs
open Go.Fs Ieee
set_option linter.unusedVariables false
set_option maxHeartbeats 400000
end Go.Proofs
namespace Go.Proofs
open Go.Fs Ieee
set_option linter.unusedVariables false
set_option maxHeartbeats 400000

end Go.Proofs
namespace Go.Proofs
open Go.Fs Ieee
set_option linter.unusedVariables false
set_option maxHeartbeats 400000

def lev16 (r : Rec1) (i : Nat) : Int := sxE (levE r i)
def stuckB (r : Rec1) (a : Int) (old : List Bool) (i : Nat) : Bool := decide (∀ j, j < i + 1 → (i : Int) - a ≤ (j : Int) → old.getD j false = true ∧ lev16 r j = lev16 r i)
def rmvE (r : Rec1) (x : Rul1) (old now : List Bool) (i : Nat) : Bool :=
  if x.1 = sRange then decide (lev16 r i < x.2.1) || decide (x.2.2 < lev16 r i)
  else if x.1 = sJump then !(decide (i = 0) || !now.getD (i - 1) false) && decide (x.2.1 < max (lev16 r i - lev16 r (i - 1)) (0 - (lev16 r i - lev16 r (i - 1))))
  else !decide ((i : Int) < x.2.1) && stuckB r x.2.1 old i
theorem lev16_at {r : Rec1} {i : Nat} (h : i < r.2.2.1.length) : lev16 r i = sxE r.2.2.1[i] := by unfold lev16; rw [levE_at h]
theorem neq_lv {x y : Nat} (hx : lvlE x = 0) (hy : lvlE y = 0) : fcmpE .neq .f32 x y = decide (sxE x ≠ sxE y) := by
  rw [(fcmp32 (lvl_ok hx).1 (lvl_ok hy).1).2.1]
  exact decide_eq_decide.2 ⟨fun h e => h (by rw [e]), fun h e => h (by omega)⟩
theorem at_pre {α : Type} {l : List α} {i : Nat} {d : α} (h0 : i ≠ 0) (h : ((i : Int) - 1).toNat < l.length) : l[((i : Int) - 1).toNat] = l.getD (i - 1) d := by
  have e : ((i : Int) - 1).toNat = i - 1 := by omega
  simp only [e] at h ⊢
  exact (getDat h).symm
theorem stuck_of {x : Rul1} (h : ruleE x = 0) (h1 : ¬ x.1 = sRange) (h2 : ¬ x.1 = sJump) : x.1 = sStuck ∧ 1 ≤ x.2.1 ∧ x.2.1 ≤ 4096 := by
  unfold ruleE at h
  rw [if_neg h1, if_neg h2] at h
  split at h
  · rename_i h3
    exact ⟨h3, range14 (firstE_zero.1 h _ (by simp))⟩
  cases h
theorem jump_no {i : Nat} {now : List Bool} (h : (i : Int) = 0 ∨ now.getD ((i : Int) - 1).toNat false = false) {b : Bool} : (!(decide (i = 0) || !now.getD (i - 1) false) && b) = false := by
  rcases h with h | h
  · rw [decide_eq_true (show i = 0 by omega)] <;> rfl
  rw [show ((i : Int) - 1).toNat = i - 1 by omega] at h
  rw [h]; simp
theorem jump_yes {i : Nat} {now : List Bool} (h0 : i ≠ 0) (h : ¬ (i : Int) = 0 ∧ now.getD ((i : Int) - 1).toNat false = true) {b : Bool} : (!(decide (i = 0) || !now.getD (i - 1) false) && b) = b := by
  have h := h.2
  rw [show ((i : Int) - 1).toNat = i - 1 by omega] at h
  rw [h, decide_eq_false h0]; simp
end Go.Proofs
namespace Go.Proofs
open Go.Fs Ieee
set_option linter.unusedVariables false
set_option maxHeartbeats 400000

def stepR (r : Rec1) (x : Rul1) (n : Int) (old : List Bool) (S : List Int × List Bool) (i : Nat) : List Int × List Bool :=
  if (old.getD i false && rmvE r x old S.2 i) = true then (S.1.set i n, S.2.set i false) else S
def runR (r : Rec1) (x : Rul1) (n : Int) (S : List Int × List Bool) : Nat → List Int × List Bool
  | 0 => S
  | i + 1 => stepR r x n S.2 (runR r x n S i) i
def rulX (l : List Rul1) (k : Nat) : Rul1 := l.getD k (ByteArray.empty, 0, 0)
theorem rulX_eq {l : List Rul1} {k : Nat} (h : k < l.length) : rulX l k = l[k] := getDat h
def reaS (r : Rec1) (l : List Rul1) : Nat → List Int × List Bool
  | 0 => (List.replicate r.2.2.1.length 0, thereE r)
  | k + 1 => runR r (rulX l k) ((k : Int) + 1) (reaS r l k) r.2.2.1.length
theorem stepR_len {r : Rec1} {x : Rul1} {n : Int} {old : List Bool} {S : List Int × List Bool} {i m : Nat} (h : S.1.length = m ∧ S.2.length = m) : (stepR r x n old S i).1.length = m ∧ (stepR r x n old S i).2.length = m := by
  unfold stepR
  split
  · exact ⟨by rw [List.length_set]; exact h.1, by rw [List.length_set]; exact h.2⟩
  exact h
theorem runR_len {r : Rec1} {x : Rul1} {n : Int} {S : List Int × List Bool} {m : Nat} (h : S.1.length = m ∧ S.2.length = m) : ∀ i : Nat, (runR r x n S i).1.length = m ∧ (runR r x n S i).2.length = m
  | 0 => h
  | i + 1 => stepR_len (runR_len h i)
theorem runR_t {r : Rec1} {x : Rul1} {n : Int} {S : List Int × List Bool} {i : Nat} (hb : S.2.getD i false = true) (hc : rmvE r x S.2 (runR r x n S i).2 i = true) : runR r x n S (i + 1) = ((runR r x n S i).1.set i n, (runR r x n S i).2.set i false) := by
  show stepR r x n S.2 (runR r x n S i) i = _
  unfold stepR
  rw [hb, hc] <;> rfl
theorem runR_f {r : Rec1} {x : Rul1} {n : Int} {S : List Int × List Bool} {i : Nat} (h : S.2.getD i false = false ∨ rmvE r x S.2 (runR r x n S i).2 i = false) : runR r x n S (i + 1) = runR r x n S i := by
  show stepR r x n S.2 (runR r x n S i) i = _
  unfold stepR
  rcases h with h | h
  · rw [h] <;> rfl
  rw [h, Bool.and_false] <;> rfl
theorem reaS_len {r : Rec1} {l : List Rul1} : ∀ k : Nat, (reaS r l k).1.length = r.2.2.1.length ∧ (reaS r l k).2.length = r.2.2.1.length
  | 0 => ⟨List.length_replicate, thereE_len⟩
  | k + 1 => runR_len (reaS_len k) _
end Go.Proofs
namespace Go.Proofs
open Go.Fs Ieee
set_option linter.unusedVariables false
set_option maxHeartbeats 400000

end Go.Proofs
namespace Go.Proofs
open Go.Fs Ieee
set_option linter.unusedVariables false
set_option maxHeartbeats 400000

def rmv2 (r : Rec1) (x : Rul1) (i : Nat) : Bool := decide (lev16 r i < x.2.1) || decide (x.2.2 < lev16 r i)
def rmv4 (r : Rec1) (x : Rul1) (now : List Bool) (i : Nat) : Bool := !(decide (i = 0) || !now.getD (i - 1) false) && decide (x.2.1 < max (lev16 r i - lev16 r (i - 1)) (-(lev16 r i - lev16 r (i - 1))))
def stuckP (r : Rec1) (a : Int) (old : List Bool) (i : Nat) : Bool := decide (∀ j, j < i → (i : Int) - a ≤ (j : Int) → old.getD j false = true ∧ lev16 r j = lev16 r i)
def rmv6 (r : Rec1) (x : Rul1) (old : List Bool) (i : Nat) : Bool := !decide ((i : Int) < x.2.1) && stuckP r x.2.1 old i
theorem stuck_P {r : Rec1} {a : Int} {old : List Bool} {i : Nat} (h : old.getD i false = true) : stuckP r a old i = stuckB r a old i :=
  decide_eq_decide.2 ⟨fun hh j h1 h2 => if e : j = i then (by subst e; exact ⟨h, rfl⟩) else hh j (by omega) h2, fun hh j h1 h2 => hh j (by omega) h2⟩
theorem gK2_ok {x : ByteArray × Int × Int} {r : ByteArray × Int × (List Nat) × (List (Int × Int))} {i : Nat} {old : List Bool} {now : List Bool} (hi : i < r.2.2.1.length) (hl : r.2.2.1.length ≤ 4096) (hv : ∀ y ∈ r.2.2.1, lvlE y = 0) : VF Tryz.prog OA 139 [.v y126 x, .v y65 r, I ((i : Nat) : Int), .v (.sl .bool) old, .v (.sl .bool) now] (B (rmv2 r x i)) := by
  refine VF.enter Tryz.func139 rfl (fun _ _ => rfl) rfl ?_
  show VC _ _ _ _ _ [(0, .v y126 x), (1, .v y65 r), (2, I ((i : Nat) : Int)), (3, .v (.sl .bool) old), (4, .v (.sl .bool) now)] [] _
  refine VC.seq (VC.text ?_)
  have hvi := hv _ (List.getElem_mem hi)
  have hli := lev16_at hi
  refine VO.new (.box) ?_; refine VO.new (.box) ?_; refine VO.c (.assign rfl) ?_; refine VO.go (VC.seq (VC.text ?_)); refine VO.c (.fa (.r (.r (.l .o)))) ?_; refine VO.r (.ld vt53) ?_; refine VO.c (.move rfl) ?_; refine VO.c (.ix (j := i) rfl rfl el53 (by omega)) ?_; refine VO.r (.ld vt59) ?_; refine VO.call rfl rfl (VF.call (gSixL_ok (by first | assumption | omega | simp))) ?_; refine VO.c (.assign rfl) ?_; refine VO.go (VC.seq (VC.text ?_)); refine VO.c (.move rfl) ?_; refine VO.c (.fa (.r (.l .o))) ?_; refine VO.r (.ld vt3) ?_; refine VO.c (.lss) ?_; refine VO.c (.move rfl) ?_; refine VO.cg (r := decide (sxE (r.2.2.1[i]) < x.2.1)) (w := false) [] trivial (fun _ => (.move rfl)) ?_; refine VO.cg (r := decide (sxE (r.2.2.1[i]) < x.2.1)) (w := false) [] trivial (fun _ => (.fa (.r (.r (k := 0) .o)))) ?_; refine VO.rg (r := decide (sxE (r.2.2.1[i]) < x.2.1)) (w := false) [(24, .p (.int .i64) x.2.2)] ⟨rfl, trivial⟩ (fun _ => (.ld vt3)) ?_; refine VO.cg (r := decide (sxE (r.2.2.1[i]) < x.2.1)) (w := false) [(23, I (sxE (r.2.2.1[i]))), (25, I x.2.2)] ⟨rfl, rfl, trivial⟩ (fun _ => (.gtr)) ?_; refine VO.c (.or) ?_; refine VO.c (.assign rfl) ?_; refine VO.go ?_; refine VC.ret ?_; exact VEnd.one rfl evT (pvE (by rw [rmv2, hli] <;> rfl))
theorem gK4_ok {x : ByteArray × Int × Int} {r : ByteArray × Int × (List Nat) × (List (Int × Int))} {i : Nat} {old : List Bool} {now : List Bool} (hi : i < r.2.2.1.length) (hl : r.2.2.1.length ≤ 4096) (hn : now.length = r.2.2.1.length) (hv : ∀ y ∈ r.2.2.1, lvlE y = 0) : VF Tryz.prog OA 141 [.v y126 x, .v y65 r, I ((i : Nat) : Int), .v (.sl .bool) old, .v (.sl .bool) now] (B (rmv4 r x now i)) := by
  refine VF.enter Tryz.func141 rfl (fun _ _ => rfl) rfl ?_
  show VC _ _ _ _ _ [(0, .v y126 x), (1, .v y65 r), (2, I ((i : Nat) : Int)), (3, .v (.sl .bool) old), (4, .v (.sl .bool) now)] [] _
  refine VC.seq (VC.text ?_)
  have hvi := hv _ (List.getElem_mem hi)
  have hli := lev16_at hi
  have hrg := lvl_ok hvi
  refine VO.new (.box) ?_; refine VO.new (.box) ?_; refine VO.c (.assign rfl) ?_; refine VO.go (VC.seq (VC.seq (VC.text ?_))); refine VO.c (.move rfl) ?_; refine VO.c (.eql) ?_; refine VO.c (.move rfl) ?_; refine VO.cg (r := decide (((i : Nat) : Int) = (0 : Int))) (w := false) [] trivial (fun _ => (.move rfl)) ?_; refine VO.cg (r := decide (((i : Nat) : Int) = (0 : Int))) (w := false) [] trivial (fun _ => (.move rfl)) ?_; refine VO.cg (r := decide (((i : Nat) : Int) = (0 : Int))) (w := false) [(16, I ((i : Nat) : Int))] ⟨rfl, trivial⟩ (fun hgd => have g1_2 : ¬ (((i : Nat) : Int) = (0 : Int)) := (by simpa using hgd); (.sub rfl rfl (by omega))) ?_; refine VO.cg (r := decide (((i : Nat) : Int) = (0 : Int))) (w := false) [(15, .v (.sl .bool) now), (17, I (((i : Nat) : Int) - (1 : Int)))] ⟨rfl, rfl, trivial⟩ (fun hgd => have g1_2 : ¬ (((i : Nat) : Int) = (0 : Int)) := (by simpa using hgd); (.ixZD rfl rfl false el156 (by omega) (by omega))) ?_; refine VO.rg (r := decide (((i : Nat) : Int) = (0 : Int))) (w := false) [(18, .p .bool (now.getD ((((i : Nat) : Int) - (1 : Int))).toNat false))] ⟨rfl, trivial⟩ (fun _ => (.ld vt4)) ?_; refine VO.cg (r := decide (((i : Nat) : Int) = (0 : Int))) (w := false) [(19, B (now.getD ((((i : Nat) : Int) - (1 : Int))).toNat false))] ⟨rfl, trivial⟩ (fun _ => (.not)) ?_; refine VO.c (.or) ?_; refine VO.go ?_; refine VC.condB rfl (fun c1 => ?_) (fun c1 => ?_)
  · try simp only [Bool.and_eq_true, Bool.or_eq_true, Bool.and_eq_false_iff, Bool.or_eq_false_iff, Bool.not_eq_true', Bool.not_eq_false', decide_eq_true_eq, decide_eq_false_iff_not] at c1
    refine VC.seq (VC.text ?_); refine VO.c (.assign rfl) ?_; refine VO.go ?_; refine VC.ret ?_; exact VEnd.one rfl evT (pvE (by rw [rmv4, jump_no c1]))
  try simp only [Bool.and_eq_true, Bool.or_eq_true, Bool.and_eq_false_iff, Bool.or_eq_false_iff, Bool.not_eq_true', Bool.not_eq_false', decide_eq_true_eq, decide_eq_false_iff_not] at c1
  have h0 : i ≠ 0 := fun h => by simp [h] at c1
  have hpl : ((i : Int) - 1).toNat < r.2.2.1.length := by omega
  have hvp := hv _ (List.getElem_mem hpl)
  have hrp := lvl_ok hvp
  have hlp : sxE (r.2.2.1[((i : Int) - 1).toNat]) = lev16 r (i - 1) := by rw [at_pre (d := 0) h0 hpl] <;> rfl
  refine VC.skip (VC.seq (VC.drawn ?_)); refine VD.c (.fa (.r (.r (.l .o)))) ?_; refine VD.r [] (.ld vt53) (.inl rfl) ?_; refine VD.c (.move rfl) ?_; refine VD.c (.ix (j := i) rfl rfl el53 (by omega)) ?_; refine VD.r [] (.ld vt59) (.inl rfl) ?_; refine VD.call rfl rfl (VF.call (gSixL_ok (by first | assumption | omega | simp))) ?_; refine VD.nw [] ?_; refine VD.c (.fa (.r (.r (.l .o)))) ?_; refine VD.r [] (.ld vt53) (.inl rfl) ?_; refine VD.c (.move rfl) ?_; refine VD.c (.sub rfl rfl (by omega)) ?_; refine VD.c (.ixZ (k := (((i : Nat) : Int) - (1 : Int))) rfl rfl el53 (by omega) (by omega)) ?_; refine VD.r [] (.ld vt59) (.inl rfl) ?_; refine VD.call rfl rfl (VF.call (gSixL_ok (by first | assumption | omega | simp))) ?_; refine VD.nw [] ?_; refine VD.c (.sub rfl rfl (by omega)) ?_; refine VD.c (.assign rfl) ?_; refine VD.go (VC.seq (VC.text ?_)); refine VO.c (.move rfl) ?_; refine VO.c (.move rfl) ?_; refine VO.c (.neg rfl (by omega)) ?_; refine VO.r (.max) ?_; refine VO.c (.fa (.r (.l .o))) ?_; refine VO.r (.ld vt3) ?_; refine VO.c (.gtr) ?_; refine VO.c (.assign rfl) ?_; refine VO.go ?_; refine VC.ret ?_; exact VEnd.one rfl evT (pvE (by rw [rmv4, hlp, hli, jump_yes h0 c1] <;> rfl))
theorem gK6_ok {x : ByteArray × Int × Int} {r : ByteArray × Int × (List Nat) × (List (Int × Int))} {i : Nat} {old : List Bool} {now : List Bool} (hi : i < r.2.2.1.length) (hl : r.2.2.1.length ≤ 4096) (ho : old.length = r.2.2.1.length) (hA : 1 ≤ x.2.1 ∧ x.2.1 ≤ 4096) (hv : ∀ y ∈ r.2.2.1, lvlE y = 0) : VF Tryz.prog OA 143 [.v y126 x, .v y65 r, I ((i : Nat) : Int), .v (.sl .bool) old, .v (.sl .bool) now] (B (rmv6 r x old i)) := by
  refine VF.enter Tryz.func143 rfl (fun _ _ => rfl) rfl ?_
  show VC _ _ _ _ _ [(0, .v y126 x), (1, .v y65 r), (2, I ((i : Nat) : Int)), (3, .v (.sl .bool) old), (4, .v (.sl .bool) now)] [] _
  refine VC.seq (VC.text ?_)
  have hvi := hv _ (List.getElem_mem hi)
  have hli := lev16_at hi
  refine VO.new (.box) ?_; refine VO.new (.box) ?_; refine VO.c (.assign rfl) ?_; refine VO.go (VC.seq (VC.seq (VC.text ?_))); refine VO.c (.move rfl) ?_; refine VO.c (.fa (.r (.l .o))) ?_; refine VO.r (.ld vt3) ?_; refine VO.c (.lss) ?_; refine VO.go ?_; refine VC.condD rfl (fun c1 => ?_) (fun c1 => ?_)
  · refine VC.seq (VC.text ?_); refine VO.c (.assign rfl) ?_; refine VO.go ?_; refine VC.ret ?_; exact VEnd.one rfl evT (pvE (by rw [rmv6, decide_eq_true c1] <;> rfl))
  refine VC.skip (VC.seq (VC.seq (VC.text ?_))); refine VO.c (.move rfl) ?_; refine VO.c (.fa (.r (.l .o))) ?_; refine VO.r (.ld vt3) ?_; refine VO.c (.sub rfl rfl (by omega)) ?_; refine VO.c (.assign rfl) ?_; refine VO.go (VC.block ?_); refine VC.keep [(2, I ((i : Nat) : Int)), (3, .v (.sl .bool) old), (6, .p y65 r), (11, I (((((i : Int) - x.2.1).toNat) : Nat) : Int))] ⟨rfl, rfl, rfl, slI rfl (by omega), trivial⟩ ?_; refine VC.loop (I := fun kk ff ss => ∃ (k : Nat), kk = i + 1 - k ∧ ff = [(2, I ((i : Nat) : Int)), (3, .v (.sl .bool) old), (6, .p y65 r), (11, I ((k : Nat) : Int))] ∧ ss = [] ∧ ((i : Int) - x.2.1 ≤ (k : Int)) ∧ (∀ j, j < k → (i : Int) - x.2.1 ≤ (j : Int) → old.getD j false = true ∧ lev16 r j = lev16 r i)) ?_ _ _ _ ⟨((i : Int) - x.2.1).toNat, rfl, rfl, rfl, (by omega), (by exact fun j h1 h2 => absurd h1 (by omega))⟩; rintro kk ff ss ⟨k, hk0, rfl, rfl, hk0, hall⟩; refine VC.seq (VC.seq (VC.text ?_)); refine VO.c (.move rfl) ?_; refine VO.c (.move rfl) ?_; refine VO.c (.lss) ?_; refine VO.go ?_; refine VC.condD rfl (fun c4 => ?_) (fun c4 => ?_)
  · have hkl : k < r.2.2.1.length := by omega
    have hvk := hv _ (List.getElem_mem hkl)
    have hlk := lev16_at hkl
    refine VC.skip (VC.seq (VC.block (VC.seq ?_))); refine VC.join [(2, I ((i : Nat) : Int)), (3, .v (.sl .bool) old), (6, .p y65 r), (11, I ((k : Nat) : Int)), (42, B (!(old.getD k false && decide (lev16 r k = lev16 r i))))] [] ?_ ?_
    · skip
      refine VC.drawn ?_; refine VD.c (.move rfl) ?_; refine VD.c (.move rfl) ?_; refine VD.c (.ix (j := k) rfl rfl el156 (by omega)) ?_; refine VD.r [] (.ld vt4) (.inl rfl) ?_; refine VD.c (.not) ?_; refine VD.c (.move rfl) ?_; refine VD.nw [] ?_; refine VD.splitB (x := 30) rfl (fun g6_5 => ?_) (fun g6_5 => ?_)
      · try simp only [Bool.and_eq_true, Bool.or_eq_true, Bool.and_eq_false_iff, Bool.or_eq_false_iff, Bool.not_eq_true', Bool.not_eq_false', decide_eq_true_eq, decide_eq_false_iff_not] at g6_5
        refine VD.skip ?_; refine VD.skip ?_; refine VD.skip ?_; refine VD.skip ?_; refine VD.skip ?_; refine VD.skip ?_; refine VD.nw [] ?_; refine VD.skip ?_; refine VD.skip ?_; refine VD.skip ?_; refine VD.skip ?_; refine VD.skip ?_; refine VD.c (.pickT rfl rfl) ?_; refine VD.nil ?_; exact ⟨⟨rfl, rfl, rfl, rfl, slE rfl (by rw [hlk, hli, getDat (show k < old.length by omega)]; simp_all), trivial⟩, rfl⟩
      try simp only [Bool.and_eq_true, Bool.or_eq_true, Bool.and_eq_false_iff, Bool.or_eq_false_iff, Bool.not_eq_true', Bool.not_eq_false', decide_eq_true_eq, decide_eq_false_iff_not] at g6_5
      refine VD.c (.fa (.r (.r (.l .o)))) ?_; refine VD.r [] (.ld vt53) (.inl rfl) ?_; refine VD.c (.move rfl) ?_; refine VD.c (.ix (j := k) rfl rfl el53 (by omega)) ?_; refine VD.r [] (.ld vt59) (.inl rfl) ?_; refine VD.c (.fa (.r (.r (.l .o)))) ?_; refine VD.nw [] ?_; refine VD.r [] (.ld vt53) (.inl rfl) ?_; refine VD.c (.move rfl) ?_; refine VD.c (.ix (j := i) rfl rfl el53 (by omega)) ?_; refine VD.r [] (.ld vt59) (.inl rfl) ?_; refine VD.c (.fcmpD (b := .neq) (neq_lv hvk hvi)) ?_; refine VD.c (.pickF rfl rfl) ?_; refine VD.nil ?_; exact ⟨⟨rfl, rfl, rfl, rfl, slE rfl (by rw [hlk, hli, getDat (show k < old.length by omega)]; simp_all), trivial⟩, rfl⟩
    refine VC.condB rfl (fun c6 => ?_) (fun c6 => ?_)
    · try simp only [Bool.and_eq_true, Bool.or_eq_true, Bool.and_eq_false_iff, Bool.or_eq_false_iff, Bool.not_eq_true', Bool.not_eq_false', decide_eq_true_eq, decide_eq_false_iff_not] at c6
      have hthis : ¬ (old.getD k false = true ∧ lev16 r k = lev16 r i) := fun hh => c6.elim (fun h => by rw [hh.1] at h; cases h) (fun h => h hh.2)
      have hsb : stuckP r x.2.1 old i = false := decide_eq_false (fun h => hthis (h k (by omega) hk0))
      refine VC.seq (VC.text ?_); refine VO.c (.assign rfl) ?_; refine VO.go ?_; refine VC.ret ?_; exact VEnd.one rfl evT (pvE (by rw [rmv6, hsb, Bool.and_false]))
    try simp only [Bool.and_eq_true, Bool.or_eq_true, Bool.and_eq_false_iff, Bool.or_eq_false_iff, Bool.not_eq_true', Bool.not_eq_false', decide_eq_true_eq, decide_eq_false_iff_not] at c6
    have hthis : old.getD k false = true ∧ lev16 r k = lev16 r i := by simpa using c6
    refine VC.skip (VC.text ?_); refine VO.c (.move rfl) ?_; refine VO.c (.add rfl rfl (by omega)) ?_; refine VO.c (.assign rfl) ?_; refine VO.nil ?_; refine ⟨_, [(2, I ((i : Nat) : Int)), (3, .v (.sl .bool) old), (6, .p y65 r), (11, I (((k + 1) : Nat) : Int))], ?_, ⟨rfl, rfl, rfl, rfl, trivial⟩, (k + 1), rfl, rfl, rfl, (by omega), (by exact fun j h1 h2 => if e : j = k then (by subst e; exact hthis) else hall j (by omega) h2)⟩
    omega
  refine VC.exit (VC.seq (VC.text ?_)); refine VO.c (.assign rfl) ?_; refine VO.go ?_; refine VC.ret ?_; exact VEnd.one rfl evT (pvE (by rw [rmv6, stuckP, decide_eq_true (fun j h1 h2 => hall j (by omega) h2), decide_eq_false c1] <;> rfl))
end Go.Proofs
namespace Go.Fs
variable {P : Program} {orc : FuncId → List Value → Heap → Option (Value × Heap)} {σ : Sto} {fl : VL} {ops : Array Oper} {n : Nat} {l : List Oper} {K : VL → Sto → Prop} {d : Tmp} {ty : TypeId} {pos : String} {after : Array Edge} {g : Option (Nat × Bool)} {x : Operand} {T e : TypeId} {τ : Ty}
end Go.Fs
namespace Go.Fs
variable {P : Program} {fl : VL} {e : TypeId} {τ : Ty}
end Go.Fs
namespace Go.Fs
variable {P : Program} {orc : FuncId → List Value → Heap → Option (Value × Heap)} {rnd : Option Nat} {h h' h0 h1 h2 hs : Heap} {S S' S0 B G : List Nat} {σ σ' : Sto} {t t' : Tr} {ms : List Nat} {fl : VL} {ops : Array Oper} {n i mem : Nat} {l : List Oper} {K : VL → Sto → Prop} {Q : Ex → VL → Sto → Prop}
  {d d1 d2 : Tmp} {ty ty1 ty2 : TypeId} {pos pos1 pos2 : String} {after after1 after2 : Array Edge} {op : Op} {v v1 : PV} {g g1 g2 : Option (Nat × Bool)} {bs nw : List Nat} {segs : List (Nat × Nat × Nat)} {tail so : Bool}

section
variable (P orc)
end
end Go.Fs
namespace Go.Fs
variable {P : Program} {orc : FuncId → List Value → Heap → Option (Value × Heap)} {rnd : Option Nat} {h h' h0 h1 h2 : Heap} {S S' S0 B G : List Nat} {σ σ' σr : Sto} {t t' : Tr} {ms : List Nat} {fl : VL} {ops : Array Oper} {n i mem : Nat} {l : List Oper} {K : VL → Sto → Prop} {Q : Ex → VL → Sto → Prop}
  {d : Tmp} {ty : TypeId} {pos : String} {after : Array Edge} {op : Op} {v pv : PV} {g : Option (Nat × Bool)} {x y z : Operand} {T T' e : TypeId} {τ τ' : Ty} {bs nw : List Nat} {segs : List (Nat × Nat × Nat)} {tail so : Bool} {w w' : Value} {c c' : Cell}

end Go.Fs
namespace Go.Fs
variable {P : Program} {orc : FuncId → List Value → Heap → Option (Value × Heap)} {rnd : Option Nat} {h h' h0 h1 h2 hr : Heap} {S S' S0 B G A : List Nat} {σ σ' σr ρ : Sto} {t t' : Tr} {ms : List Nat} {fl : VL} {ops : Array Oper} {n i mem : Nat} {l : List Oper} {K : VL → Sto → Prop}
  {d : Tmp} {ty : TypeId} {pos : String} {after : Array Edge} {op : Op} {v pv : PV} {g : Option (Nat × Bool)} {x y z : Operand} {T T' e : TypeId} {τ τ' : Ty} {bs nw rd chg : List Nat} {segs : List (Nat × Nat × Nat)} {tail tl : Bool} {w w' : Value}
end Go.Fs
namespace Go.Proofs
open Go.Fs Ieee
set_option linter.unusedVariables false
set_option maxHeartbeats 400000

end Go.Proofs
namespace Go.Fs
variable {P : Program} {orc : FuncId → List Value → Heap → Option (Value × Heap)} {ops : Array Oper} {n : Nat} {l : List Oper} {fl : VL} {σ : Sto} {K : VL → Sto → Prop}
  {d : Tmp} {ty : TypeId} {pos : String} {after : Array Edge} {g : Option (Nat × Bool)}
theorem VO.callGC {f : Operand} {args : Array Operand} {ats : Array TypeId} {F F' : PV} {asl as' : List PV} {Q : PV → Sto → Prop} (hf : evV fl f = some F) (ha : evVs fl args.toList = some asl) (cF : Co σ F F') (ca : CoL σ asl as') (hc : VCallG P orc F' as' [] Q) (hfl : ∀ r γ', Q r γ' → (γ'.all fun c => c.2.flat) = true ∧ ∃ w, r = .raw w) (hk : ∀ r γ', Q r γ' → VO P orc ops n l ((d, r) :: fl) (γ' ++ σ) K)
    (hw : wantV ops fl g = some true := by rfl) (hn : (Nat.blt d n && Nat.ble n 4000) = true := by rfl) : VO P orc ops n (⟨some d, .call { callee := .value f, args := args, argTypes := ats }, ty, pos, after, g⟩ :: l) fl σ K := fun h0 G S0 t h ms Iv0 => by
  obtain ⟨n1, n2⟩ := fits hn
  have L := Iv0.lc
  obtain ⟨fid, a, c, rfl, hv⟩ := hc
  obtain ⟨va, vc, h1, h2, h3⟩ := (cF.ok L.cells L.sep (evV_ok Iv0.slots hf) : RepPV h S0 (.clo fid a c) (evalO t f))
  have hargs := (h2.append (ca.ok L.cells L.sep (evVs_ok Iv0.slots ha))).append h3
  refine EvO.call (want_ok Iv0.slots hw) rfl rfl h1 ((hv h S0 _ Iv0.ok L.s0 (fun c hc => by cases hc) List.nodup_nil (fun b hb => by cases hb) hargs).mono fun u h' hq => ?_)
  obtain ⟨r, γ', q1, q2, q3⟩ := hq
  obtain ⟨q4, w, rfl⟩ := hfl r γ' q1
  have m : Made (own σ ++ S0) h h' [] γ' := ⟨q2.aft, q2.new, q2.apart, fun c hc => CellR.flat (List.all_eq_true.1 q4 c hc) (q2.cells c hc) fun b hb => ⟨rfl, List.mem_append_left _ (List.mem_flatMap.2 ⟨c, hc, hb⟩)⟩⟩
  exact ⟨_, put_fits n1 t u, hk _ γ' q1 h0 G S0 _ h' ms ((Iv0.made (Made.app (γ := []) L m)).set (v := .raw w) q3 n2)⟩
theorem VO.callFC {fid0 : FuncId} {df : Option Nat} {f : Operand} {args : Array Operand} {ats : Array TypeId} {r : PV} {asl as' : List PV} (hf : evV fl f = some (.v .fn df)) (hd : df = some fid0) (ha : evVs fl args.toList = some asl) (ca : CoL σ asl as') (hr : r.flat = true) (hc : VCall P orc (.clo fid0 [] []) as' r) (hk : VO P orc ops n l ((d, r) :: fl) σ K)
    (hw : wantV ops fl g = some true := by rfl) (hn : (Nat.blt d n && Nat.ble n 4000) = true := by rfl) : VO P orc ops n (⟨some d, .call { callee := .value f, args := args, argTypes := ats }, ty, pos, after, g⟩ :: l) fl σ K := fun h0 G S0 t h ms I => by
  obtain ⟨n1, n2⟩ := fits hn
  have L := I.lc
  have hF : RepPV h S0 (.clo fid0 [] []) (evalO t f) := by
    obtain ⟨va, vc, e1, e2, e3⟩ := fn_clo hd (evV_ok I.slots hf)
    exact ⟨va, vc, e1, e2, e3⟩
  obtain ⟨fid, a, c, h1, h2⟩ := hc.ev I.ok L.s0 hF (ca.ok L.cells L.sep (evVs_ok I.slots ha))
  refine EvO.call (want_ok I.slots hw) rfl rfl h1 (h2.mono fun u h' hq => ?_)
  obtain ⟨_, q2, q3⟩ := hq
  obtain rfl := q3 hr; exact ⟨_, put_fits n1 t u, hk h0 G S0 _ h' ms (I.set ((q2.flat hr).2 _ _) n2)⟩
theorem m4 {a b c d e : Value × Cell} {r : Sto} : e ∈ a :: b :: c :: d :: e :: r := List.mem_cons_of_mem _ m3
theorem m5 {a b c d e f : Value × Cell} {r : Sto} : f ∈ a :: b :: c :: d :: e :: f :: r := List.mem_cons_of_mem _ m4
theorem m6 {a b c d e f g : Value × Cell} {r : Sto} : g ∈ a :: b :: c :: d :: e :: f :: g :: r := List.mem_cons_of_mem _ m5
end Go.Fs
namespace Go.Proofs
open Go.Fs Ieee
set_option linter.unusedVariables false
set_option maxHeartbeats 400000

theorem zCloneB_ok {l : List Bool} (hl : l.length < 100000) : VFG Tryz.prog OA 144 [.v (.sl .bool) l] [] (fun r g => ∃ w, r = .raw w ∧ g = [(w, .row 4 .bool l)]) := by
  refine VFG.enter Tryz.func144 rfl (fun _ _ => rfl) rfl ?_
  show VC _ _ _ _ _ [(0, .v (.sl .bool) l)] [] _
  refine VC.seq (VC.text ?_); refine VO.c (.assign rfl) ?_; refine VO.go (VC.seq (VC.seq (VC.text ?_))); refine VO.c (.move rfl) ?_; refine VO.isnil (e := 4) rfl rfl (by kernel_rfl) (by kernel_rfl) (fun h1_1 => ?_) ?_
  · refine VO.go ?_; refine VC.condT rfl ?_; refine VC.seq (VC.text ?_); refine VO.c (.assign rfl) ?_; refine VO.go ?_; refine VC.cell0 4 .bool ?_; refine VC.ret ?_
    simp only [thenV]
    exact VEndG.row rfl evT ⟨(.slice none 0 0), rfl, (by rw [h1_1])⟩
  refine VO.go ?_; refine VC.condF rfl ?_; refine VC.skip (VC.seq (VC.text ?_)); refine VO.cell (.lit0 el156) ?_; intro ww1; refine VO.c (.move rfl) ?_; refine VO.app rfl rfl el156 el156 (by simp; omega) ?_; intro ww2; refine VO.c (.assign rfl) ?_; refine VO.go ?_; refine VC.ret ?_; exact VEndG.row rfl evT ⟨ww2, rfl, (by rfl)⟩
theorem kind_rmv {x : Rul1} {r : Rec1} {old now : List Bool} {i : Nat} (hx : ruleE x = 0) (hi : i < r.2.2.1.length) (hl : r.2.2.1.length ≤ 4096) (hv : ∀ y ∈ r.2.2.1, lvlE y = 0) (ho : old.length = r.2.2.1.length) (hn : now.length = r.2.2.1.length) (hb : old.getD i false = true) :
    ∃ g, ((mget kindsM x.1).getD (none, none)).2 = some g ∧ VF Tryz.prog OA g [.v y126 x, .v y65 r, I ((i : Nat) : Int), .v (.sl .bool) old, .v (.sl .bool) now] (B (rmvE r x old now i)) := by
  rw [kinds_get]
  unfold rmvE
  by_cases h1 : x.1 = sRange
  · rw [if_pos h1, if_pos h1]; exact ⟨139, rfl, gK2_ok hi hl hv⟩
  rw [if_neg h1, if_neg h1]
  by_cases h2 : x.1 = sJump
  · rw [if_pos h2, if_pos h2]
    refine ⟨141, rfl, ?_⟩
    have h := gK4_ok (x := x) (old := old) hi hl hn hv
    rw [rmv4, ← Int.zero_sub (lev16 r i - lev16 r (i - 1))] at h
    exact h
  rw [if_neg h2, if_neg h2]
  obtain ⟨h3, hA⟩ := stuck_of hx h1 h2
  rw [if_pos h3]
  refine ⟨143, rfl, ?_⟩
  have h := gK6_ok (x := x) (now := now) hi hl ho hA hv
  rw [rmv6, stuck_P hb] at h
  exact h
theorem rules_all {l : List Rul1} (h : rulesE l = 0) : ∀ x ∈ l, ruleE x = 0 := fun x hx => by
  unfold rulesE at h
  split at h
  · cases h
  exact firstE_zero.1 h _ (List.mem_map.2 ⟨x, hx, rfl⟩)
theorem gReasonsI_ok {r : ByteArray × Int × (List Nat) × (List (Int × Int))} {l : List (ByteArray × Int × Int)} (hl : r.2.2.1.length ≤ 4096) (hgl : r.2.2.2.length < 1000000) (hsp : ∀ s ∈ r.2.2.2, 0 ≤ s.1 ∧ s.1 < s.2 ∧ s.2 ≤ (r.2.2.1.length : Nat)) (hv : ∀ y ∈ r.2.2.1, lvlE y = 0) (hll : l.length < 1000000) (hr : ∀ x ∈ l, ruleE x = 0) : VF Tryz.prog OA 100 [.v y65 r, .v y69 l] (.tup [.v y37 ((reaS r l l.length).1), .v (.sl .bool) ((reaS r l l.length).2)]) := by
  refine VF.enter Tryz.func100 rfl (fun _ _ => rfl) rfl ?_
  show VC _ _ _ _ _ [(0, .v y65 r), (1, .v y69 l)] [] _
  refine VC.seq (VC.text ?_); refine VO.new (.box) ?_; refine VO.c (.assign rfl) ?_; refine VO.c (.assign rfl) ?_; refine VO.go (VC.seq (VC.text ?_)); refine VO.c (.fa (.r (.r (.l .o)))) ?_; refine VO.r (.ld vt53) ?_; refine VO.r (.len el53) ?_; refine VO.cell (.make (k := r.2.2.1.length) rfl rfl el37 zt3 (by omega)) ?_; intro ww3; refine VO.c (.assign rfl) ?_; refine VO.go (VC.seq (VC.text ?_)); refine VO.r (.ld vt65) ?_; refine VO.callG [] rfl rfl rfl (VFG.call (gThereO_ok hl hgl hsp)) ?_; rintro _ _ ⟨ww4, rfl, rfl⟩
  show VO _ _ _ _ _ _ [(ww4, .row 4 .bool (thereE r)), (ww3, .row 3 (.int .i64) (List.replicate r.2.2.1.length 0))] _
  refine VO.c (.assign rfl) ?_; refine VO.go (VC.seq (VC.text ?_)); refine VO.call rfl rfl (VF.call (gKinds_ok )) ?_; refine VO.c (.assign rfl) ?_; refine VO.go (VC.seq (VC.seq (VC.text ?_))); refine VO.c (.move rfl) ?_; refine VO.r (.len el69) ?_; refine VO.c (.move rfl) ?_; refine VO.go (VC.block ?_); refine VC.keep [(2, .p y65 r), (6, .raw ww3), (7, .raw ww4), (8, .v y148 kindsM), (22, .v y69 l), (23, I ((l.length : Nat) : Int)), (24, I ((0 : Nat) : Int))] ⟨rfl, rfl, rfl, rfl, rfl, rfl, rfl, trivial⟩ ?_; refine VC.loop (I := fun kk ff ss => ∃ (k : Nat), kk = l.length - k ∧ ff = [(2, .p y65 r), (6, .raw ww3), (7, .raw ww4), (8, .v y148 kindsM), (22, .v y69 l), (23, I ((l.length : Nat) : Int)), (24, I ((k : Nat) : Int))] ∧ ss = [(ww4, .row 4 .bool ((reaS r l k).2)), (ww3, .row 3 (.int .i64) ((reaS r l k).1))] ∧ (k ≤ l.length) ∧ ((reaS r l k).1.length = r.2.2.1.length ∧ (reaS r l k).2.length = r.2.2.1.length)) ?_ _ _ _ ⟨0, rfl, rfl, (by rfl), Nat.zero_le _, (by exact reaS_len _)⟩; rintro kk ff ss ⟨k, hk0, rfl, rfl, hk, hrl⟩; refine VC.seq (VC.text ?_); refine VO.c (.lss) ?_; refine VO.go (VC.seq ?_); refine VC.condD rfl (fun c5 => ?_) (fun c5 => ?_)
  · have hkl : k < l.length := by omega
    have hxe := rulX_eq hkl
    refine VC.skip (VC.seq (VC.block (VC.seq (VC.text ?_)))); refine VO.c (.move rfl) ?_; refine VO.c (.ix (j := k) rfl rfl el69 (by omega)) ?_; refine VO.r (.ld vt126) ?_; refine VO.cell (.alloc zt126) ?_; intro ww5; refine VO.c (.assign rfl) ?_; refine VO.setV (cs' := [St ((l[k]).1), I ((l[k]).2.1), I ((l[k]).2.2)]) vt126 .v ?_; refine VO.shut [(10, .p y126 (l[k]))] (.cons rfl (.var m0 .refl) .nil) ?_; refine VO.go (VC.seq (VC.text ?_)); refine VO.c (.move rfl) ?_; refine VO.callGC rfl rfl .same (.cons (.row m0) .nil) (VFG.call (zCloneB_ok (by omega))) (by rintro _ _ ⟨w, rfl, rfl⟩; exact ⟨rfl, w, rfl⟩) ?_; rintro _ _ ⟨ww6, rfl, rfl⟩
    show VO _ _ _ _ _ _ [(ww6, .row 4 .bool ((reaS r l k).2)), (ww4, .row 4 .bool ((reaS r l k).2)), (ww3, .row 3 (.int .i64) ((reaS r l k).1))] _
    refine VO.c (.assign rfl) ?_; refine VO.go (VC.seq ?_); refine VC.shutL [(ww6, .row 4 .bool ((reaS r l k).2))] [(11, .v (.sl .bool) ((reaS r l k).2))] rfl (.cons rfl (.row m0) .nil) ?_; refine VC.text ?_; refine VO.c (.move rfl) ?_; refine VO.c (.fa (.l .o)) ?_; refine VO.r (.ld vt9) ?_; refine VO.r (.look mt148) ?_; refine VO.c (.fld (.r .o)) ?_; refine VO.c (.assign rfl) ?_; refine VO.go (VC.seq (VC.text ?_)); refine VO.c (.move rfl) ?_; refine VO.r (.len el156) ?_; refine VO.c (.move rfl) ?_; refine VO.go (VC.block ?_); refine VC.keep [(2, .p y65 r), (6, .raw ww3), (7, .raw ww4), (8, .v y148 kindsM), (9, I ((k : Nat) : Int)), (10, .p y126 (l[k])), (11, .v (.sl .bool) ((reaS r l k).2)), (12, .v .fn (((mget kindsM ((l[k]).1)).getD (none, none)).2)), (22, .v y69 l), (23, I ((l.length : Nat) : Int)), (24, I ((k : Nat) : Int)), (36, .v (.sl .bool) ((reaS r l k).2)), (37, I ((((reaS r l k).2).length : Nat) : Int)), (38, I ((0 : Nat) : Int))] ⟨rfl, rfl, rfl, rfl, rfl, rfl, rfl, rfl, rfl, rfl, rfl, rfl, rfl, rfl, trivial⟩ ?_; refine VC.loop (I := fun kk ff ss => ∃ (j : Nat), kk = r.2.2.1.length - j ∧ ff = [(2, .p y65 r), (6, .raw ww3), (7, .raw ww4), (8, .v y148 kindsM), (9, I ((k : Nat) : Int)), (10, .p y126 (l[k])), (11, .v (.sl .bool) ((reaS r l k).2)), (12, .v .fn (((mget kindsM ((l[k]).1)).getD (none, none)).2)), (22, .v y69 l), (23, I ((l.length : Nat) : Int)), (24, I ((k : Nat) : Int)), (36, .v (.sl .bool) ((reaS r l k).2)), (37, I ((((reaS r l k).2).length : Nat) : Int)), (38, I ((j : Nat) : Int))] ∧ ss = [(ww4, .row 4 .bool ((runR r (rulX l k) ((k : Int) + 1) (reaS r l k) j).2)), (ww3, .row 3 (.int .i64) ((runR r (rulX l k) ((k : Int) + 1) (reaS r l k) j).1))] ∧ (j ≤ r.2.2.1.length) ∧ ((runR r (rulX l k) ((k : Int) + 1) (reaS r l k) j).1.length = r.2.2.1.length ∧ (runR r (rulX l k) ((k : Int) + 1) (reaS r l k) j).2.length = r.2.2.1.length)) ?_ _ _ _ ⟨0, rfl, rfl, (by rfl), Nat.zero_le _, (by exact runR_len (reaS_len _) _)⟩; rintro kk ff ss ⟨j, hk2, rfl, rfl, hj, hnl⟩; refine VC.seq (VC.text ?_); refine VO.c (.lss) ?_; refine VO.go (VC.seq ?_); refine VC.condD rfl (fun c10 => ?_) (fun c10 => ?_)
    · have hjl : j < (reaS r l k).2.length := by omega
      have hgd := getDat (d := false) hjl
      refine VC.skip (VC.seq (VC.block (VC.seq (VC.text ?_)))); refine VO.c (.move rfl) ?_; refine VO.c (.ix (j := j) rfl rfl el156 (by omega)) ?_; refine VO.r (.ld vt4) ?_; refine VO.c (.assign rfl) ?_; refine VO.c (.assign rfl) ?_; refine VO.go (VC.seq (VC.text ?_)); refine VO.c (.move rfl) ?_; refine VO.c (.move rfl) ?_; refine VO.splitB (x := 44) rfl (fun g12_1 => ?_) (fun g12_1 => ?_)
      · obtain ⟨g, hg1, hg2⟩ := kind_rmv (now := (runR r (rulX l k) ((k : Int) + 1) (reaS r l k) j).2) (hr _ (List.getElem_mem hkl)) (show j < r.2.2.1.length by omega) hl hv hrl.2 hnl.2 (by rw [hgd]; exact g12_1)
        refine VO.c (.move rfl) ?_; refine VO.r (.ld vt126) ?_; refine VO.r (.ld vt65) ?_; refine VO.c (.move rfl) ?_; refine VO.c (.move rfl) ?_; refine VO.c (.move rfl) ?_; refine VO.callFC rfl (hg1) rfl (.cons .same (.cons .same (.cons .same (.cons .same (.cons (.row m0) .nil))))) rfl (VF.call hg2) ?_; refine VO.c (.pickT rfl rfl) ?_; refine VO.go ?_; refine VC.condB rfl (fun c12 => ?_) (fun c12 => ?_)
        · have e1 := runR_t (n := (k : Int) + 1) (S := reaS r l k) (x := rulX l k) (r := r) (i := j) (by rw [hgd]; exact g12_1) (by have h := c12; rw [← hxe] at h; exact h)
          refine VC.seq (VC.text ?_); refine VO.c (.move rfl) ?_; refine VO.c (.move rfl) ?_; refine VO.c (.ixO (j := j) rfl rfl m0 el156 (by omega)) ?_; refine VO.setE j rfl rfl vt4 (by omega) ?_; refine VO.go (VC.text ?_); refine VO.c (.move rfl) ?_; refine VO.c (.move rfl) ?_; refine VO.c (.move rfl) ?_; refine VO.c (.add rfl rfl (by omega)) ?_; refine VO.c (.ixO (j := j) rfl rfl m1 el37 (by omega)) ?_; refine VO.perm swap1 ?_; refine VO.setE j rfl rfl vt3 (by omega) ?_; refine VO.nil (VC.text ?_); refine VO.c (.add rfl rfl (by omega)) ?_; refine VO.c (.move rfl) ?_; refine VO.perm swap1 ?_; refine VO.nil ?_; refine ⟨_, [(2, .p y65 r), (6, .raw ww3), (7, .raw ww4), (8, .v y148 kindsM), (9, I ((k : Nat) : Int)), (10, .p y126 (l[k])), (11, .v (.sl .bool) ((reaS r l k).2)), (12, .v .fn (((mget kindsM ((l[k]).1)).getD (none, none)).2)), (22, .v y69 l), (23, I ((l.length : Nat) : Int)), (24, I ((k : Nat) : Int)), (36, .v (.sl .bool) ((reaS r l k).2)), (37, I ((((reaS r l k).2).length : Nat) : Int)), (38, I (((j + 1) : Nat) : Int))], ?_, ⟨rfl, rfl, rfl, rfl, rfl, rfl, rfl, rfl, rfl, rfl, rfl, rfl, rfl, rfl, trivial⟩, (j + 1), rfl, rfl, (by first | (rw [e1]; done) | (rw [e1]; rfl)), (by omega), (by exact runR_len (reaS_len _) _)⟩
          omega
        have e1 := runR_f (n := (k : Int) + 1) (S := reaS r l k) (x := rulX l k) (r := r) (i := j) (.inr (by have h := c12; rw [← hxe] at h; exact h))
        refine VC.skip (VC.text ?_); refine VO.c (.add rfl rfl (by omega)) ?_; refine VO.c (.move rfl) ?_; refine VO.nil ?_; refine ⟨_, [(2, .p y65 r), (6, .raw ww3), (7, .raw ww4), (8, .v y148 kindsM), (9, I ((k : Nat) : Int)), (10, .p y126 (l[k])), (11, .v (.sl .bool) ((reaS r l k).2)), (12, .v .fn (((mget kindsM ((l[k]).1)).getD (none, none)).2)), (22, .v y69 l), (23, I ((l.length : Nat) : Int)), (24, I ((k : Nat) : Int)), (36, .v (.sl .bool) ((reaS r l k).2)), (37, I ((((reaS r l k).2).length : Nat) : Int)), (38, I (((j + 1) : Nat) : Int))], ?_, ⟨rfl, rfl, rfl, rfl, rfl, rfl, rfl, rfl, rfl, rfl, rfl, rfl, rfl, rfl, trivial⟩, (j + 1), rfl, rfl, (by first | (rw [e1]; done) | (rw [e1]; rfl)), (by omega), (by exact runR_len (reaS_len _) _)⟩
        omega
      have e1 := runR_f (n := (k : Int) + 1) (S := reaS r l k) (x := rulX l k) (r := r) (i := j) (.inl (by rw [hgd]; exact g12_1))
      refine VO.skip ?_; refine VO.skip ?_; refine VO.skip ?_; refine VO.skip ?_; refine VO.skip ?_; refine VO.skip ?_; refine VO.skip ?_; refine VO.c (.pickF rfl rfl) ?_; refine VO.go ?_; refine VC.condF rfl ?_; refine VC.skip (VC.text ?_); refine VO.c (.add rfl rfl (by omega)) ?_; refine VO.c (.move rfl) ?_; refine VO.nil ?_; refine ⟨_, [(2, .p y65 r), (6, .raw ww3), (7, .raw ww4), (8, .v y148 kindsM), (9, I ((k : Nat) : Int)), (10, .p y126 (l[k])), (11, .v (.sl .bool) ((reaS r l k).2)), (12, .v .fn (((mget kindsM ((l[k]).1)).getD (none, none)).2)), (22, .v y69 l), (23, I ((l.length : Nat) : Int)), (24, I ((k : Nat) : Int)), (36, .v (.sl .bool) ((reaS r l k).2)), (37, I ((((reaS r l k).2).length : Nat) : Int)), (38, I (((j + 1) : Nat) : Int))], ?_, ⟨rfl, rfl, rfl, rfl, rfl, rfl, rfl, rfl, rfl, rfl, rfl, rfl, rfl, rfl, trivial⟩, (j + 1), rfl, rfl, (by first | (rw [e1]; done) | (rw [e1]; rfl)), (by omega), (by exact runR_len (reaS_len _) _)⟩
      omega
    refine VC.exit (VC.text ?_); refine VO.c (.add rfl rfl (by omega)) ?_; refine VO.c (.move rfl) ?_; refine VO.nil ?_; refine ⟨_, [(2, .p y65 r), (6, .raw ww3), (7, .raw ww4), (8, .v y148 kindsM), (22, .v y69 l), (23, I ((l.length : Nat) : Int)), (24, I (((k + 1) : Nat) : Int))], ?_, ⟨rfl, rfl, rfl, rfl, rfl, rfl, rfl, trivial⟩, (k + 1), rfl, rfl, (by rw [show j = r.2.2.1.length by omega] <;> rfl), (by omega), (by exact reaS_len _)⟩
    omega
  refine VC.exit (VC.seq (VC.text ?_)); refine VO.c (.move rfl) ?_; refine VO.c (.move rfl) ?_; refine VO.c (.assign rfl) ?_; refine VO.c (.assign rfl) ?_; refine VO.go ?_; refine VC.ret ?_; exact VEnd.two rfl (evC (.row m1)) (evC (.row m0)) (pvE (by rw [show k = l.length by omega])) (pvE (by rw [show k = l.length by omega]))
def reaC (r : Rec1) (l : List Rul1) : Int := firstE [recE r, rulesE l]
theorem gReasons_ok {r : ByteArray × Int × (List Nat) × (List (Int × Int))} {l : List (ByteArray × Int × Int)} (hl : r.2.2.1.length < 1000000) (hgl : r.2.2.2.length < 1000000) (hll : l.length < 1000000) : VF Tryz.prog OA 49 [.v y65 r, .v y69 l] (.tup [.v y37 (if reaC r l ≠ 0 then [] else (reaS r l l.length).1), I (reaC r l)]) := by
  refine VF.enter Tryz.func49 rfl (fun _ _ => rfl) rfl ?_
  show VC _ _ _ _ _ [(0, .v y65 r), (1, .v y69 l)] [] _
  refine VC.seq (VC.text ?_); refine VO.new (.box) ?_; refine VO.c (.assign rfl) ?_; refine VO.c (.assign rfl) ?_; refine VO.go (VC.seq (VC.seq (VC.text ?_))); refine VO.r (.ld vt65) ?_; refine VO.call rfl rfl (VF.call (gRec_ok (by first | assumption | omega | simp) (by first | assumption | omega | simp))) ?_; refine VO.c (.move rfl) ?_; refine VO.call rfl rfl (VF.call (gRules_ok (by first | assumption | omega | simp))) ?_; refine VO.new (.lit [recE r, rulesE l] el164) ?_; refine VO.call rfl rfl (VF.call (gFirst_ok (by first | assumption | omega | simp))) ?_; refine VO.c (.assign rfl) ?_; refine VO.go (VC.seq (VC.text ?_)); refine VO.c (.move rfl) ?_; refine VO.c (.neq) ?_; refine VO.go ?_; refine VC.condD rfl (fun c2 => ?_) (fun c2 => ?_)
  · refine VC.seq (VC.text ?_); refine VO.c (.move rfl) ?_; refine VO.c (.assign rfl) ?_; refine VO.c (.assign rfl) ?_; refine VO.go ?_; refine VC.ret ?_; exact VEnd.two rfl (evC .nil) evT (pvE (by exact (if_pos c2).symm)) (pvI (by rfl))
  have hz := firstE_zero.1 (Classical.not_not.1 c2)
  have hrr := rec_ok (hz (recE r) (by simp))
  have hru := rules_all (hz (rulesE l) (by simp))
  refine VC.skip (VC.seq (VC.text ?_)); refine VO.r (.ld vt65) ?_; refine VO.c (.move rfl) ?_; refine VO.call rfl rfl (VF.call (gReasonsI_ok hrr.2.1 hgl hrr.2.2.2.2 hrr.2.2.2.1 hll hru)) ?_; refine VO.c (.move rfl) ?_; refine VO.c (.extract) ?_; refine VO.c (.extract) ?_; refine VO.c (.assign rfl) ?_; refine VO.c (.assign rfl) ?_; refine VO.go (VC.seq (VC.text ?_)); refine VO.c (.move rfl) ?_; refine VO.c (.assign rfl) ?_; refine VO.c (.assign rfl) ?_; refine VO.go ?_; refine VC.ret ?_; exact VEnd.two rfl evT evT (pvE (by exact (if_neg c2).symm)) (pvI (by exact (Classical.not_not.1 c2).symm))
def clnR (r : Rec1) (l : List Rul1) : Rec1 := if reaC r l ≠ 0 then zRec else (r.1, r.2.1, keptL r (reaS r l l.length).2 plusZ (reaS r l l.length).2.length, gapsE (reaS r l l.length).2 (reaS r l l.length).2.length)
theorem gClean_ok {r : ByteArray × Int × (List Nat) × (List (Int × Int))} {l : List (ByteArray × Int × Int)} (hl : r.2.2.1.length < 1000000) (hgl : r.2.2.2.length < 1000000) (hll : l.length < 1000000) : VF Tryz.prog OA 50 [.v y65 r, .v y69 l] (.tup [.v y65 (clnR r l), I (reaC r l)]) := by
  refine VF.enter Tryz.func50 rfl (fun _ _ => rfl) rfl ?_
  show VC _ _ _ _ _ [(0, .v y65 r), (1, .v y69 l)] [] _
  refine VC.seq (VC.text ?_); refine VO.new (.box) ?_; refine VO.cell (.alloc zt65) ?_; intro ww7; refine VO.c (.assign rfl) ?_; refine VO.go (VC.seq (VC.seq (VC.text ?_))); refine VO.r (.ld vt65) ?_; refine VO.call rfl rfl (VF.call (gRec_ok (by first | assumption | omega | simp) (by first | assumption | omega | simp))) ?_; refine VO.c (.move rfl) ?_; refine VO.call rfl rfl (VF.call (gRules_ok (by first | assumption | omega | simp))) ?_; refine VO.new (.lit [recE r, rulesE l] el164) ?_; refine VO.call rfl rfl (VF.call (gFirst_ok (by first | assumption | omega | simp))) ?_; refine VO.c (.assign rfl) ?_; refine VO.go (VC.seq (VC.text ?_)); refine VO.c (.move rfl) ?_; refine VO.c (.neq) ?_; refine VO.go ?_; refine VC.condD rfl (fun c2 => ?_) (fun c2 => ?_)
  · refine VC.seq (VC.text ?_); refine VO.c (.build (ByteArray.empty, 0, [], []) bt65) ?_; refine VO.c (.move rfl) ?_; refine VO.setV (cs' := [St ByteArray.empty, I 0, .v y53 [], .v y22 []]) vt65 .v ?_; refine VO.c (.assign rfl) ?_; refine VO.go ?_; refine VC.ret ?_; exact VEnd.two rfl (.cell (x := (ByteArray.empty, 0, [], [])) rfl m0 vt65 .refl) evT (pvE (by exact (if_pos c2).symm)) (pvI (by rfl))
  have hz := firstE_zero.1 (Classical.not_not.1 c2)
  have hrr := rec_ok (hz (recE r) (by simp))
  have hru := rules_all (hz (rulesE l) (by simp))
  refine VC.skip (VC.seq (VC.text ?_)); refine VO.r (.ld vt65) ?_; refine VO.c (.move rfl) ?_; refine VO.call rfl rfl (VF.call (gReasonsI_ok hrr.2.1 hgl hrr.2.2.2.2 hrr.2.2.2.1 hll hru)) ?_; refine VO.c (.move rfl) ?_; refine VO.c (.extract) ?_; refine VO.c (.extract) ?_; refine VO.c (.assign rfl) ?_; refine VO.c (.assign rfl) ?_; refine VO.go (VC.seq (VC.text ?_)); refine VO.r (.ld vt65) ?_; refine VO.c (.move rfl) ?_; refine VO.call rfl rfl (VF.call (gKeeping_ok hl (reaS_len _).2 hrr.2.2.2.1)) ?_; refine VO.setV (cs' := [St r.1, I r.2.1, .v y53 (keptL r ((reaS r l l.length).2) plusZ ((reaS r l l.length).2).length), .v y22 (gapsE ((reaS r l l.length).2) ((reaS r l l.length).2).length)]) vt65 .v ?_; refine VO.c (.assign rfl) ?_; refine VO.go ?_; refine VC.ret ?_; exact VEnd.two rfl (.cell (x := (r.1, r.2.1, keptL r ((reaS r l l.length).2) plusZ ((reaS r l l.length).2).length, gapsE ((reaS r l l.length).2) ((reaS r l l.length).2).length)) rfl m0 vt65 .refl) evT (pvE (by exact (if_neg c2).symm)) (pvI (by exact (Classical.not_not.1 c2).symm))
end Go.Proofs
namespace Go.Proofs
open Go.Fs Ieee
set_option linter.unusedVariables false
set_option maxHeartbeats 400000

theorem firstE_2 {x y : Int} {l : List Int} (hx : x = 0) (hy : y = 0) : firstE (x :: y :: l) = firstE l := by
  subst hx; subst hy; rfl
end Go.Proofs
namespace Go.Proofs
open Go.Fs Ieee
set_option linter.unusedVariables false
set_option maxHeartbeats 400000

theorem in_cons {s : Int × Int} {a : List (Int × Int)} {t : Int} : Sp.inL (s :: a) t = true ↔ (s.1 ≤ t ∧ t < s.2) ∨ Sp.inL a t = true := by
  unfold Sp.inL
  simp
theorem in_gt {a : List (Int × Int)} {c t : Int} (h : ∀ x ∈ a, c < x.1) (hi : Sp.inL a t = true) : c < t := by
  obtain ⟨x, hx, h2⟩ := List.any_eq_true.1 hi
  simp only [Bool.and_eq_true, decide_eq_true_eq] at h2
  have := h x hx
  omega
theorem canon_tail {m : Int} {s : Int × Int} {a : List (Int × Int)} (h : Sp.Canon m (s :: a)) : Sp.Canon m a ∧ (s.1 < s.2) ∧ ∀ x ∈ a, s.2 < x.1 :=
  ⟨⟨fun x hx => h.1 x (List.mem_cons_of_mem _ hx), (List.pairwise_cons.1 h.2).2⟩, (h.1 s List.mem_cons_self).2.1, (List.pairwise_cons.1 h.2).1⟩
theorem canon_ext {m : Int} : ∀ {a b : List (Int × Int)}, Sp.Canon m a → Sp.Canon m b → (∀ t : Int, Sp.inL a t = Sp.inL b t) → a = b
  | [], [], _, _, _ => rfl
  | [], u :: b, _, hb, h => by
    have h1 := canon_tail hb
    have h2 := in_cons.2 (.inl ⟨Int.le_refl u.1, h1.2.1⟩ : (u.1 ≤ u.1 ∧ u.1 < u.2) ∨ Sp.inL b u.1 = true)
    rw [← h u.1] at h2
    cases h2
  | s :: a, [], ha, _, h => by
    have h1 := canon_tail ha
    have h2 := in_cons.2 (.inl ⟨Int.le_refl s.1, h1.2.1⟩ : (s.1 ≤ s.1 ∧ s.1 < s.2) ∨ Sp.inL a s.1 = true)
    rw [h s.1] at h2
    cases h2
  | s :: a, u :: b, ha, hb, h => by
    obtain ⟨ca, s0, sa⟩ := canon_tail ha
    obtain ⟨cb, u0, ub⟩ := canon_tail hb
    have key : ∀ t, ((s.1 ≤ t ∧ t < s.2) ∨ Sp.inL a t = true) ↔ ((u.1 ≤ t ∧ t < u.2) ∨ Sp.inL b t = true) := fun t => by rw [← in_cons, ← in_cons, h t]
    have e1 : s.1 = u.1 := by
      have k1 := (key s.1).1 (.inl ⟨Int.le_refl _, s0⟩)
      have k2 := (key u.1).2 (.inl ⟨Int.le_refl _, u0⟩)
      have k1' : u.1 ≤ s.1 := by
        rcases k1 with k1 | k1
        · exact k1.1
        have := in_gt ub k1; omega
      have k2' : s.1 ≤ u.1 := by
        rcases k2 with k2 | k2
        · exact k2.1
        have := in_gt sa k2; omega
      omega
    have e2 : s.2 = u.2 := by
      rcases Int.lt_trichotomy s.2 u.2 with hlt | he | hlt
      · rcases (key s.2).2 (.inl ⟨by omega, hlt⟩) with k | k
        · omega
        have := in_gt sa k; omega
      · exact he
      rcases (key u.2).1 (.inl ⟨by omega, hlt⟩) with k | k
      · omega
      have := in_gt ub k; omega
    have e3 : a = b := canon_ext ca cb fun t => by
      rw [Bool.eq_iff_iff]
      constructor
      · intro hi
        have := in_gt sa hi
        rcases (key t).1 (.inr hi) with k | k
        · omega
        exact k
      intro hi
      have := in_gt ub hi
      rcases (key t).2 (.inr hi) with k | k
      · omega
      exact k
    rw [e3, show s = u from Prod.ext e1 e2]
theorem last_split {α : Type} {l : List α} (h : 0 < l.length) : l = l.take (l.length - 1) ++ [l[l.length - 1]'(by omega)] := by
  have h2 := List.take_succ_eq_append_getElem (l := l) (i := l.length - 1) (by omega)
  rw [show l.length - 1 + 1 = l.length by omega, List.take_length] at h2
  exact h2
theorem last_set {α : Type} {l : List α} {y : α} (h : 0 < l.length) : l.set (l.length - 1) y = l.take (l.length - 1) ++ [y] := by
  rw [List.set_eq_take_append_cons_drop, if_pos (by omega), List.drop_eq_nil_of_le (by omega)]
theorem gap_cases (out : List (Int × Int)) (i : Nat) : (∃ init x, out = init ++ [x] ∧ x.2 = (i : Int) ∧ gapS out i = init ++ [(x.1, (i : Int) + 1)]) ∨ ((out = [] ∨ ∃ init x, out = init ++ [x] ∧ x.2 ≠ (i : Int)) ∧ gapS out i = out ++ [((i : Int), (i : Int) + 1)]) := by
  by_cases h0 : 0 < out.length
  · have hs := last_split h0
    have hx : spX out (out.length - 1) = out[out.length - 1]'(by omega) := spX_eq (by omega)
    by_cases h1 : (spX out (out.length - 1)).2 = (i : Int)
    · refine .inl ⟨_, _, hs, by rw [← hx]; exact h1, ?_⟩
      rw [gapS_1 h0 h1, last_set h0, hx]
    refine .inr ⟨.inr ⟨_, _, hs, by rw [← hx]; exact h1⟩, gapS_2 (fun hh => h1 hh.2)⟩
  have h2 : out = [] := List.length_eq_zero_iff.1 (by omega)
  exact .inr ⟨.inl h2, gapS_2 (fun hh => h0 hh.1)⟩
theorem gapsE_s {l : List Bool} {i : Nat} : gapsE l (i + 1) = if l.getD i false = true then gapsE l i else gapS (gapsE l i) i := rfl
theorem gaps_canon {l : List Bool} : ∀ i : Nat, Sp.Canon (i : Int) (gapsE l i)
  | 0 => ⟨fun s hs => (by cases hs), List.Pairwise.nil⟩
  | i + 1 => by
    have ih := gaps_canon (l := l) i
    rw [gapsE_s]
    split
    · exact ⟨fun s hs => by have := ih.1 s hs; omega, ih.2⟩
    rcases gap_cases (gapsE l i) i with ⟨init, x, e1, e2, e3⟩ | ⟨e1, e3⟩
    · rw [e3]
      rw [e1] at ih
      have hx := ih.1 x (by simp)
      obtain ⟨p1, _, p3⟩ := List.pairwise_append.1 ih.2
      refine ⟨fun s hs => ?_, List.pairwise_append.2 ⟨p1, List.pairwise_singleton _ _, fun s hs u hu => ?_⟩⟩
      · rcases List.mem_append.1 hs with hs | hs
        · have := ih.1 s (List.mem_append_left _ hs); omega
        rw [List.mem_singleton.1 hs]
        show 0 ≤ x.1 ∧ x.1 < (i : Int) + 1 ∧ (i : Int) + 1 ≤ ((i + 1 : Nat) : Int)
        omega
      rw [List.mem_singleton.1 hu]
      exact p3 s hs x (List.mem_singleton.2 rfl)
    rw [e3]
    have hlt : ∀ s ∈ gapsE l i, s.2 < (i : Int) := fun s hs => by
      rcases e1 with e1 | ⟨init, x, e1, e2⟩
      · rw [e1] at hs; cases hs
      rw [e1] at hs ih
      have hx := ih.1 x (by simp)
      rcases List.mem_append.1 hs with hs | hs
      · have := (List.pairwise_append.1 ih.2).2.2 s hs x (List.mem_singleton.2 rfl)
        omega
      rw [List.mem_singleton.1 hs]; omega
    refine ⟨fun s hs => ?_, List.pairwise_append.2 ⟨ih.2, List.pairwise_singleton _ _, fun s hs u hu => ?_⟩⟩
    · rcases List.mem_append.1 hs with hs | hs
      · have := ih.1 s hs; omega
      rw [List.mem_singleton.1 hs]
      show 0 ≤ (i : Int) ∧ (i : Int) < (i : Int) + 1 ∧ (i : Int) + 1 ≤ ((i + 1 : Nat) : Int)
      omega
    rw [List.mem_singleton.1 hu]
    exact hlt s hs
theorem gaps_in {l : List Bool} {t : Int} : ∀ i : Nat, (Sp.inL (gapsE l i) t = true ↔ 0 ≤ t ∧ t < (i : Int) ∧ l.getD t.toNat false = false)
  | 0 => ⟨fun h => (by cases h), fun h => by omega⟩
  | i + 1 => by
    have ih := gaps_in (l := l) (t := t) i
    have hc := gaps_canon (l := l) i
    rw [gapsE_s]
    split
    · rename_i hb
      rw [ih]
      refine ⟨fun h => ⟨h.1, by omega, h.2.2⟩, fun h => ⟨h.1, ?_, h.2.2⟩⟩
      by_cases e : t = (i : Int)
      · have := h.2.2
        rw [e, Int.toNat_natCast, hb] at this
        cases this
      omega
    rename_i hb
    have hb : l.getD i false = false := by simpa using hb
    have hn : (0 ≤ t ∧ t < ((i + 1 : Nat) : Int) ∧ l.getD t.toNat false = false) ↔ ((0 ≤ t ∧ t < (i : Int) ∧ l.getD t.toNat false = false) ∨ t = (i : Int)) := by
      constructor
      · intro h
        by_cases e : t = (i : Int)
        · exact .inr e
        exact .inl ⟨h.1, by omega, h.2.2⟩
      intro h
      rcases h with h | h
      · exact ⟨h.1, by omega, h.2.2⟩
      refine ⟨by omega, by omega, ?_⟩
      rw [h, Int.toNat_natCast]; exact hb
    rw [hn, ← ih]
    rcases gap_cases (gapsE l i) i with ⟨init, x, e1, e2, e3⟩ | ⟨e1, e3⟩
    · have hx := hc.1 x (by rw [e1]; simp)
      rw [e3, e1, Sp.inL_app, Sp.inL_app, Bool.or_eq_true, Bool.or_eq_true, Sp.inL_one, show [x] = [(x.1, x.2)] from rfl, Sp.inL_one]
      constructor
      · intro h
        rcases h with h | h
        · exact .inl (.inl h)
        by_cases e : t = (i : Int)
        · exact .inr e
        exact .inl (.inr (by omega))
      intro h
      rcases h with (h | h) | h
      · exact .inl h
      · exact .inr (by omega)
      exact .inr (by omega)
    rw [e3, Sp.inL_app, Bool.or_eq_true, Sp.inL_one]
    constructor
    · intro h
      rcases h with h | h
      · exact .inl h
      exact .inr (by omega)
    intro h
    rcases h with h | h
    · exact .inl h
    exact .inr (by omega)
theorem offB_getD {n : Nat} {p : Int → Bool} {t : Nat} (h : t < n) : (offB n p).getD t false = !p (t : Int) := by
  rw [getDat (by rw [offB_len]; exact h), offB_at h]
theorem gaps_off {n : Nat} {G : List (Int × Int)} (h : Sp.Canon (n : Int) G) : gapsE (offB n (Sp.inL G)) n = G := by
  refine canon_ext (gaps_canon n) h fun t => ?_
  rw [Bool.eq_iff_iff, gaps_in]
  constructor
  · intro hh
    have h1 := offB_getD (p := Sp.inL G) (show t.toNat < n by omega)
    rw [hh.2.2, show ((t.toNat : Nat) : Int) = t by omega] at h1
    simpa using h1.symm
  intro hh
  obtain ⟨x, hx, h2⟩ := List.any_eq_true.1 hh
  simp only [Bool.and_eq_true, decide_eq_true_eq] at h2
  have h3 := h.1 x hx
  refine ⟨by omega, by omega, ?_⟩
  rw [offB_getD (show t.toNat < n by omega), show ((t.toNat : Nat) : Int) = t by omega, hh] <;> rfl
theorem rec_canon {r : Rec1} (h : recE r = 0) : Sp.Canon (r.2.2.1.length : Nat) r.2.2.2 ∧ fillB r = false ∧ nameB r.1 = true := by
  have h0 := (rec_ok h).2.2.2.2
  unfold recE at h
  split at h
  · rename_i h1; exact absurd h h1
  rename_i h1
  split at h
  · rename_i h2; exact absurd h h2
  rename_i h2
  split at h
  · cases h
  rename_i h3
  have h1 := firstE_zero.1 (Classical.not_not.1 h1)
  have h2 := bodyE_zero.1 (Classical.not_not.1 h2)
  have h4 := spans_canon h2.2
  have h6 := h1 (whenE (!nameB r.1) 8) (by simp)
  rw [whenE_zero (by decide)] at h6 h
  exact ⟨⟨h0, h4.1.2⟩, h, by simpa using h6⟩
theorem rec_gaps {r : Rec1} (h : recE r = 0) : gapsE (thereE r) (thereE r).length = r.2.2.2 := by
  unfold thereE
  rw [offB_len]
  exact gaps_off (rec_canon h).1
end Go.Proofs
namespace Go.Proofs
open Go.Fs Ieee
set_option linter.unusedVariables false
set_option maxHeartbeats 400000

def flP (n : Int) (g : Int × Int) : Prop := g.1 = 0 ∨ n < g.2 - g.1
instance (n : Int) (g : Int × Int) : Decidable (flP n g) := inferInstanceAs (Decidable (g.1 = 0 ∨ n < g.2 - g.1))
theorem getD_lv0 {r : Rec1} {i : Nat} (h : ∀ x ∈ r.2.2.1, lvlE x = 0) : lvlE (r.2.2.1.getD i 0) = 0 := by
  by_cases hi : i < r.2.2.1.length
  · rw [getDat hi]; exact h _ (List.getElem_mem hi)
  rw [List.getD_eq_getElem?_getD, List.getElem?_eq_none (by omega)]; decide +kernel
theorem getD_out {α : Type} {l : List α} {i : Nat} {d : α} (h : ¬ i < l.length) : l.getD i d = d := by
  rw [List.getD_eq_getElem?_getD, List.getElem?_eq_none (by omega)] <;> rfl
end Go.Proofs
namespace Go.Proofs
open Go.Fs Ieee
set_option linter.unusedVariables false
set_option maxHeartbeats 400000

theorem set_getD {α : Type} {l : List α} {i j : Nat} {v d : α} (hj : j < l.length) : (l.set i v).getD j d = if i = j then v else l.getD j d := by
  rw [getDat (by rw [List.length_set]; exact hj), List.getElem_set, getDat hj]
structure LeftI (r : Rec1) (S : List Int × List Bool) : Prop where
  l1 : S.1.length = r.2.2.1.length
  l2 : S.2.length = r.2.2.1.length
  at_ : ∀ i : Nat, i < r.2.2.1.length → S.2.getD i false = (recB r i && decide (S.1.getD i 0 = 0))
theorem LeftI.step {r : Rec1} {x : Rul1} {n : Int} {old : List Bool} {S : List Int × List Bool} {i : Nat} (h : LeftI r S) (hn : n ≠ 0) : LeftI r (stepR r x n old S i) := by
  unfold stepR
  split
  · refine ⟨by rw [List.length_set]; exact h.l1, by rw [List.length_set]; exact h.l2, fun j hj => ?_⟩
    show (S.2.set i false).getD j false = (recB r j && decide ((S.1.set i n).getD j 0 = 0))
    rw [set_getD (by rw [h.l2]; exact hj), set_getD (by rw [h.l1]; exact hj)]
    by_cases e : i = j
    · rw [if_pos e, if_pos e, decide_eq_false hn, Bool.and_false]
    rw [if_neg e, if_neg e]; exact h.at_ j hj
  exact h
theorem LeftI.run {r : Rec1} {x : Rul1} {n : Int} {S : List Int × List Bool} (h : LeftI r S) (hn : n ≠ 0) : ∀ i : Nat, LeftI r (runR r x n S i)
  | 0 => h
  | i + 1 => (LeftI.run h hn i).step hn
theorem rea_left {r : Rec1} {l : List Rul1} : ∀ k : Nat, LeftI r (reaS r l k)
  | 0 => ⟨List.length_replicate, thereE_len, fun i hi => by
    show (thereE r).getD i false = (recB r i && decide ((List.replicate r.2.2.1.length (0 : Int)).getD i 0 = 0))
    rw [getDat (by rw [thereE_len]; exact hi), thereE_at hi (by rw [thereE_len]; exact hi), getDat (by rw [List.length_replicate]; exact hi), List.getElem_replicate, decide_eq_true rfl, Bool.and_true]⟩
  | k + 1 => LeftI.run (rea_left k) (by omega) _
theorem neq_00 : fcmpE .neq .f32 0 0 = false := by decide +kernel
theorem same_kept3 {r : Rec1} {l : List Bool} {n : Nat} (hv : ∀ x ∈ r.2.2.1, lvlE x = 0) : sameLv (keptL r l plusZ n) (keptL r l id n) = true := by
  refine decide_eq_true ⟨by rw [keptL_len, keptL_len], fun i hi => ?_⟩
  rw [keptL_len] at hi
  rw [getDat (by rw [keptL_len]; exact hi), getDat (by rw [keptL_len]; exact hi), keptL_at hi, keptL_at hi]
  by_cases hc : i < n ∧ l.getD i false = true
  · rw [if_pos hc, if_pos hc, getDat hi]
    have h1 := hv _ (List.getElem_mem hi)
    have h2 := lvl_ok h1
    have h3 := plusZ_ok h1
    show fcmpE .neq .f32 (plusZ r.2.2.1[i]) r.2.2.1[i] = false
    rw [(fcmp32 (h3.2.2.trans h2.1) h2.1).2.1]
    exact decide_eq_false (by simp)
  rw [if_neg hc, if_neg hc]; exact neq_00
theorem zero_of {x : Nat} (hv : lvlE x = 0) (h : nzE x = false) : fcmpE .neq .f32 0 x = false := by
  have h1 := lvl_ok hv
  unfold nzE at h
  rw [(fcmp32 h1.1 u32_0).2.1, decide_eq_false_iff_not] at h
  rw [(fcmp32 u32_0 h1.1).2.1]
  exact decide_eq_false (by omega)
end Go.Proofs
namespace Go.Proofs
open Go.Fs
set_option linter.unusedVariables false
set_option maxHeartbeats 2000000
theorem vt22 : ValT Tryz.prog 22 y22 := valT_of (by kernel_rfl)
end Go.Proofs
namespace Go.Proofs
open Go.Fs
set_option linter.unusedVariables false
set_option maxHeartbeats 2000000

theorem spans_of {l : List (Int × Int)} (h : Sp.Canon 100000 l) (hn : l.length ≤ 2048) : spansE l = 0 := by
  unfold spansE
  rw [if_neg (by omega)]
  unfold firstR
  rw [firstE_zero]
  intro x hx
  obtain ⟨j, hj, rfl⟩ := List.mem_map.1 hx
  rw [List.mem_range'_1] at hj
  have hjl : j < l.length := by omega
  unfold spanAt
  rw [firstE_zero]
  intro y hy
  simp only [List.mem_cons, List.not_mem_nil, or_false] at hy
  rcases hy with rfl | rfl
  · rw [spX_eq hjl]; exact spanE_zero.2 (h.1 _ (List.getElem_mem hjl))
  rw [whenE_zero (by decide)]
  rcases Nat.eq_zero_or_pos j with h1 | h1
  · subst h1; rfl
  rw [decide_eq_true (show (0 : Int) < (j : Int) by omega), Bool.true_and, decide_eq_false_iff_not, spX_eq hjl, spX_eq (show j - 1 < l.length by omega)]
  have := List.pairwise_iff_getElem.1 h.2 (j - 1) j (by omega) hjl (by omega)
  omega
end Go.Proofs
namespace Go.Proofs
open Go.Fs Ieee
set_option linter.unusedVariables false
set_option maxHeartbeats 400000

theorem rec_of {r : Rec1} (h1 : nameB r.1 = true) (h2 : 0 ≤ r.2.1 ∧ r.2.1 ≤ 100000) (h3 : r.2.2.1.length ≤ 4096) (h4 : ∀ x ∈ r.2.2.1, lvlE x = 0) (h5 : Sp.Canon (r.2.2.1.length : Nat) r.2.2.2) (h6 : r.2.2.2.length ≤ 2048) (h7 : fillB r = false) : recE r = 0 := by
  have a1 : headE r = 0 := firstE_zero.2 fun x hx => by
    simp only [List.mem_cons, List.not_mem_nil, or_false] at hx
    rcases hx with rfl | rfl | rfl
    · rw [h1] <;> rfl
    · exact rangeE_zero.2 h2
    exact (whenE_zero (by decide)).2 (decide_eq_false (by omega))
  have a2 : bodyE r = 0 := bodyE_zero.2 ⟨firstE_zero.2 fun x hx => by
    obtain ⟨y, hy, rfl⟩ := List.mem_map.1 hx
    exact h4 y hy, spans_of ⟨fun s hs => by have := h5.1 s hs; omega, h5.2⟩ h6⟩
  have a3 : beyB r = false := List.any_eq_false.2 fun s hs => by
    have := h5.1 s hs
    simp only [decide_eq_true_eq]; omega
  unfold recE
  rw [if_neg (fun h => h a1), if_neg (fun h => h a2), a3, if_neg (by decide), h7] <;> rfl
abbrev keepR (r : Rec1) (l : List Bool) : Rec1 := (r.1, r.2.1, keptL r l plusZ l.length, gapsE l l.length)
theorem plus_lvl {r : Rec1} {l : List Bool} {n : Nat} (hv : ∀ x ∈ r.2.2.1, lvlE x = 0) : ∀ x ∈ keptL r l plusZ n, lvlE x = 0 := fun x hx => by
  obtain ⟨j, _, rfl⟩ := List.mem_map.1 hx
  split
  · exact (plusZ_ok (getD_lv0 hv)).2.1
  decide +kernel
theorem nz0 : nzE 0 = false := by decide +kernel
theorem rec_keep {r : Rec1} {l : List Bool} (h : recE r = 0) (hl : l.length = r.2.2.1.length) (hn : l.length ≤ 2048) : recE (keepR r l) = 0 := by
  have hr := rec_ok h
  have hc := rec_canon h
  have hk : (keptL r l plusZ l.length).length = l.length := by rw [keptL_len, hl]
  have hg := gaps_canon (l := l) l.length
  have hgl := gapsE_len l l.length
  refine rec_of hc.2.2 hr.1 (by show (keptL _ _ _ _).length ≤ _; omega) (plus_lvl hr.2.2.2.1) (by show Sp.Canon ((keptL _ _ _ _).length : Nat) _; rw [hk]; exact hg) (by show (gapsE _ _).length ≤ _; omega) ?_
  refine fill_f (r := keepR r l) (fun i hi hh => ?_) fun s hs => ?_
  · have hi : i < (keptL r l plusZ l.length).length := hi
    have h2 : Sp.inL (gapsE l l.length) (i : Int) = true := hh.2
    have h3 := ((gaps_in l.length).1 h2).2.2
    rw [Int.toNat_natCast] at h3
    have h4 : nzE ((keptL r l plusZ l.length)[i]) = true := hh.1
    rw [keptL_at (by omega), if_neg (fun hc => by rw [h3] at hc; exact absurd hc.2 (by decide)), nz0] at h4
    cases h4
  have := hg.1 s hs
  show 0 ≤ s.1 ∧ s.1 ≤ s.2 ∧ s.2 ≤ ((keptL r l plusZ l.length).length : Nat)
  omega
theorem there_keep {r : Rec1} {l : List Bool} (hl : l.length = r.2.2.1.length) : thereE (keepR r l) = l := by
  have hk : (keptL r l plusZ l.length).length = l.length := by rw [keptL_len, hl]
  refine List.ext_getElem (by rw [thereE_len]; exact hk) fun i h1 h2 => ?_
  rw [thereE_at (show i < (keptL r l plusZ l.length).length by omega) h1, recB_in (show i < (keptL r l plusZ l.length).length by omega)]
  show (!Sp.inL (gapsE l l.length) (i : Int)) = l[i]
  have h3 := gaps_in (l := l) (t := (i : Int)) l.length
  rw [Int.toNat_natCast, getDat h2] at h3
  cases hb : l[i] with
  | true =>
    rw [hb] at h3
    cases hi : Sp.inL (gapsE l l.length) (i : Int) with
    | false => rfl
    | true => exact absurd (h3.1 hi).2.2 (by decide)
  | false =>
    rw [hb] at h3
    rw [h3.2 ⟨by omega, by omega, rfl⟩] <;> rfl
theorem lev_keep {r : Rec1} {l : List Bool} {i : Nat} (hv : ∀ x ∈ r.2.2.1, lvlE x = 0) (hl : l.length = r.2.2.1.length) (hi : i < l.length) (hb : l.getD i false = true) : lev16 (keepR r l) i = lev16 r i := by
  have hk : (keptL r l plusZ l.length).length = l.length := by rw [keptL_len, hl]
  rw [lev16_at (show i < (keptL r l plusZ l.length).length by omega), lev16_at (show i < r.2.2.1.length by omega)]
  show sxE ((keptL r l plusZ l.length)[i]) = _
  rw [keptL_at (by omega), if_pos ⟨hi, hb⟩, getDat (by omega)]
  have h1 := hv _ (List.getElem_mem (show i < r.2.2.1.length by omega))
  have h2 := plusZ_ok h1
  have h3 := lvl_ok h1
  have h4 := lvl_ok h2.2.1
  have h5 : u32 (plusZ r.2.2.1[i]) = u32 r.2.2.1[i] := h2.2.2
  rw [h3.1, h4.1] at h5
  have := Option.some.inj h5
  omega
def SubB (a b : List Bool) : Prop := ∀ i : Nat, a.getD i false = true → b.getD i false = true
theorem set_false {l : List Bool} {i j : Nat} (h : (l.set i false).getD j false = true) : l.getD j false = true := by
  by_cases hj : j < l.length
  · rw [set_getD hj] at h
    split at h
    · cases h
    exact h
  rw [getD_out (by rw [List.length_set]; exact hj)] at h; cases h
theorem step_sub {r : Rec1} {x : Rul1} {n : Int} {old : List Bool} {S : List Int × List Bool} {i : Nat} : SubB (stepR r x n old S i).2 S.2 := fun j h => by
  unfold stepR at h
  split at h
  · exact set_false h
  exact h
theorem run_sub {r : Rec1} {x : Rul1} {n : Int} {S : List Int × List Bool} {i : Nat} : ∀ d : Nat, SubB (runR r x n S (i + d)).2 (runR r x n S i).2
  | 0 => fun _ h => h
  | d + 1 => fun j h => run_sub d j (step_sub j h)
theorem rea_sub {r : Rec1} {l : List Rul1} {k : Nat} : ∀ d : Nat, SubB (reaS r l (k + d)).2 (reaS r l k).2
  | 0 => fun _ h => h
  | d + 1 => fun j h => by
    refine rea_sub d j ?_
    have h2 : (runR r (rulX l (k + d)) (((k + d : Nat) : Int) + 1) (reaS r l (k + d)) r.2.2.1.length).2.getD j false = true := h
    have := run_sub (i := 0) r.2.2.1.length j (by rw [Nat.zero_add]; exact h2)
    exact this
theorem left_sub {r : Rec1} {l : List Rul1} {k j : Nat} (hk : k < l.length) (hj : j ≤ r.2.2.1.length) : SubB (reaS r l l.length).2 (runR r (rulX l k) ((k : Int) + 1) (reaS r l k) j).2 := fun i h => by
  have h1 := rea_sub (r := r) (l := l) (k := k + 1) (l.length - (k + 1)) i (by rw [show k + 1 + (l.length - (k + 1)) = l.length by omega]; exact h)
  have h2 : (runR r (rulX l k) ((k : Int) + 1) (reaS r l k) r.2.2.1.length).2.getD i false = true := h1
  have h3 := run_sub (i := j) (r.2.2.1.length - j) i (by rw [show j + (r.2.2.1.length - j) = r.2.2.1.length by omega]; exact h2)
  exact h3
theorem kept_no {r : Rec1} {l : List Rul1} {k i : Nat} (hk : k < l.length) (hi : i < r.2.2.1.length) (h : (reaS r l l.length).2.getD i false = true) : rmvE r (rulX l k) (reaS r l k).2 (runR r (rulX l k) ((k : Int) + 1) (reaS r l k) i).2 i = false := by
  cases hc : rmvE r (rulX l k) (reaS r l k).2 (runR r (rulX l k) ((k : Int) + 1) (reaS r l k) i).2 i with
  | false => rfl
  | true =>
    have h1 := left_sub hk (show i + 1 ≤ r.2.2.1.length by omega) i h
    have h2 := left_sub hk (Nat.zero_le _) i h
    have e := runR_t (n := (k : Int) + 1) (S := reaS r l k) (x := rulX l k) (r := r) (i := i) h2 hc
    rw [e] at h1
    have hl : i < (runR r (rulX l k) ((k : Int) + 1) (reaS r l k) i).2.length := by rw [(runR_len (reaS_len k) i).2]; exact hi
    rw [set_getD hl, if_pos rfl] at h1
    cases h1
theorem rmv_mono {r : Rec1} {x : Rul1} {T old now : List Bool} {i : Nat} (hv : ∀ y ∈ r.2.2.1, lvlE y = 0) (hl : T.length = r.2.2.1.length) (hi : i < T.length) (hT : T.getD i false = true) (ho : SubB T old) (hn : SubB T now) (h : rmvE r x old now i = false) : rmvE (keepR r T) x T T i = false := by
  have hlv : ∀ j, j < T.length → T.getD j false = true → lev16 (keepR r T) j = lev16 r j := fun j hj hb => lev_keep hv hl hj hb
  unfold rmvE at h ⊢
  by_cases h1 : x.1 = sRange
  · rw [if_pos h1] at h ⊢
    rw [hlv i hi hT]; exact h
  rw [if_neg h1] at h ⊢
  by_cases h2 : x.1 = sJump
  · rw [if_pos h2] at h ⊢
    cases hp : T.getD (i - 1) false with
    | false => simp
    | true =>
      rw [hn _ hp] at h
      rw [hlv i hi hT, hlv (i - 1) (by omega) hp]; exact h
  rw [if_neg h2] at h ⊢
  cases hs : stuckB (keepR r T) x.2.1 T i with
  | false => simp
  | true =>
    have hs2 : stuckB r x.2.1 old i = true := decide_eq_true fun j h3 h4 => by
      have h5 := of_decide_eq_true hs j h3 h4
      refine ⟨ho j h5.1, ?_⟩
      have h6 := h5.2
      rw [hlv j (by omega) h5.1, hlv i hi hT] at h6
      exact h6
    rw [hs2] at h; exact h
theorem again_none {r : Rec1} {l : List Rul1} (h : recE r = 0) : ∀ k : Nat, k ≤ l.length → reaS (keepR r (reaS r l l.length).2) l k = (List.replicate r.2.2.1.length 0, (reaS r l l.length).2) := by
  have hr := rec_ok h
  have hl := (reaS_len (r := r) (l := l) l.length).2
  have hK : (keepR r (reaS r l l.length).2).2.2.1.length = r.2.2.1.length := keptL_len
  intro k
  induction k with
  | zero =>
    intro _
    show (List.replicate (keptL r _ plusZ _).length 0, thereE (keepR r _)) = _
    rw [keptL_len, there_keep hl]
  | succ k ih =>
    intro hk
    have ih := ih (by omega)
    show runR _ (rulX l k) ((k : Int) + 1) (reaS _ l k) (keptL r _ plusZ _).length = _
    rw [ih, keptL_len]
    have hrun : ∀ j, j ≤ r.2.2.1.length → runR (keepR r (reaS r l l.length).2) (rulX l k) ((k : Int) + 1) (List.replicate r.2.2.1.length 0, (reaS r l l.length).2) j = (List.replicate r.2.2.1.length 0, (reaS r l l.length).2) := by
      intro j
      induction j with
      | zero => intro _; rfl
      | succ j ihj =>
        intro hj
        have ihj := ihj (by omega)
        show stepR _ _ _ _ (runR _ _ _ _ j) j = _
        rw [ihj]
        unfold stepR
        cases hb : (reaS r l l.length).2.getD j false with
        | false => rw [if_neg]; simp
        | true =>
          have h1 := kept_no (r := r) (l := l) (k := k) (i := j) (by omega) (by omega) hb
          have h2 := rmv_mono (x := rulX l k) hr.2.2.2.1 hl (by omega) hb (left_sub (by omega) (Nat.zero_le _)) (left_sub (by omega) (by omega)) h1
          rw [h2, if_neg (by simp)]
    exact hrun _ (Nat.le_refl _)
end Go.Proofs
