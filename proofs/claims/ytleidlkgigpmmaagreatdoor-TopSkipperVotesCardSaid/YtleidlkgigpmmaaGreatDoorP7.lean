/- Parts of the proof: an evaluator of the model, what it is sound for, and contracts of functions. No condition. -/
import Derived.Test.YtleidlkgigpmmaaGreatDoorP6
import Derived.Test.YtleidlkgigpmmaaGreatDoorP5
set_option linter.all false
namespace Go.Proofs
open Go.Fs Ieee
set_option maxHeartbeats 2000000
theorem vt30 : ValT Tryz.prog 30 y30 := valT_of (by kernel_rfl)
theorem zt30 : ZerT Tryz.prog 30 y30 := zerT_of (z := .agg #[.string ByteArray.empty, .int .i64 0, .slice none 0 0, .slice none 0 0]) (by kernel_rfl) rfl rfl
theorem zt39 : ZerT Tryz.prog 39 (.flt .f32) := zerT_of (z := .float .f32 0) (by kernel_rfl) rfl rfl
theorem bt30 : BldT Tryz.prog 30 y30 [(0, 1), (1, 1), (2, 1), (3, 1)] := bldT_of zt30 rfl (by kernel_rfl)
theorem bt54 : BldT Tryz.prog 54 y54 [(0, 1), (1, 1)] := bldT_of zt54 rfl (by kernel_rfl)
def canS (out : List (Int × Int)) (s : Int × Int) : List (Int × Int) :=
  if s.2 ≤ s.1 then out
  else if 0 < out.length ∧ s.1 ≤ (spX out (out.length - 1)).2 then out.set (out.length - 1) ((spX out (out.length - 1)).1, max (spX out (out.length - 1)).2 s.2)
  else out ++ [s]
def canE (l : List (Int × Int)) : List (Int × Int) := l.foldl canS []
theorem canE_snoc (l : List (Int × Int)) (s : Int × Int) : canE (l ++ [s]) = canS (canE l) s := by simp [canE]
theorem canE_next {l : List (Int × Int)} {j : Nat} (h : j < l.length) : canE (l.take (j + 1)) = canS (canE (l.take j)) l[j] := by
  rw [List.take_succ_eq_append_getElem h, canE_snoc]
theorem canS_len (out : List (Int × Int)) (s : Int × Int) : (canS out s).length ≤ out.length + 1 := by
  unfold canS; split
  · omega
  split
  · rw [List.length_set]; omega
  rw [List.length_append, List.length_singleton]; omega
theorem foldl_len : ∀ (l out : List (Int × Int)), (l.foldl canS out).length ≤ out.length + l.length
  | [], out => by simp
  | s :: l, out => by
    have h1 := foldl_len l (canS out s); have h2 := canS_len out s; rw [List.foldl_cons, List.length_cons]; omega
theorem canE_len (l : List (Int × Int)) : (canE l).length ≤ l.length := by
  have := foldl_len l []; simpa [canE] using this
theorem canS_0 {out : List (Int × Int)} {s : Int × Int} (h : s.2 ≤ s.1) : canS out s = out := by rw [canS, if_pos h]
theorem canS_1 {out : List (Int × Int)} {s : Int × Int} (h : ¬ s.2 ≤ s.1) (h0 : 0 < out.length) (h1 : s.1 ≤ (spX out (out.length - 1)).2) : canS out s = out.set (out.length - 1) ((spX out (out.length - 1)).1, max (spX out (out.length - 1)).2 s.2) := by rw [canS, if_neg h, if_pos ⟨h0, h1⟩]
theorem canS_2 {out : List (Int × Int)} {s : Int × Int} (h : ¬ s.2 ≤ s.1) (h1 : ¬ (0 < out.length ∧ s.1 ≤ (spX out (out.length - 1)).2)) : canS out s = out ++ [s] := by rw [canS, if_neg h, if_neg h1]
def gapS (out : List (Int × Int)) (i : Nat) : List (Int × Int) :=
  if 0 < out.length ∧ (spX out (out.length - 1)).2 = (i : Int) then out.set (out.length - 1) ((spX out (out.length - 1)).1, (i : Int) + 1)
  else out ++ [((i : Int), (i : Int) + 1)]
def gapsE (l : List Bool) : Nat → List (Int × Int)
  | 0 => []
  | i + 1 => if l.getD i false = true then gapsE l i else gapS (gapsE l i) i
theorem gapS_len (out : List (Int × Int)) (i : Nat) : (gapS out i).length ≤ out.length + 1 := by
  unfold gapS; split
  · rw [List.length_set]; omega
  rw [List.length_append, List.length_singleton]; omega
theorem gapsE_len (l : List Bool) : ∀ i, (gapsE l i).length ≤ i
  | 0 => Nat.le_refl _
  | i + 1 => by
    have h1 := gapsE_len l i; have h2 := gapS_len (gapsE l i) i; unfold gapsE; split <;> omega
theorem gapS_1 {out : List (Int × Int)} {i : Nat} (h0 : 0 < out.length) (h1 : (spX out (out.length - 1)).2 = (i : Int)) : gapS out i = out.set (out.length - 1) ((spX out (out.length - 1)).1, (i : Int) + 1) := by rw [gapS, if_pos ⟨h0, h1⟩]
theorem gapS_2 {out : List (Int × Int)} {i : Nat} (h1 : ¬ (0 < out.length ∧ (spX out (out.length - 1)).2 = (i : Int))) : gapS out i = out ++ [((i : Int), (i : Int) + 1)] := by rw [gapS, if_neg h1]
def unitE (l : List Bool) : Nat → List (Int × Int)
  | 0 => []
  | i + 1 => if l.getD i false = true then unitE l i else unitE l i ++ [((i : Int), (i : Int) + 1)]
theorem unitE_t {l : List Bool} {i : Nat} (h : i < l.length) (hb : l[i] = true) : unitE l (i + 1) = unitE l i := by
  rw [unitE, if_pos (by rw [List.getD_eq_getElem?_getD, List.getElem?_eq_getElem h]; exact hb)]
theorem unitE_f {l : List Bool} {i : Nat} (h : i < l.length) (hb : ¬ l[i] = true) : unitE l (i + 1) = unitE l i ++ [((i : Int), (i : Int) + 1)] := by
  rw [unitE, if_neg (by rw [List.getD_eq_getElem?_getD, List.getElem?_eq_getElem h]; exact hb)]
theorem unitE_len (l : List Bool) : ∀ i, (unitE l i).length ≤ i
  | 0 => Nat.le_refl _
  | i + 1 => by
    have h1 := unitE_len l i; unfold unitE; split
    · omega
    rw [List.length_append, List.length_singleton]; omega
theorem spX_last_set {out : List (Int × Int)} {s : Int × Int} (h : 0 < out.length) : spX (out.set (out.length - 1) s) ((out.set (out.length - 1) s).length - 1) = s := by
  rw [spX_eq (by rw [List.length_set]; omega), List.getElem_set, if_pos (by rw [List.length_set])]
theorem spX_last_app {out : List (Int × Int)} {s : Int × Int} : spX (out ++ [s]) ((out ++ [s]).length - 1) = s := by
  rw [spX_eq (by simp), List.getElem_append_right (by simp)]; simp
theorem gaps_last (l : List Bool) : ∀ i, 0 < (gapsE l i).length → (spX (gapsE l i) ((gapsE l i).length - 1)).2 ≤ (i : Int)
  | 0 => fun h => absurd h (by simp [gapsE])
  | i + 1 => fun h => by
    unfold gapsE at h ⊢; split at h
    · rename_i hb; rw [if_pos hb]; have := gaps_last l i h; omega
    rename_i hb; rw [if_neg hb]; unfold gapS; split
    · rename_i hc; rw [spX_last_set hc.1]; simp
    rw [spX_last_app]; simp
theorem unit_can (l : List Bool) : ∀ i, canE (unitE l i) = gapsE l i
  | 0 => rfl
  | i + 1 => by
    unfold unitE gapsE; split
    · exact unit_can l i
    rw [canE_snoc, unit_can l i]; have hl := gaps_last l i; by_cases hc : 0 < (gapsE l i).length ∧ (spX (gapsE l i) ((gapsE l i).length - 1)).2 = (i : Int)
    · rw [gapS_1 hc.1 hc.2, canS_1 (by show ¬ ((i : Int) + 1 ≤ (i : Int)); omega) hc.1 (by show (i : Int) ≤ _; omega)]; congr 2; show max _ ((i : Int) + 1) = _; omega
    rw [gapS_2 hc, canS_2 (by show ¬ ((i : Int) + 1 ≤ (i : Int)); omega) (fun hd => hc ⟨hd.1, by have := hl hd.1; have h2 : (i : Int) ≤ _ := hd.2; omega⟩)]
theorem spX_pre {l : List (Int × Int)} {n : Nat} (h0 : 0 < n) (h : ((n : Int) - 1).toNat < l.length) : l[((n : Int) - 1).toNat] = spX l (n - 1) := by
  have e : ((n : Int) - 1).toNat = n - 1 := by omega
  simp only [e] at h ⊢; exact (spX_eq h).symm
theorem gCanonO_ok {w_xs : Value} {xs : List (Int × Int)} (hl : xs.length < 1000000) : VFG Tryz.prog OA 58 [.raw w_xs] [(w_xs, .row 54 y54 xs)] (fun r' g => r' = (.v y23 (canE xs)) ∧ g = []) := by
  refine VFG.enterC Tryz.func58 rfl (fun _ _ => rfl) rfl ?_; show VC _ _ _ _ _ [(0, .raw w_xs)] [(w_xs, .row 54 y54 xs)] _; refine VC.seq (VC.text ?_); refine VO.c (.assign rfl) ?_; refine VO.go (VC.seq (VC.text ?_)); refine VO.c (.assign rfl) ?_; refine VO.go (VC.seq (VC.seq (VC.text ?_))); refine VO.c (.move rfl) ?_; refine VO.r (.lenO m0 el23) ?_; refine VO.c (.move rfl) ?_; refine VO.go (VC.block ?_); refine VC.cell0 54 y54 ?_; refine VC.keep [(3, .raw (.slice none 0 0)), (7, .raw w_xs), (8, I ((xs.length : Nat) : Int)), (9, I ((0 : Nat) : Int))] ⟨rfl, rfl, rfl, rfl, trivial⟩ ?_; refine VC.loop (I := fun kk ff ss => ∃ (i : Nat) (out : Value), kk = xs.length - i ∧ ff = [(3, .raw out), (7, .raw w_xs), (8, I ((xs.length : Nat) : Int)), (9, I ((i : Nat) : Int))] ∧ ss = [(out, .row 54 y54 (canE (xs.take i))), (w_xs, .row 54 y54 xs)] ∧ (i ≤ xs.length) ∧ ((canE (xs.take i)).length ≤ i)) ?_ _ _ _ ⟨0, (.slice none 0 0), rfl, rfl, rfl, Nat.zero_le _, (by rw [List.take_zero]; exact Nat.le_refl _)⟩; rintro kk ff ss ⟨i, out, hk0, rfl, rfl, hi, hcl⟩; refine VC.seq (VC.text ?_); refine VO.c (.lss) ?_; refine VO.go (VC.seq ?_); refine VC.condD rfl (fun c3 => ?_) (fun c3 => ?_)
  · refine VC.skip (VC.seq (VC.block (VC.seq (VC.text ?_)))); have e1 := canE_next (show i < xs.length by omega); refine VO.c (.ixO (j := i) rfl rfl m1 el23 (by omega)) ?_; refine VO.r (.ldO rfl m1 vt54 (by omega)) ?_; refine VO.cell (.alloc zt54) ?_; intro ww5; refine VO.setV (cs' := [I ((xs[i]).1), I ((xs[i]).2)]) vt54 .v ?_; refine VO.shut [(5, .p y54 (xs[i]))] (.cons rfl (.var m0 .refl) .nil) ?_; refine VO.go (VC.seq (VC.text ?_)); refine VO.c (.move rfl) ?_; refine VO.r (.lenO m0 el23) ?_; refine VO.c (.assign rfl) ?_; refine VO.go (VC.block (VC.seq (VC.text ?_))); refine VO.c (.fa (.l .o)) ?_; refine VO.r (.ld vt3) ?_; refine VO.c (.fa (.r .o)) ?_; refine VO.r (.ld vt3) ?_; refine VO.c (.geq) (VO.c (.assign rfl) (VO.go ?_)); refine VC.condD rfl (fun c7 => ?_) (fun c7 => ?_)
    · have e3 := canS_0 (out := canE (xs.take i)) c7; refine VC.skip (VC.text ?_); refine VO.c (.add rfl rfl (by omega)) (VO.c (.move rfl) ?_); refine VO.nil ?_; refine ⟨_, [(3, .raw out), (7, .raw w_xs), (8, I ((xs.length : Nat) : Int)), (9, I (((i + 1) : Nat) : Int))], ?_, ⟨rfl, rfl, rfl, rfl, trivial⟩, (i + 1), out, rfl, rfl, (by first | (rw [e1, e3]; done) | (rw [e1, e3, e2]; simp only [e4]; done) | (rw [e1, e3]; rfl)), (by omega), (by exact Nat.le_trans (canE_len _) (List.length_take_le _ _))⟩; omega
    refine VC.seq (VC.drawn ?_); refine VD.c (.move rfl) (VD.c (.gtr) (VD.c (.move rfl) ?_)); refine VD.splitD (x := 28) rfl (fun g8_2 => ?_) (fun g8_2 => ?_)
    · refine VD.c (.move rfl) (VD.c (.move rfl) (VD.nw [] (VD.c (.sub rfl rfl (by omega)) ?_))); refine VD.co (.ixOZ (k := ((((canE (xs.take i)).length : Nat) : Int) - (1 : Int))) rfl rfl m0 el23 (by omega) (by omega)) ?_; refine VD.co (.faE (j := (Int.toNat ((((canE (xs.take i)).length : Nat) : Int) - (1 : Int)))) (k := 1) m0 (by omega)) ?_; refine VD.r [(out, .row 54 y54 (canE (xs.take i))), (w_xs, .row 54 y54 xs)] (.ldE (j := (Int.toNat ((((canE (xs.take i)).length : Nat) : Int) - (1 : Int)))) (k := 1) (by omega) (.r .o) rfl m0 vt3) (.inr ⟨rfl, rfl⟩) ?_; refine VD.c (.fa (.l .o)) ?_; refine VD.r [] (.ld vt3) (.inl rfl) ?_; refine VD.c (.geq) (VD.nw [] (VD.c (.pickT rfl rfl) (VD.c (.assign rfl) ?_))); refine VD.go ?_; refine VC.condD rfl (fun c8 => ?_) (fun c8 => ?_)
      · have h0 : 0 < (canE (xs.take i)).length := by omega
        have e2 := spX_pre (l := canE (xs.take i)) h0 (by omega); have e3 := canS_1 (out := canE (xs.take i)) c7 h0 (by rw [← e2]; exact c8)
        have e4 : ((((canE (xs.take i)).length : Nat) : Int) - (1 : Int)).toNat = (canE (xs.take i)).length - 1 := by omega
        refine VC.drawn ?_; refine VD.c (.move rfl) (VD.c (.move rfl) (VD.c (.sub rfl rfl (by omega)) (VD.c (.move rfl) ?_))); refine VD.c (.move rfl) (VD.c (.sub rfl rfl (by omega)) (VD.nw [] ?_)); refine VD.co (.ixOZ (k := ((((canE (xs.take i)).length : Nat) : Int) - (1 : Int))) rfl rfl m0 el23 (by omega) (by omega)) ?_; refine VD.co (.faE (j := (Int.toNat ((((canE (xs.take i)).length : Nat) : Int) - (1 : Int)))) (k := 1) m0 (by omega)) ?_; refine VD.r [(out, .row 54 y54 (canE (xs.take i))), (w_xs, .row 54 y54 xs)] (.ldE (j := (Int.toNat ((((canE (xs.take i)).length : Nat) : Int) - (1 : Int)))) (k := 1) (by omega) (.r .o) rfl m0 vt3) (.inr ⟨rfl, rfl⟩) ?_; refine VD.c (.fa (.r .o)) ?_; refine VD.r [] (.ld vt3) (.inl rfl) ?_; refine VD.r [] (.max) (.inl rfl) ?_; refine VD.co (.ixOZ (k := ((((canE (xs.take i)).length : Nat) : Int) - (1 : Int))) rfl rfl m0 el23 (by omega) (by omega)) ?_; refine VD.nw [] ?_; refine VD.co (.faE (j := (Int.toNat ((((canE (xs.take i)).length : Nat) : Int) - (1 : Int)))) (k := 1) m0 (by omega)) ?_; refine VD.mk0 (MakeV.setEF (j := (Int.toNat ((((canE (xs.take i)).length : Nat) : Int) - (1 : Int)))) (k := 1) (dz := (((canE (xs.take i))[(Int.toNat ((((canE (xs.take i)).length : Nat) : Int) - (1 : Int)))]).1, (max (((canE (xs.take i))[(Int.toNat ((((canE (xs.take i)).length : Nat) : Int) - (1 : Int)))]).2) ((xs[i]).2)))) (by omega) vt3 (.r .o) rfl rfl) ?_; rintro _ _ tl6 ⟨rfl, rfl⟩; refine VD.nil ?_; refine VC.keep [(3, .raw out), (7, .raw w_xs), (8, I ((xs.length : Nat) : Int)), (9, I ((i : Nat) : Int))] ⟨rfl, rfl, rfl, rfl, trivial⟩ ?_; refine VC.text ?_; refine VO.c (.add rfl rfl (by omega)) (VO.c (.move rfl) ?_); refine VO.nil ?_; refine ⟨_, [(3, .raw out), (7, .raw w_xs), (8, I ((xs.length : Nat) : Int)), (9, I (((i + 1) : Nat) : Int))], ?_, ⟨rfl, rfl, rfl, rfl, trivial⟩, (i + 1), out, rfl, rfl, (by first | (rw [e1, e3]; done) | (rw [e1, e3, e2]; simp only [e4]; done) | (rw [e1, e3]; rfl)), (by omega), (by exact Nat.le_trans (canE_len _) (List.length_take_le _ _))⟩; omega
      have e3 := canS_2 (out := canE (xs.take i)) c7 (fun hh => by first | exact absurd hh.1 (by omega) | (rw [← spX_pre hh.1 (by omega)] at hh; exact c8 hh.2)); refine VC.text ?_; refine VO.c (.move rfl) ?_; refine VO.r (.ld vt54) ?_; refine VO.new (.lit [xs[i]] el23) ?_; refine VO.app rfl rfl el23 el23 (by simp; omega) ?_; intro ww7; refine VO.c (.assign rfl) ?_; refine VO.nil ?_; refine VC.keep [(3, .raw ww7), (7, .raw w_xs), (8, I ((xs.length : Nat) : Int)), (9, I ((i : Nat) : Int))] ⟨rfl, rfl, rfl, rfl, trivial⟩ ?_; refine VC.text ?_; refine VO.c (.add rfl rfl (by omega)) (VO.c (.move rfl) ?_); refine VO.nil ?_; refine ⟨_, [(3, .raw ww7), (7, .raw w_xs), (8, I ((xs.length : Nat) : Int)), (9, I (((i + 1) : Nat) : Int))], ?_, ⟨rfl, rfl, rfl, rfl, trivial⟩, (i + 1), ww7, rfl, rfl, (by first | (rw [e1, e3]; done) | (rw [e1, e3, e2]; simp only [e4]; done) | (rw [e1, e3]; rfl)), (by omega), (by exact Nat.le_trans (canE_len _) (List.length_take_le _ _))⟩; omega
    have e3 := canS_2 (out := canE (xs.take i)) c7 (fun hh => absurd hh.1 (by omega)); refine VD.skip (VD.skip (VD.nw [] (VD.skip ?_))); refine VD.skip (VD.skip (VD.skip (VD.skip ?_))); refine VD.skip (VD.skip (VD.nw [] (VD.c (.pickF rfl rfl) ?_))); refine VD.c (.assign rfl) (VD.go ?_); refine VC.condF rfl ?_; refine VC.text ?_; refine VO.c (.move rfl) ?_; refine VO.r (.ld vt54) ?_; refine VO.new (.lit [xs[i]] el23) ?_; refine VO.app rfl rfl el23 el23 (by simp; omega) ?_; intro ww8; refine VO.c (.assign rfl) ?_; refine VO.nil ?_; refine VC.keep [(3, .raw ww8), (7, .raw w_xs), (8, I ((xs.length : Nat) : Int)), (9, I ((i : Nat) : Int))] ⟨rfl, rfl, rfl, rfl, trivial⟩ ?_; refine VC.text ?_; refine VO.c (.add rfl rfl (by omega)) (VO.c (.move rfl) ?_); refine VO.nil ?_; refine ⟨_, [(3, .raw ww8), (7, .raw w_xs), (8, I ((xs.length : Nat) : Int)), (9, I (((i + 1) : Nat) : Int))], ?_, ⟨rfl, rfl, rfl, rfl, trivial⟩, (i + 1), ww8, rfl, rfl, (by first | (rw [e1, e3]; done) | (rw [e1, e3, e2]; simp only [e4]; done) | (rw [e1, e3]; rfl)), (by omega), (by exact Nat.le_trans (canE_len _) (List.length_take_le _ _))⟩; omega
  refine VC.exit (VC.seq (VC.text ?_)); refine VO.c (.move rfl) (VO.c (.assign rfl) (VO.go ?_)); refine VC.ret ?_; exact VEnd.one rfl (evC (.row m0)) (pvE (by rw [List.take_of_length_le (by omega)]))
def keptL (r : Rec1) (l : List Bool) (f : Nat → Nat) (n : Nat) : List Nat := (List.range r.2.2.1.length).map fun i => if i < n ∧ l.getD i false = true then f (r.2.2.1.getD i 0) else 0
theorem keptL_len {r : Rec1} {l : List Bool} {f : Nat → Nat} {n : Nat} : (keptL r l f n).length = r.2.2.1.length := by simp [keptL]
theorem keptL_at {r : Rec1} {l : List Bool} {f : Nat → Nat} {n i : Nat} (h : i < r.2.2.1.length) : (keptL r l f n)[i]'(by rw [keptL_len]; exact h) = if i < n ∧ l.getD i false = true then f (r.2.2.1.getD i 0) else 0 := by
  unfold keptL; rw [List.getElem_map, List.getElem_range]
def plusZ (x : Nat) : Nat := (single.add x 0).getD 0
theorem u32_0 : u32 0 = some 0 := by decide +kernel
theorem plusZ_ok {x : Nat} (h : lvlE x = 0) : single.add x 0 = some (plusZ x) ∧ lvlE (plusZ x) = 0 ∧ u32 (plusZ x) = u32 x := by
  obtain ⟨h1, h2, h3⟩ := lvl_ok h
  obtain ⟨r, hr, hr2⟩ := add32 h1 u32_0 (by
    rw [Int.add_zero, Int.natAbs_mul]
    exact rep_small (n := (sxE x).natAbs) (j := 145) (by show _ < 2 ^ (23 + 1); omega) (by decide))
  have e : plusZ x = r := by rw [plusZ, hr] <;> rfl
  rw [Int.add_zero] at hr2; rw [e]; exact ⟨hr, (lvl_of hr2 h2 h3).1, by rw [hr2, h1]⟩
def keepL (r : Rec1) (l : List Bool) (n : Nat) : List Nat := (List.range r.2.2.1.length).map fun i => if i < n then (if l.getD i false = true then plusZ (r.2.2.1.getD i 0) else 0) else r.2.2.1.getD i 0
theorem keepL_len {r : Rec1} {l : List Bool} {n : Nat} : (keepL r l n).length = r.2.2.1.length := by simp [keepL]
theorem keepL_at {r : Rec1} {l : List Bool} {n i : Nat} (h : i < r.2.2.1.length) : (keepL r l n)[i]'(by rw [keepL_len]; exact h) = if i < n then (if l.getD i false = true then plusZ (r.2.2.1.getD i 0) else 0) else r.2.2.1.getD i 0 := by
  unfold keepL; rw [List.getElem_map, List.getElem_range]
theorem getDat {α : Type} {l : List α} {i : Nat} {d : α} (h : i < l.length) : l.getD i d = l[i] := by
  rw [List.getD_eq_getElem?_getD, List.getElem?_eq_getElem h] <;> rfl
theorem keepL_0 {r : Rec1} {l : List Bool} : r.2.2.1 = keepL r l 0 := by
  refine List.ext_getElem (by rw [keepL_len]) fun i h1 h2 => ?_; rw [keepL_at h1, if_neg (by omega), getDat h1]
theorem keepL_cur {r : Rec1} {l : List Bool} {n : Nat} (hn : n < r.2.2.1.length) (h : n < (keepL r l n).length) : (keepL r l n)[n] = r.2.2.1[n] := by
  rw [keepL_at hn, if_neg (by omega), getDat hn]
theorem keepL_s {r : Rec1} {l : List Bool} {n : Nat} (hn : n < r.2.2.1.length) : keepL r l (n + 1) = (keepL r l n).set n (if l.getD n false = true then plusZ (r.2.2.1.getD n 0) else 0) := by
  refine List.ext_getElem (by rw [List.length_set, keepL_len, keepL_len]) fun i h1 h2 => ?_; rw [keepL_len] at h1; rw [List.getElem_set, keepL_at h1]; by_cases e : n = i
  · subst e; rw [if_pos rfl, if_pos (by omega)]
  rw [if_neg e, keepL_at h1]; exact ite_congr (propext ⟨fun hh => by omega, fun hh => by omega⟩) (fun _ => rfl) (fun _ => rfl)
theorem keepL_t {r : Rec1} {l : List Bool} {n : Nat} (hn : n < r.2.2.1.length) (h : n < l.length) (hb : l[n] = true) : keepL r l (n + 1) = (keepL r l n).set n (plusZ r.2.2.1[n]) := by
  rw [keepL_s hn, if_pos (by rw [getDat h]; exact hb), getDat hn]
theorem keepL_f {r : Rec1} {l : List Bool} {n : Nat} (hn : n < r.2.2.1.length) (h : n < l.length) (hb : l[n] = false) : keepL r l (n + 1) = (keepL r l n).set n 0 := by
  rw [keepL_s hn, if_neg (by rw [getDat h, hb]; exact Bool.false_ne_true)]
theorem keepL_all {r : Rec1} {l : List Bool} (h : l.length = r.2.2.1.length) : keepL r l l.length = keptL r l plusZ l.length := by
  refine List.ext_getElem (by rw [keepL_len, keptL_len]) fun i h1 h2 => ?_; rw [keepL_len] at h1; rw [keepL_at h1, keptL_at h1, if_pos (by omega)]; exact ite_congr (propext ⟨fun hh => ⟨by omega, hh⟩, fun hh => hh.2⟩) (fun _ => rfl) (fun _ => rfl)
theorem gKeeping_ok {r : ByteArray × Int × (List Nat) × (List (Int × Int))} {l : List Bool} (hr : r.2.2.1.length < 1000000) (hl : l.length = r.2.2.1.length) (hv : ∀ x ∈ r.2.2.1, lvlE x = 0) : VF Tryz.prog OA 33 [.v y30 r, .v (.sl .bool) l] (.v y30 (r.1, r.2.1, keptL r l plusZ l.length, gapsE l l.length)) := by
  refine VF.enter Tryz.func33 rfl (fun _ _ => rfl) rfl ?_; show VC _ _ _ _ _ [(0, .v y30 r), (1, .v (.sl .bool) l)] [] _; refine VC.seq (VC.text ?_); refine VO.new (.box) ?_; refine VO.cell (.alloc zt30) ?_; intro ww9; refine VO.go (VC.seq (VC.drawn ?_)); refine VD.c (.fa (.l .o)) ?_; refine VD.r [] (.ld vt9) (.inl rfl) ?_; refine VD.c (.fa (.r (.l .o))) ?_; refine VD.r [] (.ld vt3) (.inl rfl) ?_; refine VD.c (.fa (.r (.r (.l .o)))) ?_; refine VD.r [] (.ld vt22) (.inl rfl) ?_; refine VD.nw [] ?_; refine VD.r [] (.len el22) (.inl rfl) ?_; refine VD.cell (.make (k := r.2.2.1.length) rfl rfl el22 zt39 (by omega)) ?_; intro ww10; refine VD.one m0 fun ho11 => ?_; refine VD.c (.buildR (cs := [St r.1, I r.2.1, .raw ww10, nilV]) bt30 rfl rfl (.cons (.v) rfl rfl (.cons (.v) rfl rfl (.cons (.w ho11) rfl rfl (.nil rfl))))) ?_; refine VD.cell (.alloc zt30) ?_; intro ww12; refine VD.mk0 (MakeV.setF (k := 0) vt30 (.aggs rfl (allC rfl (allC rfl (allC (p := .raw ww10) ho11 (allC rfl rfl))))) (Nat.le_of_ble_eq_true rfl) (.inr ⟨rfl, rfl⟩) rfl rfl) ?_; rintro _ _ tl13 ⟨rfl, rfl⟩; refine VD.go (VC.seq (VC.text ?_)); refine VO.c (.faO (k := 2) m0) ?_; refine VO.r (.ldF (k := 2) m0 vt22) ?_; refine VO.c (.fa (.r (.r (.l .o)))) ?_; refine VO.r (.ld vt22) ?_; refine VO.perm swap1 ?_; refine VO.copy rfl rfl el22 (by simp) ?_; refine VO.go (VC.seq (VC.seq (VC.text ?_))); refine VO.c (.move rfl) ?_; refine VO.r (.len el70) ?_; refine VO.c (.move rfl) ?_; refine VO.go (VC.block ?_); refine VC.cell0 54 y54 ?_; refine VC.keep [(4, .raw ww9), (5, .raw ww12), (22, .v (.sl .bool) l), (23, I ((l.length : Nat) : Int)), (24, I ((0 : Nat) : Int))] ⟨rfl, rfl, rfl, rfl, rfl, trivial⟩ ?_; refine VC.loop (I := fun kk ff ss => ∃ (i : Nat) (w : Value), kk = l.length - i ∧ ff = [(4, .raw ww9), (5, .raw ww12), (22, .v (.sl .bool) l), (23, I ((l.length : Nat) : Int)), (24, I ((i : Nat) : Int))] ∧ ss = [(w, .row 54 y54 (unitE l i)), (ww10, .row 39 (.flt .f32) (keepL r l i)), (ww12, .var [St r.1, I r.2.1, .raw ww10, .raw w]), (ww9, .var [St ByteArray.empty, I (0 : Int), .v y22 [], .v y23 []])] ∧ (i ≤ l.length) ∧ ((keepL r l i).length = r.2.2.1.length) ∧ ((unitE l i).length ≤ i)) ?_ _ _ _ ⟨0, (.slice none 0 0), rfl, rfl, (by rw [← keepL_0] <;> rfl), Nat.zero_le _, (by exact keepL_len), (by exact Nat.le_refl _)⟩; rintro kk ff ss ⟨i, w, hk0, rfl, rfl, hi, hkl, hul⟩; refine VC.seq (VC.text ?_); refine VO.c (.lss) ?_; refine VO.go (VC.seq ?_); refine VC.condD rfl (fun c4 => ?_) (fun c4 => ?_)
  · have hil : i < r.2.2.1.length := by omega
    have hkc := keepL_cur (r := r) (l := l) hil (by omega)
    have hpz : single.add ((keepL r l i)[i]'(by omega)) 0 = some (plusZ r.2.2.1[i]) := by rw [hkc]; exact (plusZ_ok (hv _ (List.getElem_mem hil))).1
    refine VC.skip (VC.seq (VC.block (VC.seq (VC.text ?_)))); refine VO.c (.move rfl) (VO.c (.ix (j := i) rfl rfl el70 (by omega)) ?_); refine VO.r (.ld vt4) ?_; refine VO.c (.assign rfl) (VO.c (.assign rfl) ?_); refine VO.go (VC.seq (VC.seq (VC.text ?_))); refine VO.c (.move rfl) (VO.go ?_); refine VC.condB rfl (fun c6 => ?_) (fun c6 => ?_)
    · refine VC.seq (VC.text ?_); refine VO.c (.faO (k := 2) m2) ?_; refine VO.r (.ldF (k := 2) m2 vt22) ?_; refine VO.c (.move rfl) (VO.c (.ixO (j := i) rfl rfl m1 el22 (by omega)) ?_); refine VO.r (.ldO rfl m1 vt39 (by omega)) ?_; refine VO.c (.fop (add32E hpz)) (VO.c (.ixO (j := i) rfl rfl m1 el22 (by omega)) ?_); refine VO.perm swap1 ?_; refine VO.setE i rfl rfl vt39 (by omega) ?_; refine VO.go (VC.exit (VC.text ?_)); refine VO.c (.add rfl rfl (by omega)) (VO.c (.move rfl) ?_); refine VO.perm swap3 ?_; refine VO.perm swap3 ?_; refine VO.perm swap2 ?_; refine VO.perm swap3 ?_; refine VO.nil ?_; refine ⟨_, [(4, .raw ww9), (5, .raw ww12), (22, .v (.sl .bool) l), (23, I ((l.length : Nat) : Int)), (24, I (((i + 1) : Nat) : Int))], ?_, ⟨rfl, rfl, rfl, rfl, rfl, trivial⟩, (i + 1), w, rfl, rfl, (by first | (rw [keepL_t (by omega) (by omega) c6, unitE_t (by omega) c6]; done) | (rw [keepL_f (by omega) (by omega) c6, unitE_f (by omega) (by rw [c6]; exact Bool.false_ne_true)]; done) | (rw [keepL_t (by omega) (by omega) c6, unitE_t (by omega) c6]; rfl) | (rw [keepL_f (by omega) (by omega) c6, unitE_f (by omega) (by rw [c6]; exact Bool.false_ne_true)]; rfl)), (by omega), (by exact keepL_len), (by exact unitE_len l _)⟩; omega
    refine VC.skip (VC.seq (VC.text ?_)); refine VO.c (.faO (k := 2) m2) ?_; refine VO.r (.ldF (k := 2) m2 vt22) ?_; refine VO.c (.move rfl) (VO.c (.ixO (j := i) rfl rfl m1 el22 (by omega)) ?_); refine VO.perm swap1 ?_; refine VO.setE i rfl rfl vt39 (by omega) ?_; refine VO.go (VC.text ?_); refine VO.c (.faO (k := 3) m2) ?_; refine VO.r (.ldF (k := 3) m2 vt23) ?_; refine VO.c (.move rfl) (VO.c (.move rfl) (VO.c (.add rfl rfl (by omega)) (VO.c (.build (((i : Nat) : Int), (((i : Nat) : Int) + (1 : Int))) bt54) ?_))); refine VO.new (.lit [(((i : Nat) : Int), (((i : Nat) : Int) + (1 : Int)))] el23) ?_; refine VO.perm swap1 ?_; refine VO.app rfl rfl el23 el23 (by simp; omega) ?_; intro ww14; refine VO.c (.faO (k := 3) m2) ?_; refine VO.perm swap2 ?_; refine VO.one m1 fun ho15 => ?_; refine VO.setF (cs' := [St r.1, I r.2.1, .raw ww10, .raw ww14]) 3 vt23 (.raw rfl (agg_one ho15) ho15) ?_; refine VO.nil (VC.text ?_); refine VO.c (.add rfl rfl (by omega)) (VO.c (.move rfl) ?_); refine VO.perm swap3 ?_; refine VO.perm swap1 ?_; refine VO.perm swap3 ?_; refine VO.perm swap3 ?_; refine VO.nil ?_; refine ⟨_, [(4, .raw ww9), (5, .raw ww12), (22, .v (.sl .bool) l), (23, I ((l.length : Nat) : Int)), (24, I (((i + 1) : Nat) : Int))], ?_, ⟨rfl, rfl, rfl, rfl, rfl, trivial⟩, (i + 1), ww14, rfl, rfl, (by first | (rw [keepL_t (by omega) (by omega) c6, unitE_t (by omega) c6]; done) | (rw [keepL_f (by omega) (by omega) c6, unitE_f (by omega) (by rw [c6]; exact Bool.false_ne_true)]; done) | (rw [keepL_t (by omega) (by omega) c6, unitE_t (by omega) c6]; rfl) | (rw [keepL_f (by omega) (by omega) c6, unitE_f (by omega) (by rw [c6]; exact Bool.false_ne_true)]; rfl)), (by omega), (by exact keepL_len), (by exact unitE_len l _)⟩; omega
  refine VC.exit (VC.seq (VC.text ?_)); refine VO.c (.faO (k := 3) m2) ?_; refine VO.r (.ldF (k := 3) m2 vt23) ?_; refine VO.callG [(w, .row 54 y54 (unitE l i))] rfl rfl rfl (VFG.call (gCanonO_ok (Nat.lt_of_le_of_lt (unitE_len _ _) (by omega)))) ?_; rintro _ _ ⟨rfl, rfl⟩; show VO _ _ _ _ _ _ [(ww10, .row 39 (.flt .f32) (keepL r l i)), (ww12, .var [St r.1, I r.2.1, .raw ww10, .raw w]), (ww9, .var [St ByteArray.empty, I (0 : Int), .v y22 [], .v y23 []])] _; refine VO.c (.faO (k := 3) m1) ?_; refine VO.perm swap1 ?_; refine VO.setF (cs' := [St r.1, I r.2.1, .raw ww10, .v y23 (canE (unitE l i))]) 3 vt23 .v ?_; refine VO.go (VC.seq ?_); refine VC.perm swap1 ?_; refine VC.shutL [(ww10, .row 39 (.flt .f32) (keepL r l i)), (ww12, .var [St r.1, I r.2.1, .raw ww10, .v y23 (canE (unitE l i))])] [(5, .p y30 (r.1, r.2.1, (keepL r l i), canE (unitE l i)))] rfl (.cons rfl (.var m1 (.cons .same (.cons .same (.cons (.row m0) (.cons .same .nil))))) .nil) ?_; refine VC.text ?_; refine VO.r (.ld vt30) ?_; refine VO.setV (cs' := [St r.1, I r.2.1, .v y22 (keepL r l i), .v y23 (canE (unitE l i))]) vt30 .v ?_; refine VO.go ?_; refine VC.ret ?_; exact VEnd.one rfl (.cell (x := (r.1, r.2.1, (keepL r l i), canE (unitE l i))) rfl m0 vt30 .refl) (pvE (by rw [show i = l.length by omega, unit_can, keepL_all hl] <;> rfl))
end Go.Proofs
namespace Go.Fs
variable {P : Program} {fl : VL} {σ : Sto} {T T' : TypeId} {x y : Operand} {p q : Int}
end Go.Fs
namespace Go.Fs
variable {P : Program} {orc : FuncId → List Value → Heap → Option (Value × Heap)} {h : Heap} {σ ρ : Sto} {fl : VL} {ops : Array Oper} {n i mem : Nat} {l : List Oper} {K : VL → Sto → Prop} {nw bs : List Nat} {tl : Bool} {hr : Heap} {S0 A : List Nat} {t : Tr} {rd chg : List Nat}
theorem VLt.one {w : Value} {e : TypeId} {τ : Ty} {xs : List τ.den} (hm : (w, Cell.row e τ xs) ∈ σ) (hk : oneCell w = true → VLt P orc ops n l i fl nw σ ρ bs mem tl K) : VLt P orc ops n l i fl nw σ ρ bs mem tl K := fun hr h0 G S0 A t h ms rd chg segs tail ht I L => hk (row_one (I.cells _ hm)) hr h0 G S0 A t h ms rd chg segs tail ht I L
end Go.Fs
namespace Go.Proofs
open Go.Fs Ieee
set_option maxHeartbeats 400000
theorem rec_ok {r : Rec1} (h : recE r = 0) : (0 ≤ r.2.1 ∧ r.2.1 ≤ 100000) ∧ r.2.2.1.length ≤ 4096 ∧ r.2.2.2.length ≤ 2048 ∧ (∀ x ∈ r.2.2.1, lvlE x = 0) ∧ ∀ s ∈ r.2.2.2, 0 ≤ s.1 ∧ s.1 < s.2 ∧ s.2 ≤ (r.2.2.1.length : Nat) := by
  unfold recE at h; split at h
  · rename_i h1; exact absurd h h1
  rename_i h1; split at h
  · rename_i h2; exact absurd h h2
  rename_i h2; split at h
  · cases h
  rename_i h3; have h1 := firstE_zero.1 (Classical.not_not.1 h1); have h2 := bodyE_zero.1 (Classical.not_not.1 h2); have h4 := spans_canon h2.2; have h5 := bey_f (by simpa using h3); have h6 := h1 (rangeE r.2.1 0 100000) (by simp); have h7 := h1 (whenE (decide ((4096 : Int) < (r.2.2.1.length : Nat))) 5) (by simp)
  have h6 : 0 ≤ r.2.1 ∧ r.2.1 ≤ 100000 := by
    unfold rangeE at h6; split at h6
    · cases h6
    omega
  rw [whenE_zero (by decide), decide_eq_false_iff_not] at h7; refine ⟨h6, by omega, h4.2, fun x hx => firstE_zero.1 h2.1 _ (List.mem_map.2 ⟨x, hx, rfl⟩), fun s hs => ?_⟩; have h8 := h4.1.1 s hs; exact ⟨h8.1, h8.2.1, h5 s hs⟩
def sameLv (a b : List Nat) : Bool := decide (a.length = b.length ∧ ∀ i, i < a.length → fcmpE .neq .f32 (a.getD i 0) (b.getD i 0) = false)
theorem rSameLv_ok {a : List Nat} {b : List Nat} (ha : a.length < 1000000) : VF Tryz.prog OA 9 [.v y22 a, .v y22 b] (B (sameLv a b)) := by
  refine VF.enter Tryz.func9 rfl (fun _ _ => rfl) rfl ?_; show VC _ _ _ _ _ [(0, .v y22 a), (1, .v y22 b)] [] _; refine VC.seq (VC.text ?_); refine VO.c (.assign rfl) ?_; refine VO.go (VC.seq (VC.seq (VC.text ?_))); refine VO.c (.move rfl) ?_; refine VO.r (.len el22) ?_; refine VO.c (.move rfl) ?_; refine VO.r (.len el22) ?_; refine VO.c (.neq) (VO.go ?_); refine VC.condD rfl (fun c1 => ?_) (fun c1 => ?_)
  · have hne : ¬ a.length = b.length := by omega
    refine VC.seq (VC.text ?_); refine VO.c (.assign rfl) (VO.go ?_); refine VC.ret ?_; exact VEnd.one rfl evT (pvE (by exact (decide_eq_false fun hh => hne hh.1).symm))
  have hle : a.length = b.length := by omega
  refine VC.skip (VC.seq (VC.seq (VC.text ?_))); refine VO.c (.assign rfl) ?_; refine VO.go (VC.block ?_); refine VC.keep [(0, .v y22 a), (1, .v y22 b), (5, I ((0 : Nat) : Int))] ⟨rfl, rfl, rfl, trivial⟩ ?_; refine VC.loop (I := fun kk ff ss => ∃ (i : Nat), kk = a.length - i ∧ ff = [(0, .v y22 a), (1, .v y22 b), (5, I ((i : Nat) : Int))] ∧ ss = [] ∧ (i ≤ a.length) ∧ (∀ j, j < i → fcmpE .neq .f32 (a.getD j 0) (b.getD j 0) = false)) ?_ _ _ _ ⟨0, rfl, rfl, rfl, Nat.zero_le _, (by intro j hj; omega)⟩; rintro kk ff ss ⟨i, hk0, rfl, rfl, hi, hn⟩; refine VC.seq (VC.seq (VC.text ?_)); refine VO.c (.move rfl) (VO.c (.move rfl) ?_); refine VO.r (.len el22) ?_; refine VO.c (.lss) (VO.go ?_); refine VC.condD rfl (fun c4 => ?_) (fun c4 => ?_)
  · have hi' : i < a.length := by omega
    refine VC.skip (VC.seq (VC.block (VC.seq (VC.drawn ?_)))); refine VD.c (.move rfl) (VD.c (.move rfl) (VD.c (.ix (j := i) rfl rfl el22 (by omega)) ?_)); refine VD.r [] (.ld vt39) (.inl rfl) ?_; refine VD.c (.move rfl) (VD.c (.move rfl) (VD.nw [] (VD.c (.ix (j := i) rfl rfl el22 (by omega)) ?_))); refine VD.r [] (.ld vt39) (.inl rfl) ?_; refine VD.c (.fcmp .neq) (VD.go ?_); refine VC.condB rfl (fun c6 => ?_) (fun c6 => ?_)
    · have c6' : fcmpE .neq .f32 (a.getD i 0) (b.getD i 0) = true := by simpa [hi', show i < b.length by omega] using c6
      refine VC.seq (VC.text ?_); refine VO.c (.assign rfl) (VO.go ?_); refine VC.ret ?_; exact VEnd.one rfl evT (pvE (by exact (decide_eq_false fun hh => by rw [hh.2 i hi'] at c6'; cases c6').symm))
    have c6' : fcmpE .neq .f32 (a.getD i 0) (b.getD i 0) = false := by simpa [hi', show i < b.length by omega] using c6
    refine VC.skip (VC.text ?_); refine VO.c (.move rfl) (VO.c (.add rfl rfl (by omega)) (VO.c (.assign rfl) ?_)); refine VO.nil ?_; refine ⟨_, [(0, .v y22 a), (1, .v y22 b), (5, I (((i + 1) : Nat) : Int))], ?_, ⟨rfl, rfl, rfl, trivial⟩, (i + 1), rfl, rfl, rfl, (by omega), (by intro j hj; rcases Nat.lt_succ_iff_lt_or_eq.1 hj with h | h; exact hn j h; subst h; exact c6')⟩; omega
  refine VC.exit (VC.seq (VC.text ?_)); refine VO.c (.assign rfl) (VO.go ?_); refine VC.ret ?_; exact VEnd.one rfl evT (pvE (by exact (decide_eq_true ⟨hle, fun j hj => hn j (by omega)⟩).symm))
def sameRec (a b : Rec1) : Bool := decide (a.1 = b.1) && decide (a.2.1 = b.2.1) && sameLv a.2.2.1 b.2.2.1 && decide (a.2.2.2 = b.2.2.2)
def zRec : Rec1 := (ByteArray.empty, 0, [], [])
def recB (r : Rec1) (i : Int) : Bool := decide (0 ≤ i) && decide (i < (r.2.2.1.length : Nat)) && !Sp.inL r.2.2.2 i
theorem rRecorded_ok {r : ByteArray × Int × (List Nat) × (List (Int × Int))} {i : Int} (hg : r.2.2.2.length < 1000000) : VF Tryz.prog OA 12 [.v y25 r, I i] (B (recB r i)) := by
  refine VF.enter Tryz.func12 rfl (fun _ _ => rfl) rfl ?_; show VC _ _ _ _ _ [(0, .v y25 r), (1, I i)] [] _; refine VC.seq (VC.text ?_); refine VO.new (.box) ?_; refine VO.c (.assign rfl) ?_; refine VO.go (VC.seq (VC.text ?_)); refine VO.c (.move rfl) (VO.c (.geq) (VO.c (.move rfl) ?_)); refine VO.cg (r := decide ((0 : Int) ≤ i)) (w := true) [] trivial (fun _ => (.move rfl)) ?_; refine VO.cg (r := decide ((0 : Int) ≤ i)) (w := true) [] trivial (fun _ => (.fa (.r (.r (.l .o))))) ?_; refine VO.rg (r := decide ((0 : Int) ≤ i)) (w := true) [(9, .p y22 r.2.2.1)] ⟨rfl, trivial⟩ (fun _ => (.ld vt22)) ?_; refine VO.rg (r := decide ((0 : Int) ≤ i)) (w := true) [(10, .v y22 r.2.2.1)] ⟨rfl, trivial⟩ (fun _ => (.len el22)) ?_; refine VO.cg (r := decide ((0 : Int) ≤ i)) (w := true) [(8, I i), (11, I ((r.2.2.1.length : Nat) : Int))] ⟨rfl, rfl, trivial⟩ (fun _ => (.lss)) ?_; refine VO.c (.and) (VO.c (.move rfl) ?_); refine VO.cg (r := ((decide ((0 : Int) ≤ i)) && (decide (i < ((r.2.2.1.length : Nat) : Int))))) (w := true) [] trivial (fun _ => (.fa (.r (.r (.r (k := 0) .o))))) ?_; refine VO.rg (r := ((decide ((0 : Int) ≤ i)) && (decide (i < ((r.2.2.1.length : Nat) : Int))))) (w := true) [(15, .p y23 r.2.2.2)] ⟨rfl, trivial⟩ (fun _ => (.ld vt23)) ?_; refine VO.cg (r := ((decide ((0 : Int) ≤ i)) && (decide (i < ((r.2.2.1.length : Nat) : Int))))) (w := true) [] trivial (fun _ => (.move rfl)) ?_; refine VO.callg (r0 := ((decide ((0 : Int) ≤ i)) && (decide (i < ((r.2.2.1.length : Nat) : Int))))) (w := true) [(16, .v y23 r.2.2.2), (17, I i)] ⟨rfl, rfl, trivial⟩ rfl rfl .same .refl rfl (fun hgd => have g1_9 : ((decide ((0 : Int) ≤ i)) && (decide (i < ((r.2.2.1.length : Nat) : Int)))) = true := (by simpa using hgd); VF.call (rHas_ok (by first | assumption | omega | simp))) ?_; refine VO.cg (r := ((decide ((0 : Int) ≤ i)) && (decide (i < ((r.2.2.1.length : Nat) : Int))))) (w := true) [(18, B (Sp.inL r.2.2.2 i))] ⟨rfl, trivial⟩ (fun _ => (.not)) ?_; refine VO.c (.and) (VO.c (.assign rfl) (VO.go ?_)); refine VC.ret ?_; exact VEnd.one rfl evT (pvE (by first | rfl | simp [recB, *]))
theorem recB_in {r : Rec1} {i : Nat} (h : i < r.2.2.1.length) : recB r i = !Sp.inL r.2.2.2 i := by
  unfold recB; rw [decide_eq_true (show (0 : Int) ≤ (i : Int) by omega), decide_eq_true (show (i : Int) < (r.2.2.1.length : Nat) by omega)] <;> rfl
def both (a b : Rec1) : Rec1 := (a.1, a.2.1, a.2.2.1 ++ b.2.2.1, [])
end Go.Proofs
namespace Go.Proofs
open Go.Fs Ieee
set_option maxHeartbeats 400000
end Go.Proofs
namespace Go.Fs
variable {P : Program} {σ : Sto} {fl : VL} {x y : Operand} {T : TypeId} {τ : Ty}
def arrNB (P : Program) (T e : TypeId) (m k : Nat) : Bool := match P.underlying T with
  | some (.array n e') => Nat.beq n m && Nat.beq e' e && (match P.info? e with | some i => Nat.beq i.size k | none => false)
  | _ => false
theorem ReadV.arr3 {a b c : τ.den} (e : TypeId) (hb : arrNB P T e 3 τ.size = true := by kernel_rfl) (hx : evV fl x = some (.p (.pair τ (.pair τ τ)) (a, b, c)) := by rfl) : ReadV P fl σ (.slice T x none none none) (.v (.sl τ) [a, b, c]) :=
  ⟨rfl, fun h S t hs _ => by
    have hp : RepP h S (.pair τ (.pair τ τ)) (evalO t x) (a, b, c) := hs x (by simp [Op.operands]) _ hx; obtain ⟨bb, o, e', rs, own, more, h1, h2, h3, h4, h5⟩ := hp; have h4 : o + (τ.size + (τ.size + τ.size)) ≤ rs.length := h4; have h5 : RepC h S τ (((rs.drop o).take (τ.size + (τ.size + τ.size))).take τ.size) a ∧ RepC h S τ ((((rs.drop o).take (τ.size + (τ.size + τ.size))).drop τ.size).take τ.size) b ∧ RepC h S τ ((((rs.drop o).take (τ.size + (τ.size + τ.size))).drop τ.size).drop τ.size) c := h5; refine ⟨.slice (some ⟨bb, o, none⟩) 3 1, SlV.rep (.inr ⟨bb, o, 1, rfl, .inr ⟨h2, e', rs, own, more, h3, by show o + 3 * τ.size ≤ _; omega, fun i hi => ?_⟩⟩), fun H _ _ _ _ _ _ => ?_⟩
    · have hi : i < 3 := hi; rcases i with _ | _ | _ | i
      · have := h5.1; rw [List.take_take, Nat.min_eq_left (by omega)] at this; rw [Nat.zero_mul, Nat.add_zero]; exact this
      · have := h5.2.1; rw [List.drop_take, List.drop_drop, List.take_take, Nat.min_eq_left (by omega)] at this; rw [show o + (0 + 1) * τ.size = o + τ.size by omega]; exact this
      · have := h5.2.2; rw [List.drop_take, List.drop_drop, List.drop_take, List.drop_drop] at this; rw [show o + (0 + 1 + 1) * τ.size = o + τ.size + τ.size by omega]; rw [show τ.size + (τ.size + τ.size) - τ.size - τ.size = τ.size by omega] at this; exact this
      omega
    show (fsSlice P T (evalO t x) none none none H).map _ = _; rw [h1]; unfold arrNB at hb; split at hb
    · rename_i n e2 hu; obtain ⟨b1, b2⟩ := band hb; obtain ⟨b3, b4⟩ := band b1; obtain rfl := nbeq b3; obtain rfl := nbeq b4; split at b2
      · rename_i i hi; unfold fsSlice; simp only [hu, hi, boundOf, Nat.zero_mul, Nat.add_zero]; rfl
      cases b2
    cases hb⟩
def arr3 {α : Type} (a b c : α) : Nat → α
  | 0 => a
  | 1 => b
  | _ => c
theorem CalmV.ixP3 {a b c : τ.den} (j : Nat) (hj : j < 3) (h0 : aofB P T 0 0 τ = true := by kernel_rfl) (h1 : aofB P T 1 τ.size τ = true := by kernel_rfl) (h2 : aofB P T 2 (τ.size + τ.size) τ = true := by kernel_rfl) (hx : evV fl x = some (.p (.pair τ (.pair τ τ)) (a, b, c)) := by rfl) (hy : evV fl y = some (.v (.int .i64) ((j : Nat) : Int)) := by rfl) : CalmV P fl σ (.indexAddr T x y) (.p τ (arr3 a b c j)) := by
  rcases j with _ | _ | _ | j
  · exact CalmV.ixP (k := 0) 0 (.l .o) h0 hx hy
  · exact CalmV.ixP (k := τ.size) 1 (.r (k := 0) (.l .o)) h1 hx hy
  · exact CalmV.ixP (k := τ.size + τ.size) 2 (.r (k := τ.size) (.r (k := 0) .o)) h2 hx hy
  omega
theorem CalmV.ixA3 {a b c : τ.den} (j : Nat) (hj : j < 3) (h0 : aofB P T 0 0 τ = true := by kernel_rfl) (h1 : aofB P T 1 τ.size τ = true := by kernel_rfl) (h2 : aofB P T 2 (τ.size + τ.size) τ = true := by kernel_rfl) (hx : evV fl x = some (.v (.pair τ (.pair τ τ)) (a, b, c)) := by rfl) (hy : evV fl y = some (.v (.int .i64) ((j : Nat) : Int)) := by rfl) : CalmV P fl σ (.index T x y) (.v τ (arr3 a b c j)) := by
  rcases j with _ | _ | _ | j
  · exact CalmV.ixA (k := 0) 0 (.l .o) rfl h0 hx hy
  · exact CalmV.ixA (k := τ.size) 1 (.r (k := 0) (.l .o)) rfl h1 hx hy
  · exact CalmV.ixA (k := τ.size + τ.size) 2 (.r (k := τ.size) (.r (k := 0) .o)) rfl h2 hx hy
  omega
end Go.Fs
namespace Go.Proofs
open Go.Fs
theorem cNaN_ok {x : Int} : VF Tryz.prog OA 102 [I x] (B false) := by
  refine VF.enter Tryz.func102 rfl (fun _ _ => rfl) rfl ?_; show VC _ _ _ _ _ [(0, I x)] [] _; refine VC.seq (VC.text ?_); refine VO.c (.assign rfl) ?_; refine VO.go (VC.seq (VC.text ?_)); refine VO.c (.move rfl) (VO.c (.move rfl) (VO.c (.neq) (VO.c (.assign rfl) ?_))); refine VO.go ?_; refine VC.ret ?_; exact VEnd.one rfl evT (pvE (by simp))
theorem cLess_ok {x : Int} {y : Int} : VF Tryz.prog OA 78 [I x, I y] (B (decide (x < y))) := by
  refine VF.enter Tryz.func78 rfl (fun _ _ => rfl) rfl ?_; show VC _ _ _ _ _ [(0, I x), (1, I y)] [] _; refine VC.seq (VC.text ?_); refine VO.c (.assign rfl) ?_; refine VO.go (VC.seq (VC.text ?_)); refine VO.c (.move rfl) ?_; refine VO.call rfl rfl (VF.call (cNaN_ok )) ?_; refine VO.c (.move rfl) (VO.skip (VO.skip (VO.skip ?_))); refine VO.c (.pickF rfl rfl) (VO.c (.move rfl) (VO.c (.move rfl) (VO.c (.move rfl) ?_))); refine VO.c (.lss) (VO.c (.pickF rfl rfl) (VO.c (.assign rfl) (VO.go ?_))); refine VC.ret ?_; exact VEnd.one rfl evT (pvE (by simp_all))
def sortN (l : List Int) : List Int := l.mergeSort fun a b => decide (a ≤ b)
theorem sortN_perm (l : List Int) : (sortN l).Perm l := List.mergeSort_perm _ _
theorem sortN_sorted (l : List Int) : (sortN l).Pairwise (· ≤ ·) := by
  have := List.pairwise_mergeSort (le := fun a b : Int => decide (a ≤ b)) (fun a b c h1 h2 => by simp at *; omega) (fun a b => by simp; omega) l; exact this.imp fun h => of_decide_eq_true h
theorem sortN_eq {l ys : List Int} (hp : ys.Perm l) (hs : ys.Pairwise (· ≤ ·)) : ys = sortN l :=
  List.Perm.eq_of_pairwise (le := (· ≤ ·)) (fun a b _ _ h1 h2 => by omega) hs (sortN_sorted l) (hp.trans (sortN_perm l).symm)
theorem getD_get {l : List Int} {k : Nat} (h : k < l.length) : l.getD k 0 = l[k] := by simp [List.getD, h]
def swapE (ws : List Int) (j : Nat) : List Int := (ws.set j (ws.getD (j - 1) 0)).set (j - 1) (ws.getD j 0)
theorem swap_perm {ws : List Int} {j : Nat} (h0 : 0 < j) (hl : j < ws.length) : (swapE ws j).Perm ws := by
  have h1 : j - 1 < ws.length := by omega
  have := List.set_set_perm hl h1; unfold swapE; rw [getD_get h1, getD_get hl]; exact this
theorem swap_get {ws : List Int} {j k : Nat} (h0 : 0 < j) (hl : j < ws.length) : (swapE ws j).getD k 0 = if k = j - 1 then ws.getD j 0 else if k = j then ws.getD (j - 1) 0 else ws.getD k 0 := by
  unfold swapE; simp only [List.getD_eq_getElem?_getD, List.getElem?_set, List.length_set]; by_cases h1 : k = j - 1
  · subst h1; rw [if_pos rfl, if_pos rfl, if_pos (by omega)] <;> rfl
  rw [if_neg (fun e => h1 e.symm), if_neg h1]; by_cases h2 : k = j
  · subst h2; rw [if_pos rfl, if_pos rfl, if_pos hl] <;> rfl
  rw [if_neg (fun e => h2 e.symm), if_neg h2]
def SortedTo (zs : List Int) (n : Nat) : Prop := ∀ p q, p < q → q < n → zs.getD p 0 ≤ zs.getD q 0
def InsInv (ws : List Int) (i j : Nat) : Prop := (∀ p q, p < q → q ≤ i → p ≠ j → q ≠ j → ws.getD p 0 ≤ ws.getD q 0) ∧ (∀ q, j < q → q ≤ i → ws.getD j 0 ≤ ws.getD q 0)
theorem ins_init {zs : List Int} {i : Nat} (h : SortedTo zs i) : InsInv zs i i := ⟨fun p q h1 h2 _ h4 => h p q h1 (by omega), fun q h1 h2 => by omega⟩
theorem ins_step {ws : List Int} {i j : Nat} (h : InsInv ws i j) (h0 : 0 < j) (hj : j ≤ i) (hl : i < ws.length) (hlt : ws.getD j 0 < ws.getD (j - 1) 0) : InsInv (swapE ws j) i (j - 1) := by
  constructor
  · intro p q h1 h2 h3 h4; rw [swap_get h0 (by omega), swap_get h0 (by omega), if_neg h3, if_neg h4]; by_cases hp : p = j
    · rw [if_pos hp, if_neg (by omega)]; exact h.1 (j - 1) q (by omega) h2 (by omega) (by omega)
    rw [if_neg hp]; by_cases hq : q = j
    · rw [if_pos hq]; exact h.1 p (j - 1) (by omega) (by omega) hp (by omega)
    rw [if_neg hq]; exact h.1 p q h1 h2 hp hq
  intro q h1 h2; rw [swap_get h0 (by omega), swap_get h0 (by omega), if_pos rfl, if_neg (by omega)]; by_cases hq : q = j
  · rw [if_pos hq]; omega
  rw [if_neg hq]; exact h.2 q (by omega) h2
theorem ins_end {ws : List Int} {i j : Nat} (h : InsInv ws i j) (hj : j ≤ i) (he : j = 0 ∨ ws.getD (j - 1) 0 ≤ ws.getD j 0) : SortedTo ws (i + 1) := by
  intro p q h1 h2; by_cases hp : p = j
  · rw [hp]; exact h.2 q (by omega) (by omega)
  by_cases hq : q = j
  · subst hq; rcases he with he | he
    · omega
    by_cases h3 : p = q - 1
    · rw [h3]; exact he
    have := h.1 p (q - 1) (by omega) (by omega) hp (by omega); omega
  exact h.1 p q h1 (by omega) hp hq
theorem sorted_end {zs : List Int} (h : SortedTo zs zs.length) : zs.Pairwise (· ≤ ·) := by
  rw [List.pairwise_iff_getElem]; intro i j hi hj hij; have := h i j hij hj
  rwa [getD_get hi, getD_get hj] at this
theorem swap_mem {ws : List Int} {j : Nat} {z : Int} (hz : z = (j : Int) - 1) (h0 : 0 < j) (hl : j < ws.length) : (ws.set j (ws[z.toNat]'(by omega))).set z.toNat ws[j] = swapE ws j := by
  have e : z.toNat = j - 1 := by omega
  unfold swapE; rw [getD_get (show j - 1 < ws.length by omega), getD_get hl]; simp only [e]
theorem ins_lt {ws : List Int} {j : Nat} {z : Int} (hz : z = (j : Int) - 1) (h0 : 0 < j) (hl : j < ws.length) : (ws[j] < ws[z.toNat]'(by omega)) ↔ ws.getD j 0 < ws.getD (j - 1) 0 := by
  have e : z.toNat = j - 1 := by omega
  rw [getD_get (show j - 1 < ws.length by omega), getD_get hl]; simp only [e]
theorem zIns_ok {w_l : Value} {l : List Int} {a : Int} {b : Int} (ha : a = 0) (hb : b = (l.length : Nat)) (hl : l.length < 100000) : VFG Tryz.prog OA 72 [.raw w_l, I a, I b] [(w_l, .row 3 (.int .i64) l)] (fun r g => r = .tup [] ∧ g = [(w_l, .row 3 (.int .i64) (sortN l))]) := by
  refine VFG.enter Tryz.func72 rfl (fun _ _ => rfl) rfl ?_; show VC _ _ _ _ _ [(0, .raw w_l), (1, I a), (2, I b)] [(w_l, .row 3 (.int .i64) l)] _; refine VC.seq (VC.text ?_); refine VO.c (.move rfl) (VO.c (.add rfl rfl (by omega)) (VO.c (.assign rfl) ?_)); refine VO.go (VC.block ?_); refine VC.keep [(0, .raw w_l), (1, I a), (2, I b), (6, I ((1 : Nat) : Int))] ⟨rfl, rfl, rfl, slI rfl (by rw [ha] <;> rfl), trivial⟩ ?_; refine VC.loop (I := fun kk ff ss => ∃ (i : Nat) (zs : List Int), kk = l.length - i ∧ ff = [(0, .raw w_l), (1, I a), (2, I b), (6, I ((i : Nat) : Int))] ∧ ss = [(w_l, .row 3 (.int .i64) zs)] ∧ (1 ≤ i ∧ (i ≤ l.length ∨ i = 1)) ∧ (zs.Perm l) ∧ (SortedTo zs i)) ?_ _ _ _ ⟨1, l, rfl, rfl, rfl, (by omega), (by exact .refl _), (by (intro p q h1 h2; omega))⟩; rintro kk ff ss ⟨i, zs, hk0, rfl, rfl, hi, hp, hz⟩; have hzl := hp.length_eq; refine VC.seq (VC.seq (VC.text ?_)); refine VO.c (.move rfl) (VO.c (.move rfl) (VO.c (.lss) (VO.go ?_))); refine VC.condD rfl (fun c1 => ?_) (fun c1 => ?_)
  · refine VC.skip (VC.seq (VC.block (VC.seq (VC.text ?_)))); refine VO.c (.move rfl) (VO.c (.assign rfl) ?_); refine VO.go (VC.block ?_); refine VC.keep [(0, .raw w_l), (1, I a), (2, I b), (6, I ((i : Nat) : Int)), (7, I ((i : Nat) : Int))] ⟨rfl, rfl, rfl, rfl, rfl, trivial⟩ ?_; refine VC.loop (I := fun kk ff ss => ∃ (j : Nat) (ws : List Int), kk = j ∧ ff = [(0, .raw w_l), (1, I a), (2, I b), (6, I ((i : Nat) : Int)), (7, I ((j : Nat) : Int))] ∧ ss = [(w_l, .row 3 (.int .i64) ws)] ∧ (j ≤ i) ∧ (ws.Perm l) ∧ (InsInv ws i j)) ?_ _ _ _ ⟨i, zs, rfl, rfl, rfl, (by omega), (by exact hp), (by exact ins_init hz)⟩; rintro kk ff ss ⟨j, ws, hk2, rfl, rfl, hj, hp2, hz2⟩; have hwl := hp2.length_eq; refine VC.seq (VC.seq (VC.drawn ?_)); refine VD.c (.move rfl) (VD.c (.move rfl) (VD.c (.gtr) (VD.c (.move rfl) ?_))); refine VD.splitD (x := 19) rfl (fun g4_3 => ?_) (fun g4_3 => ?_)
    · refine VD.c (.move rfl) (VD.nw [] (VD.c (.move rfl) ?_)); refine VD.co (.ixO (j := j) rfl rfl m0 el42 (by omega)) ?_; refine VD.r [(w_l, .row 3 (.int .i64) ws)] (.ldO rfl m0 vt3 (by omega)) (.inr ⟨rfl, rfl⟩) ?_; refine VD.c (.move rfl) (VD.c (.move rfl) (VD.c (.sub rfl rfl (by omega)) ?_)); refine VD.co (.ixOZ (k := (((j : Nat) : Int) - (1 : Int))) rfl rfl m0 el42 (by omega) (by omega)) ?_; refine VD.nw [] ?_; refine VD.r [(w_l, .row 3 (.int .i64) ws)] (.ldO rfl m0 vt3 (by omega)) (.inr ⟨rfl, rfl⟩) ?_; refine VD.call rfl rfl (VF.call (cLess_ok )) ?_; refine VD.c (.pickT rfl rfl) (VD.go ?_); refine VC.condB rfl (fun c4 => ?_) (fun c4 => ?_)
      · try simp only [Bool.and_eq_true, Bool.or_eq_true, Bool.and_eq_false_iff, Bool.or_eq_false_iff, Bool.not_eq_true', Bool.not_eq_false', decide_eq_true_eq, decide_eq_false_iff_not] at c4
        refine VC.skip (VC.seq (VC.block (VC.drawn ?_))); refine VD.c (.move rfl) (VD.c (.move rfl) (VD.c (.move rfl) (VD.c (.move rfl) ?_))); refine VD.c (.sub rfl rfl (by omega)) (VD.c (.move rfl) (VD.nw [] (VD.c (.move rfl) ?_))); refine VD.c (.sub rfl rfl (by omega)) ?_; refine VD.co (.ixOZ (k := (((j : Nat) : Int) - (1 : Int))) rfl rfl m0 el42 (by omega) (by omega)) ?_; refine VD.r [(w_l, .row 3 (.int .i64) ws)] (.ldO rfl m0 vt3 (by omega)) (.inr ⟨rfl, rfl⟩) ?_; refine VD.c (.move rfl) (VD.c (.move rfl) ?_); refine VD.co (.ixO (j := j) rfl rfl m0 el42 (by omega)) ?_; refine VD.nw [] ?_; refine VD.r [(w_l, .row 3 (.int .i64) ws)] (.ldO rfl m0 vt3 (by omega)) (.inr ⟨rfl, rfl⟩) ?_; refine VD.co (.ixO (j := j) rfl rfl m0 el42 (by omega)) ?_; refine VD.mk0 (MakeV.setE (j := j) vt3 (by omega) rfl rfl) ?_; rintro _ _ tl1 ⟨rfl, rfl⟩; refine VD.co (.ixOZ (k := (((j : Nat) : Int) - (1 : Int))) rfl rfl m0 el42 (by omega) (by simp; omega)) ?_; refine VD.mk0 (MakeV.setE (j := (Int.toNat (((j : Nat) : Int) - (1 : Int)))) vt3 (by simp; omega) rfl rfl) ?_; rintro _ _ tl2 ⟨rfl, rfl⟩; refine VD.nil ?_; refine VC.keep [(0, .raw w_l), (1, I a), (2, I b), (6, I ((i : Nat) : Int)), (7, I ((j : Nat) : Int))] ⟨rfl, rfl, rfl, rfl, rfl, trivial⟩ ?_; refine VC.text ?_; refine VO.c (.move rfl) (VO.c (.sub rfl rfl (by omega)) (VO.c (.assign rfl) ?_)); refine VO.nil ?_; refine ⟨_, [(0, .raw w_l), (1, I a), (2, I b), (6, I ((i : Nat) : Int)), (7, I (((j - 1) : Nat) : Int))], ?_, ⟨rfl, rfl, rfl, rfl, slI rfl (by exact (by omega)), trivial⟩, (j - 1), (swapE ws j), rfl, rfl, (by rw [← swap_mem (z := (j : Int) - 1) rfl (by omega) (by omega)] <;> rfl), (by omega), (by exact (swap_perm (by omega) (by omega)).trans hp2), (by exact ins_step hz2 (by omega) hj (by omega) ((ins_lt rfl (by omega) (by omega)).1 (c4)))⟩; omega
      try simp only [Bool.and_eq_true, Bool.or_eq_true, Bool.and_eq_false_iff, Bool.or_eq_false_iff, Bool.not_eq_true', Bool.not_eq_false', decide_eq_true_eq, decide_eq_false_iff_not] at c4
      refine VC.exit (VC.text ?_); refine VO.c (.move rfl) (VO.c (.add rfl rfl (by omega)) (VO.c (.assign rfl) ?_)); refine VO.nil ?_; refine ⟨_, [(0, .raw w_l), (1, I a), (2, I b), (6, I (((i + 1) : Nat) : Int))], ?_, ⟨rfl, rfl, rfl, rfl, trivial⟩, (i + 1), ws, rfl, rfl, (by simp), (by omega), (by exact hp2), (by exact ins_end hz2 hj (by first | (left; omega) | (right; have h9 := c4; rw [ins_lt rfl (by omega) (by omega)] at h9; omega)))⟩; omega
    refine VD.skip (VD.nw [] (VD.skip (VD.skip ?_))); refine VD.skip (VD.skip (VD.skip (VD.skip ?_))); refine VD.skip (VD.nw [] (VD.skip (VD.skip ?_))); refine VD.c (.pickF rfl rfl) (VD.go ?_); refine VC.condF rfl ?_; refine VC.exit (VC.text ?_); refine VO.c (.move rfl) (VO.c (.add rfl rfl (by omega)) (VO.c (.assign rfl) ?_)); refine VO.nil ?_; refine ⟨_, [(0, .raw w_l), (1, I a), (2, I b), (6, I (((i + 1) : Nat) : Int))], ?_, ⟨rfl, rfl, rfl, rfl, trivial⟩, (i + 1), ws, rfl, rfl, (by simp), (by omega), (by exact hp2), (by exact ins_end hz2 hj (by first | (left; omega) | (right; have h9 := c4; rw [ins_lt rfl (by omega) (by omega)] at h9; omega)))⟩; omega
  refine VC.exit ?_
  conv => whnf
  exact ⟨rfl, [], .nil, ⟨rfl, (by rw [show zs = sortN l from sortN_eq hp (sorted_end fun p q h1 h2 => hz p q h1 (by have := hp.length_eq; omega))])⟩, .inr (.inl ⟨rfl, List.all_eq_true.1 rfl⟩)⟩
theorem zPdq_ok {w_l : Value} {l : List Int} {a : Int} {b : Int} {k : Int} (ha : a = 0) (hb : b = (l.length : Nat)) (hl : l.length ≤ 12) : VFG Tryz.prog OA 56 [.raw w_l, I a, I b, I k] [(w_l, .row 3 (.int .i64) l)] (fun r g => r = .tup [] ∧ g = [(w_l, .row 3 (.int .i64) (sortN l))]) := by
  refine VFG.enter Tryz.func56 rfl (fun _ _ => rfl) rfl ?_; show VC _ _ _ _ _ [(0, .raw w_l), (1, I a), (2, I b), (3, I k)] [(w_l, .row 3 (.int .i64) l)] _; refine VC.seq (VC.text ?_); refine VO.c (.assign rfl) ?_; refine VO.go (VC.seq (VC.text ?_)); refine VO.c (.assign rfl) ?_; refine VO.go (VC.block ?_); refine VC.keep [(0, .raw w_l), (1, I a), (2, I b), (3, I k), (8, B true), (9, B true)] ⟨rfl, rfl, rfl, rfl, rfl, rfl, trivial⟩ ?_; refine VC.loop (I := fun kk ff ss => kk = 0 ∧ ff = [(0, .raw w_l), (1, I a), (2, I b), (3, I k), (8, B true), (9, B true)] ∧ ss = [(w_l, .row 3 (.int .i64) l)]) ?_ _ _ _ ⟨rfl, rfl, rfl⟩; rintro kk ff ss ⟨hk0, rfl, rfl⟩; refine VC.block (VC.seq (VC.text ?_)); refine VO.c (.move rfl) (VO.c (.move rfl) (VO.c (.sub rfl rfl (by omega)) (VO.c (.assign rfl) ?_))); refine VO.go (VC.seq (VC.seq (VC.text ?_))); refine VO.c (.move rfl) (VO.c (.leq) (VO.go ?_)); refine VC.condD rfl (fun c3 => ?_) (fun c3 => ?_)
  · refine VC.seq (VC.text ?_); refine VO.c (.move rfl) (VO.c (.move rfl) (VO.c (.move rfl) ?_)); refine VO.callG [(w_l, .row 3 (.int .i64) l)] rfl rfl rfl (VFG.call (zIns_ok ha hb (by omega))) ?_; rintro _ _ ⟨rfl, rfl⟩; show VO _ _ _ _ _ _ [(w_l, .row 3 (.int .i64) (sortN l))] _; refine VO.go ?_; refine VC.ret ?_
    conv => whnf
    exact ⟨rfl, [], .nil, ⟨rfl, (by rfl)⟩, .inr (.inl ⟨rfl, List.all_eq_true.1 rfl⟩)⟩
  exact absurd (by omega) c3
def lenE (n : Int) : Int := ([0, 1, 2, 2, 3, 3, 3, 3, 4, 4, 4, 4, 4] : List Int).getD n.toNat 0
theorem bLenA_ok {x : Int} (hx : 0 ≤ x ∧ x ≤ 12) : VF Tryz.prog OA 82 [.v (.int .u64) x] (I (lenE x)) := by
  have : x = 0 ∨ x = 1 ∨ x = 2 ∨ x = 3 ∨ x = 4 ∨ x = 5 ∨ x = 6 ∨ x = 7 ∨ x = 8 ∨ x = 9 ∨ x = 10 ∨ x = 11 ∨ x = 12 := by omega
  rcases this with rfl | rfl | rfl | rfl | rfl | rfl | rfl | rfl | rfl | rfl | rfl | rfl | rfl
  · exact VF.run (v := .int .i64 0) 100 Tryz.func82 rfl (fun _ _ => rfl) rfl repl_int (fun nx objs => by kernel_rfl) rfl (fun _ _ => RepV.ofInt _ _)
  · exact VF.run (v := .int .i64 1) 100 Tryz.func82 rfl (fun _ _ => rfl) rfl repl_int (fun nx objs => by kernel_rfl) rfl (fun _ _ => RepV.ofInt _ _)
  · exact VF.run (v := .int .i64 2) 100 Tryz.func82 rfl (fun _ _ => rfl) rfl repl_int (fun nx objs => by kernel_rfl) rfl (fun _ _ => RepV.ofInt _ _)
  · exact VF.run (v := .int .i64 2) 100 Tryz.func82 rfl (fun _ _ => rfl) rfl repl_int (fun nx objs => by kernel_rfl) rfl (fun _ _ => RepV.ofInt _ _)
  · exact VF.run (v := .int .i64 3) 100 Tryz.func82 rfl (fun _ _ => rfl) rfl repl_int (fun nx objs => by kernel_rfl) rfl (fun _ _ => RepV.ofInt _ _)
  · exact VF.run (v := .int .i64 3) 100 Tryz.func82 rfl (fun _ _ => rfl) rfl repl_int (fun nx objs => by kernel_rfl) rfl (fun _ _ => RepV.ofInt _ _)
  · exact VF.run (v := .int .i64 3) 100 Tryz.func82 rfl (fun _ _ => rfl) rfl repl_int (fun nx objs => by kernel_rfl) rfl (fun _ _ => RepV.ofInt _ _)
  · exact VF.run (v := .int .i64 3) 100 Tryz.func82 rfl (fun _ _ => rfl) rfl repl_int (fun nx objs => by kernel_rfl) rfl (fun _ _ => RepV.ofInt _ _)
  · exact VF.run (v := .int .i64 4) 100 Tryz.func82 rfl (fun _ _ => rfl) rfl repl_int (fun nx objs => by kernel_rfl) rfl (fun _ _ => RepV.ofInt _ _)
  · exact VF.run (v := .int .i64 4) 100 Tryz.func82 rfl (fun _ _ => rfl) rfl repl_int (fun nx objs => by kernel_rfl) rfl (fun _ _ => RepV.ofInt _ _)
  · exact VF.run (v := .int .i64 4) 100 Tryz.func82 rfl (fun _ _ => rfl) rfl repl_int (fun nx objs => by kernel_rfl) rfl (fun _ _ => RepV.ofInt _ _)
  · exact VF.run (v := .int .i64 4) 100 Tryz.func82 rfl (fun _ _ => rfl) rfl repl_int (fun nx objs => by kernel_rfl) rfl (fun _ _ => RepV.ofInt _ _)
  exact VF.run (v := .int .i64 4) 100 Tryz.func82 rfl (fun _ _ => rfl) rfl repl_int (fun nx objs => by kernel_rfl) rfl (fun _ _ => RepV.ofInt _ _)
theorem bLen_ok {x : Int} (hx : 0 ≤ x ∧ x ≤ 12) : VF Tryz.prog OA 57 [.v (.int .u64) x] (I (lenE x)) := by
  refine VF.enter Tryz.func57 rfl (fun _ _ => rfl) rfl ?_; show VC _ _ _ _ _ [(0, .v (.int .u64) x)] [] _; refine VC.seq (VC.text ?_); refine VO.c (.assign rfl) ?_; refine VO.go (VC.seq ?_); refine VC.condF rfl ?_; refine VC.skip (VC.seq (VC.text ?_)); refine VO.c (.move rfl) ?_; refine VO.call rfl rfl (VF.call (bLenA_ok hx)) ?_; refine VO.c (.assign rfl) (VO.go ?_); refine VC.ret ?_; exact VEnd.one rfl evT (pvI (by first | rfl | simp))
theorem zSort_ok {w_l : Value} {l : List Int} (hl : l.length ≤ 12) : VFG Tryz.prog OA 32 [.raw w_l] [(w_l, .row 3 (.int .i64) l)] (fun r g => r = .tup [] ∧ g = [(w_l, .row 3 (.int .i64) (sortN l))]) := by
  refine VFG.enter Tryz.func32 rfl (fun _ _ => rfl) rfl ?_; show VC _ _ _ _ _ [(0, .raw w_l)] [(w_l, .row 3 (.int .i64) l)] _; refine VC.seq (VC.text ?_); refine VO.c (.move rfl) ?_; refine VO.r (.lenO m0 el42) ?_; refine VO.c (.assign rfl) ?_; refine VO.go (VC.text ?_); refine VO.c (.move rfl) (VO.c (.move rfl) (VO.c (.move rfl) (VO.c (.convI rfl .u64 (by exact wrapU64 (by omega))) ?_))); refine VO.call rfl rfl (VF.call (bLen_ok (by first | assumption | omega | simp))) ?_; refine VO.callG [(w_l, .row 3 (.int .i64) l)] rfl rfl rfl (VFG.call (zPdq_ok rfl rfl hl)) ?_; rintro _ _ ⟨rfl, rfl⟩; show VO _ _ _ _ _ _ [(w_l, .row 3 (.int .i64) (sortN l))] _; refine VO.nil ?_
  conv => whnf
  exact ⟨rfl, [], .nil, ⟨rfl, (by rfl)⟩, .inr (.inl ⟨rfl, List.all_eq_true.1 rfl⟩)⟩
def sort3 (x y z : Int) : List Int := if x ≤ y then (if y ≤ z then [x, y, z] else if x ≤ z then [x, z, y] else [z, x, y]) else (if x ≤ z then [y, x, z] else if y ≤ z then [y, z, x] else [z, y, x])
theorem sort3_eq (x y z : Int) : sortN [x, y, z] = sort3 x y z := by
  have p1 : [x, z, y].Perm [x, y, z] := .cons x (.swap y z []); have p2 : [z, x, y].Perm [x, y, z] := (List.Perm.swap x z [y]).trans p1; have p3 : [y, x, z].Perm [x, y, z] := .swap x y [z]; have p4 : [y, z, x].Perm [x, y, z] := (List.Perm.cons y (.swap x z [])).trans p3; have p5 : [z, y, x].Perm [x, y, z] := (List.Perm.swap y z [x]).trans p4
  symm
  unfold sort3; split
  · split
    · exact sortN_eq (.refl _) (by simp; omega)
    split
    · exact sortN_eq p1 (by simp; omega)
    exact sortN_eq p2 (by simp; omega)
  split
  · exact sortN_eq p3 (by simp; omega)
  split
  · exact sortN_eq p4 (by simp; omega)
  exact sortN_eq p5 (by simp; omega)
theorem sort2_eq (x y : Int) : sortN [x, y] = if x ≤ y then [x, y] else [y, x] := by
  symm
  split
  · exact sortN_eq (.refl _) (by simp; omega)
  exact sortN_eq (.swap x y []) (by simp; omega)
def votedE (l : List Int) (tol : Int) : Int × Bool :=
  if l.length = 3 then (l.getD 0 0 + l.getD 1 0 + l.getD 2 0 - min (min (l.getD 0 0) (l.getD 1 0)) (l.getD 2 0) - max (max (l.getD 0 0) (l.getD 1 0)) (l.getD 2 0), true)
  else if l.length = 2 ∧ max (l.getD 0 0 - l.getD 1 0) (l.getD 1 0 - l.getD 0 0) ≤ tol then (max (l.getD 0 0) (l.getD 1 0), true)
  else (0, false)
def voteP (l : List Int) (tol : Int) : Bool := decide (l.length = 3) || (decide (l.length = 2) && decide ((sortN l).getD (l.length - 1) 0 - (sortN l).getD 0 0 ≤ tol))
theorem vote_eq : ∀ {l : List Int} {tol : Int}, l.length ≤ 3 → votedE l tol = (if voteP l tol = true then (sortN l).getD 1 0 else 0, voteP l tol)
  | [], tol, _ => rfl
  | [x], tol, _ => rfl
  | [x, y], tol, _ => by
    unfold votedE voteP; rw [sort2_eq]; simp only [List.length_cons, List.length_nil, List.getD_cons_zero, List.getD_cons_succ]; by_cases h : x ≤ y
    · rw [if_pos h]; simp only [List.getD_cons_zero, List.getD_cons_succ]; by_cases h2 : y - x ≤ tol
      · rw [if_neg (by decide), if_pos ⟨trivial, by omega⟩, decide_eq_true (show _ from h2), show max x y = y by omega] <;> rfl
      rw [if_neg (by decide), if_neg (fun hh => h2 (by have := hh.2; omega)), decide_eq_false (show ¬ _ from h2)] <;> rfl
    rw [if_neg h]; simp only [List.getD_cons_zero, List.getD_cons_succ]; by_cases h2 : x - y ≤ tol
    · rw [if_neg (by decide), if_pos ⟨trivial, by omega⟩, decide_eq_true (show _ from h2), show max x y = x by omega] <;> rfl
    rw [if_neg (by decide), if_neg (fun hh => h2 (by have := hh.2; omega)), decide_eq_false (show ¬ _ from h2)] <;> rfl
  | [x, y, z], tol, _ => by
    unfold votedE voteP; rw [if_pos (show [x, y, z].length = 3 from rfl), sort3_eq]
    have e : (sort3 x y z).getD 1 0 = x + y + z - min (min x y) z - max (max x y) z := by
      unfold sort3; split <;> split <;> (try split) <;> simp <;> omega
    rw [decide_eq_true (show [x, y, z].length = 3 from rfl), Bool.true_or, if_pos rfl, e] <;> rfl
  | _ :: _ :: _ :: _ :: _, _, h => absurd h (by simp)
end Go.Proofs
namespace Go.Fs
variable {P : Program} {orc : FuncId → List Value → Heap → Option (Value × Heap)} {σ : Sto} {fl : VL} {ops : Array Oper} {n : Nat} {l : List Oper} {K : VL → Sto → Prop} {d : Tmp} {ty : TypeId} {pos : String} {after : Array Edge} {g : Option (Nat × Bool)} {x : Operand} {T e : TypeId} {τ : Ty}
end Go.Fs
namespace Go.Fs
variable {P : Program} {fl : VL} {e : TypeId} {τ : Ty}
theorem swap4 {a b c d e : Value × Cell} {r : Sto} : (a :: b :: c :: d :: e :: r).Perm (e :: a :: b :: c :: d :: r) := (swap3.cons a).trans (List.Perm.swap e a (b :: c :: d :: r))
theorem swap5 {a b c d e f : Value × Cell} {r : Sto} : (a :: b :: c :: d :: e :: f :: r).Perm (f :: a :: b :: c :: d :: e :: r) := (swap4.cons a).trans (List.Perm.swap f a (b :: c :: d :: e :: r))
end Go.Fs
namespace Go.Fs
variable {P : Program} {orc : FuncId → List Value → Heap → Option (Value × Heap)} {rnd : Option Nat} {h h' h0 h1 h2 hs : Heap} {S S' S0 B G : List Nat} {σ σ' : Sto} {t t' : Tr} {ms : List Nat} {fl : VL} {ops : Array Oper} {n i mem : Nat} {l : List Oper} {K : VL → Sto → Prop} {Q : Ex → VL → Sto → Prop}
  {d d1 d2 : Tmp} {ty ty1 ty2 : TypeId} {pos pos1 pos2 : String} {after after1 after2 : Array Edge} {op : Op} {v v1 : PV} {g g1 g2 : Option (Nat × Bool)} {bs nw : List Nat} {segs : List (Nat × Nat × Nat)} {tail so : Bool}
section
variable (P orc)
end
theorem mask_keep {m b : Nat} : ∀ (segs : List (Nat × Nat × Nat)) (objs : List (Nat × AObj)), (∀ s ∈ segs, m.testBit s.1 = false → ¬(s.2.1 ≤ b ∧ b < s.2.2)) → look (mask m segs objs) b = look objs b
  | [], _, _ => rfl
  | (k, lo, hi) :: segs, objs, h => by
    simp only [mask]; rw [mask_keep segs _ fun s hs => h s (List.mem_cons_of_mem _ hs)]
    cases hk : m.testBit k with
    | true => rfl
    | false =>
      have := h (k, lo, hi) List.mem_cons_self hk; simp only [Bool.false_eq_true, if_false]; refine look_filter_all (fun o => ?_) objs; unfold outside; simp only [Bool.not_eq_true', Bool.and_eq_false_iff, decide_eq_false_iff_not]; exact Decidable.not_and_iff_not_or_not.1 this
end Go.Fs
namespace Go.Fs
variable {P : Program} {orc : FuncId → List Value → Heap → Option (Value × Heap)} {rnd : Option Nat} {h h' h0 h1 h2 : Heap} {S S' S0 B G : List Nat} {σ σ' σr : Sto} {t t' : Tr} {ms : List Nat} {fl : VL} {ops : Array Oper} {n i mem : Nat} {l : List Oper} {K : VL → Sto → Prop} {Q : Ex → VL → Sto → Prop}
  {d : Tmp} {ty : TypeId} {pos : String} {after : Array Edge} {op : Op} {v pv : PV} {g : Option (Nat × Bool)} {x y z : Operand} {T T' e : TypeId} {τ τ' : Ty} {bs nw : List Nat} {segs : List (Nat × Nat × Nat)} {tail so : Bool} {w w' : Value} {c c' : Cell}
theorem FreshO.lit0C (hT : ElT P T e τ) : FreshO P fl (.buildSlice T 0 #[]) (.cel e 0 []) :=
  ⟨rfl, fun h S t hs hok hS => ⟨fun k => .slice (some ⟨k, 0, none⟩) 0 0, .row e [] true false, fun _ => rfl, fun S' hN hm => .inr ⟨h.next, [], false, rfl, hm, by rw [Heap.get_push, if_pos rfl], rfl, rfl, fun _ => rfl⟩, lit0_run hT⟩⟩
theorem append_nil_low {xv u : Value} (hT : ElT P T e τ) (hT' : ElT P T' e τ) (hf : fsAppend P #[T, T'] (.slice none 0 0) xv h = some (u, h')) : h.low ≤ h'.low := by
  obtain ⟨i, z, hi1, hi2, hi3, hi3', hi4, _⟩ := hT.sl.info; unfold fsAppend at hf; simp only [List.getElem?_toArray, List.getElem?_cons_zero, List.getElem?_cons_succ, hT.sl.sl, hT'.sl.sl, hi1, hi4] at hf; split at hf
  · rename_i m news _; obtain ⟨_, hf⟩ := bif_some hf; unfold fsGrow at hf
    cases hm : Nat.beq m 0 with
    | true =>
      simp only [hm, cond_true, Option.some.injEq, Prod.mk.injEq] at hf
      rw [← hf.2]; exact Nat.le_refl _
    | false =>
      simp only [hm, cond_false] at hf; obtain ⟨_, hf⟩ := bif_some hf; unfold grown at hf; simp only [Option.some.injEq, Prod.mk.injEq] at hf; rw [← hf.2]; exact Nat.le_refl _
  cases hf
theorem cel_row {w : Value} (hc : CellR h S w (.cel e 0 [])) : CellR h S w (.row e τ []) := by
  rcases hc with ⟨h1, _, _⟩ | ⟨b, rs, m, h1, h2, h3, h4, h5, h6⟩
  · exact .inl ⟨h1, rfl⟩
  obtain rfl : rs = [] := h4; exact .inr ⟨b, [], m, h1, h2, h3, Elems.nil⟩
theorem cel_rowL (L : Lc S0 h ((w, .cel e 0 []) :: σ) t fl) : Lc S0 h ((w, .row e τ []) :: σ) t fl where
  ok := L.ok
  s0 := L.s0
  cells := fun c hc => by
    rcases List.mem_cons.1 hc with rfl | hc
    · exact cel_row (L.cells _ List.mem_cons_self)
    exact L.cells c (List.mem_cons_of_mem _ hc)
  sep := L.sep
  apart := L.apart
  slots := L.slots
theorem MakeV.app0 {ys : List τ.den} (hT : ElT P T e τ) (hT' : ElT P T' e τ) (hx : evV fl x = some (.raw w)) (hy : evV fl y = some (.v (.sl τ) ys)) (hsz : ys.length ≤ 1000000) :
    MakeV P fl ((w, .cel e 0 []) :: σ) (.call { callee := .builtin .append, args := #[x, y], argTypes := #[T, T'] }) fun v σ' => ∃ w', v = .raw w' ∧ σ' = (w', .row e τ ys) :: σ :=
  ⟨rfl, fun S0 h t L => by
    obtain ⟨u, h', v, σ', ⟨w', e1, e2⟩, e3, e4, e5⟩ := (MakeV.app (σ := σ) (xs := []) hT hT' hx hy (by simpa using hsz)).2 S0 h t (cel_rowL L)
    exact ⟨u, h', v, σ', ⟨w', e1, e2⟩, ⟨e3.aft, e3.new, e3.apart, e3.cells⟩, e4, e5⟩⟩
end Go.Fs
namespace Go.Fs
variable {P : Program} {orc : FuncId → List Value → Heap → Option (Value × Heap)} {rnd : Option Nat} {h h' h0 h1 h2 hr : Heap} {S S' S0 B G A : List Nat} {σ σ' σr ρ : Sto} {t t' : Tr} {ms : List Nat} {fl : VL} {ops : Array Oper} {n i mem : Nat} {l : List Oper} {K : VL → Sto → Prop}
  {d : Tmp} {ty : TypeId} {pos : String} {after : Array Edge} {op : Op} {v pv : PV} {g : Option (Nat × Bool)} {x y z : Operand} {T T' e : TypeId} {τ τ' : Ty} {bs nw rd chg : List Nat} {segs : List (Nat × Nat × Nat)} {tail tl : Bool} {w w' : Value}
theorem VLt.cR {b : Nat} {q : Value} (hc : CalmV P fl σ op (.raw q)) (hk : VLt P orc ops n l (i + 1) ((d, .raw q) :: fl) (nwSet true d nw) σ ρ (bs ++ [b]) mem tl K)
    (hb : beforeOf bs ⟨some d, op, ty, pos, after, g⟩ = b := by rfl) (hw : wantV ops fl g = some true := by rfl) (hn : (Nat.blt d n && Nat.ble n 4000) = true := by rfl) :
    VLt P orc ops n (⟨some d, op, ty, pos, after, g⟩ :: l) i fl nw σ ρ bs mem tl K := fun hr h0 G S0 A t h ms rd chg segs tail ht I L => by
  obtain ⟨n1, n2⟩ := fits hn; obtain ⟨u, e1, e2⟩ := hc.2 h (own σ ++ S0) t I.slots.sees I.cells; refine EvL.opr (x' := (⟨t.set depth d u, h, bs ++ [b], segs, mem, tail⟩, rd, chg)) ?_ (hk hr h0 G S0 A _ h ms rd chg segs tail ht (I.set e1 n2) (L.set n2 fun _ => (e1 : u = q))); unfold lateDraw; have hwt : fsWanted ops t ⟨some d, op, ty, pos, after, g⟩ = some true := want_ok I.slots hw; simp only [hwt, hc.1, if_true, e2, Nat.beq_refl, cond_true, put_fits n1, Option.map_some, hb]
end Go.Fs
namespace Go.Proofs
open Ieee
def q16 (n : Int) : Nat := (single.div (single.write (.number (n < 0) n.natAbs 0)) 1098907648).getD 0
def q16B (n : Int) : Bool := decide (lvlE (q16 n) = 0) && decide (sxE (q16 n) = n) && (single.div (single.write (.number (n < 0) n.natAbs 0)) 1098907648).isSome
theorem q16_all : (List.range 2049).all (fun k => q16B ((k : Int) - 1024)) = true := by decide +kernel
theorem q16_ok {n : Int} (h : -1024 ≤ n ∧ n ≤ 1024) : lvlE (q16 n) = 0 ∧ sxE (q16 n) = n ∧ single.div (single.write (.number (n < 0) n.natAbs 0)) 1098907648 = some (q16 n) := by
  have h1 := List.all_eq_true.1 q16_all (n + 1024).toNat (List.mem_range.2 (by omega)); rw [show (((n + 1024).toNat : Nat) : Int) - 1024 = n by omega] at h1; unfold q16B at h1; simp only [Bool.and_eq_true, decide_eq_true_eq] at h1; refine ⟨h1.1.1, h1.1.2, ?_⟩; obtain ⟨r, hr⟩ := Option.isSome_iff_exists.1 h1.2; rw [q16, hr]; rfl
theorem q16_z : q16 0 = 0 := by decide +kernel
end Go.Proofs
namespace Go.Proofs
open Go.Fs Ieee
set_option maxHeartbeats 400000
abbrev y67 : Ty := (.sl (.pair .str (.pair (.int .i64) (.pair (.sl (.flt .f32)) (.sl (.pair (.int .i64) (.int .i64)))))))
theorem el67 : ElT Tryz.prog 67 30 y30 := elT_of (by kernel_rfl)
theorem gMapRec_ok {F : Rec1 → Int} {l : List (ByteArray × Int × (List Nat) × (List (Int × Int)))} {f : PV} (hl : l.length < 100000) (hf : ∀ x ∈ l, VCall Tryz.prog OA f [.v y30 x] (I (F x))) : VF Tryz.prog OA 27 [.v y67 l, f] (.v y65 (l.map F)) := by
  refine VF.enter Tryz.func27 rfl (fun _ _ => rfl) rfl ?_; show VC _ _ _ _ _ [(0, .v y67 l), (1, f)] [] _; refine VC.seq (VC.text ?_); refine VO.c (.assign rfl) ?_; refine VO.go (VC.seq (VC.text ?_)); refine VO.c (.assign rfl) ?_; refine VO.go (VC.seq (VC.seq (VC.text ?_))); refine VO.c (.move rfl) ?_; refine VO.r (.len el67) ?_; refine VO.c (.move rfl) ?_; refine VO.go (VC.block ?_); refine VC.cell0 32 (.int .i64) ?_; refine VC.keep [(1, f), (5, .raw (.slice none 0 0)), (8, .v y67 l), (9, I ((l.length : Nat) : Int)), (10, I ((0 : Nat) : Int))] ⟨rfl, rfl, rfl, rfl, rfl, trivial⟩ ?_; refine VC.loop (I := fun kk ff ss => ∃ (j : Nat) (out : Value), kk = l.length - j ∧ ff = [(1, f), (5, .raw out), (8, .v y67 l), (9, I ((l.length : Nat) : Int)), (10, I ((j : Nat) : Int))] ∧ ss = [(out, .row 32 (.int .i64) ((l.take j).map F))] ∧ (j ≤ l.length)) ?_ _ _ _ ⟨0, (.slice none 0 0), rfl, rfl, rfl, Nat.zero_le _⟩; rintro kk ff ss ⟨j, out, hk0, rfl, rfl, hj⟩; refine VC.seq (VC.text ?_); refine VO.c (.lss) ?_; refine VO.go (VC.seq ?_); refine VC.condD rfl (fun c3 => ?_) (fun c3 => ?_)
  · refine VC.skip (VC.seq (VC.block (VC.seq (VC.text ?_)))); refine VO.c (.ix (j := j) rfl rfl el67 (by omega)) ?_; refine VO.r (.ld vt30) ?_; refine VO.cell (.alloc zt30) ?_; intro ww1; refine VO.setV (cs' := [St ((l[j]).1), I ((l[j]).2.1), .v y22 ((l[j]).2.2.1), .v y23 ((l[j]).2.2.2)]) vt30 .v ?_; refine VO.shut [(7, .p y30 (l[j]))] (.cons rfl (.var m0 .refl) .nil) ?_; refine VO.go (VC.text ?_); refine VO.c (.move rfl) (VO.c (.move rfl) ?_); refine VO.r (.ld vt30) ?_; refine VO.call rfl rfl ((hf _ (List.getElem_mem _)) ) ?_; refine VO.new (.lit [F (l[j])] el65) ?_; refine VO.app rfl rfl el65 el65 (by simp; omega) ?_; intro ww2; refine VO.c (.assign rfl) ?_; refine VO.nil (VC.text ?_); refine VO.c (.add rfl rfl (by omega)) (VO.c (.move rfl) ?_); refine VO.nil ?_; refine ⟨_, [(1, f), (5, .raw ww2), (8, .v y67 l), (9, I ((l.length : Nat) : Int)), (10, I (((j + 1) : Nat) : Int))], ?_, ⟨rfl, rfl, rfl, rfl, rfl, trivial⟩, (j + 1), ww2, rfl, rfl, (by rw [List.take_succ_eq_append_getElem (by omega), List.map_append] <;> rfl), (by omega)⟩; omega
  refine VC.exit (VC.seq (VC.text ?_)); refine VO.c (.move rfl) (VO.c (.assign rfl) (VO.go ?_)); refine VC.ret ?_; exact VEnd.one rfl (evC (.row m0)) (pvE (by rw [List.take_of_length_le (by omega)]))
theorem votedE_3 {l : List Int} {tol : Int} (h : l.length = 3) : votedE l tol = (l[0]'(by omega) + l[1]'(by omega) + l[2]'(by omega) - min (min (l[0]'(by omega)) (l[1]'(by omega))) (l[2]'(by omega)) - max (max (l[0]'(by omega)) (l[1]'(by omega))) (l[2]'(by omega)), true) := by
  rw [votedE, if_pos h, getDat (show 0 < l.length by omega), getDat (show 1 < l.length by omega), getDat (show 2 < l.length by omega)]
theorem votedE_2 {l : List Int} {tol : Int} (h : l.length = 2) : votedE l tol = if max (l[0]'(by omega) - l[1]'(by omega)) (l[1]'(by omega) - l[0]'(by omega)) ≤ tol then (max (l[0]'(by omega)) (l[1]'(by omega)), true) else (0, false) := by
  rw [votedE, if_neg (by omega), getDat (show 0 < l.length by omega), getDat (show 1 < l.length by omega)]; exact ite_congr (propext ⟨fun hh => hh.2, fun hh => ⟨h, hh⟩⟩) (fun _ => rfl) (fun _ => rfl)
theorem votedE_n {l : List Int} {tol : Int} (h3 : ¬ l.length = 3) (h2 : ¬ l.length = 2) : votedE l tol = (0, false) := by
  rw [votedE, if_neg h3, if_neg (fun hh => h2 hh.1)]
abbrev Rec3 := Rec1 × Rec1 × Rec1
abbrev rk (l : Rec3) (k : Nat) : Rec1 := arr3 l.1 l.2.1 l.2.2 k
def toldL (l : Rec3) (i : Nat) : Nat → List Int
  | 0 => []
  | k + 1 => if recB (rk l k) i = true then toldL l i k ++ [sxE ((rk l k).2.2.1.getD i 0)] else toldL l i k
theorem toldL_t {l : Rec3} {i k : Nat} (h : recB (rk l k) i = true) : toldL l i (k + 1) = toldL l i k ++ [sxE ((rk l k).2.2.1.getD i 0)] := if_pos h
theorem toldL_f {l : Rec3} {i k : Nat} (h : recB (rk l k) i = false) : toldL l i (k + 1) = toldL l i k := if_neg (by rw [h]; exact Bool.false_ne_true)
theorem toldL_len {l : Rec3} {i : Nat} : ∀ k, (toldL l i k).length ≤ k
  | 0 => Nat.le_refl _
  | k + 1 => by
    have := toldL_len (l := l) (i := i) k; unfold toldL; split
    · rw [List.length_append, List.length_singleton]; omega
    omega
theorem getD_lvl {r : Rec1} {i : Nat} (h : ∀ x ∈ r.2.2.1, lvlE x = 0) : lvlE (r.2.2.1.getD i 0) = 0 := by
  by_cases hi : i < r.2.2.1.length
  · rw [getDat hi]; exact h _ (List.getElem_mem hi)
  rw [List.getD_eq_getElem?_getD, List.getElem?_eq_none (by omega)]; decide +kernel
theorem toldL_bnd {l : Rec3} {i : Nat} (hv : ∀ k, k < 3 → ∀ x ∈ (rk l k).2.2.1, lvlE x = 0) : ∀ k, k ≤ 3 → ∀ x ∈ toldL l i k, -1024 ≤ x ∧ x ≤ 1024
  | 0, _ => fun x hx => by cases hx
  | k + 1, hk => fun x hx => by
    have h1 := toldL_bnd (i := i) hv k (by omega); unfold toldL at hx; split at hx
    · rcases List.mem_append.1 hx with hx | hx
      · exact h1 x hx
      rw [List.mem_singleton.1 hx]; have := lvl_ok (getD_lvl (i := i) (hv k (by omega))); exact ⟨this.2.1, this.2.2⟩
    exact h1 x hx
def vE (l : Rec3) (tol : Int) (i : Nat) : Int × Bool := votedE (toldL l i 3) tol
theorem voted_bnd {l : List Int} {tol : Int} (hl : l.length ≤ 3) (hb : ∀ x ∈ l, -1024 ≤ x ∧ x ≤ 1024) : -1024 ≤ (votedE l tol).1 ∧ (votedE l tol).1 ≤ 1024 := by
  by_cases h3 : l.length = 3
  · have b0 := hb (l[0]'(by omega)) (List.getElem_mem _); have b1 := hb (l[1]'(by omega)) (List.getElem_mem _); have b2 := hb (l[2]'(by omega)) (List.getElem_mem _); rw [votedE_3 h3]; simp only; omega
  by_cases h2 : l.length = 2
  · have b0 := hb (l[0]'(by omega)) (List.getElem_mem _); have b1 := hb (l[1]'(by omega)) (List.getElem_mem _); rw [votedE_2 h2]; split
    · simp only; omega
    simp
  rw [votedE_n h3 h2]; simp
theorem vE_bnd {l : Rec3} {tol : Int} {i : Nat} (hv : ∀ k, k < 3 → ∀ x ∈ (rk l k).2.2.1, lvlE x = 0) : -1024 ≤ (vE l tol i).1 ∧ (vE l tol i).1 ≤ 1024 := voted_bnd (toldL_len 3) (toldL_bnd hv 3 (by omega))
def lvV (l : Rec3) (tol : Int) (n : Nat) : List Nat := (List.range l.1.2.2.1.length).map fun i => if i < n ∧ (vE l tol i).2 = true then q16 (vE l tol i).1 else 0
def isV (l : Rec3) (tol : Int) (n : Nat) : List Bool := (List.range l.1.2.2.1.length).map fun i => decide (i < n) && (vE l tol i).2
theorem lvV_len {l : Rec3} {tol : Int} {n : Nat} : (lvV l tol n).length = l.1.2.2.1.length := by simp [lvV]
theorem isV_len {l : Rec3} {tol : Int} {n : Nat} : (isV l tol n).length = l.1.2.2.1.length := by simp [isV]
theorem lvV_at {l : Rec3} {tol : Int} {n i : Nat} (h : i < l.1.2.2.1.length) : (lvV l tol n)[i]'(by rw [lvV_len]; exact h) = if i < n ∧ (vE l tol i).2 = true then q16 (vE l tol i).1 else 0 := by
  unfold lvV; rw [List.getElem_map, List.getElem_range]
theorem isV_at {l : Rec3} {tol : Int} {n i : Nat} (h : i < l.1.2.2.1.length) : (isV l tol n)[i]'(by rw [isV_len]; exact h) = (decide (i < n) && (vE l tol i).2) := by
  unfold isV; rw [List.getElem_map, List.getElem_range]
def dvB (l : Rec3) (tol : Int) (k i : Nat) : Bool := (vE l tol i).2 && recB (rk l k) i && decide (tol < max (sxE ((rk l k).2.2.1.getD i 0) - (vE l tol i).1) (0 - (sxE ((rk l k).2.2.1.getD i 0) - (vE l tol i).1)))
def dvE (l : Rec3) (tol : Int) (k : Nat) : Nat → Int
  | 0 => 0
  | i + 1 => if dvB l tol k i = true then dvE l tol k i + 1 else dvE l tol k i
theorem dvE_bnd {l : Rec3} {tol : Int} {k : Nat} : ∀ i : Nat, 0 ≤ dvE l tol k i ∧ dvE l tol k i ≤ (i : Int)
  | 0 => ⟨Int.le_refl _, Int.le_refl _⟩
  | i + 1 => by
    have := dvE_bnd (l := l) (tol := tol) (k := k) i; unfold dvE; split <;> omega
def dvK (l : Rec3) (tol : Int) (i j k : Nat) : Int := if j ≤ k then dvE l tol j (i + 1) else dvE l tol j i
theorem dvE_t {l : Rec3} {tol : Int} {k i : Nat} (h : dvB l tol k i = true) : dvE l tol k (i + 1) = dvE l tol k i + 1 := if_pos h
theorem dvE_f {l : Rec3} {tol : Int} {k i : Nat} (h : dvB l tol k i = false) : dvE l tol k (i + 1) = dvE l tol k i := if_neg (by rw [h]; exact Bool.false_ne_true)
theorem div32E {p q r : Nat} (h : single.div p q = some r) : fopE .quo .f32 p q = some r := h
structure Vot (l : Rec3) (tol : Int) : Prop where
  lv : ∀ k, k < 3 → ∀ x ∈ (rk l k).2.2.1, lvlE x = 0
  len : ∀ k, k < 3 → (rk l k).2.2.1.length = l.1.2.2.1.length
  n : l.1.2.2.1.length ≤ 4096
  gap : ∀ k, k < 3 → (rk l k).2.2.2.length < 1000000
  tol : 0 ≤ tol ∧ tol ≤ 2048
def lvR (l : Rec3) (tol : Int) : Rec1 := (l.1.1, l.1.2.1, lvV l tol l.1.2.2.1.length, [])
end Go.Proofs
namespace Go.Fs
variable {P : Program}
section
variable {orc : FuncId → List Value → Heap → Option (Value × Heap)} {h : Heap} {S : List Nat} {fl : VL} {σ : Sto} {T : TypeId} {τ : Ty}
theorem CalmV.buildV {pl : List (Nat × Nat)} {parts : Array (Nat × Operand)} {ps : List PV} {dx : τ.den} (hT : BldT P T τ pl) (hps : evVs fl (parts.toList.map (·.2)) = some ps := by rfl) (hb : bldL pl (cellsPV τ (zeroD τ)) (parts.toList.map (·.1)) ps = some (cellsPV τ dx) := by rfl) : CalmV P fl σ (.build T parts) (.v τ dx) := CalmV.build dx hT hps hb
end
end Go.Fs
namespace Go.Proofs
open Go.Fs Ieee
set_option maxHeartbeats 400000
abbrev y31 : Ty := (.pair (.int .i64) (.pair (.int .i64) (.int .i64)))
abbrev y36 : Ty := (.pair (.pair .str (.pair (.int .i64) (.pair (.sl (.flt .f32)) (.sl (.pair (.int .i64) (.int .i64)))))) (.pair (.pair .str (.pair (.int .i64) (.pair (.sl (.flt .f32)) (.sl (.pair (.int .i64) (.int .i64)))))) (.pair .str (.pair (.int .i64) (.pair (.sl (.flt .f32)) (.sl (.pair (.int .i64) (.int .i64))))))))
abbrev y72 : Ty := (.pair (.sl .bool) (.pair (.sl .bool) (.sl .bool)))
theorem vt31 : ValT Tryz.prog 31 y31 := valT_of (by kernel_rfl)
theorem vt36 : ValT Tryz.prog 36 y36 := valT_of (by kernel_rfl)
theorem vt70BL : ValT Tryz.prog 70 (.sl .bool) := valT_of (by kernel_rfl)
theorem vt72 : ValT Tryz.prog 72 y72 := valT_of (by kernel_rfl)
theorem zt31 : ZerT Tryz.prog 31 y31 := zerT_of (z := .agg #[.int .i64 0, .int .i64 0, .int .i64 0]) (by kernel_rfl) rfl rfl
theorem zt72 : ZerT Tryz.prog 72 y72 := zerT_of (z := .agg #[.slice none 0 0, .slice none 0 0, .slice none 0 0]) (by kernel_rfl) rfl rfl
theorem bt31 : BldT Tryz.prog 31 y31 [(0, 1), (1, 1), (2, 1)] := bldT_of zt31 rfl (by kernel_rfl)
theorem bt72 : BldT Tryz.prog 72 y72 [(0, 1), (1, 1), (2, 1)] := bldT_of zt72 rfl (by kernel_rfl)
theorem mem3 {Q : Rec1 → Prop} {l : Rec3} (h : ∀ k, k < 3 → Q (rk l k)) {x : Rec1} (hx : x ∈ [l.1, l.2.1, l.2.2]) : Q x := by
  simp only [List.mem_cons, List.not_mem_nil, or_false] at hx; rcases hx with rfl | rfl | rfl
  · exact h 0 (by decide)
  · exact h 1 (by decide)
  exact h 2 (by decide)
theorem all3 {Q : Rec1 → Prop} {l : Rec3} (h0 : Q l.1) (h1 : Q l.2.1) (h2 : Q l.2.2) : ∀ k, k < 3 → Q (rk l k)
  | 0, _ => h0
  | 1, _ => h1
  | 2, _ => h2
  | k + 3, h => absurd h (by omega)
def votC1 (l : Rec3) (tol : Int) : Int := firstE [firstE ([l.1, l.2.1, l.2.2].map recE), rangeE tol 0 2048]
theorem votC1_ok {l : Rec3} {tol : Int} (h : votC1 l tol = 0) : (∀ k, k < 3 → recE (rk l k) = 0) ∧ 0 ≤ tol ∧ tol ≤ 2048 := by
  have h1 := firstE_zero.1 h; have h2 := firstE_zero.1 (h1 _ (by simp : firstE ([l.1, l.2.1, l.2.2].map recE) ∈ _)); have h3 := h1 (rangeE tol 0 2048) (by simp); refine ⟨all3 (Q := fun r => recE r = 0) (h2 _ (by simp)) (h2 _ (by simp)) (h2 _ (by simp)), ?_⟩; unfold rangeE at h3; split at h3
  · cases h3
  omega
def sameSh (l : Rec3) : Prop := (l.2.1.2.1 = l.1.2.1 ∧ l.2.2.2.1 = l.1.2.1) ∧ l.2.1.2.2.1.length = l.1.2.2.1.length ∧ l.2.2.2.2.1.length = l.1.2.2.1.length
instance : DecidablePred sameSh := fun l => inferInstanceAs (Decidable ((l.2.1.2.1 = l.1.2.1 ∧ l.2.2.2.1 = l.1.2.1) ∧ l.2.1.2.2.1.length = l.1.2.2.1.length ∧ l.2.2.2.2.1.length = l.1.2.2.1.length))
def voteC (l : Rec3) (tol : Int) : Int := if votC1 l tol ≠ 0 then votC1 l tol else if sameSh l then 0 else 2
def voteR (l : Rec3) (tol : Int) : Rec1 := if voteC l tol ≠ 0 then zRec else (l.1.1, l.1.2.1, keptL (lvR l tol) (isV l tol l.1.2.2.1.length) plusZ (isV l tol l.1.2.2.1.length).length, gapsE (isV l tol l.1.2.2.1.length) (isV l tol l.1.2.2.1.length).length)
def voteO (l : Rec3) (tol : Int) : Int × Int × Int := if voteC l tol ≠ 0 then (0, 0, 0) else (dvE l tol 0 l.1.2.2.1.length, dvE l tol 1 l.1.2.2.1.length, dvE l tol 2 l.1.2.2.1.length)
theorem voteC_1 {l : Rec3} {tol : Int} (h : votC1 l tol ≠ 0) : voteC l tol = votC1 l tol := if_pos h
theorem voteC_2 {l : Rec3} {tol : Int} (h : ¬ votC1 l tol ≠ 0) (h2 : ¬ sameSh l) : voteC l tol = 2 := by rw [voteC, if_neg h, if_neg h2]
theorem voteC_0 {l : Rec3} {tol : Int} (h : ¬ votC1 l tol ≠ 0) (h2 : sameSh l) : voteC l tol = 0 := by rw [voteC, if_neg h, if_pos h2]
theorem vote_vot {l : Rec3} {tol : Int} (h : ¬ votC1 l tol ≠ 0) (h2 : sameSh l) (hg : ∀ k, k < 3 → (rk l k).2.2.2.length < 1000000) : Vot l tol := by
  obtain ⟨h3, h4⟩ := votC1_ok (Classical.not_not.1 h); refine ⟨fun k hk => (rec_ok (h3 k hk)).2.2.2.1, all3 (Q := fun r => r.2.2.1.length = l.1.2.2.1.length) rfl h2.2.1 h2.2.2, (rec_ok (h3 0 (by decide))).2.1, hg, h4⟩
def lvA (l : Rec3) (tol : Int) (n : Nat) : List Nat := (List.range n).map fun j => q16 (vE l tol j).1
def isA (l : Rec3) (tol : Int) (n : Nat) : List Bool := (List.range n).map fun j => (vE l tol j).2
theorem lvA_len {l : Rec3} {tol : Int} {n : Nat} : (lvA l tol n).length = n := by simp [lvA]
theorem isA_len {l : Rec3} {tol : Int} {n : Nat} : (isA l tol n).length = n := by simp [isA]
theorem lvA_at {l : Rec3} {tol : Int} {n i : Nat} (h : i < n) : (lvA l tol n)[i]'(by rw [lvA_len]; exact h) = q16 (vE l tol i).1 := by
  unfold lvA; rw [List.getElem_map, List.getElem_range]
theorem isA_at {l : Rec3} {tol : Int} {n i : Nat} (h : i < n) : (isA l tol n)[i]'(by rw [isA_len]; exact h) = (vE l tol i).2 := by
  unfold isA; rw [List.getElem_map, List.getElem_range]
theorem lvA_s {l : Rec3} {tol : Int} {n : Nat} : lvA l tol (n + 1) = lvA l tol n ++ [q16 (vE l tol n).1] := by
  unfold lvA; rw [List.range_succ, List.map_append] <;> rfl
theorem isA_s {l : Rec3} {tol : Int} {n : Nat} : isA l tol (n + 1) = isA l tol n ++ [(vE l tol n).2] := by
  unfold isA; rw [List.range_succ, List.map_append] <;> rfl
theorem vE_0 {l : Rec3} {tol : Int} {i : Nat} (h : (vE l tol i).2 = false) : (vE l tol i).1 = 0 := by
  unfold vE votedE at h ⊢; split
  · rename_i h3; rw [if_pos h3] at h; cases h
  rename_i h3; rw [if_neg h3] at h; split
  · rename_i h2; rw [if_pos h2] at h; cases h
  rfl
theorem lvA_V {l : Rec3} {tol : Int} : lvA l tol l.1.2.2.1.length = lvV l tol l.1.2.2.1.length := by
  refine List.ext_getElem (by rw [lvA_len, lvV_len]) fun i h1 h2 => ?_; rw [lvA_len] at h1; rw [lvV_at h1, lvA_at h1]
  cases hv : (vE l tol i).2 with
  | true => rw [if_pos ⟨h1, rfl⟩]
  | false => rw [if_neg (fun hh => Bool.false_ne_true hh.2), vE_0 hv, q16_z]
theorem isA_V {l : Rec3} {tol : Int} : isA l tol l.1.2.2.1.length = isV l tol l.1.2.2.1.length := by
  refine List.ext_getElem (by rw [isA_len, isV_len]) fun i h1 h2 => ?_; rw [isA_len] at h1; rw [isV_at h1, decide_eq_true h1, isA_at h1] <;> rfl
theorem arr3_map {α β : Type} (f : α → β) (a b c : α) : ∀ k, arr3 (f a) (f b) (f c) k = f (arr3 a b c k)
  | 0 => rfl
  | 1 => rfl
  | _ + 2 => rfl
theorem thereV_len {r : Rec1} : (thereE r).length = r.2.2.1.length := offB_len
theorem thereV_at {r : Rec1} {i : Nat} (h : i < r.2.2.1.length) (h2 : i < (thereE r).length) : (thereE r)[i] = recB r i := by
  have h3 := offB_at (p := Sp.inL r.2.2.2) h; exact h3.trans (recB_in h).symm
theorem there3 {l : Rec3} {k i : Nat} (h : i < (rk l k).2.2.1.length) (h2 : i < (arr3 (thereE l.1) (thereE l.2.1) (thereE l.2.2) k).length) : (arr3 (thereE l.1) (thereE l.2.1) (thereE l.2.2) k)[i] = recB (rk l k) i := by
  have e := arr3_map thereE l.1 l.2.1 l.2.2 k; rw [← thereV_at h (by rw [← e]; exact h2)]; simp only [e]
theorem sort_len {l : List Int} : (sortN l).length = l.length := (sortN_perm l).length_eq
theorem vote_3 {l : List Int} {tol : Int} (h : l.length = 3) : (votedE l tol).2 = true := by rw [votedE_3 h]
theorem vote_2 {l : List Int} {tol : Int} (h : l.length = 2) : (votedE l tol).2 = decide ((sortN l)[1]'(by rw [sort_len]; omega) - (sortN l)[0]'(by rw [sort_len]; omega) ≤ tol) := by
  rw [vote_eq (by omega)]; show voteP l tol = _; rw [voteP, decide_eq_false (by omega), decide_eq_true h, Bool.false_or, Bool.true_and, getDat (show 0 < (sortN l).length by rw [sort_len]; omega), show l.length - 1 = 1 by omega, getDat (show 1 < (sortN l).length by rw [sort_len]; omega)]
theorem vote_n {l : List Int} {tol : Int} (h3 : ¬ l.length = 3) (h2 : ¬ l.length = 2) : (votedE l tol).2 = false := by rw [votedE_n h3 h2]
theorem vote_ge {l : List Int} {tol : Int} (h : (votedE l tol).2 = true) : 2 ≤ l.length := by
  by_cases h3 : l.length = 3
  · omega
  by_cases h2 : l.length = 2
  · omega
  rw [vote_n h3 h2] at h; cases h
theorem vote_1 {l : List Int} {tol : Int} (hl : l.length ≤ 3) (h : (votedE l tol).2 = true) (h1 : 1 < (sortN l).length) : (votedE l tol).1 = (sortN l)[1] := by
  have e := vote_eq (tol := tol) hl
  have e2 : voteP l tol = true := by
    have := congrArg Prod.snd e; rw [h] at this; exact this.symm
  rw [e, e2, if_pos rfl, getDat h1]
theorem dv_there {l : Rec3} {tol : Int} {k i : Nat} (h : i < (rk l k).2.2.1.length) : dvB l tol k i = ((vE l tol i).2 && (thereE (rk l k)).getD i false && decide (tol < max (sxE ((rk l k).2.2.1[i]) - (vE l tol i).1) (-(sxE ((rk l k).2.2.1[i]) - (vE l tol i).1)))) := by
  unfold dvB; rw [getDat (d := 0) h, getDat (d := false) (show i < (thereE (rk l k)).length by rw [thereV_len]; exact h), thereV_at h, show (0 : Int) - (sxE ((rk l k).2.2.1[i]) - (vE l tol i).1) = -(sxE ((rk l k).2.2.1[i]) - (vE l tol i).1) by omega]
theorem and3_t {a b : Bool} {p : Prop} [Decidable p] (h : (a = true ∧ b = true) ∧ p) : (a && b && decide p) = true := by simp [h.1.1, h.1.2, h.2]
theorem and3_f {a b : Bool} {p : Prop} [Decidable p] (h : (a = false ∨ b = false) ∨ ¬ p) : (a && b && decide p) = false := by
  rcases h with (h | h) | h
  · simp [h]
  · simp [h]
  simp [h]
theorem at_last {l : List Int} (h : l.length = 2) (h1 : (max (0 : Int) (((l.length : Nat) : Int) - 1)).toNat < l.length) : l[(max (0 : Int) (((l.length : Nat) : Int) - 1)).toNat] = l[1]'(by omega) := by
  have e : (max (0 : Int) (((l.length : Nat) : Int) - 1)).toNat = 1 := by omega
  simp only [e]
theorem gVote_ok {l : (ByteArray × Int × (List Nat) × (List (Int × Int))) × (ByteArray × Int × (List Nat) × (List (Int × Int))) × (ByteArray × Int × (List Nat) × (List (Int × Int)))} {tol : Int} (hl0 : ∀ k, k < 3 → (rk l k).2.2.1.length < 100000) (hg0 : ∀ k, k < 3 → (rk l k).2.2.2.length < 1000000) : VF Tryz.prog OA 7 [.v y36 l, I tol] (.tup [.v y30 (voteR l tol), .v y31 (voteO l tol), I (voteC l tol)]) := by
  refine VF.enter Tryz.func7 rfl (fun _ _ => rfl) rfl ?_; show VC _ _ _ _ _ [(0, .v y36 l), (1, I tol)] [] _; refine VC.seq (VC.text ?_); refine VO.new (.box) ?_; refine VO.cell (.alloc zt30) ?_; intro ww1; refine VO.cell (.alloc zt31) ?_; intro ww2; refine VO.c (.assign rfl) ?_; refine VO.go (VC.seq (VC.seq (VC.text ?_))); refine VO.r (.arr3 (a := l.1) (b := l.2.1) (c := l.2.2) 30) ?_; refine VO.call rfl rfl (VF.call (gMapRec_ok (F := recE) (by simp) (fun x hx => VF.call (gRec_ok (Nat.lt_trans (mem3 (Q := fun r => r.2.2.1.length < 100000) hl0 hx) (by decide)) (mem3 (Q := fun r => r.2.2.2.length < 1000000) hg0 hx))))) ?_; refine VO.call rfl rfl (VF.call (gFirst_ok (by simp))) ?_; refine VO.c (.move rfl) ?_; refine VO.call rfl rfl (VF.call (gWithin_ok )) ?_; refine VO.new (.lit [firstE ([l.1, l.2.1, l.2.2].map recE), rangeE tol (0 : Int) (2048 : Int)] el65) ?_; refine VO.call rfl rfl (VF.call (gFirst_ok (by first | assumption | omega | simp))) ?_; refine VO.c (.assign rfl) ?_; refine VO.go (VC.seq (VC.text ?_)); refine VO.c (.move rfl) (VO.c (.neq) (VO.go ?_)); refine VC.condD rfl (fun c2 => ?_) (fun c2 => ?_)
  · refine VC.seq (VC.text ?_); refine VO.c (.build (ByteArray.empty, 0, [], []) bt30) (VO.c (.build (0, 0, 0) bt31) (VO.c (.move rfl) ?_)); refine VO.perm swap1 ?_; refine VO.setV (cs' := [St ByteArray.empty, I 0, .v y22 [], .v y23 []]) vt30 .v ?_; refine VO.perm swap1 ?_; refine VO.setV (cs' := [I 0, I 0, I 0]) vt31 .v ?_; refine VO.c (.assign rfl) (VO.go ?_); refine VC.ret ?_; exact VEnd.three rfl (.cell (x := (ByteArray.empty, 0, [], [])) rfl m1 vt30 .refl) (.cell (x := (0, 0, 0)) rfl m0 vt31 .refl) evT (pvE (by rw [voteR, if_pos (by rw [voteC_1 c2]; exact c2)]; rfl)) (pvE (by rw [voteO, if_pos (by rw [voteC_1 c2]; exact c2)])) (pvI (by exact (voteC_1 c2).symm))
  obtain ⟨hz, ht⟩ := votC1_ok (Classical.not_not.1 c2); have hr0 : (0 ≤ l.1.2.1 ∧ l.1.2.1 ≤ 100000) ∧ l.1.2.2.1.length ≤ 4096 := ⟨(rec_ok (hz 0 (by decide))).1, (rec_ok (hz 0 (by decide))).2.1⟩; have hr1 : (0 ≤ l.2.1.2.1 ∧ l.2.1.2.1 ≤ 100000) ∧ l.2.1.2.2.1.length ≤ 4096 := ⟨(rec_ok (hz 1 (by decide))).1, (rec_ok (hz 1 (by decide))).2.1⟩; have hr2 : (0 ≤ l.2.2.2.1 ∧ l.2.2.2.1 ≤ 100000) ∧ l.2.2.2.2.1.length ≤ 4096 := ⟨(rec_ok (hz 2 (by decide))).1, (rec_ok (hz 2 (by decide))).2.1⟩; refine VC.skip (VC.seq (VC.text ?_)); refine VO.cell (.alloc zt31) ?_; intro ww3; refine VO.cell (.alloc zt31) ?_; intro ww4; refine VO.go (VC.seq (VC.seq (VC.text ?_))); refine VO.r (.ld vt36) ?_; refine VO.c (.move rfl) ?_; refine VO.go (VC.block ?_); refine VC.unroll ?_; refine VC.seq (VC.text ?_); refine VO.c (.lss) ?_; refine VO.go (VC.seq ?_); refine VC.condT rfl ?_; refine VC.skip (VC.seq (VC.block (VC.seq (VC.text ?_)))); refine VO.c (.move rfl) (VO.c (.ixA 0 (.l .o)) ?_); refine VO.cell (.alloc zt30) ?_; intro ww5; refine VO.c (.assign rfl) ?_; refine VO.setV (cs' := [St l.1.1, I l.1.2.1, .v y22 l.1.2.2.1, .v y23 l.1.2.2.2]) vt30 .v ?_; refine VO.shut [(11, .p y30 l.1)] (.cons rfl (.var m0 .refl) .nil) ?_; refine VO.go ?_; refine VC.perm swap1 ?_; refine VC.late [(ww2, .var [I (0 : Int), I (0 : Int), I (0 : Int)]), (ww1, .var [St ByteArray.empty, I (0 : Int), .v y22 [], .v y23 []])] ⟨[(ww3, .var [I (0 : Int), I (0 : Int), I (0 : Int)]), (ww4, .var [I (0 : Int), I (0 : Int), I (0 : Int)])], rfl⟩ ?_; refine VLt.c (.move rfl) ?_; refine VLt.c (.move rfl) ?_; refine VLt.c (.fa (.r (.l .o))) ?_; refine VLt.q rfl (.ld vt3) ?_; refine VLt.c (.ixP 0 (.l .o)) ?_; refine VLt.c (.fa (.r (.l .o))) ?_; refine VLt.nws [] ?_; refine VLt.q rfl (.ld vt3) ?_; refine VLt.c (.sub rfl rfl (by omega)) ?_; refine VLt.c (.fa (.r (.r (.l .o)))) ?_; refine VLt.q rfl (.ld vt22) ?_; refine VLt.lenS el22 ?_; refine VLt.c (.ixP 0 (.l .o)) ?_; refine VLt.c (.fa (.r (.r (.l .o)))) ?_; refine VLt.nws [] ?_; refine VLt.q rfl (.ld vt22) ?_; refine VLt.lenS el22 ?_; refine VLt.c (.sub rfl rfl (by omega)) ?_; refine VLt.cR (.ixV 0 (k := 0) (τ' := (.int .i64)) m0) ?_; refine VLt.mk0 (MakeV.setF (k := 0) vt3 .v (Nat.le_of_ble_eq_true rfl) (.inl rfl) rfl rfl) (TurnV.store rfl (.inr ⟨_, rfl⟩)) ⟨[(ww4, .var [I (0 : Int), I (0 : Int), I (0 : Int)])], rfl⟩ ?_; rintro _ _ ⟨rfl, rfl⟩; refine ⟨⟨[(ww3, .var [I (l.1.2.1 - l.1.2.1), I (0 : Int), I (0 : Int)]), (ww4, .var [I (0 : Int), I (0 : Int), I (0 : Int)])], rfl⟩, ?_⟩; refine VLt.cR (.ixV 0 (k := 0) (τ' := (.int .i64)) m1) ?_; refine VLt.perm swap1 ⟨[(ww4, .var [I (0 : Int), I (0 : Int), I (0 : Int)]), (ww3, .var [I (l.1.2.1 - l.1.2.1), I (0 : Int), I (0 : Int)])], rfl⟩ ?_; refine VLt.mk0 (MakeV.setF (k := 0) vt3 .v (Nat.le_of_ble_eq_true rfl) (.inl rfl) rfl rfl) (TurnV.store rfl (.inr ⟨_, rfl⟩)) ⟨[(ww3, .var [I (l.1.2.1 - l.1.2.1), I (0 : Int), I (0 : Int)])], rfl⟩ ?_; rintro _ _ ⟨rfl, rfl⟩; refine ⟨⟨[(ww4, .var [I (((l.1.2.2.1.length : Nat) : Int) - ((l.1.2.2.1.length : Nat) : Int)), I (0 : Int), I (0 : Int)]), (ww3, .var [I (l.1.2.1 - l.1.2.1), I (0 : Int), I (0 : Int)])], rfl⟩, ?_⟩; refine VLt.nil ?_; refine VC.keep [(1, I tol), (2, .p y36 l), (4, .raw ww1), (5, .raw ww2), (8, .raw ww3), (9, .raw ww4), (37, .v y36 l), (38, I (0 : Int))] ⟨rfl, rfl, rfl, rfl, rfl, rfl, rfl, rfl, trivial⟩ ?_; refine VC.text ?_; refine VO.c (.add rfl rfl (by decide)) (VO.c (.move rfl) ?_); refine VO.nil ?_; refine VC.unroll ?_; refine VC.seq (VC.text ?_); refine VO.c (.lss) ?_; refine VO.go (VC.seq ?_); refine VC.condT rfl ?_; refine VC.skip (VC.seq (VC.block (VC.seq (VC.text ?_)))); refine VO.c (.move rfl) (VO.c (.ixA 1 (.r (.l .o))) ?_); refine VO.cell (.alloc zt30) ?_; intro ww6; refine VO.c (.assign rfl) ?_; refine VO.setV (cs' := [St l.2.1.1, I l.2.1.2.1, .v y22 l.2.1.2.2.1, .v y23 l.2.1.2.2.2]) vt30 .v ?_; refine VO.shut [(11, .p y30 l.2.1)] (.cons rfl (.var m0 .refl) .nil) ?_; refine VO.go ?_; refine VC.perm swap1 ?_; refine VC.late [(ww2, .var [I (0 : Int), I (0 : Int), I (0 : Int)]), (ww1, .var [St ByteArray.empty, I (0 : Int), .v y22 [], .v y23 []])] ⟨[(ww3, .var [I (l.1.2.1 - l.1.2.1), I (0 : Int), I (0 : Int)]), (ww4, .var [I (((l.1.2.2.1.length : Nat) : Int) - ((l.1.2.2.1.length : Nat) : Int)), I (0 : Int), I (0 : Int)])], rfl⟩ ?_; refine VLt.c (.move rfl) ?_; refine VLt.c (.move rfl) ?_; refine VLt.c (.fa (.r (.l .o))) ?_; refine VLt.q rfl (.ld vt3) ?_; refine VLt.c (.ixP 0 (.l .o)) ?_; refine VLt.c (.fa (.r (.l .o))) ?_; refine VLt.nws [] ?_; refine VLt.q rfl (.ld vt3) ?_; refine VLt.c (.sub rfl rfl (by omega)) ?_; refine VLt.c (.fa (.r (.r (.l .o)))) ?_; refine VLt.q rfl (.ld vt22) ?_; refine VLt.lenS el22 ?_; refine VLt.c (.ixP 0 (.l .o)) ?_; refine VLt.c (.fa (.r (.r (.l .o)))) ?_; refine VLt.nws [] ?_; refine VLt.q rfl (.ld vt22) ?_; refine VLt.lenS el22 ?_; refine VLt.c (.sub rfl rfl (by omega)) ?_; refine VLt.cR (.ixV 1 (k := 1) (τ' := (.int .i64)) m0) ?_; refine VLt.mk0 (MakeV.setF (k := 1) vt3 .v (Nat.le_of_ble_eq_true rfl) (.inl rfl) rfl rfl) (TurnV.store rfl (.inr ⟨_, rfl⟩)) ⟨[(ww4, .var [I (((l.1.2.2.1.length : Nat) : Int) - ((l.1.2.2.1.length : Nat) : Int)), I (0 : Int), I (0 : Int)])], rfl⟩ ?_; rintro _ _ ⟨rfl, rfl⟩; refine ⟨⟨[(ww3, .var [I (l.1.2.1 - l.1.2.1), I (l.2.1.2.1 - l.1.2.1), I (0 : Int)]), (ww4, .var [I (((l.1.2.2.1.length : Nat) : Int) - ((l.1.2.2.1.length : Nat) : Int)), I (0 : Int), I (0 : Int)])], rfl⟩, ?_⟩; refine VLt.cR (.ixV 1 (k := 1) (τ' := (.int .i64)) m1) ?_; refine VLt.perm swap1 ⟨[(ww4, .var [I (((l.1.2.2.1.length : Nat) : Int) - ((l.1.2.2.1.length : Nat) : Int)), I (0 : Int), I (0 : Int)]), (ww3, .var [I (l.1.2.1 - l.1.2.1), I (l.2.1.2.1 - l.1.2.1), I (0 : Int)])], rfl⟩ ?_; refine VLt.mk0 (MakeV.setF (k := 1) vt3 .v (Nat.le_of_ble_eq_true rfl) (.inl rfl) rfl rfl) (TurnV.store rfl (.inr ⟨_, rfl⟩)) ⟨[(ww3, .var [I (l.1.2.1 - l.1.2.1), I (l.2.1.2.1 - l.1.2.1), I (0 : Int)])], rfl⟩ ?_; rintro _ _ ⟨rfl, rfl⟩; refine ⟨⟨[(ww4, .var [I (((l.1.2.2.1.length : Nat) : Int) - ((l.1.2.2.1.length : Nat) : Int)), I (((l.2.1.2.2.1.length : Nat) : Int) - ((l.1.2.2.1.length : Nat) : Int)), I (0 : Int)]), (ww3, .var [I (l.1.2.1 - l.1.2.1), I (l.2.1.2.1 - l.1.2.1), I (0 : Int)])], rfl⟩, ?_⟩; refine VLt.nil ?_; refine VC.text ?_; refine VO.c (.add rfl rfl (by decide)) (VO.c (.move rfl) ?_); refine VO.nil ?_; refine VC.unroll ?_; refine VC.seq (VC.text ?_); refine VO.c (.lss) ?_; refine VO.go (VC.seq ?_); refine VC.condT rfl ?_; refine VC.skip (VC.seq (VC.block (VC.seq (VC.text ?_)))); refine VO.c (.move rfl) (VO.c (.ixA 2 (.r (.r .o))) ?_); refine VO.cell (.alloc zt30) ?_; intro ww7; refine VO.c (.assign rfl) ?_; refine VO.setV (cs' := [St l.2.2.1, I l.2.2.2.1, .v y22 l.2.2.2.2.1, .v y23 l.2.2.2.2.2]) vt30 .v ?_; refine VO.shut [(11, .p y30 l.2.2)] (.cons rfl (.var m0 .refl) .nil) ?_; refine VO.go ?_; refine VC.keep [(1, I tol), (2, .p y36 l), (4, .raw ww1), (5, .raw ww2), (8, .raw ww3), (9, .raw ww4), (10, I (2 : Int)), (11, .p y30 l.2.2), (37, .v y36 l), (38, I (2 : Int))] ⟨rfl, rfl, rfl, rfl, rfl, rfl, rfl, rfl, rfl, rfl, trivial⟩ ?_; refine VC.perm swap1 ?_; refine VC.late [(ww2, .var [I (0 : Int), I (0 : Int), I (0 : Int)]), (ww1, .var [St ByteArray.empty, I (0 : Int), .v y22 [], .v y23 []])] ⟨[(ww3, .var [I (l.1.2.1 - l.1.2.1), I (l.2.1.2.1 - l.1.2.1), I (0 : Int)]), (ww4, .var [I (((l.1.2.2.1.length : Nat) : Int) - ((l.1.2.2.1.length : Nat) : Int)), I (((l.2.1.2.2.1.length : Nat) : Int) - ((l.1.2.2.1.length : Nat) : Int)), I (0 : Int)])], rfl⟩ ?_; refine VLt.c (.move rfl) ?_; refine VLt.c (.move rfl) ?_; refine VLt.c (.fa (.r (.l .o))) ?_; refine VLt.q rfl (.ld vt3) ?_; refine VLt.c (.ixP 0 (.l .o)) ?_; refine VLt.c (.fa (.r (.l .o))) ?_; refine VLt.nws [] ?_; refine VLt.q rfl (.ld vt3) ?_; refine VLt.c (.sub rfl rfl (by omega)) ?_; refine VLt.c (.fa (.r (.r (.l .o)))) ?_; refine VLt.q rfl (.ld vt22) ?_; refine VLt.lenS el22 ?_; refine VLt.c (.ixP 0 (.l .o)) ?_; refine VLt.c (.fa (.r (.r (.l .o)))) ?_; refine VLt.nws [] ?_; refine VLt.q rfl (.ld vt22) ?_; refine VLt.lenS el22 ?_; refine VLt.c (.sub rfl rfl (by omega)) ?_; refine VLt.cR (.ixV 2 (k := 2) (τ' := (.int .i64)) m0) ?_; refine VLt.mk0 (MakeV.setF (k := 2) vt3 .v (Nat.le_of_ble_eq_true rfl) (.inl rfl) rfl rfl) (TurnV.store rfl (.inr ⟨_, rfl⟩)) ⟨[(ww4, .var [I (((l.1.2.2.1.length : Nat) : Int) - ((l.1.2.2.1.length : Nat) : Int)), I (((l.2.1.2.2.1.length : Nat) : Int) - ((l.1.2.2.1.length : Nat) : Int)), I (0 : Int)])], rfl⟩ ?_; rintro _ _ ⟨rfl, rfl⟩; refine ⟨⟨[(ww3, .var [I (l.1.2.1 - l.1.2.1), I (l.2.1.2.1 - l.1.2.1), I (l.2.2.2.1 - l.1.2.1)]), (ww4, .var [I (((l.1.2.2.1.length : Nat) : Int) - ((l.1.2.2.1.length : Nat) : Int)), I (((l.2.1.2.2.1.length : Nat) : Int) - ((l.1.2.2.1.length : Nat) : Int)), I (0 : Int)])], rfl⟩, ?_⟩; refine VLt.cR (.ixV 2 (k := 2) (τ' := (.int .i64)) m1) ?_; refine VLt.perm swap1 ⟨[(ww4, .var [I (((l.1.2.2.1.length : Nat) : Int) - ((l.1.2.2.1.length : Nat) : Int)), I (((l.2.1.2.2.1.length : Nat) : Int) - ((l.1.2.2.1.length : Nat) : Int)), I (0 : Int)]), (ww3, .var [I (l.1.2.1 - l.1.2.1), I (l.2.1.2.1 - l.1.2.1), I (l.2.2.2.1 - l.1.2.1)])], rfl⟩ ?_; refine VLt.mk0 (MakeV.setF (k := 2) vt3 .v (Nat.le_of_ble_eq_true rfl) (.inl rfl) rfl rfl) (TurnV.store rfl (.inr ⟨_, rfl⟩)) ⟨[(ww3, .var [I (l.1.2.1 - l.1.2.1), I (l.2.1.2.1 - l.1.2.1), I (l.2.2.2.1 - l.1.2.1)])], rfl⟩ ?_; rintro _ _ ⟨rfl, rfl⟩; refine ⟨⟨[(ww4, .var [I (((l.1.2.2.1.length : Nat) : Int) - ((l.1.2.2.1.length : Nat) : Int)), I (((l.2.1.2.2.1.length : Nat) : Int) - ((l.1.2.2.1.length : Nat) : Int)), I (((l.2.2.2.2.1.length : Nat) : Int) - ((l.1.2.2.1.length : Nat) : Int))]), (ww3, .var [I (l.1.2.1 - l.1.2.1), I (l.2.1.2.1 - l.1.2.1), I (l.2.2.2.1 - l.1.2.1)])], rfl⟩, ?_⟩; refine VLt.nil ?_; refine VC.text ?_; refine VO.c (.add rfl rfl (by decide)) (VO.c (.move rfl) ?_); refine VO.nil ?_; refine VC.unroll ?_; refine VC.seq (VC.text ?_); refine VO.c (.lss) ?_; refine VO.go (VC.seq ?_); refine VC.condF rfl ?_; refine VC.exit (VC.seq (VC.seq (VC.text ?_))); refine VO.r (.ldA (dx := ((l.1.2.1 - l.1.2.1), (l.2.1.2.1 - l.1.2.1), (l.2.2.2.1 - l.1.2.1))) m1 vt31) ?_; refine VO.c (.build (0, 0, 0) bt31) (VO.c (.arrCmp (xs := [(l.1.2.1 - l.1.2.1), (l.2.1.2.1 - l.1.2.1), (l.2.2.2.1 - l.1.2.1)]) (ys := [0, 0, 0]) (.inr ⟨rfl, rfl⟩) rfl rfl rfl rfl (by kernel_rfl) rfl) (VO.c (.move rfl) ?_)); refine VO.rg (r := (!decide ([(l.1.2.1 - l.1.2.1), (l.2.1.2.1 - l.1.2.1), (l.2.2.2.1 - l.1.2.1)] = [0, 0, 0]))) (w := false) [] trivial (fun _ => (.ldA (dx := ((((l.1.2.2.1.length : Nat) : Int) - ((l.1.2.2.1.length : Nat) : Int)), (((l.2.1.2.2.1.length : Nat) : Int) - ((l.1.2.2.1.length : Nat) : Int)), (((l.2.2.2.2.1.length : Nat) : Int) - ((l.1.2.2.1.length : Nat) : Int)))) m0 vt31)) ?_; refine VO.cg (v := .v y31 (0, 0, 0)) (r := (!decide ([(l.1.2.1 - l.1.2.1), (l.2.1.2.1 - l.1.2.1), (l.2.2.2.1 - l.1.2.1)] = [0, 0, 0]))) (w := false) [] trivial (fun _ => (.buildV bt31)) ?_; refine VO.cg (r := (!decide ([(l.1.2.1 - l.1.2.1), (l.2.1.2.1 - l.1.2.1), (l.2.2.2.1 - l.1.2.1)] = [0, 0, 0]))) (w := false) [(65, .v y31 ((((l.1.2.2.1.length : Nat) : Int) - ((l.1.2.2.1.length : Nat) : Int)), (((l.2.1.2.2.1.length : Nat) : Int) - ((l.1.2.2.1.length : Nat) : Int)), (((l.2.2.2.2.1.length : Nat) : Int) - ((l.1.2.2.1.length : Nat) : Int)))), (66, .v y31 (0, 0, 0))] ⟨rfl, rfl, trivial⟩ (fun hgd => have g10_3 : (!decide ([(l.1.2.1 - l.1.2.1), (l.2.1.2.1 - l.1.2.1), (l.2.2.2.1 - l.1.2.1)] = [0, 0, 0])) = false := (by simpa using hgd); (.arrCmp (xs := [(((l.1.2.2.1.length : Nat) : Int) - ((l.1.2.2.1.length : Nat) : Int)), (((l.2.1.2.2.1.length : Nat) : Int) - ((l.1.2.2.1.length : Nat) : Int)), (((l.2.2.2.2.1.length : Nat) : Int) - ((l.1.2.2.1.length : Nat) : Int))]) (ys := [0, 0, 0]) (.inr ⟨rfl, rfl⟩) rfl rfl rfl rfl (by kernel_rfl) rfl)) ?_; refine VO.c (.or) (VO.go ?_); refine VC.condB rfl (fun c10 => ?_) (fun c10 => ?_)
  · try simp only [Bool.and_eq_true, Bool.or_eq_true, Bool.and_eq_false_iff, Bool.or_eq_false_iff, Bool.not_eq_true', Bool.not_eq_false', decide_eq_true_eq, decide_eq_false_iff_not] at c10
    have hns : ¬ sameSh l := fun hh => by
      obtain ⟨⟨s1, s2⟩, s3, s4⟩ := hh; rw [s1, s2, s3, s4] at c10; simp at c10
    have hvc := voteC_2 c2 hns; refine VC.seq (VC.text ?_); refine VO.c (.build (ByteArray.empty, 0, [], []) bt30) (VO.c (.build (0, 0, 0) bt31) ?_); refine VO.perm swap3 ?_; refine VO.setV (cs' := [St ByteArray.empty, I 0, .v y22 [], .v y23 []]) vt30 .v ?_; refine VO.perm swap3 ?_; refine VO.setV (cs' := [I 0, I 0, I 0]) vt31 .v ?_; refine VO.c (.assign rfl) (VO.go ?_); refine VC.ret ?_; exact VEnd.three rfl (.cell (x := (ByteArray.empty, 0, [], [])) rfl m1 vt30 .refl) (.cell (x := (0, 0, 0)) rfl m0 vt31 .refl) evT (pvE (by rw [voteR, if_pos (by rw [hvc]; decide)]; rfl)) (pvE (by rw [voteO, if_pos (by rw [hvc]; decide)])) (pvI (by exact hvc.symm))
  try simp only [Bool.and_eq_true, Bool.or_eq_true, Bool.and_eq_false_iff, Bool.or_eq_false_iff, Bool.not_eq_true', Bool.not_eq_false', decide_eq_true_eq, decide_eq_false_iff_not] at c10
  have hsh : sameSh l := by
    simp at c10; obtain ⟨⟨s1, s2⟩, s3, s4⟩ := c10; exact ⟨⟨by omega, by omega⟩, by omega, by omega⟩
  have hvc := voteC_0 c2 hsh; have hV := vote_vot c2 hsh hg0; have hn := hV.n; have hl1 : l.2.1.2.2.1.length = l.1.2.2.1.length := hV.len 1 (by decide); have hl2 : l.2.2.2.2.1.length = l.1.2.2.1.length := hV.len 2 (by decide); have hto0 := thereV_len (r := l.1); have hto1 := thereV_len (r := l.2.1); have hto2 := thereV_len (r := l.2.2); refine VC.skip (VC.seq ?_); refine VC.perm swap1 ?_; refine VC.shutL [(ww3, .var [I (l.1.2.1 - l.1.2.1), I (l.2.1.2.1 - l.1.2.1), I (l.2.2.2.1 - l.1.2.1)])] [(8, .p y31 ((l.1.2.1 - l.1.2.1), (l.2.1.2.1 - l.1.2.1), (l.2.2.2.1 - l.1.2.1)))] rfl (.cons rfl (.var m0 .refl) .nil) ?_; refine VC.shutL [(ww4, .var [I (((l.1.2.2.1.length : Nat) : Int) - ((l.1.2.2.1.length : Nat) : Int)), I (((l.2.1.2.2.1.length : Nat) : Int) - ((l.1.2.2.1.length : Nat) : Int)), I (((l.2.2.2.2.1.length : Nat) : Int) - ((l.1.2.2.1.length : Nat) : Int))])] [(9, .p y31 ((((l.1.2.2.1.length : Nat) : Int) - ((l.1.2.2.1.length : Nat) : Int)), (((l.2.1.2.2.1.length : Nat) : Int) - ((l.1.2.2.1.length : Nat) : Int)), (((l.2.2.2.2.1.length : Nat) : Int) - ((l.1.2.2.1.length : Nat) : Int))))] rfl (.cons rfl (.var m0 .refl) .nil) ?_; refine VC.drawn ?_; refine VD.c (.ixP 0 (.l .o)) ?_; refine VD.r [] (.ld vt30) (.inl rfl) ?_; refine VD.call rfl rfl (VF.call (gThere_ok hr0.2 (hg0 0 (by decide)) (rec_ok (hz 0 (by decide))).2.2.2.2)) ?_; refine VD.c (.ixP 1 (.r (.l .o))) ?_; refine VD.r [] (.ld vt30) (.inl rfl) ?_; refine VD.call rfl rfl (VF.call (gThere_ok hr1.2 (hg0 1 (by decide)) (rec_ok (hz 1 (by decide))).2.2.2.2)) ?_; refine VD.nw [76, 73] (VD.c (.ixP 2 (.r (.r .o))) ?_); refine VD.r [] (.ld vt30) (.inl rfl) ?_; refine VD.call rfl rfl (VF.call (gThere_ok hr2.2 (hg0 2 (by decide)) (rec_ok (hz 2 (by decide))).2.2.2.2)) ?_; refine VD.c (.build (thereE l.1, thereE l.2.1, thereE l.2.2) bt72) ?_; refine VD.cell (.alloc zt72) ?_; intro ww8; refine VD.mk0 (MakeV.setF (k := 0) vt72 .v (Nat.le_of_ble_eq_true rfl) (.inr ⟨rfl, rfl⟩) rfl rfl) ?_; rintro _ _ tl9 ⟨rfl, rfl⟩; refine VD.go (VC.seq ?_); refine VC.shutL [(ww8, .var [.v (.sl .bool) (thereE l.1), .v (.sl .bool) (thereE l.2.1), .v (.sl .bool) (thereE l.2.2)])] [(12, .p y72 (thereE l.1, thereE l.2.1, thereE l.2.2))] rfl (.cons rfl (.var m0 .refl) .nil) ?_; refine VC.keep [(1, I tol), (2, .p y36 l), (4, .raw ww1), (5, .raw ww2), (12, .p y72 (thereE l.1, thereE l.2.1, thereE l.2.2))] ⟨rfl, rfl, rfl, rfl, rfl, trivial⟩ ?_; refine VC.text ?_; refine VO.c (.ixP 0 (.l .o)) (VO.c (.fa (.l .o)) ?_); refine VO.r (.ld vt9) ?_; refine VO.c (.ixP 0 (.l .o)) (VO.c (.fa (.r (.l .o))) ?_); refine VO.r (.ld vt3) ?_; refine VO.c (.buildA (cs := [St l.1.1, I l.1.2.1, nilV, nilV]) bt30 rfl) ?_; refine VO.cell (.alloc zt30) ?_; intro ww10; refine VO.setV (cs' := [St l.1.1, I l.1.2.1, nilV, nilV]) vt30 (.aggs rfl rfl) ?_; refine VO.go (VC.seq (VC.text ?_)); refine VO.c (.assign rfl) ?_; refine VO.go (VC.seq (VC.text ?_)); refine VO.cell (.alloc zt31) ?_; intro ww11; refine VO.go (VC.seq (VC.seq (VC.text ?_))); refine VO.c (.ixP 0 (.l .o)) (VO.c (.fa (.r (.r (.l .o)))) ?_); refine VO.r (.ld vt22) ?_; refine VO.r (.len el22) ?_; refine VO.c (.move rfl) ?_; refine VO.go (VC.block ?_); refine VC.cell0 39 (.flt .f32) ?_; refine VC.cell0 4 .bool ?_; refine VC.keep [(1, I tol), (2, .p y36 l), (4, .raw ww1), (5, .raw ww2), (12, .p y72 (thereE l.1, thereE l.2.1, thereE l.2.2)), (13, .raw ww10), (14, .raw (.slice none 0 0)), (15, .raw ww11), (91, I ((l.1.2.2.1.length : Nat) : Int)), (92, I ((0 : Nat) : Int))] ⟨rfl, rfl, rfl, rfl, rfl, rfl, rfl, rfl, rfl, rfl, trivial⟩ ?_; refine VC.loop (I := fun kk ff ss => ∃ (i : Nat) (wis : Value) (wlv : Value), kk = l.1.2.2.1.length - i ∧ ff = [(1, I tol), (2, .p y36 l), (4, .raw ww1), (5, .raw ww2), (12, .p y72 (thereE l.1, thereE l.2.1, thereE l.2.2)), (13, .raw ww10), (14, .raw wis), (15, .raw ww11), (91, I ((l.1.2.2.1.length : Nat) : Int)), (92, I ((i : Nat) : Int))] ∧ ss = [(wis, .row 4 .bool (isA l tol i)), (wlv, .row 39 (.flt .f32) (lvA l tol i)), (ww11, .var [I (dvE l tol 0 i), I (dvE l tol 1 i), I (dvE l tol 2 i)]), (ww10, .var [St l.1.1, I l.1.2.1, .raw wlv, nilV]), (ww2, .var [I (0 : Int), I (0 : Int), I (0 : Int)]), (ww1, .var [St ByteArray.empty, I (0 : Int), .v y22 [], .v y23 []])] ∧ (i ≤ l.1.2.2.1.length) ∧ ((isA l tol i).length = i) ∧ ((lvA l tol i).length = i)) ?_ _ _ _ ⟨0, (.slice none 0 0), (.slice none 0 0), rfl, rfl, rfl, Nat.zero_le _, (by exact isA_len), (by exact lvA_len)⟩; rintro kk ff ss ⟨i, wis, wlv, hk2, rfl, rfl, hi, hil, hll⟩; refine VC.seq (VC.text ?_); refine VO.c (.lss) ?_; refine VO.go (VC.seq ?_); refine VC.condD rfl (fun c17 => ?_) (fun c17 => ?_)
  · have hib : i < l.1.2.2.1.length := by omega
    have hvb := vE_bnd (tol := tol) (i := i) hV.lv; have hd0 := dvE_bnd (l := l) (tol := tol) (k := 0) i; have hd1 := dvE_bnd (l := l) (tol := tol) (k := 1) i; have hd2 := dvE_bnd (l := l) (tol := tol) (k := 2) i; have hk10 : dvK l tol i 1 0 = dvE l tol 1 i := rfl; have hk21 : dvK l tol i 2 1 = dvE l tol 2 i := rfl; have hq := q16_ok hvb; have hvb2 : -1024 ≤ (votedE (toldL l i 3) tol).1 ∧ (votedE (toldL l i 3) tol).1 ≤ 1024 := hvb; have hv0 := dv_there (l := l) (tol := tol) (k := 0) (i := i) hib; have hv1 := dv_there (l := l) (tol := tol) (k := 1) (i := i) (by show i < l.2.1.2.2.1.length; omega); have hv2 := dv_there (l := l) (tol := tol) (k := 2) (i := i) (by show i < l.2.2.2.2.1.length; omega); have hs0 := (lvl_ok (hV.lv 0 (by decide) (l.1.2.2.1[i]) (List.getElem_mem _))).2; have hs1 := (lvl_ok (hV.lv 1 (by decide) (l.2.1.2.2.1[i]'(by omega)) (List.getElem_mem _))).2; have hs2 := (lvl_ok (hV.lv 2 (by decide) (l.2.2.2.2.1[i]'(by omega)) (List.getElem_mem _))).2; have hgt : (votedE (toldL l i 3) tol).1 = (vE l tol i).1 ∧ (votedE (toldL l i 3) tol).2 = (vE l tol i).2 := ⟨rfl, rfl⟩; have hsl := sort_len (l := toldL l i 3); have htl3 := toldL_len (l := l) (i := i) 3; have hsb : ∀ x ∈ sortN (toldL l i 3), -1024 ≤ x ∧ x ≤ 1024 := fun x hx => toldL_bnd hV.lv 3 (by omega) x ((sortN_perm _).mem_iff.1 hx); refine VC.skip (VC.seq (VC.block (VC.seq (VC.text ?_)))); refine VO.c (.move rfl) (VO.c (.assign rfl) ?_); refine VO.go (VC.seq (VC.text ?_)); refine VO.c (.assign rfl) ?_; refine VO.go (VC.seq (VC.seq (VC.text ?_))); refine VO.r (.ld vt36) ?_; refine VO.c (.move rfl) ?_; refine VO.go (VC.block ?_); refine VC.cell0 3 (.int .i64) ?_; refine VC.keep [(1, I tol), (2, .p y36 l), (4, .raw ww1), (5, .raw ww2), (12, .p y72 (thereE l.1, thereE l.2.1, thereE l.2.2)), (13, .raw ww10), (14, .raw wis), (15, .raw ww11), (16, I ((i : Nat) : Int)), (17, .raw (.slice none 0 0)), (91, I ((l.1.2.2.1.length : Nat) : Int)), (92, I ((i : Nat) : Int)), (95, .v y36 l), (96, I ((0 : Nat) : Int))] ⟨rfl, rfl, rfl, rfl, rfl, rfl, rfl, rfl, rfl, rfl, rfl, rfl, rfl, rfl, trivial⟩ ?_; refine VC.loop (I := fun kk ff ss => ∃ (k : Nat) (out : Value), kk = 3 - k ∧ ff = [(1, I tol), (2, .p y36 l), (4, .raw ww1), (5, .raw ww2), (12, .p y72 (thereE l.1, thereE l.2.1, thereE l.2.2)), (13, .raw ww10), (14, .raw wis), (15, .raw ww11), (16, I ((i : Nat) : Int)), (17, .raw out), (91, I ((l.1.2.2.1.length : Nat) : Int)), (92, I ((i : Nat) : Int)), (95, .v y36 l), (96, I ((k : Nat) : Int))] ∧ ss = [(out, .row 3 (.int .i64) (toldL l i k)), (wis, .row 4 .bool (isA l tol i)), (wlv, .row 39 (.flt .f32) (lvA l tol i)), (ww11, .var [I (dvE l tol 0 i), I (dvE l tol 1 i), I (dvE l tol 2 i)]), (ww10, .var [St l.1.1, I l.1.2.1, .raw wlv, nilV]), (ww2, .var [I (0 : Int), I (0 : Int), I (0 : Int)]), (ww1, .var [St ByteArray.empty, I (0 : Int), .v y22 [], .v y23 []])] ∧ (k ≤ 3) ∧ ((toldL l i k).length ≤ k)) ?_ _ _ _ ⟨0, (.slice none 0 0), rfl, rfl, rfl, Nat.zero_le _, (by exact Nat.le_refl _)⟩; rintro kk ff ss ⟨k, out, hk4, rfl, rfl, hk, htl⟩; refine VC.seq (VC.text ?_); refine VO.c (.lss) ?_; refine VO.go (VC.seq ?_); refine VC.condD rfl (fun c21 => ?_) (fun c21 => ?_)
    · have hk3 : k < 3 := by omega
      have hkl := hV.len k hk3; have hka : (arr3 l.1 l.2.1 l.2.2 k).2.2.1.length = l.1.2.2.1.length := hkl; have hkv := hV.lv k hk3; refine VC.skip (VC.seq (VC.block (VC.seq (VC.text ?_)))); refine VO.c (.move rfl) (VO.c (.ixA3 (a := l.1) (b := l.2.1) (c := l.2.2) k (by omega)) ?_); refine VO.cell (.alloc zt30) ?_; intro ww12; refine VO.c (.assign rfl) ?_; refine VO.setV (cs' := [St ((arr3 l.1 l.2.1 l.2.2 k).1), I ((arr3 l.1 l.2.1 l.2.2 k).2.1), .v y22 ((arr3 l.1 l.2.1 l.2.2 k).2.2.1), .v y23 ((arr3 l.1 l.2.1 l.2.2 k).2.2.2)]) vt30 .v ?_; refine VO.shut [(19, .p y30 (arr3 l.1 l.2.1 l.2.2 k))] (.cons rfl (.var m0 .refl) .nil) ?_; refine VO.go (VC.seq (VC.text ?_)); refine VO.c (.move rfl) (VO.c (.ixP3 (a := thereE l.1) (b := thereE l.2.1) (c := thereE l.2.2) k (by omega)) ?_); refine VO.r (.ld vt70BL) ?_; refine VO.c (.move rfl) (VO.c (.ix (j := i) rfl rfl el70 (by rw [arr3_map thereE, thereV_len]; omega)) ?_); refine VO.r (.ld vt4) ?_; refine VO.go ?_; refine VC.condB rfl (fun c23 => ?_) (fun c23 => ?_)
      · have hc : recB (rk l k) i = true := by rw [← there3 (l := l) (k := k) (by omega) (by rw [arr3_map thereE, thereV_len]; omega)]; exact c23
        have e1 := toldL_t hc; have hat : (rk l k).2.2.1.getD i 0 = (rk l k).2.2.1[i]'(by omega) := getDat (by omega); rw [hat] at e1; refine VC.text ?_; refine VO.c (.move rfl) (VO.c (.fa (.r (.r (.l .o)))) ?_); refine VO.r (.ld vt22) ?_; refine VO.c (.move rfl) (VO.c (.ix (j := i) rfl rfl el22 (by omega)) ?_); refine VO.r (.ld vt39) ?_; refine VO.call rfl rfl (VF.call (gSixL_ok (hkv _ (List.getElem_mem _)))) ?_; refine VO.new (.lit [sxE (((arr3 l.1 l.2.1 l.2.2 k).2.2.1)[i])] el42) ?_; refine VO.app rfl rfl el42 el42 (by simp; omega) ?_; intro ww13; refine VO.c (.assign rfl) ?_; refine VO.nil (VC.text ?_); refine VO.c (.add rfl rfl (by omega)) (VO.c (.move rfl) ?_); refine VO.nil ?_; refine ⟨_, [(1, I tol), (2, .p y36 l), (4, .raw ww1), (5, .raw ww2), (12, .p y72 (thereE l.1, thereE l.2.1, thereE l.2.2)), (13, .raw ww10), (14, .raw wis), (15, .raw ww11), (16, I ((i : Nat) : Int)), (17, .raw ww13), (91, I ((l.1.2.2.1.length : Nat) : Int)), (92, I ((i : Nat) : Int)), (95, .v y36 l), (96, I (((k + 1) : Nat) : Int))], ?_, ⟨rfl, rfl, rfl, rfl, rfl, rfl, rfl, rfl, rfl, rfl, rfl, rfl, rfl, rfl, trivial⟩, (k + 1), ww13, rfl, rfl, (by first | (rw [e1]; done) | (rw [e1]; rfl)), (by omega), (by exact toldL_len _)⟩; omega
      have hc : recB (rk l k) i = false := by rw [← there3 (l := l) (k := k) (by omega) (by rw [arr3_map thereE, thereV_len]; omega)]; exact c23
      have e1 := toldL_f hc; refine VC.skip (VC.text ?_); refine VO.c (.add rfl rfl (by omega)) (VO.c (.move rfl) ?_); refine VO.nil ?_; refine ⟨_, [(1, I tol), (2, .p y36 l), (4, .raw ww1), (5, .raw ww2), (12, .p y72 (thereE l.1, thereE l.2.1, thereE l.2.2)), (13, .raw ww10), (14, .raw wis), (15, .raw ww11), (16, I ((i : Nat) : Int)), (17, .raw out), (91, I ((l.1.2.2.1.length : Nat) : Int)), (92, I ((i : Nat) : Int)), (95, .v y36 l), (96, I (((k + 1) : Nat) : Int))], ?_, ⟨rfl, rfl, rfl, rfl, rfl, rfl, rfl, rfl, rfl, rfl, rfl, rfl, rfl, rfl, trivial⟩, (k + 1), out, rfl, rfl, (by first | (rw [e1]; done) | (rw [e1]; rfl)), (by omega), (by exact toldL_len _)⟩; omega
    refine VC.exit (VC.seq (VC.text ?_))
    obtain rfl : k = 3 := by omega
    refine VO.c (.move rfl) ?_; refine VO.callG [(out, .row 3 (.int .i64) (toldL l i 3))] rfl rfl rfl (VFG.call (zSort_ok (by omega))) ?_; rintro _ _ ⟨rfl, rfl⟩; show VO _ _ _ _ _ _ [(out, .row 3 (.int .i64) (sortN (toldL l i 3))), (wis, .row 4 .bool (isA l tol i)), (wlv, .row 39 (.flt .f32) (lvA l tol i)), (ww11, .var [I (dvE l tol 0 i), I (dvE l tol 1 i), I (dvE l tol 2 i)]), (ww10, .var [St l.1.1, I l.1.2.1, .raw wlv, nilV]), (ww2, .var [I (0 : Int), I (0 : Int), I (0 : Int)]), (ww1, .var [St ByteArray.empty, I (0 : Int), .v y22 [], .v y23 []])] _; refine VO.go (VC.seq ?_); refine VC.join [(1, I tol), (2, .p y36 l), (4, .raw ww1), (5, .raw ww2), (12, .p y72 (thereE l.1, thereE l.2.1, thereE l.2.2)), (13, .raw ww10), (14, .raw wis), (15, .raw ww11), (16, I ((i : Nat) : Int)), (17, .raw out), (20, B ((vE l tol i).2)), (91, I ((l.1.2.2.1.length : Nat) : Int)), (92, I ((i : Nat) : Int))] [(out, .row 3 (.int .i64) (sortN (toldL l i 3))), (wis, .row 4 .bool (isA l tol i)), (wlv, .row 39 (.flt .f32) (lvA l tol i)), (ww11, .var [I (dvE l tol 0 i), I (dvE l tol 1 i), I (dvE l tol 2 i)]), (ww10, .var [St l.1.1, I l.1.2.1, .raw wlv, nilV]), (ww2, .var [I (0 : Int), I (0 : Int), I (0 : Int)]), (ww1, .var [St ByteArray.empty, I (0 : Int), .v y22 [], .v y23 []])] ?_ ?_
    · skip
      refine VC.drawn ?_; refine VD.c (.move rfl) ?_; refine VD.r [(out, .row 3 (.int .i64) (sortN (toldL l i 3))), (wis, .row 4 .bool (isA l tol i)), (wlv, .row 39 (.flt .f32) (lvA l tol i)), (ww11, .var [I (dvE l tol 0 i), I (dvE l tol 1 i), I (dvE l tol 2 i)]), (ww10, .var [St l.1.1, I l.1.2.1, .raw wlv, nilV]), (ww2, .var [I (0 : Int), I (0 : Int), I (0 : Int)]), (ww1, .var [St ByteArray.empty, I (0 : Int), .v y22 [], .v y23 []])] (.lenO m0 el42) (.inr ⟨rfl, rfl⟩) ?_; refine VD.c (.eql) (VD.c (.move rfl) ?_); refine VD.splitD (x := 121) rfl (fun g27_3 => ?_) (fun g27_3 => ?_)
      · refine VD.skip (VD.nw [] (VD.skip (VD.skip ?_))); refine VD.skip (VD.skip (VD.skip (VD.skip ?_))); refine VD.skip (VD.nw [] (VD.skip (VD.skip ?_))); refine VD.skip (VD.skip (VD.skip (VD.skip ?_))); refine VD.skip (VD.nw [] (VD.skip (VD.skip ?_))); refine VD.skip (VD.c (.pickT rfl rfl) (VD.c (.assign rfl) ?_)); refine VD.nil ?_; exact ⟨⟨rfl, rfl, rfl, rfl, rfl, rfl, rfl, rfl, rfl, rfl, slE rfl (by first | exact (vote_3 (by omega)).symm | (rw [hla, ← hgt.2, vote_2 (by omega)]) | exact (vote_n (by omega) (by omega)).symm), rfl, rfl, trivial⟩, rfl⟩
      refine VD.c (.move rfl) (VD.nw [] ?_); refine VD.r [(out, .row 3 (.int .i64) (sortN (toldL l i 3))), (wis, .row 4 .bool (isA l tol i)), (wlv, .row 39 (.flt .f32) (lvA l tol i)), (ww11, .var [I (dvE l tol 0 i), I (dvE l tol 1 i), I (dvE l tol 2 i)]), (ww10, .var [St l.1.1, I l.1.2.1, .raw wlv, nilV]), (ww2, .var [I (0 : Int), I (0 : Int), I (0 : Int)]), (ww1, .var [St ByteArray.empty, I (0 : Int), .v y22 [], .v y23 []])] (.lenO m0 el42) (.inr ⟨rfl, rfl⟩) ?_; refine VD.c (.eql) (VD.c (.move rfl) ?_); refine VD.splitD (x := 125) rfl (fun g27_7 => ?_) (fun g27_7 => ?_)
      · have hla := at_last (l := sortN (toldL l i 3)) (by omega) (by omega); have hb0 := hsb _ (List.getElem_mem (show 0 < (sortN (toldL l i 3)).length by omega)); have hb1 := hsb _ (List.getElem_mem (show 1 < (sortN (toldL l i 3)).length by omega)); refine VD.c (.move rfl) (VD.c (.move rfl) ?_); refine VD.r [(out, .row 3 (.int .i64) (sortN (toldL l i 3))), (wis, .row 4 .bool (isA l tol i)), (wlv, .row 39 (.flt .f32) (lvA l tol i)), (ww11, .var [I (dvE l tol 0 i), I (dvE l tol 1 i), I (dvE l tol 2 i)]), (ww10, .var [St l.1.1, I l.1.2.1, .raw wlv, nilV]), (ww2, .var [I (0 : Int), I (0 : Int), I (0 : Int)]), (ww1, .var [St ByteArray.empty, I (0 : Int), .v y22 [], .v y23 []])] (.lenO m0 el42) (.inr ⟨rfl, rfl⟩) ?_; refine VD.nw [] (VD.c (.sub rfl rfl (by omega)) ?_); refine VD.r [] (.max) (.inl rfl) ?_; refine VD.co (.ixOZ (k := (max (0 : Int) ((((sortN (toldL l i 3)).length : Nat) : Int) - (1 : Int)))) rfl rfl m0 el42 (by omega) (by omega)) ?_; refine VD.r [(out, .row 3 (.int .i64) (sortN (toldL l i 3))), (wis, .row 4 .bool (isA l tol i)), (wlv, .row 39 (.flt .f32) (lvA l tol i)), (ww11, .var [I (dvE l tol 0 i), I (dvE l tol 1 i), I (dvE l tol 2 i)]), (ww10, .var [St l.1.1, I l.1.2.1, .raw wlv, nilV]), (ww2, .var [I (0 : Int), I (0 : Int), I (0 : Int)]), (ww1, .var [St ByteArray.empty, I (0 : Int), .v y22 [], .v y23 []])] (.ldO rfl m0 vt3 (by omega)) (.inr ⟨rfl, rfl⟩) ?_; refine VD.c (.move rfl) ?_; refine VD.co (.ixO (j := 0) rfl rfl m0 el42 (by omega)) ?_; refine VD.r [(out, .row 3 (.int .i64) (sortN (toldL l i 3))), (wis, .row 4 .bool (isA l tol i)), (wlv, .row 39 (.flt .f32) (lvA l tol i)), (ww11, .var [I (dvE l tol 0 i), I (dvE l tol 1 i), I (dvE l tol 2 i)]), (ww10, .var [St l.1.1, I l.1.2.1, .raw wlv, nilV]), (ww2, .var [I (0 : Int), I (0 : Int), I (0 : Int)]), (ww1, .var [St ByteArray.empty, I (0 : Int), .v y22 [], .v y23 []])] (.ldO rfl m0 vt3 (by omega)) (.inr ⟨rfl, rfl⟩) ?_; refine VD.nw [] (VD.c (.sub rfl rfl (by rw [hla]; omega)) (VD.c (.move rfl) (VD.c (.leq) ?_))); refine VD.c (.pickT rfl rfl) (VD.c (.pickF rfl rfl) (VD.c (.assign rfl) ?_)); refine VD.nil ?_; exact ⟨⟨rfl, rfl, rfl, rfl, rfl, rfl, rfl, rfl, rfl, rfl, slE rfl (by first | exact (vote_3 (by omega)).symm | (rw [hla, ← hgt.2, vote_2 (by omega)]) | exact (vote_n (by omega) (by omega)).symm), rfl, rfl, trivial⟩, rfl⟩
      refine VD.skip (VD.skip (VD.skip (VD.nw [] ?_))); refine VD.skip (VD.skip (VD.skip (VD.skip ?_))); refine VD.skip (VD.skip (VD.skip (VD.nw [] ?_))); refine VD.skip (VD.skip (VD.skip (VD.c (.pickF rfl rfl) ?_))); refine VD.c (.pickF rfl rfl) (VD.c (.assign rfl) ?_); refine VD.nil ?_; exact ⟨⟨rfl, rfl, rfl, rfl, rfl, rfl, rfl, rfl, rfl, rfl, slE rfl (by first | exact (vote_3 (by omega)).symm | (rw [hla, ← hgt.2, vote_2 (by omega)]) | exact (vote_n (by omega) (by omega)).symm), rfl, rfl, trivial⟩, rfl⟩
    refine VC.seq (VC.text ?_); refine VO.c (.assign rfl) ?_; refine VO.go (VC.seq (VC.seq ?_)); refine VC.shutL [(out, .row 3 (.int .i64) (sortN (toldL l i 3)))] [(17, .v y42 (sortN (toldL l i 3)))] rfl (.cons rfl (.row m0) .nil) ?_; refine VC.text ?_; refine VO.c (.move rfl) (VO.go ?_); refine VC.join [(1, I tol), (2, .p y36 l), (4, .raw ww1), (5, .raw ww2), (12, .p y72 (thereE l.1, thereE l.2.1, thereE l.2.2)), (13, .raw ww10), (14, .raw wis), (15, .raw ww11), (16, I ((i : Nat) : Int)), (20, B ((vE l tol i).2)), (21, I ((vE l tol i).1)), (91, I ((l.1.2.2.1.length : Nat) : Int)), (92, I ((i : Nat) : Int))] [(wis, .row 4 .bool (isA l tol i)), (wlv, .row 39 (.flt .f32) (lvA l tol i)), (ww11, .var [I (dvE l tol 0 i), I (dvE l tol 1 i), I (dvE l tol 2 i)]), (ww10, .var [St l.1.1, I l.1.2.1, .raw wlv, nilV]), (ww2, .var [I (0 : Int), I (0 : Int), I (0 : Int)]), (ww1, .var [St ByteArray.empty, I (0 : Int), .v y22 [], .v y23 []])] ?_ ?_; refine VC.condB rfl (fun c29 => ?_) (fun c29 => ?_)
    · have hge := vote_ge (l := toldL l i 3) c29; refine VC.text ?_; refine VO.c (.move rfl) (VO.c (.ix (j := 1) rfl rfl el42 (by omega)) ?_); refine VO.r (.ld vt3) ?_; refine VO.c (.assign rfl) ?_; refine VO.nil ?_; exact ⟨⟨rfl, rfl, rfl, rfl, rfl, rfl, rfl, rfl, rfl, rfl, slI rfl (by first | exact (vote_1 (toldL_len 3) c29 (by omega)).symm | exact (vE_0 c29).symm), rfl, rfl, trivial⟩, rfl⟩
    · refine VC.skip ?_; exact ⟨⟨rfl, rfl, rfl, rfl, rfl, rfl, rfl, rfl, rfl, rfl, slI rfl (by first | exact (vote_1 (toldL_len 3) c29 (by omega)).symm | exact (vE_0 c29).symm), rfl, rfl, trivial⟩, rfl⟩
    refine VC.seq (VC.text ?_); refine VO.c (.faO (k := 2) m3) ?_; refine VO.r (.ldF (k := 2) m3 vt22) ?_; refine VO.c (.move rfl) (VO.c (.cvIF .f32) (VO.c (.fop (div32E hq.2.2)) ?_)); refine VO.new (.lit [q16 (vE l tol i).1] el22) ?_; refine VO.perm swap1 ?_; refine VO.app rfl rfl el22 el22 (by simp; omega) ?_; intro ww15; refine VO.c (.faO (k := 2) m3) ?_; refine VO.perm swap3 ?_; refine VO.one m1 fun ho16 => ?_; refine VO.setF (cs' := [St l.1.1, I l.1.2.1, .raw ww15, nilV]) 2 vt22 (.raw rfl (agg_one ho16) ho16) ?_; refine VO.go (VC.seq (VC.text ?_)); refine VO.c (.move rfl) (VO.c (.move rfl) ?_); refine VO.new (.lit [(vE l tol i).2] el70) ?_; refine VO.perm swap2 ?_; refine VO.app rfl rfl el70 el70 (by simp; omega) ?_; intro ww17; refine VO.c (.assign rfl) ?_; refine VO.go (VC.seq (VC.text ?_)); refine VO.r (.ld vt36) ?_; refine VO.c (.move rfl) ?_; refine VO.go (VC.block ?_); refine VC.unroll ?_; refine VC.seq (VC.text ?_); refine VO.c (.lss) ?_; refine VO.go (VC.seq ?_); refine VC.condT rfl ?_; refine VC.skip (VC.seq (VC.block (VC.seq (VC.text ?_)))); refine VO.c (.move rfl) (VO.c (.ixA 0 (.l .o)) ?_); refine VO.cell (.alloc zt30) ?_; intro ww18; refine VO.c (.assign rfl) ?_; refine VO.setV (cs' := [St l.1.1, I l.1.2.1, .v y22 l.1.2.2.1, .v y23 l.1.2.2.2]) vt30 .v ?_; refine VO.shut [(23, .p y30 l.1)] (.cons rfl (.var m0 .refl) .nil) ?_; refine VO.go (VC.seq (VC.text ?_)); refine VO.c (.fa (.r (.r (.l .o)))) ?_; refine VO.r (.ld vt22) ?_; refine VO.c (.move rfl) (VO.c (.ix (j := i) rfl rfl el22 (by omega)) ?_); refine VO.r (.ld vt39) ?_; refine VO.call rfl rfl (VF.call (gSixL_ok (by first | exact hV.lv 0 (by decide) _ (List.getElem_mem _) | exact hV.lv 1 (by decide) _ (List.getElem_mem _) | exact hV.lv 2 (by decide) _ (List.getElem_mem _)))) ?_; refine VO.c (.move rfl) (VO.c (.sub rfl rfl (by omega)) (VO.c (.assign rfl) ?_)); refine VO.go (VC.seq ?_); refine VC.keep [(1, I tol), (2, .p y36 l), (4, .raw ww1), (5, .raw ww2), (12, .p y72 (thereE l.1, thereE l.2.1, thereE l.2.2)), (13, .raw ww10), (14, .raw ww17), (15, .raw ww11), (16, I ((i : Nat) : Int)), (20, B ((vE l tol i).2)), (21, I ((vE l tol i).1)), (22, I (0 : Int)), (24, I (sxE (l.1.2.2.1[i]) - (vE l tol i).1)), (91, I ((l.1.2.2.1.length : Nat) : Int)), (92, I ((i : Nat) : Int)), (157, .v y36 l), (158, I (0 : Int))] ⟨rfl, rfl, rfl, rfl, rfl, rfl, rfl, rfl, rfl, rfl, rfl, rfl, rfl, rfl, rfl, rfl, rfl, trivial⟩ ?_; refine VC.text ?_; refine VO.c (.move rfl) (VO.c (.move rfl) ?_); refine VO.cg (r := (vE l tol i).2) (w := true) [] trivial (fun _ => (.move rfl)) ?_; refine VO.cg (r := (vE l tol i).2) (w := true) [(172, I (0 : Int))] ⟨rfl, trivial⟩ (fun _ => (.ixP 0 (τ' := (.sl .bool)) (dy := thereE l.1) (.l .o))) ?_; refine VO.rg (r := (vE l tol i).2) (w := true) [(173, .p (.sl .bool) (thereE l.1))] ⟨rfl, trivial⟩ (fun _ => (.ld vt70BL)) ?_; refine VO.cg (r := (vE l tol i).2) (w := true) [] trivial (fun _ => (.move rfl)) ?_; refine VO.cg (r := (vE l tol i).2) (w := true) [(174, .v (.sl .bool) (thereE l.1)), (175, I ((i : Nat) : Int))] ⟨rfl, rfl, trivial⟩ (fun hgd => have g37_1 : (vE l tol i).2 = true := (by simpa using hgd); (.ixD (j := i) rfl rfl false el70 (by omega))) ?_; refine VO.rg (r := (vE l tol i).2) (w := true) [(176, .p .bool ((thereE l.1).getD i false))] ⟨rfl, trivial⟩ (fun _ => (.ld vt4)) ?_; refine VO.c (.and) (VO.c (.move rfl) ?_); refine VO.cg (r := (((vE l tol i).2) && ((thereE l.1).getD i false))) (w := true) [] trivial (fun _ => (.move rfl)) ?_; refine VO.cg (r := (((vE l tol i).2) && ((thereE l.1).getD i false))) (w := true) [] trivial (fun _ => (.move rfl)) ?_; refine VO.cg (r := (((vE l tol i).2) && ((thereE l.1).getD i false))) (w := true) [(181, I (sxE (l.1.2.2.1[i]) - (vE l tol i).1))] ⟨rfl, trivial⟩ (fun hgd => have g37_9 : (((vE l tol i).2) && ((thereE l.1).getD i false)) = true := (by simpa using hgd); (.neg rfl (by omega))) ?_; refine VO.rg (r := (((vE l tol i).2) && ((thereE l.1).getD i false))) (w := true) [(180, I (sxE (l.1.2.2.1[i]) - (vE l tol i).1)), (182, I (-(sxE (l.1.2.2.1[i]) - (vE l tol i).1)))] ⟨rfl, rfl, trivial⟩ (fun _ => (.max)) ?_; refine VO.cg (r := (((vE l tol i).2) && ((thereE l.1).getD i false))) (w := true) [] trivial (fun _ => (.move rfl)) ?_; refine VO.cg (r := (((vE l tol i).2) && ((thereE l.1).getD i false))) (w := true) [(183, I (max (sxE (l.1.2.2.1[i]) - (vE l tol i).1) (-(sxE (l.1.2.2.1[i]) - (vE l tol i).1)))), (184, I tol)] ⟨rfl, rfl, trivial⟩ (fun _ => (.gtr)) ?_; refine VO.c (.and) (VO.go ?_); refine VC.join [(1, I tol), (2, .p y36 l), (4, .raw ww1), (5, .raw ww2), (12, .p y72 (thereE l.1, thereE l.2.1, thereE l.2.2)), (13, .raw ww10), (14, .raw ww17), (15, .raw ww11), (16, I ((i : Nat) : Int)), (20, B ((vE l tol i).2)), (21, I ((vE l tol i).1)), (91, I ((l.1.2.2.1.length : Nat) : Int)), (92, I ((i : Nat) : Int)), (157, .v y36 l), (158, I (0 : Int))] [(ww17, .row 4 .bool ((isA l tol i) ++ [(vE l tol i).2])), (ww10, .var [St l.1.1, I l.1.2.1, .raw ww15, nilV]), (ww15, .row 39 (.flt .f32) ((lvA l tol i) ++ [q16 (vE l tol i).1])), (ww11, .var [I (dvK l tol i 0 0), I (dvK l tol i 1 0), I (dvK l tol i 2 0)]), (ww2, .var [I (0 : Int), I (0 : Int), I (0 : Int)]), (ww1, .var [St ByteArray.empty, I (0 : Int), .v y22 [], .v y23 []])] ?_ ?_; refine VC.condB rfl (fun c37 => ?_) (fun c37 => ?_)
    · try simp only [Bool.and_eq_true, Bool.or_eq_true, Bool.and_eq_false_iff, Bool.or_eq_false_iff, Bool.not_eq_true', Bool.not_eq_false', decide_eq_true_eq, decide_eq_false_iff_not] at c37
      refine VC.text ?_; refine VO.c (.move rfl) (VO.c (.ixV 0 (k := 0) (τ' := (.int .i64)) m3) ?_); refine VO.r (.ldF (k := 0) m3 vt3) ?_; refine VO.c (.add rfl rfl (by omega)) (VO.c (.ixV 0 (k := 0) (τ' := (.int .i64)) m3) ?_); refine VO.perm swap3 ?_; refine VO.setF (cs' := [I ((dvE l tol 0 i) + (1 : Int)), I (dvE l tol 1 i), I (dvE l tol 2 i)]) 0 vt3 .v ?_; refine VO.perm swap5 ?_; refine VO.perm swap5 ?_; refine VO.perm swap2 ?_; refine VO.perm swap5 ?_; refine VO.perm swap5 ?_; refine VO.perm swap5 ?_; refine VO.nil ?_; exact ⟨⟨rfl, rfl, rfl, rfl, rfl, rfl, rfl, rfl, rfl, rfl, rfl, rfl, rfl, rfl, rfl, trivial⟩, (by first | (rw [show dvK l tol i 0 0 = dvE l tol 0 i + 1 from dvE_t (hv0.trans (and3_t c37))]; rfl) | (rw [show dvK l tol i 0 0 = dvE l tol 0 i from dvE_f (hv0.trans (and3_f c37))]; rfl) | (rw [show dvK l tol i 1 1 = dvE l tol 1 i + 1 from dvE_t (hv1.trans (and3_t c37))]; rfl) | (rw [show dvK l tol i 1 1 = dvE l tol 1 i from dvE_f (hv1.trans (and3_f c37))]; rfl) | (rw [show dvK l tol i 2 2 = dvE l tol 2 i + 1 from dvE_t (hv2.trans (and3_t c37))]; rfl) | (rw [show dvK l tol i 2 2 = dvE l tol 2 i from dvE_f (hv2.trans (and3_f c37))]; rfl))⟩
    · try simp only [Bool.and_eq_true, Bool.or_eq_true, Bool.and_eq_false_iff, Bool.or_eq_false_iff, Bool.not_eq_true', Bool.not_eq_false', decide_eq_true_eq, decide_eq_false_iff_not] at c37
      refine VC.skip ?_; exact ⟨⟨rfl, rfl, rfl, rfl, rfl, rfl, rfl, rfl, rfl, rfl, rfl, rfl, rfl, rfl, rfl, trivial⟩, (by first | (rw [show dvK l tol i 0 0 = dvE l tol 0 i + 1 from dvE_t (hv0.trans (and3_t c37))]; rfl) | (rw [show dvK l tol i 0 0 = dvE l tol 0 i from dvE_f (hv0.trans (and3_f c37))]; rfl) | (rw [show dvK l tol i 1 1 = dvE l tol 1 i + 1 from dvE_t (hv1.trans (and3_t c37))]; rfl) | (rw [show dvK l tol i 1 1 = dvE l tol 1 i from dvE_f (hv1.trans (and3_f c37))]; rfl) | (rw [show dvK l tol i 2 2 = dvE l tol 2 i + 1 from dvE_t (hv2.trans (and3_t c37))]; rfl) | (rw [show dvK l tol i 2 2 = dvE l tol 2 i from dvE_f (hv2.trans (and3_f c37))]; rfl))⟩
    refine VC.text ?_; refine VO.c (.add rfl rfl (by decide)) (VO.c (.move rfl) ?_); refine VO.nil ?_; refine VC.unroll ?_; refine VC.seq (VC.text ?_); refine VO.c (.lss) ?_; refine VO.go (VC.seq ?_); refine VC.condT rfl ?_; refine VC.skip (VC.seq (VC.block (VC.seq (VC.text ?_)))); refine VO.c (.move rfl) (VO.c (.ixA 1 (.r (.l .o))) ?_); refine VO.cell (.alloc zt30) ?_; intro ww19; refine VO.c (.assign rfl) ?_; refine VO.setV (cs' := [St l.2.1.1, I l.2.1.2.1, .v y22 l.2.1.2.2.1, .v y23 l.2.1.2.2.2]) vt30 .v ?_; refine VO.shut [(23, .p y30 l.2.1)] (.cons rfl (.var m0 .refl) .nil) ?_; refine VO.go (VC.seq (VC.text ?_)); refine VO.c (.fa (.r (.r (.l .o)))) ?_; refine VO.r (.ld vt22) ?_; refine VO.c (.move rfl) (VO.c (.ix (j := i) rfl rfl el22 (by omega)) ?_); refine VO.r (.ld vt39) ?_; refine VO.call rfl rfl (VF.call (gSixL_ok (by first | exact hV.lv 0 (by decide) _ (List.getElem_mem _) | exact hV.lv 1 (by decide) _ (List.getElem_mem _) | exact hV.lv 2 (by decide) _ (List.getElem_mem _)))) ?_; refine VO.c (.move rfl) (VO.c (.sub rfl rfl (by omega)) (VO.c (.assign rfl) ?_)); refine VO.go (VC.seq (VC.text ?_)); refine VO.c (.move rfl) (VO.c (.move rfl) ?_); refine VO.cg (r := (vE l tol i).2) (w := true) [] trivial (fun _ => (.move rfl)) ?_; refine VO.cg (r := (vE l tol i).2) (w := true) [(172, I (1 : Int))] ⟨rfl, trivial⟩ (fun _ => (.ixP 1 (τ' := (.sl .bool)) (dy := thereE l.2.1) (.r (.l .o)))) ?_; refine VO.rg (r := (vE l tol i).2) (w := true) [(173, .p (.sl .bool) (thereE l.2.1))] ⟨rfl, trivial⟩ (fun _ => (.ld vt70BL)) ?_; refine VO.cg (r := (vE l tol i).2) (w := true) [] trivial (fun _ => (.move rfl)) ?_; refine VO.cg (r := (vE l tol i).2) (w := true) [(174, .v (.sl .bool) (thereE l.2.1)), (175, I ((i : Nat) : Int))] ⟨rfl, rfl, trivial⟩ (fun hgd => have g37_1 : (vE l tol i).2 = true := (by simpa using hgd); (.ixD (j := i) rfl rfl false el70 (by omega))) ?_; refine VO.rg (r := (vE l tol i).2) (w := true) [(176, .p .bool ((thereE l.2.1).getD i false))] ⟨rfl, trivial⟩ (fun _ => (.ld vt4)) ?_; refine VO.c (.and) (VO.c (.move rfl) ?_); refine VO.cg (r := (((vE l tol i).2) && ((thereE l.2.1).getD i false))) (w := true) [] trivial (fun _ => (.move rfl)) ?_; refine VO.cg (r := (((vE l tol i).2) && ((thereE l.2.1).getD i false))) (w := true) [] trivial (fun _ => (.move rfl)) ?_; refine VO.cg (r := (((vE l tol i).2) && ((thereE l.2.1).getD i false))) (w := true) [(181, I (sxE (l.2.1.2.2.1[i]) - (vE l tol i).1))] ⟨rfl, trivial⟩ (fun hgd => have g37_9 : (((vE l tol i).2) && ((thereE l.2.1).getD i false)) = true := (by simpa using hgd); (.neg rfl (by omega))) ?_; refine VO.rg (r := (((vE l tol i).2) && ((thereE l.2.1).getD i false))) (w := true) [(180, I (sxE (l.2.1.2.2.1[i]) - (vE l tol i).1)), (182, I (-(sxE (l.2.1.2.2.1[i]) - (vE l tol i).1)))] ⟨rfl, rfl, trivial⟩ (fun _ => (.max)) ?_; refine VO.cg (r := (((vE l tol i).2) && ((thereE l.2.1).getD i false))) (w := true) [] trivial (fun _ => (.move rfl)) ?_; refine VO.cg (r := (((vE l tol i).2) && ((thereE l.2.1).getD i false))) (w := true) [(183, I (max (sxE (l.2.1.2.2.1[i]) - (vE l tol i).1) (-(sxE (l.2.1.2.2.1[i]) - (vE l tol i).1)))), (184, I tol)] ⟨rfl, rfl, trivial⟩ (fun _ => (.gtr)) ?_; refine VO.c (.and) (VO.go ?_); refine VC.join [(1, I tol), (2, .p y36 l), (4, .raw ww1), (5, .raw ww2), (12, .p y72 (thereE l.1, thereE l.2.1, thereE l.2.2)), (13, .raw ww10), (14, .raw ww17), (15, .raw ww11), (16, I ((i : Nat) : Int)), (20, B ((vE l tol i).2)), (21, I ((vE l tol i).1)), (91, I ((l.1.2.2.1.length : Nat) : Int)), (92, I ((i : Nat) : Int)), (157, .v y36 l), (158, I (1 : Int))] [(ww17, .row 4 .bool ((isA l tol i) ++ [(vE l tol i).2])), (ww10, .var [St l.1.1, I l.1.2.1, .raw ww15, nilV]), (ww15, .row 39 (.flt .f32) ((lvA l tol i) ++ [q16 (vE l tol i).1])), (ww11, .var [I (dvK l tol i 0 1), I (dvK l tol i 1 1), I (dvK l tol i 2 1)]), (ww2, .var [I (0 : Int), I (0 : Int), I (0 : Int)]), (ww1, .var [St ByteArray.empty, I (0 : Int), .v y22 [], .v y23 []])] ?_ ?_; refine VC.condB rfl (fun c37 => ?_) (fun c37 => ?_)
    · try simp only [Bool.and_eq_true, Bool.or_eq_true, Bool.and_eq_false_iff, Bool.or_eq_false_iff, Bool.not_eq_true', Bool.not_eq_false', decide_eq_true_eq, decide_eq_false_iff_not] at c37
      refine VC.text ?_; refine VO.c (.move rfl) (VO.c (.ixV 1 (k := 1) (τ' := (.int .i64)) m3) ?_); refine VO.r (.ldF (k := 1) m3 vt3) ?_; refine VO.c (.add rfl rfl (by omega)) (VO.c (.ixV 1 (k := 1) (τ' := (.int .i64)) m3) ?_); refine VO.perm swap3 ?_; refine VO.setF (cs' := [I (dvK l tol i 0 0), I ((dvK l tol i 1 0) + (1 : Int)), I (dvK l tol i 2 0)]) 1 vt3 .v ?_; refine VO.perm swap5 ?_; refine VO.perm swap5 ?_; refine VO.perm swap2 ?_; refine VO.perm swap5 ?_; refine VO.perm swap5 ?_; refine VO.perm swap5 ?_; refine VO.nil ?_; exact ⟨⟨rfl, rfl, rfl, rfl, rfl, rfl, rfl, rfl, rfl, rfl, rfl, rfl, rfl, rfl, rfl, trivial⟩, (by first | (rw [show dvK l tol i 0 0 = dvE l tol 0 i + 1 from dvE_t (hv0.trans (and3_t c37))]; rfl) | (rw [show dvK l tol i 0 0 = dvE l tol 0 i from dvE_f (hv0.trans (and3_f c37))]; rfl) | (rw [show dvK l tol i 1 1 = dvE l tol 1 i + 1 from dvE_t (hv1.trans (and3_t c37))]; rfl) | (rw [show dvK l tol i 1 1 = dvE l tol 1 i from dvE_f (hv1.trans (and3_f c37))]; rfl) | (rw [show dvK l tol i 2 2 = dvE l tol 2 i + 1 from dvE_t (hv2.trans (and3_t c37))]; rfl) | (rw [show dvK l tol i 2 2 = dvE l tol 2 i from dvE_f (hv2.trans (and3_f c37))]; rfl))⟩
    · try simp only [Bool.and_eq_true, Bool.or_eq_true, Bool.and_eq_false_iff, Bool.or_eq_false_iff, Bool.not_eq_true', Bool.not_eq_false', decide_eq_true_eq, decide_eq_false_iff_not] at c37
      refine VC.skip ?_; exact ⟨⟨rfl, rfl, rfl, rfl, rfl, rfl, rfl, rfl, rfl, rfl, rfl, rfl, rfl, rfl, rfl, trivial⟩, (by first | (rw [show dvK l tol i 0 0 = dvE l tol 0 i + 1 from dvE_t (hv0.trans (and3_t c37))]; rfl) | (rw [show dvK l tol i 0 0 = dvE l tol 0 i from dvE_f (hv0.trans (and3_f c37))]; rfl) | (rw [show dvK l tol i 1 1 = dvE l tol 1 i + 1 from dvE_t (hv1.trans (and3_t c37))]; rfl) | (rw [show dvK l tol i 1 1 = dvE l tol 1 i from dvE_f (hv1.trans (and3_f c37))]; rfl) | (rw [show dvK l tol i 2 2 = dvE l tol 2 i + 1 from dvE_t (hv2.trans (and3_t c37))]; rfl) | (rw [show dvK l tol i 2 2 = dvE l tol 2 i from dvE_f (hv2.trans (and3_f c37))]; rfl))⟩
    refine VC.text ?_; refine VO.c (.add rfl rfl (by decide)) (VO.c (.move rfl) ?_); refine VO.nil ?_; refine VC.unroll ?_; refine VC.seq (VC.text ?_); refine VO.c (.lss) ?_; refine VO.go (VC.seq ?_); refine VC.condT rfl ?_; refine VC.skip (VC.seq (VC.block (VC.seq (VC.text ?_)))); refine VO.c (.move rfl) (VO.c (.ixA 2 (.r (.r .o))) ?_); refine VO.cell (.alloc zt30) ?_; intro ww20; refine VO.c (.assign rfl) ?_; refine VO.setV (cs' := [St l.2.2.1, I l.2.2.2.1, .v y22 l.2.2.2.2.1, .v y23 l.2.2.2.2.2]) vt30 .v ?_; refine VO.shut [(23, .p y30 l.2.2)] (.cons rfl (.var m0 .refl) .nil) ?_; refine VO.go (VC.seq ?_); refine VC.keep [(1, I tol), (2, .p y36 l), (4, .raw ww1), (5, .raw ww2), (12, .p y72 (thereE l.1, thereE l.2.1, thereE l.2.2)), (13, .raw ww10), (14, .raw ww17), (15, .raw ww11), (16, I ((i : Nat) : Int)), (20, B ((vE l tol i).2)), (21, I ((vE l tol i).1)), (22, I (2 : Int)), (23, .p y30 l.2.2), (91, I ((l.1.2.2.1.length : Nat) : Int)), (92, I ((i : Nat) : Int)), (157, .v y36 l), (158, I (2 : Int))] ⟨rfl, rfl, rfl, rfl, rfl, rfl, rfl, rfl, rfl, rfl, rfl, rfl, rfl, rfl, rfl, rfl, rfl, trivial⟩ ?_; refine VC.text ?_; refine VO.c (.fa (.r (.r (.l .o)))) ?_; refine VO.r (.ld vt22) ?_; refine VO.c (.move rfl) (VO.c (.ix (j := i) rfl rfl el22 (by omega)) ?_); refine VO.r (.ld vt39) ?_; refine VO.call rfl rfl (VF.call (gSixL_ok (by first | exact hV.lv 0 (by decide) _ (List.getElem_mem _) | exact hV.lv 1 (by decide) _ (List.getElem_mem _) | exact hV.lv 2 (by decide) _ (List.getElem_mem _)))) ?_; refine VO.c (.move rfl) (VO.c (.sub rfl rfl (by omega)) (VO.c (.assign rfl) ?_)); refine VO.go (VC.seq (VC.text ?_)); refine VO.c (.move rfl) (VO.c (.move rfl) ?_); refine VO.cg (r := (vE l tol i).2) (w := true) [] trivial (fun _ => (.move rfl)) ?_; refine VO.cg (r := (vE l tol i).2) (w := true) [(172, I (2 : Int))] ⟨rfl, trivial⟩ (fun _ => (.ixP 2 (τ' := (.sl .bool)) (dy := thereE l.2.2) (.r (.r (k := 0) .o)))) ?_; refine VO.rg (r := (vE l tol i).2) (w := true) [(173, .p (.sl .bool) (thereE l.2.2))] ⟨rfl, trivial⟩ (fun _ => (.ld vt70BL)) ?_; refine VO.cg (r := (vE l tol i).2) (w := true) [] trivial (fun _ => (.move rfl)) ?_; refine VO.cg (r := (vE l tol i).2) (w := true) [(174, .v (.sl .bool) (thereE l.2.2)), (175, I ((i : Nat) : Int))] ⟨rfl, rfl, trivial⟩ (fun hgd => have g37_1 : (vE l tol i).2 = true := (by simpa using hgd); (.ixD (j := i) rfl rfl false el70 (by omega))) ?_; refine VO.rg (r := (vE l tol i).2) (w := true) [(176, .p .bool ((thereE l.2.2).getD i false))] ⟨rfl, trivial⟩ (fun _ => (.ld vt4)) ?_; refine VO.c (.and) (VO.c (.move rfl) ?_); refine VO.cg (r := (((vE l tol i).2) && ((thereE l.2.2).getD i false))) (w := true) [] trivial (fun _ => (.move rfl)) ?_; refine VO.cg (r := (((vE l tol i).2) && ((thereE l.2.2).getD i false))) (w := true) [] trivial (fun _ => (.move rfl)) ?_; refine VO.cg (r := (((vE l tol i).2) && ((thereE l.2.2).getD i false))) (w := true) [(181, I (sxE (l.2.2.2.2.1[i]) - (vE l tol i).1))] ⟨rfl, trivial⟩ (fun hgd => have g37_9 : (((vE l tol i).2) && ((thereE l.2.2).getD i false)) = true := (by simpa using hgd); (.neg rfl (by omega))) ?_; refine VO.rg (r := (((vE l tol i).2) && ((thereE l.2.2).getD i false))) (w := true) [(180, I (sxE (l.2.2.2.2.1[i]) - (vE l tol i).1)), (182, I (-(sxE (l.2.2.2.2.1[i]) - (vE l tol i).1)))] ⟨rfl, rfl, trivial⟩ (fun _ => (.max)) ?_; refine VO.cg (r := (((vE l tol i).2) && ((thereE l.2.2).getD i false))) (w := true) [] trivial (fun _ => (.move rfl)) ?_; refine VO.cg (r := (((vE l tol i).2) && ((thereE l.2.2).getD i false))) (w := true) [(183, I (max (sxE (l.2.2.2.2.1[i]) - (vE l tol i).1) (-(sxE (l.2.2.2.2.1[i]) - (vE l tol i).1)))), (184, I tol)] ⟨rfl, rfl, trivial⟩ (fun _ => (.gtr)) ?_; refine VO.c (.and) (VO.go ?_); refine VC.join [(1, I tol), (2, .p y36 l), (4, .raw ww1), (5, .raw ww2), (12, .p y72 (thereE l.1, thereE l.2.1, thereE l.2.2)), (13, .raw ww10), (14, .raw ww17), (15, .raw ww11), (16, I ((i : Nat) : Int)), (20, B ((vE l tol i).2)), (21, I ((vE l tol i).1)), (91, I ((l.1.2.2.1.length : Nat) : Int)), (92, I ((i : Nat) : Int)), (157, .v y36 l), (158, I (2 : Int))] [(ww17, .row 4 .bool ((isA l tol i) ++ [(vE l tol i).2])), (ww10, .var [St l.1.1, I l.1.2.1, .raw ww15, nilV]), (ww15, .row 39 (.flt .f32) ((lvA l tol i) ++ [q16 (vE l tol i).1])), (ww11, .var [I (dvK l tol i 0 2), I (dvK l tol i 1 2), I (dvK l tol i 2 2)]), (ww2, .var [I (0 : Int), I (0 : Int), I (0 : Int)]), (ww1, .var [St ByteArray.empty, I (0 : Int), .v y22 [], .v y23 []])] ?_ ?_; refine VC.condB rfl (fun c37 => ?_) (fun c37 => ?_)
    · try simp only [Bool.and_eq_true, Bool.or_eq_true, Bool.and_eq_false_iff, Bool.or_eq_false_iff, Bool.not_eq_true', Bool.not_eq_false', decide_eq_true_eq, decide_eq_false_iff_not] at c37
      refine VC.text ?_; refine VO.c (.move rfl) (VO.c (.ixV 2 (k := 2) (τ' := (.int .i64)) m3) ?_); refine VO.r (.ldF (k := 2) m3 vt3) ?_; refine VO.c (.add rfl rfl (by omega)) (VO.c (.ixV 2 (k := 2) (τ' := (.int .i64)) m3) ?_); refine VO.perm swap3 ?_; refine VO.setF (cs' := [I (dvK l tol i 0 1), I (dvK l tol i 1 1), I ((dvK l tol i 2 1) + (1 : Int))]) 2 vt3 .v ?_; refine VO.perm swap5 ?_; refine VO.perm swap5 ?_; refine VO.perm swap2 ?_; refine VO.perm swap5 ?_; refine VO.perm swap5 ?_; refine VO.perm swap5 ?_; refine VO.nil ?_; exact ⟨⟨rfl, rfl, rfl, rfl, rfl, rfl, rfl, rfl, rfl, rfl, rfl, rfl, rfl, rfl, rfl, trivial⟩, (by first | (rw [show dvK l tol i 0 0 = dvE l tol 0 i + 1 from dvE_t (hv0.trans (and3_t c37))]; rfl) | (rw [show dvK l tol i 0 0 = dvE l tol 0 i from dvE_f (hv0.trans (and3_f c37))]; rfl) | (rw [show dvK l tol i 1 1 = dvE l tol 1 i + 1 from dvE_t (hv1.trans (and3_t c37))]; rfl) | (rw [show dvK l tol i 1 1 = dvE l tol 1 i from dvE_f (hv1.trans (and3_f c37))]; rfl) | (rw [show dvK l tol i 2 2 = dvE l tol 2 i + 1 from dvE_t (hv2.trans (and3_t c37))]; rfl) | (rw [show dvK l tol i 2 2 = dvE l tol 2 i from dvE_f (hv2.trans (and3_f c37))]; rfl))⟩
    · try simp only [Bool.and_eq_true, Bool.or_eq_true, Bool.and_eq_false_iff, Bool.or_eq_false_iff, Bool.not_eq_true', Bool.not_eq_false', decide_eq_true_eq, decide_eq_false_iff_not] at c37
      refine VC.skip ?_; exact ⟨⟨rfl, rfl, rfl, rfl, rfl, rfl, rfl, rfl, rfl, rfl, rfl, rfl, rfl, rfl, rfl, trivial⟩, (by first | (rw [show dvK l tol i 0 0 = dvE l tol 0 i + 1 from dvE_t (hv0.trans (and3_t c37))]; rfl) | (rw [show dvK l tol i 0 0 = dvE l tol 0 i from dvE_f (hv0.trans (and3_f c37))]; rfl) | (rw [show dvK l tol i 1 1 = dvE l tol 1 i + 1 from dvE_t (hv1.trans (and3_t c37))]; rfl) | (rw [show dvK l tol i 1 1 = dvE l tol 1 i from dvE_f (hv1.trans (and3_f c37))]; rfl) | (rw [show dvK l tol i 2 2 = dvE l tol 2 i + 1 from dvE_t (hv2.trans (and3_t c37))]; rfl) | (rw [show dvK l tol i 2 2 = dvE l tol 2 i from dvE_f (hv2.trans (and3_f c37))]; rfl))⟩
    refine VC.text ?_; refine VO.c (.add rfl rfl (by decide)) (VO.c (.move rfl) ?_); refine VO.nil ?_; refine VC.unroll ?_; refine VC.seq (VC.text ?_); refine VO.c (.lss) ?_; refine VO.go (VC.seq ?_); refine VC.condF rfl ?_; refine VC.exit (VC.text ?_); refine VO.c (.add rfl rfl (by omega)) (VO.c (.move rfl) ?_); refine VO.perm swap5 ?_; refine VO.perm swap5 ?_; refine VO.perm swap3 ?_; refine VO.perm swap5 ?_; refine VO.perm swap5 ?_; refine VO.perm swap5 ?_; refine VO.nil ?_; refine ⟨_, [(1, I tol), (2, .p y36 l), (4, .raw ww1), (5, .raw ww2), (12, .p y72 (thereE l.1, thereE l.2.1, thereE l.2.2)), (13, .raw ww10), (14, .raw ww17), (15, .raw ww11), (91, I ((l.1.2.2.1.length : Nat) : Int)), (92, I (((i + 1) : Nat) : Int))], ?_, ⟨rfl, rfl, rfl, rfl, rfl, rfl, rfl, rfl, rfl, rfl, trivial⟩, (i + 1), ww17, ww15, rfl, rfl, (by rw [lvA_s, isA_s] <;> rfl), (by omega), (by exact isA_len), (by exact lvA_len)⟩; omega
  refine VC.exit (VC.seq ?_); refine VC.perm swap3 ?_; refine VC.perm swap2 ?_; refine VC.shutL [(wlv, .row 39 (.flt .f32) (lvA l tol i)), (ww10, .var [St l.1.1, I l.1.2.1, .raw wlv, nilV])] [(13, .p y30 (l.1.1, l.1.2.1, (lvA l tol i), []))] rfl (.cons rfl (.var m1 (.cons .same (.cons .same (.cons (.row m0) (.cons .nil .nil))))) .nil) ?_; refine VC.shutL [(wis, .row 4 .bool (isA l tol i))] [(14, .v (.sl .bool) (isA l tol i))] rfl (.cons rfl (.row m0) .nil) ?_; refine VC.perm swap1 ?_; refine VC.perm swap2 ?_; refine VC.late [(ww11, .var [I (dvE l tol 0 i), I (dvE l tol 1 i), I (dvE l tol 2 i)])] ⟨[(ww1, .var [St ByteArray.empty, I (0 : Int), .v y22 [], .v y23 []]), (ww2, .var [I (0 : Int), I (0 : Int), I (0 : Int)])], rfl⟩ ?_
  have hie : i = l.1.2.2.1.length := by omega
  have hlv : ∀ x ∈ lvA l tol i, lvlE x = 0 := fun x hx => by
    obtain ⟨j, _, rfl⟩ := List.mem_map.1 hx; exact (q16_ok (vE_bnd hV.lv)).1
  refine VLt.q rfl (.ld vt30) ?_; refine VLt.c (.move rfl) ?_; refine VLt.callO rfl rfl (VF.call (gKeeping_ok (by show (lvA l tol i).length < _; omega) (by show (isA l tol i).length = (lvA l tol i).length; omega) hlv)) ?_; refine VLt.qo rfl m0 (.inl rfl) (.ldA (dx := ((dvE l tol 0 i), (dvE l tol 1 i), (dvE l tol 2 i))) m0 vt31) ?_; refine VLt.mk0 (MakeV.setF (k := 0) vt30 .v (Nat.le_of_ble_eq_true rfl) (.inr ⟨rfl, rfl⟩) rfl rfl) (TurnV.store rfl (.inl rfl)) ⟨[(ww2, .var [I (0 : Int), I (0 : Int), I (0 : Int)])], rfl⟩ ?_; rintro _ _ ⟨rfl, rfl⟩; refine ⟨⟨[(ww1, .var [St l.1.1, I l.1.2.1, .v y22 (keptL (l.1.1, l.1.2.1, (lvA l tol i), []) (isA l tol i) plusZ (isA l tol i).length), .v y23 (gapsE (isA l tol i) (isA l tol i).length)]), (ww2, .var [I (0 : Int), I (0 : Int), I (0 : Int)])], rfl⟩, ?_⟩; refine VLt.perm swap1 ⟨[(ww2, .var [I (0 : Int), I (0 : Int), I (0 : Int)]), (ww1, .var [St l.1.1, I l.1.2.1, .v y22 (keptL (l.1.1, l.1.2.1, (lvA l tol i), []) (isA l tol i) plusZ (isA l tol i).length), .v y23 (gapsE (isA l tol i) (isA l tol i).length)])], rfl⟩ ?_; refine VLt.mk0 (MakeV.setF (k := 0) vt31 .v (Nat.le_of_ble_eq_true rfl) (.inr ⟨rfl, rfl⟩) rfl rfl) (TurnV.store rfl (.inl rfl)) ⟨[(ww1, .var [St l.1.1, I l.1.2.1, .v y22 (keptL (l.1.1, l.1.2.1, (lvA l tol i), []) (isA l tol i) plusZ (isA l tol i).length), .v y23 (gapsE (isA l tol i) (isA l tol i).length)])], rfl⟩ ?_; rintro _ _ ⟨rfl, rfl⟩; refine ⟨⟨[(ww2, .var [I (dvE l tol 0 i), I (dvE l tol 1 i), I (dvE l tol 2 i)]), (ww1, .var [St l.1.1, I l.1.2.1, .v y22 (keptL (l.1.1, l.1.2.1, (lvA l tol i), []) (isA l tol i) plusZ (isA l tol i).length), .v y23 (gapsE (isA l tol i) (isA l tol i).length)])], rfl⟩, ?_⟩; refine VLt.nws [196] ?_; refine VLt.c (.assign rfl) ?_; refine VLt.go ?_; refine VC.ret ?_; exact VEnd.three rfl (.cell (x := (l.1.1, l.1.2.1, keptL (l.1.1, l.1.2.1, (lvA l tol i), []) (isA l tol i) plusZ (isA l tol i).length, gapsE (isA l tol i) (isA l tol i).length)) rfl m1 vt30 .refl) (.cell (x := ((dvE l tol 0 i), (dvE l tol 1 i), (dvE l tol 2 i))) rfl m0 vt31 .refl) evT (pvE (by rw [hie, lvA_V, isA_V, voteR, if_neg (by rw [hvc]; decide)]; rfl)) (pvE (by rw [hie, voteO, if_neg (by rw [hvc]; decide)])) (pvI (by exact hvc.symm))
end Go.Proofs
namespace Go.Proofs
open Go.Fs Ieee
set_option maxHeartbeats 400000
theorem lvV_lvl {l : Rec3} {tol : Int} {n : Nat} (hV : ∀ k, k < 3 → ∀ x ∈ (rk l k).2.2.1, lvlE x = 0) : ∀ x ∈ lvV l tol n, lvlE x = 0 := fun x hx => by
  obtain ⟨j, _, rfl⟩ := List.mem_map.1 hx; split
  · exact (q16_ok (vE_bnd hV)).1
  decide +kernel
end Go.Proofs
namespace Go.Proofs
open Go.Fs Ieee
set_option maxHeartbeats 400000
theorem in_cons {s : Int × Int} {a : List (Int × Int)} {t : Int} : Sp.inL (s :: a) t = true ↔ (s.1 ≤ t ∧ t < s.2) ∨ Sp.inL a t = true := by
  unfold Sp.inL; simp
theorem in_gt {a : List (Int × Int)} {c t : Int} (h : ∀ x ∈ a, c < x.1) (hi : Sp.inL a t = true) : c < t := by
  obtain ⟨x, hx, h2⟩ := List.any_eq_true.1 hi; simp only [Bool.and_eq_true, decide_eq_true_eq] at h2; have := h x hx; omega
theorem canon_tail {m : Int} {s : Int × Int} {a : List (Int × Int)} (h : Sp.Canon m (s :: a)) : Sp.Canon m a ∧ (s.1 < s.2) ∧ ∀ x ∈ a, s.2 < x.1 :=
  ⟨⟨fun x hx => h.1 x (List.mem_cons_of_mem _ hx), (List.pairwise_cons.1 h.2).2⟩, (h.1 s List.mem_cons_self).2.1, (List.pairwise_cons.1 h.2).1⟩
theorem canon_ext {m : Int} : ∀ {a b : List (Int × Int)}, Sp.Canon m a → Sp.Canon m b → (∀ t : Int, Sp.inL a t = Sp.inL b t) → a = b
  | [], [], _, _, _ => rfl
  | [], u :: b, _, hb, h => by
    have h1 := canon_tail hb; have h2 := in_cons.2 (.inl ⟨Int.le_refl u.1, h1.2.1⟩ : (u.1 ≤ u.1 ∧ u.1 < u.2) ∨ Sp.inL b u.1 = true); rw [← h u.1] at h2
    cases h2
  | s :: a, [], ha, _, h => by
    have h1 := canon_tail ha; have h2 := in_cons.2 (.inl ⟨Int.le_refl s.1, h1.2.1⟩ : (s.1 ≤ s.1 ∧ s.1 < s.2) ∨ Sp.inL a s.1 = true); rw [h s.1] at h2
    cases h2
  | s :: a, u :: b, ha, hb, h => by
    obtain ⟨ca, s0, sa⟩ := canon_tail ha; obtain ⟨cb, u0, ub⟩ := canon_tail hb
    have key : ∀ t, ((s.1 ≤ t ∧ t < s.2) ∨ Sp.inL a t = true) ↔ ((u.1 ≤ t ∧ t < u.2) ∨ Sp.inL b t = true) := fun t => by rw [← in_cons, ← in_cons, h t]
    have e1 : s.1 = u.1 := by
      have k1 := (key s.1).1 (.inl ⟨Int.le_refl _, s0⟩); have k2 := (key u.1).2 (.inl ⟨Int.le_refl _, u0⟩)
      have k1' : u.1 ≤ s.1 := by
        rcases k1 with k1 | k1
        · exact k1.1
        have := in_gt ub k1; omega
      have k2' : s.1 ≤ u.1 := by
        rcases k2 with k2 | k2
        · exact k2.1
        have := in_gt sa k2; omega
      omega
    have e2 : s.2 = u.2 := by
      rcases Int.lt_trichotomy s.2 u.2 with hlt | he | hlt
      · rcases (key s.2).2 (.inl ⟨by omega, hlt⟩) with k | k
        · omega
        have := in_gt sa k; omega
      · exact he
      rcases (key u.2).1 (.inl ⟨by omega, hlt⟩) with k | k
      · omega
      have := in_gt ub k; omega
    have e3 : a = b := canon_ext ca cb fun t => by
      rw [Bool.eq_iff_iff]; constructor
      · intro hi; have := in_gt sa hi; rcases (key t).1 (.inr hi) with k | k
        · omega
        exact k
      intro hi; have := in_gt ub hi; rcases (key t).2 (.inr hi) with k | k
      · omega
      exact k
    rw [e3, show s = u from Prod.ext e1 e2]
theorem last_split {α : Type} {l : List α} (h : 0 < l.length) : l = l.take (l.length - 1) ++ [l[l.length - 1]'(by omega)] := by
  have h2 := List.take_succ_eq_append_getElem (l := l) (i := l.length - 1) (by omega); rw [show l.length - 1 + 1 = l.length by omega, List.take_length] at h2; exact h2
theorem last_set {α : Type} {l : List α} {y : α} (h : 0 < l.length) : l.set (l.length - 1) y = l.take (l.length - 1) ++ [y] := by
  rw [List.set_eq_take_append_cons_drop, if_pos (by omega), List.drop_eq_nil_of_le (by omega)]
theorem gap_cases (out : List (Int × Int)) (i : Nat) : (∃ init x, out = init ++ [x] ∧ x.2 = (i : Int) ∧ gapS out i = init ++ [(x.1, (i : Int) + 1)]) ∨ ((out = [] ∨ ∃ init x, out = init ++ [x] ∧ x.2 ≠ (i : Int)) ∧ gapS out i = out ++ [((i : Int), (i : Int) + 1)]) := by
  by_cases h0 : 0 < out.length
  · have hs := last_split h0; have hx : spX out (out.length - 1) = out[out.length - 1]'(by omega) := spX_eq (by omega); by_cases h1 : (spX out (out.length - 1)).2 = (i : Int)
    · refine .inl ⟨_, _, hs, by rw [← hx]; exact h1, ?_⟩; rw [gapS_1 h0 h1, last_set h0, hx]
    refine .inr ⟨.inr ⟨_, _, hs, by rw [← hx]; exact h1⟩, gapS_2 (fun hh => h1 hh.2)⟩
  have h2 : out = [] := List.length_eq_zero_iff.1 (by omega); exact .inr ⟨.inl h2, gapS_2 (fun hh => h0 hh.1)⟩
theorem gapsE_s {l : List Bool} {i : Nat} : gapsE l (i + 1) = if l.getD i false = true then gapsE l i else gapS (gapsE l i) i := rfl
theorem gaps_canon {l : List Bool} : ∀ i : Nat, Sp.Canon (i : Int) (gapsE l i)
  | 0 => ⟨fun s hs => (by cases hs), List.Pairwise.nil⟩
  | i + 1 => by
    have ih := gaps_canon (l := l) i; rw [gapsE_s]; split
    · exact ⟨fun s hs => by have := ih.1 s hs; omega, ih.2⟩
    rcases gap_cases (gapsE l i) i with ⟨init, x, e1, e2, e3⟩ | ⟨e1, e3⟩
    · rw [e3]; rw [e1] at ih; have hx := ih.1 x (by simp); obtain ⟨p1, _, p3⟩ := List.pairwise_append.1 ih.2; refine ⟨fun s hs => ?_, List.pairwise_append.2 ⟨p1, List.pairwise_singleton _ _, fun s hs u hu => ?_⟩⟩
      · rcases List.mem_append.1 hs with hs | hs
        · have := ih.1 s (List.mem_append_left _ hs); omega
        rw [List.mem_singleton.1 hs]; show 0 ≤ x.1 ∧ x.1 < (i : Int) + 1 ∧ (i : Int) + 1 ≤ ((i + 1 : Nat) : Int); omega
      rw [List.mem_singleton.1 hu]; exact p3 s hs x (List.mem_singleton.2 rfl)
    rw [e3]
    have hlt : ∀ s ∈ gapsE l i, s.2 < (i : Int) := fun s hs => by
      rcases e1 with e1 | ⟨init, x, e1, e2⟩
      · rw [e1] at hs; cases hs
      rw [e1] at hs ih; have hx := ih.1 x (by simp); rcases List.mem_append.1 hs with hs | hs
      · have := (List.pairwise_append.1 ih.2).2.2 s hs x (List.mem_singleton.2 rfl); omega
      rw [List.mem_singleton.1 hs]; omega
    refine ⟨fun s hs => ?_, List.pairwise_append.2 ⟨ih.2, List.pairwise_singleton _ _, fun s hs u hu => ?_⟩⟩
    · rcases List.mem_append.1 hs with hs | hs
      · have := ih.1 s hs; omega
      rw [List.mem_singleton.1 hs]; show 0 ≤ (i : Int) ∧ (i : Int) < (i : Int) + 1 ∧ (i : Int) + 1 ≤ ((i + 1 : Nat) : Int); omega
    rw [List.mem_singleton.1 hu]; exact hlt s hs
theorem gaps_in {l : List Bool} {t : Int} : ∀ i : Nat, (Sp.inL (gapsE l i) t = true ↔ 0 ≤ t ∧ t < (i : Int) ∧ l.getD t.toNat false = false)
  | 0 => ⟨fun h => (by cases h), fun h => by omega⟩
  | i + 1 => by
    have ih := gaps_in (l := l) (t := t) i; have hc := gaps_canon (l := l) i; rw [gapsE_s]; split
    · rename_i hb; rw [ih]; refine ⟨fun h => ⟨h.1, by omega, h.2.2⟩, fun h => ⟨h.1, ?_, h.2.2⟩⟩; by_cases e : t = (i : Int)
      · have := h.2.2; rw [e, Int.toNat_natCast, hb] at this; cases this
      omega
    rename_i hb
    have hb : l.getD i false = false := by simpa using hb
    have hn : (0 ≤ t ∧ t < ((i + 1 : Nat) : Int) ∧ l.getD t.toNat false = false) ↔ ((0 ≤ t ∧ t < (i : Int) ∧ l.getD t.toNat false = false) ∨ t = (i : Int)) := by
      constructor
      · intro h; by_cases e : t = (i : Int)
        · exact .inr e
        exact .inl ⟨h.1, by omega, h.2.2⟩
      intro h; rcases h with h | h
      · exact ⟨h.1, by omega, h.2.2⟩
      refine ⟨by omega, by omega, ?_⟩; rw [h, Int.toNat_natCast]; exact hb
    rw [hn, ← ih]; rcases gap_cases (gapsE l i) i with ⟨init, x, e1, e2, e3⟩ | ⟨e1, e3⟩
    · have hx := hc.1 x (by rw [e1]; simp); rw [e3, e1, Sp.inL_app, Sp.inL_app, Bool.or_eq_true, Bool.or_eq_true, Sp.inL_one, show [x] = [(x.1, x.2)] from rfl, Sp.inL_one]; constructor
      · intro h; rcases h with h | h
        · exact .inl (.inl h)
        by_cases e : t = (i : Int)
        · exact .inr e
        exact .inl (.inr (by omega))
      intro h; rcases h with (h | h) | h
      · exact .inl h
      · exact .inr (by omega)
      exact .inr (by omega)
    rw [e3, Sp.inL_app, Bool.or_eq_true, Sp.inL_one]; constructor
    · intro h; rcases h with h | h
      · exact .inl h
      exact .inr (by omega)
    intro h; rcases h with h | h
    · exact .inl h
    exact .inr (by omega)
theorem offB_getD {n : Nat} {p : Int → Bool} {t : Nat} (h : t < n) : (offB n p).getD t false = !p (t : Int) := by
  rw [getDat (by rw [offB_len]; exact h), offB_at h]
theorem gaps_off {n : Nat} {G : List (Int × Int)} (h : Sp.Canon (n : Int) G) : gapsE (offB n (Sp.inL G)) n = G := by
  refine canon_ext (gaps_canon n) h fun t => ?_; rw [Bool.eq_iff_iff, gaps_in]; constructor
  · intro hh; have h1 := offB_getD (p := Sp.inL G) (show t.toNat < n by omega); rw [hh.2.2, show ((t.toNat : Nat) : Int) = t by omega] at h1; simpa using h1.symm
  intro hh; obtain ⟨x, hx, h2⟩ := List.any_eq_true.1 hh; simp only [Bool.and_eq_true, decide_eq_true_eq] at h2; have h3 := h.1 x hx; refine ⟨by omega, by omega, ?_⟩; rw [offB_getD (show t.toNat < n by omega), show ((t.toNat : Nat) : Int) = t by omega, hh] <;> rfl
theorem rec_canon {r : Rec1} (h : recE r = 0) : Sp.Canon (r.2.2.1.length : Nat) r.2.2.2 ∧ fillB r = false ∧ nameB r.1 = true := by
  have h0 := (rec_ok h).2.2.2.2; unfold recE at h; split at h
  · rename_i h1; exact absurd h h1
  rename_i h1; split at h
  · rename_i h2; exact absurd h h2
  rename_i h2; split at h
  · cases h
  rename_i h3; have h1 := firstE_zero.1 (Classical.not_not.1 h1); have h2 := bodyE_zero.1 (Classical.not_not.1 h2); have h4 := spans_canon h2.2; have h6 := h1 (whenE (!nameB r.1) 8) (by simp); rw [whenE_zero (by decide)] at h6 h; exact ⟨⟨h0, h4.1.2⟩, h, by simpa using h6⟩
theorem rec_gaps {r : Rec1} (h : recE r = 0) : gapsE (thereE r) (thereE r).length = r.2.2.2 := by
  unfold thereE; rw [offB_len]; exact gaps_off (rec_canon h).1
end Go.Proofs
namespace Go.Proofs
open Go.Fs
set_option maxHeartbeats 2000000
def nextX (x : Int) : Int := (742938285 * x).tmod 2147483647
theorem next_ok {x : Int} (h0 : 0 ≤ x) : 0 ≤ nextX x ∧ nextX x < 2147483647 := by
  unfold nextX; rw [Int.tmod_eq_emod_of_nonneg (by omega)]; omega
theorem rangeE_zero {n lo hi : Int} : rangeE n lo hi = 0 ↔ lo ≤ n ∧ n ≤ hi := by
  unfold rangeE; split
  · exact ⟨fun h => absurd h (by decide), fun h => by omega⟩
  exact ⟨fun _ => by omega, fun _ => rfl⟩
end Go.Proofs
namespace Go.Proofs
open Go.Fs
set_option maxHeartbeats 2000000
theorem rSameI_ok {a : List Int} {b : List Int} (ha : a.length < 1000000) (hb : b.length < 1000000) : VF Tryz.prog OA 15 [.v y42 a, .v y42 b] (B (decide (a = b))) := by
  refine VF.enter Tryz.func15 rfl (fun _ _ => rfl) rfl ?_; show VC _ _ _ _ _ [(0, .v y42 a), (1, .v y42 b)] [] _; refine VC.seq (VC.text ?_); refine VO.c (.assign rfl) ?_; refine VO.go (VC.seq (VC.seq (VC.text ?_))); refine VO.c (.move rfl) ?_; refine VO.r (.len el42) ?_; refine VO.c (.move rfl) ?_; refine VO.r (.len el42) ?_; refine VO.c (.neq) (VO.go ?_); refine VC.condD rfl (fun c1 => ?_) (fun c1 => ?_)
  · refine VC.seq (VC.text ?_); refine VO.c (.assign rfl) (VO.go ?_); refine VC.ret ?_; exact VEnd.one rfl evT (pvE (by exact (decide_eq_false (fun e => c1 (by rw [e]))).symm))
  refine VC.skip (VC.seq (VC.seq (VC.text ?_))); refine VO.c (.assign rfl) ?_; refine VO.go (VC.block ?_); refine VC.keep [(0, .v y42 a), (1, .v y42 b), (5, I ((0 : Nat) : Int))] ⟨rfl, rfl, rfl, trivial⟩ ?_; refine VC.loop (I := fun kk ff ss => ∃ (j : Nat), kk = a.length - j ∧ ff = [(0, .v y42 a), (1, .v y42 b), (5, I ((j : Nat) : Int))] ∧ ss = [] ∧ (j ≤ a.length) ∧ (a.length = b.length) ∧ (∀ k (h : k < a.length) (h2 : k < b.length), k < j → a[k] = b[k])) ?_ _ _ _ ⟨0, rfl, rfl, rfl, Nat.zero_le _, (by omega), (by exact fun k _ _ h => absurd h (by omega))⟩; rintro kk ff ss ⟨j, hk0, rfl, rfl, hj, hl, hi⟩; refine VC.seq (VC.seq (VC.text ?_)); refine VO.c (.move rfl) (VO.c (.move rfl) ?_); refine VO.r (.len el42) ?_; refine VO.c (.lss) (VO.go ?_); refine VC.condD rfl (fun c4 => ?_) (fun c4 => ?_)
  · refine VC.skip (VC.seq (VC.block (VC.seq (VC.drawn ?_)))); refine VD.c (.move rfl) (VD.c (.move rfl) (VD.c (.ix (j := j) rfl rfl el42 (by omega)) ?_)); refine VD.r [] (.ld vt3) (.inl rfl) ?_; refine VD.c (.move rfl) (VD.c (.move rfl) (VD.nw [] (VD.c (.ix (j := j) rfl rfl el42 (by omega)) ?_))); refine VD.r [] (.ld vt3) (.inl rfl) ?_; refine VD.c (.neq) (VD.go ?_); refine VC.condD rfl (fun c6 => ?_) (fun c6 => ?_)
    · refine VC.seq (VC.text ?_); refine VO.c (.assign rfl) (VO.go ?_); refine VC.ret ?_; exact VEnd.one rfl evT (pvE (by exact (decide_eq_false (fun h => c6 (List.getElem_of_eq h _))).symm))
    refine VC.skip (VC.text ?_); refine VO.c (.move rfl) (VO.c (.add rfl rfl (by omega)) (VO.c (.assign rfl) ?_)); refine VO.nil ?_; refine ⟨_, [(0, .v y42 a), (1, .v y42 b), (5, I (((j + 1) : Nat) : Int))], ?_, ⟨rfl, rfl, rfl, trivial⟩, (j + 1), rfl, rfl, rfl, (by omega), (by omega), (by exact fun k h h2 h3 => if e : k = j then (by subst e; exact Classical.not_not.1 c6) else hi k h h2 (by omega))⟩; omega
  refine VC.exit (VC.seq (VC.text ?_)); refine VO.c (.assign rfl) (VO.go ?_); refine VC.ret ?_; exact VEnd.one rfl evT (pvE (by exact (decide_eq_true (List.ext_getElem hl (fun k h h2 => hi k h h2 (by omega)))).symm))
end Go.Proofs
namespace Go.Proofs
open Go.Fs Ieee
set_option maxHeartbeats 400000
def SgOk (g : Nat) : Prop := g = 1065353216 ∨ g = 3212836864
def sgE (g : Nat) : Int := if g = 3212836864 then -1 else 1
theorem u32_one : u32 1065353216 = some 713623846352979940529142984724747568191373312 := by decide +kernel
theorem u32_neg : u32 3212836864 = some (-713623846352979940529142984724747568191373312) := by decide +kernel
theorem u32_sg {g : Nat} (h : SgOk g) : u32 g = some (sgE g * 713623846352979940529142984724747568191373312) := by
  rcases h with rfl | rfl
  · rw [u32_one] <;> rfl
  rw [u32_neg] <;> rfl
def svE (g x : Nat) : Int := sgE g * sxE x
def mulR (g x : Nat) : Nat := (single.mul x g).getD 0
theorem rep_sv {g x : Nat} (h : SgOk g) (hx : lvlE x = 0) : single.Rep (svE g x * 44601490397061246283071436545296723011960832).natAbs := by
  obtain ⟨h1, h2, h3⟩ := lvl_ok hx
  have hs : (svE g x).natAbs = (sxE x).natAbs := by
    unfold svE sgE; split
    · rw [Int.neg_one_mul, Int.natAbs_neg]
    rw [Int.one_mul]
  rw [Int.natAbs_mul, hs]; exact rep_small (n := (sxE x).natAbs) (j := 145) (by show _ < 2 ^ (23 + 1); omega) (by decide)
theorem mulR_ok {g x : Nat} (h : SgOk g) (hx : lvlE x = 0) : single.mul x g = some (mulR g x) ∧ u32 (mulR g x) = some (svE g x * 44601490397061246283071436545296723011960832) := by
  obtain ⟨r, hr, hr2⟩ := Format.mul_exact (r := svE g x * 44601490397061246283071436545296723011960832) (lvl_ok hx).1 (u32_sg h) (by decide) (by
    rw [m149]; unfold svE; generalize sxE x = a; generalize sgE g = b
    rw [Int.mul_assoc b a, Int.mul_comm b (a * _), Int.mul_assoc (a * _) b]; rfl) (rep_sv h hx) sng_good
  have e : mulR g x = r := by rw [mulR, hr] <;> rfl
  rw [e]; exact ⟨hr, hr2⟩
theorem ge_R {g x y : Nat} (h : SgOk g) (hx : lvlE x = 0) (hy : lvlE y = 0) : fcmpE .geq .f32 (mulR g y) (mulR g x) = decide (svE g x ≤ svE g y) := by
  rw [(fcmp32 (mulR_ok h hy).2 (mulR_ok h hx).2).2.2.2.2.2]; exact decide_eq_decide.2 ⟨fun h => by omega, fun h => by omega⟩
theorem gt_R {g x y : Nat} (h : SgOk g) (hx : lvlE x = 0) (hy : lvlE y = 0) : fcmpE .gtr .f32 (mulR g y) (mulR g x) = decide (svE g x < svE g y) := by
  rw [(fcmp32 (mulR_ok h hy).2 (mulR_ok h hx).2).2.2.2.2.1]; exact decide_eq_decide.2 ⟨fun h => by omega, fun h => by omega⟩
def levE (r : Rec1) (i : Nat) : Nat := r.2.2.1.getD i 0
theorem levE_at {r : Rec1} {i : Nat} (h : i < r.2.2.1.length) : levE r i = r.2.2.1[i] := getDat h
def nearE (r : Rec1) (w : Int) (g i k : Nat) : Bool := (decide ((k : Int) < i) && decide ((i : Int) - w ≤ k) && decide (svE g (levE r i) ≤ svE g (levE r k))) || (decide ((i : Int) < k) && decide ((k : Int) ≤ i + w) && decide (svE g (levE r i) < svE g (levE r k)))
theorem nearE_at {r : Rec1} {w : Int} {g i k : Nat} (hi : i < r.2.2.1.length) (hk : k < r.2.2.1.length) : nearE r w g i k = ((decide ((k : Int) < i) && decide ((i : Int) - w ≤ k) && decide (svE g r.2.2.1[i] ≤ svE g r.2.2.1[k])) || (decide ((i : Int) < k) && decide ((k : Int) ≤ i + w) && decide (svE g r.2.2.1[i] < svE g r.2.2.1[k]))) := by
  unfold nearE; rw [levE_at hi, levE_at hk]
def beatE (r : Rec1) (w : Int) (g i k : Nat) : Bool := recB r k && nearE r w g i k
def waterE (r : Rec1) (w : Int) (g i : Nat) : Bool := recB r i && !(List.range r.2.2.1.length).any (beatE r w g i)
theorem water_t {r : Rec1} {w : Int} {g i k : Nat} (hk : k < r.2.2.1.length) (h : beatE r w g i k = true) : waterE r w g i = false := by
  unfold waterE; rw [List.any_eq_true.2 ⟨k, List.mem_range.2 hk, h⟩]; simp
theorem water_f {r : Rec1} {w : Int} {g i : Nat} (h0 : recB r i = true) (h : ∀ k, k < r.2.2.1.length → beatE r w g i k = false) : waterE r w g i = true := by
  unfold waterE; rw [h0, List.any_eq_false.2 fun k hk => by rw [h k (List.mem_range.1 hk)]; exact Bool.false_ne_true] <;> rfl
def watL (r : Rec1) (w : Int) (g : Nat) : Nat → List Int
  | 0 => []
  | i + 1 => if waterE r w g i = true then watL r w g i ++ [(i : Int)] else watL r w g i
theorem watL_len {r : Rec1} {w : Int} {g : Nat} : ∀ i, (watL r w g i).length ≤ i
  | 0 => Nat.le_refl _
  | i + 1 => by
    have := watL_len (r := r) (w := w) (g := g) i; unfold watL; split
    · rw [List.length_append, List.length_singleton]; omega
    omega
theorem watL_t {r : Rec1} {w : Int} {g i : Nat} (h : waterE r w g i = true) : watL r w g (i + 1) = watL r w g i ++ [(i : Int)] := by rw [watL, if_pos h]
theorem watL_f {r : Rec1} {w : Int} {g i : Nat} (h : waterE r w g i = false) : watL r w g (i + 1) = watL r w g i := by rw [watL, if_neg (by rw [h]; exact Bool.false_ne_true)]
end Go.Proofs
namespace Go.Proofs
open Go.Fs Ieee
set_option maxHeartbeats 400000
def recL (r : Rec1) (i : Nat) : List (Int × Nat) := (List.range' i (r.2.2.1.length - i)).filterMap fun (k : Nat) => if recB r k = true then some ((k : Int), levE r k) else none
theorem recL_end {r : Rec1} {i : Nat} (h : r.2.2.1.length ≤ i) : recL r i = [] := by
  unfold recL; rw [show r.2.2.1.length - i = 0 by omega] <;> rfl
theorem recL_s {r : Rec1} {i : Nat} (h : i < r.2.2.1.length) : recL r i = if recB r i = true then ((i : Int), levE r i) :: recL r (i + 1) else recL r (i + 1) := by
  unfold recL; rw [show r.2.2.1.length - i = (r.2.2.1.length - (i + 1)) + 1 by omega, List.range'_succ, List.filterMap_cons]; by_cases hb : recB r i = true
  · rw [if_pos hb, if_pos hb]
  rw [if_neg hb, if_neg hb]
theorem thereE_at {r : Rec1} {i : Nat} (h : i < r.2.2.1.length) (h2 : i < (thereE r).length) : (thereE r)[i] = recB r i := by
  rw [recB_in h]; exact offB_at h
theorem thereE_len {r : Rec1} : (thereE r).length = r.2.2.1.length := offB_len
theorem gRecd1_ok {r : ByteArray × Int × (List Nat) × (List (Int × Int))} (hl : r.2.2.1.length ≤ 4096) (hgl : r.2.2.2.length < 1000000) (hsp : ∀ s ∈ r.2.2.2, 0 ≤ s.1 ∧ s.1 < s.2 ∧ s.2 ≤ (r.2.2.1.length : Nat)) : IterC Tryz.prog OA 83 [] [.p y30 r] (fun x : Int × Nat => [I x.1, .v (.flt .f32) x.2]) (recL r 0) := by
  refine IterC.enter Tryz.func83 rfl rfl (fun _ => rfl) fun yv II EE γ hy hI => ?_; show VC _ _ _ _ _ [(0, .raw yv), (1, .p y30 r)] γ _; refine VC.seq (VC.text ?_); refine VO.r (.ld vt30) ?_; refine VO.call rfl rfl (VF.call (gThere_ok hl hgl hsp)) ?_; refine VO.r (.len el70) ?_; refine VO.c (.move rfl) ?_; refine VO.go (VC.block ?_); refine VC.keep [(0, .raw yv), (1, .p y30 r), (6, .v (.sl .bool) (thereE r)), (7, I (((thereE r).length : Nat) : Int)), (8, I ((0 : Nat) : Int))] ⟨rfl, rfl, rfl, rfl, rfl, trivial⟩ ?_; refine VC.loop (I := fun kk ff ss => ∃ (i : Nat), kk = (thereE r).length - i ∧ ff = [(0, .raw yv), (1, .p y30 r), (6, .v (.sl .bool) (thereE r)), (7, I (((thereE r).length : Nat) : Int)), (8, I ((i : Nat) : Int))] ∧ (i ≤ (thereE r).length) ∧ II (recL r i) ss) ?_ _ _ _ ⟨0, rfl, rfl, (by omega), (by exact hI)⟩; rintro kk ff ss ⟨i, hk0, rfl, hi, hI⟩; refine VC.seq (VC.text ?_); refine VO.c (.lss) ?_; refine VO.go (VC.seq ?_); refine VC.condD rfl (fun c1 => ?_) (fun c1 => ?_)
  · have hi' : i < (thereE r).length := by omega
    have htl := thereE_len (r := r)
    have hil : i < r.2.2.1.length := by omega
    have hth := thereE_at hil hi'; have hlv := levE_at hil; refine VC.skip (VC.seq (VC.block (VC.seq (VC.text ?_)))); refine VO.c (.move rfl) (VO.c (.ix (j := i) rfl rfl el70 (by omega)) ?_); refine VO.r (.ld vt4) ?_; refine VO.c (.assign rfl) (VO.c (.assign rfl) ?_); refine VO.go (VC.seq (VC.text ?_)); refine VO.c (.move rfl) (VO.c (.move rfl) ?_); refine VO.splitB (x := 14) rfl (fun g3_1 => ?_) (fun g3_1 => ?_)
    · refine VO.c (.move rfl) (VO.c (.move rfl) (VO.c (.fa (.r (.r (.l .o)))) ?_)); refine VO.r (.ld vt22) ?_; refine VO.c (.move rfl) (VO.c (.ix (j := i) rfl rfl el22 (by omega)) ?_); refine VO.r (.ld vt39) ?_; refine VO.callY0 rfl rfl (hy (((i : Nat) : Int), r.2.2.1[i]) (recL r (i + 1)) _ (by rw [recL_s hil, if_pos (by rw [← hth]; exact g3_1), hlv] at hI; exact hI)) ?_; rintro _ ss (⟨rfl, hI⟩ | ⟨rfl, hE⟩)
      · refine VO.c (.not) (VO.c (.pickT rfl rfl) (VO.go ?_)); refine VC.condF rfl ?_; refine VC.skip (VC.text ?_); refine VO.c (.add rfl rfl (by omega)) (VO.c (.move rfl) ?_); refine VO.nil ?_; refine ⟨_, [(0, .raw yv), (1, .p y30 r), (6, .v (.sl .bool) (thereE r)), (7, I (((thereE r).length : Nat) : Int)), (8, I (((i + 1) : Nat) : Int))], ?_, ⟨rfl, rfl, rfl, rfl, rfl, trivial⟩, (i + 1), rfl, rfl, (by omega), (by first | exact hI | (rw [recL_s hil, if_neg (by rw [← hth, g3_1]; exact Bool.false_ne_true)] at hI; exact hI))⟩; omega
      refine VO.c (.not) (VO.c (.pickT rfl rfl) (VO.go ?_)); refine VC.condT rfl ?_; refine VC.ret ?_; exact ⟨rfl, .inr hE⟩
    refine VO.skip (VO.skip (VO.skip (VO.skip ?_))); refine VO.skip (VO.skip (VO.skip (VO.skip ?_))); refine VO.skip (VO.c (.pickF rfl rfl) (VO.go ?_)); refine VC.condF rfl ?_; refine VC.skip (VC.text ?_); refine VO.c (.add rfl rfl (by omega)) (VO.c (.move rfl) ?_); refine VO.nil ?_; refine ⟨_, [(0, .raw yv), (1, .p y30 r), (6, .v (.sl .bool) (thereE r)), (7, I (((thereE r).length : Nat) : Int)), (8, I (((i + 1) : Nat) : Int))], ?_, ⟨rfl, rfl, rfl, rfl, rfl, trivial⟩, (i + 1), rfl, rfl, (by omega), (by first | exact hI | (rw [recL_s hil, if_neg (by rw [← hth, g3_1]; exact Bool.false_ne_true)] at hI; exact hI))⟩; omega
  refine VC.exit ?_; exact ⟨rfl, .inl (by rw [recL_end (by have := thereE_len (r := r); omega)] at hI; exact hI)⟩
theorem gRecd_ok {r : ByteArray × Int × (List Nat) × (List (Int × Int))} : VF Tryz.prog OA 59 [.v y30 r] (.clo 83 [] [.p y30 r]) := by
  refine VF.enter Tryz.func59 rfl (fun _ _ => rfl) rfl ?_; show VC _ _ _ _ _ [(0, .v y30 r)] [] _; refine VC.seq (VC.text ?_); refine VO.new (.box) ?_; refine VO.c (.assign rfl) ?_; refine VO.go (VC.seq (VC.text ?_)); refine VO.c (.func) (VO.c (.assign rfl) (VO.go ?_)); refine VC.ret ?_; exact VEnd.one rfl evT rfl
theorem recL_mem {r : Rec1} : ∀ {n i : Nat}, n = r.2.2.1.length - i → ∀ y ∈ recL r i, ∃ k : Nat, i ≤ k ∧ k < r.2.2.1.length ∧ recB r k = true ∧ y = ((k : Int), levE r k)
  | 0, i, hn, y, hy => by rw [recL_end (by omega)] at hy; cases hy
  | n + 1, i, hn, y, hy => by
    rw [recL_s (by omega)] at hy; by_cases hb : recB r i = true
    · rw [if_pos hb] at hy; rcases List.mem_cons.1 hy with rfl | hy
      · exact ⟨i, Nat.le_refl _, by omega, hb, rfl⟩
      obtain ⟨k, h1, h2, h3, h4⟩ := recL_mem (n := n) (by omega) y hy; exact ⟨k, by omega, h2, h3, h4⟩
    rw [if_neg hb] at hy; obtain ⟨k, h1, h2, h3, h4⟩ := recL_mem (n := n) (by omega) y hy; exact ⟨k, by omega, h2, h3, h4⟩
theorem recL_len {r : Rec1} : ∀ {n i : Nat}, n = r.2.2.1.length - i → (recL r i).length ≤ n
  | 0, i, hn => by rw [recL_end (by omega)]; exact Nat.le_refl _
  | n + 1, i, hn => by
    have := recL_len (r := r) (n := n) (i := i + 1) (by omega); rw [recL_s (by omega)]; split
    · rw [List.length_cons]; omega
    omega
end Go.Proofs
namespace Go.Proofs
open Go.Fs Ieee
set_option maxHeartbeats 400000
theorem vt42 : ValT Tryz.prog 42 y42 := valT_of (by kernel_rfl)
theorem vt70 : ValT Tryz.prog 70 (.sl .bool) := valT_of (by kernel_rfl)
theorem zt42 : ZerT Tryz.prog 42 y42 := zerT_of (z := .slice none 0 0) (by kernel_rfl) rfl rfl
theorem zt70 : ZerT Tryz.prog 70 (.sl .bool) := zerT_of (z := .slice none 0 0) (by kernel_rfl) rfl rfl
def hiE (r : Rec1) (w : Int) (g i : Nat) (k0 : Int) : Nat → Bool
  | 0 => true
  | k + 1 => if k0 ≤ (k : Int) ∧ beatE r w g i k = true then false else hiE r w g i k0 k
theorem hiE_0 {r : Rec1} {w : Int} {g i : Nat} {k0 : Int} : ∀ k : Nat, (k : Int) ≤ k0 → hiE r w g i k0 k = true
  | 0, _ => rfl
  | k + 1, h => by
    unfold hiE; rw [if_neg (fun hh => by have := hh.1; omega)]; exact hiE_0 k (by omega)
theorem hiE_t {r : Rec1} {w : Int} {g i : Nat} {k0 : Int} {k : Nat} (h : k0 ≤ (k : Int)) (hb : beatE r w g i k = true) : hiE r w g i k0 (k + 1) = false := by unfold hiE; rw [if_pos ⟨h, hb⟩]
theorem hiE_f {r : Rec1} {w : Int} {g i : Nat} {k0 : Int} {k : Nat} (hb : beatE r w g i k = false) : hiE r w g i k0 (k + 1) = hiE r w g i k0 k := by
  show (if _ then _ else _) = _; rw [if_neg (fun hh => by rw [hb] at hh; exact Bool.false_ne_true hh.2)]
theorem hiE_all {r : Rec1} {w : Int} {g i : Nat} {k0 : Int} : ∀ k : Nat, (hiE r w g i k0 k = true ↔ ∀ j : Nat, k0 ≤ (j : Int) → j < k → beatE r w g i j = false)
  | 0 => ⟨fun _ j _ h => absurd h (by omega), fun _ => rfl⟩
  | k + 1 => by
    unfold hiE; by_cases hc : k0 ≤ (k : Int) ∧ beatE r w g i k = true
    · rw [if_pos hc]; exact ⟨fun h => (by cases h), fun h => (by have := h k hc.1 (by omega); rw [hc.2] at this; cases this)⟩
    rw [if_neg hc, hiE_all k]; refine ⟨fun h j h1 h2 => ?_, fun h j h1 h2 => h j h1 (by omega)⟩; by_cases e : j = k
    · subst e
      cases hb : beatE r w g i j with
      | false => rfl
      | true => exact absurd ⟨h1, hb⟩ hc
    exact h j h1 (by omega)
theorem hi_water {r : Rec1} {w : Int} {g i k : Nat} (hw : 0 ≤ w) (hi : i < r.2.2.1.length) (hr : recB r i = true) (hk : (k : Int) = min (r.2.2.1.length : Int) ((i : Int) + w + 1)) : hiE r w g i (max 0 ((i : Int) - w)) k = waterE r w g i := by
  have hfar : ∀ j : Nat, j < r.2.2.1.length → ¬ (max 0 ((i : Int) - w) ≤ (j : Int) ∧ j < k) → beatE r w g i j = false := fun j hj hn => by
    unfold beatE nearE; rw [Bool.and_eq_false_iff]; refine .inr ?_; rw [Bool.eq_false_iff]; simp only [ne_eq, Bool.or_eq_true, Bool.and_eq_true, decide_eq_true_eq]; omega
  cases hh : hiE r w g i (max 0 ((i : Int) - w)) k with
  | true =>
    have h1 := (hiE_all k).1 hh
    exact (water_f hr fun j hj => if hc : max 0 ((i : Int) - w) ≤ (j : Int) ∧ j < k then h1 j hc.1 hc.2 else hfar j hj hc).symm
  | false =>
    cases hw2 : waterE r w g i with
    | false => rfl
    | true =>
      have : hiE r w g i (max 0 ((i : Int) - w)) k = true := (hiE_all k).2 fun j h1 h2 => by
        cases hb : beatE r w g i j with
        | false => rfl
        | true => rw [water_t (show j < r.2.2.1.length by omega) hb] at hw2; cases hw2
      rw [hh] at this; cases this
def wtS (r : Rec1) (w : Int) (g : Nat) (gs : List Int) (x : Int × Nat) : List Int := if waterE r w g x.1.toNat = true then gs ++ [x.1] else gs
theorem wtS_len {r : Rec1} {w : Int} {g : Nat} (gs : List Int) (x : Int × Nat) : (wtS r w g gs x).length ≤ gs.length + 1 := by
  unfold wtS; split
  · rw [List.length_append, List.length_singleton]; omega
  omega
theorem wt_fold {r : Rec1} {w : Int} {g : Nat} : ∀ {n i : Nat}, n = r.2.2.1.length - i → i ≤ r.2.2.1.length → (recL r i).foldl (wtS r w g) (watL r w g i) = watL r w g r.2.2.1.length
  | 0, i, hn, hi => by rw [recL_end (by omega), show i = r.2.2.1.length by omega] <;> rfl
  | n + 1, i, hn, hi => by
    have ih := wt_fold (r := r) (w := w) (g := g) (n := n) (i := i + 1) (by omega) (by omega); rw [recL_s (by omega)]; by_cases hb : recB r i = true
    · rw [if_pos hb, List.foldl_cons]
      cases hc : waterE r w g i with
      | true =>
        rw [show wtS r w g (watL r w g i) ((i : Int), levE r i) = watL r w g (i + 1) by rw [watL_t hc]; exact if_pos hc]; exact ih
      | false =>
        rw [show wtS r w g (watL r w g i) ((i : Int), levE r i) = watL r w g (i + 1) by rw [watL_f hc]; exact if_neg (by show ¬ waterE r w g i = true; rw [hc]; exact Bool.false_ne_true)]; exact ih
    rw [if_neg hb]
    have hc : waterE r w g i = false := by unfold waterE; rw [show recB r i = false by simpa using hb] <;> rfl
    rw [← watL_f hc]; exact ih
def wtrC (r : Rec1) (w : Int) : Int := firstE [recE r, rangeE w 1 4096]
def wtrE (r : Rec1) (w : Int) (g : Nat) : List Int := if wtrC r w ≠ 0 then [] else watL r w g r.2.2.1.length
theorem range14 {w : Int} (h : rangeE w 1 4096 = 0) : 1 ≤ w ∧ w ≤ 4096 := by
  unfold rangeE at h; split at h
  · cases h
  omega
theorem gWaters_ok {r : ByteArray × Int × (List Nat) × (List (Int × Int))} {w : Int} {g : Nat} (hl : r.2.2.1.length < 1000000) (hgl : r.2.2.2.length < 1000000) (hg : SgOk g) : VF Tryz.prog OA 34 [.v y30 r, I w, .v (.flt .f32) g] (.tup [.v y42 (wtrE r w g), I (wtrC r w)]) := by
  refine VF.enter Tryz.func34 rfl (fun _ _ => rfl) rfl ?_; show VC _ _ _ _ _ [(0, .v y30 r), (1, I w), (2, .v (.flt .f32) g)] [] _; refine VC.seq (VC.text ?_); refine VO.new (.box) ?_; refine VO.new (.box) ?_; refine VO.new (.box) ?_; refine VO.c (.assign rfl) (VO.c (.assign rfl) ?_); refine VO.go (VC.seq (VC.seq (VC.drawn ?_))); refine VD.r [] (.ld vt30) (.inl rfl) ?_; refine VD.call rfl rfl (VF.call (gRec_ok (by first | assumption | omega | simp) (by first | assumption | omega | simp))) ?_; refine VD.r [] (.ld vt3) (.inl rfl) ?_; refine VD.call rfl rfl (VF.call (gWithin_ok )) ?_; refine VD.new (.lit [recE r, rangeE w (1 : Int) (4096 : Int)] el65) ?_; refine VD.callO rfl rfl (VF.call (gFirst_ok (by first | assumption | omega | simp))) ?_; refine VD.nw [20] (VD.c (.assign rfl) ?_); refine VD.go (VC.seq (VC.text ?_)); refine VO.c (.move rfl) (VO.c (.neq) (VO.go ?_)); refine VC.condD rfl (fun c2 => ?_) (fun c2 => ?_)
  · refine VC.seq (VC.text ?_); refine VO.c (.move rfl) (VO.c (.assign rfl) (VO.c (.assign rfl) (VO.go ?_))); refine VC.ret ?_; exact VEnd.two rfl (evC .nil) evT (pvE (by rw [wtrE, wtrC, if_pos c2])) (pvI (by rfl))
  have hz := firstE_zero.1 (Classical.not_not.1 c2); have hra := rec_ok (hz (recE r) (by simp)); have hw := range14 (hz (rangeE w 1 4096) (by simp)); have hrl := recL_len (r := r) (i := 0) rfl; have htl := thereE_len (r := r); refine VC.skip (VC.seq (VC.text ?_)); refine VO.r (.ld vt30) ?_; refine VO.call rfl rfl (VF.call (gThere_ok (show r.2.2.1.length ≤ 4096 from hra.2.1) hgl hra.2.2.2.2)) ?_; refine VO.cell (.alloc zt70) ?_; intro ww1; refine VO.setV (cs' := [.v (.sl .bool) (thereE r)]) vt70 .v ?_; refine VO.shut [(9, .p (.sl .bool) (thereE r))] (.cons rfl (.var m0 .refl) .nil) ?_; refine VO.go (VC.seq (VC.text ?_)); refine VO.cell (.alloc0 zt42) ?_; intro ww2; refine VO.go (VC.seq (VC.seq ?_)); refine VC.nilRow 3 (.int .i64) ?_; refine VC.text ?_; refine VO.r (.ld vt30) ?_; refine VO.call rfl rfl (VF.call (gRecd_ok )) ?_; refine VO.go (VC.block ?_); refine VC.keep [(3, .p y30 r), (4, .p (.int .i64) w), (5, .p (.flt .f32) g), (9, .p (.sl .bool) (thereE r)), (10, .raw ww2), (28, .clo 83 [] [.p y30 r])] ⟨rfl, rfl, rfl, rfl, rfl, rfl, trivial⟩ ?_; refine VC.rangeFunc rfl (gRecd1_ok (show r.2.2.1.length ≤ 4096 from hra.2.1) hgl hra.2.2.2.2) (fun _ => rfl) rfl rfl (fun rest ss => ∃ (gs : List Int), ∃ (wg : Value), ss = [(wg, .row 3 (.int .i64) gs), (ww2, .var [.raw wg])] ∧ (rest.foldl (wtS r w g) gs = (recL r 0).foldl (wtS r w g) []) ∧ (∀ y ∈ rest, ∃ k : Nat, 0 ≤ k ∧ k < r.2.2.1.length ∧ recB r k = true ∧ y = ((k : Int), levE r k)) ∧ (gs.length + rest.length ≤ 4096)) (fun ee ss => False) ⟨[], (.slice none 0 0), rfl, (by rfl), (by exact recL_mem rfl), (by (have := hra.2.1; simp; omega))⟩ ?_ ?_ ?_
  · rintro jj x rest _ ⟨gs, wg, rfl, hgf, hm, hgn⟩; show VC _ _ _ _ _ [(30, .v (.flt .f32) x.2), (29, I x.1), (3, .p y30 r), (4, .p (.int .i64) w), (5, .p (.flt .f32) g), (9, .p (.sl .bool) (thereE r)), (10, .raw ww2), (28, .clo 83 [] [.p y30 r])] [(wg, .row 3 (.int .i64) gs), (ww2, .var [.raw wg])] _; refine VC.seq (VC.text ?_); obtain ⟨i, -, hin, hri, hxe⟩ := hm x List.mem_cons_self
    have hx1 : x.1 = (i : Int) := by rw [hxe]
    have hx2 : x.2 = r.2.2.1[i] := by rw [hxe]; exact levE_at hin
    have hxl : lvlE x.2 = 0 := by rw [hx2]; exact hra.2.2.2.1 _ (List.getElem_mem hin)
    have hgn2 := hgn; rw [List.length_cons] at hgn2; refine VO.c (.assign rfl) ?_; refine VO.go (VC.text ?_); refine VO.c (.assign rfl) ?_; refine VO.nil ?_; refine ⟨rfl, ?_⟩; refine VC.block (VC.seq (VC.text ?_)); refine VO.c (.assign rfl) ?_; refine VO.go (VC.seq (VC.seq (VC.text ?_))); refine VO.c (.move rfl) ?_; refine VO.r (.ld vt3) ?_; refine VO.c (.sub rfl rfl (by omega)) ?_; refine VO.r (.max) ?_; refine VO.c (.assign rfl) ?_; refine VO.go (VC.block ?_); refine VC.keep [(3, .p y30 r), (4, .p (.int .i64) w), (5, .p (.flt .f32) g), (9, .p (.sl .bool) (thereE r)), (10, .raw ww2), (11, I x.1), (12, .v (.flt .f32) x.2), (13, B (hiE r w g i (max 0 ((i : Int) - w)) ((max 0 (x.1 - w)).toNat))), (14, I ((((max 0 (x.1 - w)).toNat) : Nat) : Int))] ⟨rfl, rfl, rfl, rfl, rfl, rfl, rfl, slE rfl (by exact (hiE_0 _ (by omega)).symm), slI rfl (by omega), trivial⟩ ?_; refine VC.loop (I := fun kk ff ss => ∃ (k : Nat), kk = 5000 - k ∧ ff = [(3, .p y30 r), (4, .p (.int .i64) w), (5, .p (.flt .f32) g), (9, .p (.sl .bool) (thereE r)), (10, .raw ww2), (11, I x.1), (12, .v (.flt .f32) x.2), (13, B (hiE r w g i (max 0 ((i : Int) - w)) k)), (14, I ((k : Nat) : Int))] ∧ ss = [(wg, .row 3 (.int .i64) gs), (ww2, .var [.raw wg])] ∧ (max 0 ((i : Int) - w) ≤ (k : Int)) ∧ ((k : Int) ≤ min (r.2.2.1.length : Int) ((i : Int) + w + 1))) ?_ _ _ _ ⟨(max 0 (x.1 - w)).toNat, rfl, rfl, rfl, (by omega), (by omega)⟩; rintro kk ff ss ⟨k, hk2, rfl, rfl, hk0, hk1⟩; refine VC.seq (VC.seq (VC.text ?_)); refine VO.c (.move rfl) ?_; refine VO.r (.ld vt70) ?_; refine VO.r (.len el70) ?_; refine VO.c (.move rfl) ?_; refine VO.r (.ld vt3) ?_; refine VO.c (.add rfl rfl (by omega)) (VO.c (.add rfl rfl (by omega)) ?_); refine VO.r (.min) ?_; refine VO.c (.lss) (VO.go ?_); refine VC.condD rfl (fun c11 => ?_) (fun c11 => ?_)
    · have hkl : k < r.2.2.1.length := by omega
      have hvk := hra.2.2.2.1 _ (List.getElem_mem hkl); have hth := thereE_at hkl (show k < (thereE r).length by omega); refine VC.skip (VC.seq (VC.block (VC.seq (VC.drawn ?_)))); refine VD.c (.fa (.r (.r (.l .o)))) ?_; refine VD.r [] (.ld vt22) (.inl rfl) ?_; refine VD.c (.move rfl) (VD.c (.ix (j := k) rfl rfl el22 (by omega)) ?_); refine VD.r [] (.ld vt39) (.inl rfl) ?_; refine VD.r [] (.ld vt39) (.inl rfl) ?_; refine VD.nw [] (VD.c (.fop (mul32E (mulR_ok hg hvk).1)) (VD.c (.assign rfl) ?_)); refine VD.go (VC.seq ?_); refine VC.join [(3, .p y30 r), (4, .p (.int .i64) w), (5, .p (.flt .f32) g), (9, .p (.sl .bool) (thereE r)), (10, .raw ww2), (11, I x.1), (12, .v (.flt .f32) x.2), (13, B (hiE r w g i (max 0 ((i : Int) - w)) k)), (14, I ((k : Nat) : Int)), (80, B (beatE r w g i k))] [(wg, .row 3 (.int .i64) gs), (ww2, .var [.raw wg])] ?_ ?_
      · skip
        refine VC.text ?_; refine VO.r (.ld vt70) ?_; refine VO.c (.move rfl) (VO.c (.ix (j := k) rfl rfl el70 (by omega)) ?_); refine VO.r (.ld vt4) ?_; refine VO.c (.move rfl) ?_; refine VO.splitB (x := 57) rfl (fun g14_4 => ?_) (fun g14_4 => ?_)
        · refine VO.c (.move rfl) (VO.c (.move rfl) (VO.c (.lss) (VO.c (.move rfl) ?_))); refine VO.cg (r := decide (((k : Nat) : Int) < x.1)) (w := true) [] trivial (fun _ => (.move rfl)) ?_; refine VO.cg (r := decide (((k : Nat) : Int) < x.1)) (w := true) [] trivial (fun _ => (.move rfl)) ?_; refine VO.rg (r := decide (((k : Nat) : Int) < x.1)) (w := true) [] trivial (fun _ => (.ld vt39)) ?_; refine VO.cg (r := decide (((k : Nat) : Int) < x.1)) (w := true) [(63, .v (.flt .f32) x.2), (64, .v (.flt .f32) g)] ⟨rfl, rfl, trivial⟩ (fun _ => (.fop (mul32E (mulR_ok hg hxl).1))) ?_; refine VO.cg (r := decide (((k : Nat) : Int) < x.1)) (w := true) [(62, .v (.flt .f32) (mulR g r.2.2.1[k])), (65, .v (.flt .f32) (mulR g x.2))] ⟨rfl, rfl, trivial⟩ (fun _ => (.fcmpD (b := .geq) (ge_R hg hxl hvk))) ?_; refine VO.c (.and) (VO.c (.move rfl) ?_); refine VO.splitB (x := 68) rfl (fun g14_15 => ?_) (fun g14_15 => ?_)
          · try simp only [Bool.and_eq_true, Bool.or_eq_true, Bool.and_eq_false_iff, Bool.or_eq_false_iff, Bool.not_eq_true', Bool.not_eq_false', decide_eq_true_eq, decide_eq_false_iff_not] at g14_15
            refine VO.skip (VO.skip (VO.skip (VO.skip ?_))); refine VO.skip (VO.skip (VO.skip (VO.skip ?_))); refine VO.skip (VO.skip (VO.c (.pickT rfl rfl) (VO.c (.pickT rfl rfl) ?_))); refine VO.nil ?_; exact ⟨⟨rfl, rfl, rfl, rfl, rfl, rfl, rfl, rfl, rfl, slE rfl (by rw [Bool.eq_iff_iff]; unfold beatE; rw [nearE_at hin hkl, ← hth, ← hx2]; cases hbt : (thereE r)[k] <;> simp only [Bool.true_eq_false, Bool.false_and, Bool.true_and, Bool.and_eq_true, Bool.or_eq_true, decide_eq_true_eq, Bool.false_eq_true, true_iff, false_iff, iff_true, iff_false, false_and, true_and, not_false_eq_true] <;> first | omega | (simp_all; done) | (simp_all; omega)), trivial⟩, rfl⟩
          try simp only [Bool.and_eq_true, Bool.or_eq_true, Bool.and_eq_false_iff, Bool.or_eq_false_iff, Bool.not_eq_true', Bool.not_eq_false', decide_eq_true_eq, decide_eq_false_iff_not] at g14_15
          refine VO.c (.move rfl) (VO.c (.move rfl) (VO.c (.gtr) (VO.c (.move rfl) ?_))); refine VO.cg (r := decide (x.1 < ((k : Nat) : Int))) (w := true) [] trivial (fun _ => (.move rfl)) ?_; refine VO.cg (r := decide (x.1 < ((k : Nat) : Int))) (w := true) [] trivial (fun _ => (.move rfl)) ?_; refine VO.rg (r := decide (x.1 < ((k : Nat) : Int))) (w := true) [] trivial (fun _ => (.ld vt39)) ?_; refine VO.cg (r := decide (x.1 < ((k : Nat) : Int))) (w := true) [(74, .v (.flt .f32) x.2), (75, .v (.flt .f32) g)] ⟨rfl, rfl, trivial⟩ (fun _ => (.fop (mul32E (mulR_ok hg hxl).1))) ?_; refine VO.cg (r := decide (x.1 < ((k : Nat) : Int))) (w := true) [(73, .v (.flt .f32) (mulR g r.2.2.1[k])), (76, .v (.flt .f32) (mulR g x.2))] ⟨rfl, rfl, trivial⟩ (fun _ => (.fcmpD (b := .gtr) (gt_R hg hxl hvk))) ?_; refine VO.c (.and) (VO.c (.pickF rfl rfl) (VO.c (.pickT rfl rfl) ?_)); refine VO.nil ?_; exact ⟨⟨rfl, rfl, rfl, rfl, rfl, rfl, rfl, rfl, rfl, slE rfl (by rw [Bool.eq_iff_iff]; unfold beatE; rw [nearE_at hin hkl, ← hth, ← hx2]; cases hbt : (thereE r)[k] <;> simp only [Bool.true_eq_false, Bool.false_and, Bool.true_and, Bool.and_eq_true, Bool.or_eq_true, decide_eq_true_eq, Bool.false_eq_true, true_iff, false_iff, iff_true, iff_false, false_and, true_and, not_false_eq_true] <;> first | omega | (simp_all; done) | (simp_all; omega)), trivial⟩, rfl⟩
        refine VO.skip (VO.skip (VO.skip (VO.skip ?_))); refine VO.skip (VO.skip (VO.skip (VO.skip ?_))); refine VO.skip (VO.skip (VO.skip (VO.skip ?_))); refine VO.skip (VO.skip (VO.skip (VO.skip ?_))); refine VO.skip (VO.skip (VO.skip (VO.skip ?_))); refine VO.skip (VO.skip (VO.c (.pickF rfl rfl) ?_)); refine VO.nil ?_; exact ⟨⟨rfl, rfl, rfl, rfl, rfl, rfl, rfl, rfl, rfl, slE rfl (by rw [Bool.eq_iff_iff]; unfold beatE; rw [nearE_at hin hkl, ← hth, ← hx2]; cases hbt : (thereE r)[k] <;> simp only [Bool.true_eq_false, Bool.false_and, Bool.true_and, Bool.and_eq_true, Bool.or_eq_true, decide_eq_true_eq, Bool.false_eq_true, true_iff, false_iff, iff_true, iff_false, false_and, true_and, not_false_eq_true] <;> first | omega | (simp_all; done) | (simp_all; omega)), trivial⟩, rfl⟩
      refine VC.condB rfl (fun c14 => ?_) (fun c14 => ?_)
      · refine VC.text ?_; refine VO.c (.assign rfl) ?_; refine VO.nil (VC.text ?_); refine VO.c (.move rfl) (VO.c (.add rfl rfl (by omega)) (VO.c (.assign rfl) ?_)); refine VO.nil ?_; refine ⟨_, [(3, .p y30 r), (4, .p (.int .i64) w), (5, .p (.flt .f32) g), (9, .p (.sl .bool) (thereE r)), (10, .raw ww2), (11, I x.1), (12, .v (.flt .f32) x.2), (13, B (hiE r w g i (max 0 ((i : Int) - w)) (k + 1))), (14, I (((k + 1) : Nat) : Int))], ?_, ⟨rfl, rfl, rfl, rfl, rfl, rfl, rfl, slE rfl (by first | exact (hiE_t hk0 c14).symm | exact (hiE_f c14).symm), rfl, trivial⟩, (k + 1), rfl, rfl, rfl, (by omega), (by omega)⟩; omega
      refine VC.skip (VC.text ?_); refine VO.c (.move rfl) (VO.c (.add rfl rfl (by omega)) (VO.c (.assign rfl) ?_)); refine VO.nil ?_; refine ⟨_, [(3, .p y30 r), (4, .p (.int .i64) w), (5, .p (.flt .f32) g), (9, .p (.sl .bool) (thereE r)), (10, .raw ww2), (11, I x.1), (12, .v (.flt .f32) x.2), (13, B (hiE r w g i (max 0 ((i : Int) - w)) (k + 1))), (14, I (((k + 1) : Nat) : Int))], ?_, ⟨rfl, rfl, rfl, rfl, rfl, rfl, rfl, slE rfl (by first | exact (hiE_t hk0 c14).symm | exact (hiE_f c14).symm), rfl, trivial⟩, (k + 1), rfl, rfl, rfl, (by omega), (by omega)⟩; omega
    refine VC.exit (VC.seq (VC.text ?_)); have hwt := hi_water (r := r) (w := w) (g := g) (i := i) (k := k) (by omega) hin hri (by omega); refine VO.c (.move rfl) (VO.go ?_); refine VC.condB rfl (fun c16 => ?_) (fun c16 => ?_)
    · have hc : waterE r w g x.1.toNat = true := by rw [hx1]; show waterE r w g i = true; rw [← hwt]; exact c16
      refine VC.text ?_; refine VO.r (.ldV m1 vt42) ?_; refine VO.c (.move rfl) ?_; refine VO.new (.lit [x.1] el42) ?_; refine VO.app rfl rfl el42 el42 (by simp; omega) ?_; intro ww3; refine VO.perm swap1 ?_; refine VO.one m1 fun ho4 => ?_; refine VO.setV (cs' := [.raw ww3]) vt42 (.raw rfl (agg_one ho4) ho4) ?_; refine VO.perm swap1 ?_; refine VO.nil ?_; exact .inl ⟨rfl, wtS r w g gs x, ww3, (by first | (rw [wtS, if_pos hc]; done) | (rw [wtS, if_neg hc]; done)), (by exact hgf), (by exact fun y hy => hm y (List.mem_cons_of_mem _ hy)), (by (have h1 := wtS_len (r := r) (w := w) (g := g) gs x; have h2 := hgn; rw [List.length_cons] at h2; omega))⟩
    have hc : ¬ waterE r w g x.1.toNat = true := by rw [hx1]; show ¬ waterE r w g i = true; rw [← hwt, c16]; exact Bool.false_ne_true
    refine VC.skip ?_; exact .inl ⟨rfl, wtS r w g gs x, wg, (by first | (rw [wtS, if_pos hc]; done) | (rw [wtS, if_neg hc]; done)), (by exact hgf), (by exact fun y hy => hm y (List.mem_cons_of_mem _ hy)), (by (have h1 := wtS_len (r := r) (w := w) (g := g) gs x; have h2 := hgn; rw [List.length_cons] at h2; omega))⟩
  · rintro _ ⟨gs, wg, rfl, hgf, hm, hgn⟩; refine VC.seq (VC.text ?_); refine VO.r (.ldV m1 vt42) ?_; refine VO.c (.assign rfl) (VO.c (.assign rfl) (VO.go ?_)); refine VC.ret ?_; exact VEnd.two rfl (evC (.row m0)) evT (pvE (by rw [wtrE, wtrC, if_neg c2, ← wt_fold (r := r) (w := w) (g := g) rfl (Nat.zero_le _)]; exact hgf)) (pvI (by exact (Classical.not_not.1 c2).symm))
  rintro _ _ _ ⟨⟩
end Go.Proofs
namespace Go.Proofs
open Go.Fs
set_option maxHeartbeats 2000000
end Go.Proofs
