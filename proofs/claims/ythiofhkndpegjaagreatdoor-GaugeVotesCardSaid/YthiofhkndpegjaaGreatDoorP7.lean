/- Parts of the proof: an evaluator of the model, what it is sound for, and contracts of functions. No condition. -/
import Derived.Test.YthiofhkndpegjaaGreatDoorP6
import Derived.Test.YthiofhkndpegjaaGreatDoorP5
set_option linter.all false
namespace Go.Proofs
open Go.Fs Ieee
set_option linter.unusedVariables false
set_option maxHeartbeats 2000000
theorem zt55 : ZerT Tryz.prog 55 y55 := zerT_of (z := .agg #[.string ByteArray.empty, .int .i64 0, .slice none 0 0, .slice none 0 0]) (by kernel_rfl) rfl rfl
theorem zt59 : ZerT Tryz.prog 59 (.flt .f32) := zerT_of (z := .float .f32 0) (by kernel_rfl) rfl rfl
theorem bt55 : BldT Tryz.prog 55 y55 [(0, 1), (1, 1), (2, 1), (3, 1)] := bldT_of zt55 rfl (by kernel_rfl)
def canS (out : List (Int × Int)) (s : Int × Int) : List (Int × Int) :=
  if s.2 ≤ s.1 then out
  else if 0 < out.length ∧ s.1 ≤ (spX out (out.length - 1)).2 then out.set (out.length - 1) ((spX out (out.length - 1)).1, max (spX out (out.length - 1)).2 s.2)
  else out ++ [s]
def canE (l : List (Int × Int)) : List (Int × Int) := l.foldl canS []
theorem canE_snoc (l : List (Int × Int)) (s : Int × Int) : canE (l ++ [s]) = canS (canE l) s := by simp [canE]
theorem canE_next {l : List (Int × Int)} {j : Nat} (h : j < l.length) : canE (l.take (j + 1)) = canS (canE (l.take j)) l[j] := by
  rw [List.take_succ_eq_append_getElem h, canE_snoc]
theorem canS_len (out : List (Int × Int)) (s : Int × Int) : (canS out s).length ≤ out.length + 1 := by
  unfold canS
  split
  · omega
  split
  · rw [List.length_set]; omega
  rw [List.length_append, List.length_singleton]; omega
theorem foldl_len : ∀ (l out : List (Int × Int)), (l.foldl canS out).length ≤ out.length + l.length
  | [], out => by simp
  | s :: l, out => by
    have h1 := foldl_len l (canS out s)
    have h2 := canS_len out s
    rw [List.foldl_cons, List.length_cons]; omega
theorem canE_len (l : List (Int × Int)) : (canE l).length ≤ l.length := by
  have := foldl_len l []
  simpa [canE] using this
theorem canS_0 {out : List (Int × Int)} {s : Int × Int} (h : s.2 ≤ s.1) : canS out s = out := by rw [canS, if_pos h]
theorem canS_1 {out : List (Int × Int)} {s : Int × Int} (h : ¬ s.2 ≤ s.1) (h0 : 0 < out.length) (h1 : s.1 ≤ (spX out (out.length - 1)).2) : canS out s = out.set (out.length - 1) ((spX out (out.length - 1)).1, max (spX out (out.length - 1)).2 s.2) := by rw [canS, if_neg h, if_pos ⟨h0, h1⟩]
theorem canS_2 {out : List (Int × Int)} {s : Int × Int} (h : ¬ s.2 ≤ s.1) (h1 : ¬ (0 < out.length ∧ s.1 ≤ (spX out (out.length - 1)).2)) : canS out s = out ++ [s] := by rw [canS, if_neg h, if_neg h1]
def gapS (out : List (Int × Int)) (i : Nat) : List (Int × Int) :=
  if 0 < out.length ∧ (spX out (out.length - 1)).2 = (i : Int) then out.set (out.length - 1) ((spX out (out.length - 1)).1, (i : Int) + 1)
  else out ++ [((i : Int), (i : Int) + 1)]
def gapsE (l : List Bool) : Nat → List (Int × Int)
  | 0 => []
  | i + 1 => if l.getD i false = true then gapsE l i else gapS (gapsE l i) i
theorem gapS_len (out : List (Int × Int)) (i : Nat) : (gapS out i).length ≤ out.length + 1 := by
  unfold gapS
  split
  · rw [List.length_set]; omega
  rw [List.length_append, List.length_singleton]; omega
theorem gapsE_len (l : List Bool) : ∀ i, (gapsE l i).length ≤ i
  | 0 => Nat.le_refl _
  | i + 1 => by
    have h1 := gapsE_len l i
    have h2 := gapS_len (gapsE l i) i
    unfold gapsE
    split <;> omega
theorem gapsE_t {l : List Bool} {i : Nat} (h : i < l.length) (hb : l[i] = true) : gapsE l (i + 1) = gapsE l i := by
  rw [gapsE, if_pos (by rw [List.getD_eq_getElem?_getD, List.getElem?_eq_getElem h]; exact hb)]
theorem gapsE_f {l : List Bool} {i : Nat} (h : i < l.length) (hb : ¬ l[i] = true) : gapsE l (i + 1) = gapS (gapsE l i) i := by
  rw [gapsE, if_neg (by rw [List.getD_eq_getElem?_getD, List.getElem?_eq_getElem h]; exact hb)]
theorem gapS_1 {out : List (Int × Int)} {i : Nat} (h0 : 0 < out.length) (h1 : (spX out (out.length - 1)).2 = (i : Int)) : gapS out i = out.set (out.length - 1) ((spX out (out.length - 1)).1, (i : Int) + 1) := by rw [gapS, if_pos ⟨h0, h1⟩]
theorem gapS_2 {out : List (Int × Int)} {i : Nat} (h1 : ¬ (0 < out.length ∧ (spX out (out.length - 1)).2 = (i : Int))) : gapS out i = out ++ [((i : Int), (i : Int) + 1)] := by rw [gapS, if_neg h1]
def unitE (l : List Bool) : Nat → List (Int × Int)
  | 0 => []
  | i + 1 => if l.getD i false = true then unitE l i else unitE l i ++ [((i : Int), (i : Int) + 1)]
theorem unitE_t {l : List Bool} {i : Nat} (h : i < l.length) (hb : l[i] = true) : unitE l (i + 1) = unitE l i := by
  rw [unitE, if_pos (by rw [List.getD_eq_getElem?_getD, List.getElem?_eq_getElem h]; exact hb)]
theorem unitE_f {l : List Bool} {i : Nat} (h : i < l.length) (hb : ¬ l[i] = true) : unitE l (i + 1) = unitE l i ++ [((i : Int), (i : Int) + 1)] := by
  rw [unitE, if_neg (by rw [List.getD_eq_getElem?_getD, List.getElem?_eq_getElem h]; exact hb)]
theorem unitE_len (l : List Bool) : ∀ i, (unitE l i).length ≤ i
  | 0 => Nat.le_refl _
  | i + 1 => by
    have h1 := unitE_len l i
    unfold unitE
    split
    · omega
    rw [List.length_append, List.length_singleton]; omega
theorem spX_last_set {out : List (Int × Int)} {s : Int × Int} (h : 0 < out.length) : spX (out.set (out.length - 1) s) ((out.set (out.length - 1) s).length - 1) = s := by
  rw [spX_eq (by rw [List.length_set]; omega), List.getElem_set, if_pos (by rw [List.length_set])]
theorem spX_last_app {out : List (Int × Int)} {s : Int × Int} : spX (out ++ [s]) ((out ++ [s]).length - 1) = s := by
  rw [spX_eq (by simp), List.getElem_append_right (by simp)]; simp
theorem gaps_last (l : List Bool) : ∀ i, 0 < (gapsE l i).length → (spX (gapsE l i) ((gapsE l i).length - 1)).2 ≤ (i : Int)
  | 0 => fun h => absurd h (by simp [gapsE])
  | i + 1 => fun h => by
    unfold gapsE at h ⊢
    split at h
    · rename_i hb
      rw [if_pos hb] 
      have := gaps_last l i h
      omega
    rename_i hb
    rw [if_neg hb]
    unfold gapS
    split
    · rename_i hc
      rw [spX_last_set hc.1]; simp
    rw [spX_last_app]; simp
theorem unit_can (l : List Bool) : ∀ i, canE (unitE l i) = gapsE l i
  | 0 => rfl
  | i + 1 => by
    unfold unitE gapsE
    split
    · exact unit_can l i
    rw [canE_snoc, unit_can l i]
    have hl := gaps_last l i
    by_cases hc : 0 < (gapsE l i).length ∧ (spX (gapsE l i) ((gapsE l i).length - 1)).2 = (i : Int)
    · rw [gapS_1 hc.1 hc.2, canS_1 (by show ¬ ((i : Int) + 1 ≤ (i : Int)); omega) hc.1 (by show (i : Int) ≤ _; omega)]
      congr 2
      show max _ ((i : Int) + 1) = _
      omega
    rw [gapS_2 hc, canS_2 (by show ¬ ((i : Int) + 1 ≤ (i : Int)); omega) (fun hd => hc ⟨hd.1, by have := hl hd.1; have h2 : (i : Int) ≤ _ := hd.2; omega⟩)]
theorem spX_pre {l : List (Int × Int)} {n : Nat} (h0 : 0 < n) (h : ((n : Int) - 1).toNat < l.length) : l[((n : Int) - 1).toNat] = spX l (n - 1) := by
  have e : ((n : Int) - 1).toNat = n - 1 := by omega
  simp only [e] at h ⊢
  exact (spX_eq h).symm
theorem rGaps_ok {l : List Bool} (hl : l.length < 1000000) : VF Tryz.prog OA 115 [.v (.sl .bool) l] (.v y22 (gapsE l l.length)) := by
  refine VF.enter Tryz.func115 rfl (fun _ _ => rfl) rfl ?_
  show VC _ _ _ _ _ [(0, .v (.sl .bool) l)] [] _
  refine VC.seq (VC.text ?_); refine VO.c (.assign rfl) ?_; refine VO.go (VC.seq (VC.text ?_)); refine VO.c (.assign rfl) ?_; refine VO.go (VC.seq (VC.seq (VC.text ?_))); refine VO.c (.assign rfl) ?_; refine VO.go (VC.block ?_); refine VC.cell0 39 y39 ?_; refine VC.keep [(0, .v (.sl .bool) l), (3, .raw (.slice none 0 0)), (4, I ((0 : Nat) : Int))] ⟨rfl, rfl, rfl, trivial⟩ ?_; refine VC.loop (I := fun kk ff ss => ∃ (i : Nat) (out : Value), kk = l.length - i ∧ ff = [(0, .v (.sl .bool) l), (3, .raw out), (4, I ((i : Nat) : Int))] ∧ ss = [(out, .row 39 y39 (gapsE l i))] ∧ (i ≤ l.length) ∧ ((gapsE l i).length ≤ i)) ?_ _ _ _ ⟨0, (.slice none 0 0), rfl, rfl, rfl, Nat.zero_le _, (by exact Nat.le_refl _)⟩; rintro kk ff ss ⟨i, out, hk0, rfl, rfl, hi, hgl⟩; refine VC.seq (VC.seq (VC.text ?_)); refine VO.c (.move rfl) ?_; refine VO.c (.move rfl) ?_; refine VO.r (.len el156) ?_; refine VO.c (.lss) ?_; refine VO.go ?_; refine VC.condD rfl (fun c3 => ?_) (fun c3 => ?_)
  · refine VC.skip (VC.seq (VC.block (VC.seq (VC.seq (VC.text ?_))))); refine VO.c (.move rfl) ?_; refine VO.c (.move rfl) ?_; refine VO.c (.ix (j := i) rfl rfl el156 (by omega)) ?_; refine VO.r (.ld vt4) ?_; refine VO.go ?_; refine VC.condB rfl (fun c5 => ?_) (fun c5 => ?_)
    · have e1 := gapsE_t (show i < l.length by omega) c5
      refine VC.exit (VC.text ?_); refine VO.c (.move rfl) ?_; refine VO.c (.add rfl rfl (by omega)) ?_; refine VO.c (.assign rfl) ?_; refine VO.nil ?_; refine ⟨_, [(0, .v (.sl .bool) l), (3, .raw out), (4, I (((i + 1) : Nat) : Int))], ?_, ⟨rfl, rfl, rfl, trivial⟩, (i + 1), out, rfl, rfl, (by first | (rw [e1]; done) | (rw [e1, e3]; done) | (rw [e1, e3, e2]; simp only [e4]; done) | (rw [e1, e3]; rfl)), (by omega), (by exact gapsE_len l _)⟩
      omega
    have e1 := gapsE_f (l := l) (i := i) (by omega) (by rw [c5]; exact Bool.false_ne_true)
    refine VC.skip (VC.seq (VC.text ?_)); refine VO.c (.move rfl) ?_; refine VO.r (.lenO m0 el22) ?_; refine VO.c (.assign rfl) ?_; refine VO.go (VC.seq (VC.text ?_)); refine VO.c (.move rfl) ?_; refine VO.c (.gtr) ?_; refine VO.c (.move rfl) ?_; refine VO.splitD (x := 20) rfl (fun g7_2 => ?_) (fun g7_2 => ?_)
    · refine VO.c (.move rfl) ?_; refine VO.c (.move rfl) ?_; refine VO.c (.sub rfl rfl (by omega)) ?_; refine VO.c (.ixOZ (k := ((((gapsE l i).length : Nat) : Int) - (1 : Int))) rfl rfl m0 el22 (by omega) (by omega)) ?_; refine VO.c (.faE (j := (Int.toNat ((((gapsE l i).length : Nat) : Int) - (1 : Int)))) (k := 1) m0 (by omega)) ?_; refine VO.r (.ldE (j := (Int.toNat ((((gapsE l i).length : Nat) : Int) - (1 : Int)))) (k := 1) (by omega) (.r .o) rfl m0 vt3) ?_; refine VO.c (.move rfl) ?_; refine VO.c (.eql) ?_; refine VO.c (.pickT rfl rfl) ?_; refine VO.go ?_; refine VC.condD rfl (fun c7 => ?_) (fun c7 => ?_)
      · have h0 : 0 < (gapsE l i).length := by omega
        have e2 := spX_pre (l := gapsE l i) h0 (by omega)
        have e3 := gapS_1 (out := gapsE l i) (i := i) h0 (by rw [← e2]; exact c7)
        have e4 : ((((gapsE l i).length : Nat) : Int) - (1 : Int)).toNat = (gapsE l i).length - 1 := by omega
        refine VC.text ?_; refine VO.c (.move rfl) ?_; refine VO.c (.move rfl) ?_; refine VO.c (.sub rfl rfl (by omega)) ?_; refine VO.c (.move rfl) ?_; refine VO.c (.add rfl rfl (by omega)) ?_; refine VO.c (.ixOZ (k := ((((gapsE l i).length : Nat) : Int) - (1 : Int))) rfl rfl m0 el22 (by omega) (by omega)) ?_; refine VO.c (.faE (j := (Int.toNat ((((gapsE l i).length : Nat) : Int) - (1 : Int)))) (k := 1) m0 (by omega)) ?_; refine VO.setEF (j := (Int.toNat ((((gapsE l i).length : Nat) : Int) - (1 : Int)))) (k := 1) (dz := (((gapsE l i)[(Int.toNat ((((gapsE l i).length : Nat) : Int) - (1 : Int)))]).1, (((i : Nat) : Int) + (1 : Int)))) (by omega) vt3 (.r .o) ?_; refine VO.nil (VC.text ?_); refine VO.c (.move rfl) ?_; refine VO.c (.add rfl rfl (by omega)) ?_; refine VO.c (.assign rfl) ?_; refine VO.nil ?_; refine ⟨_, [(0, .v (.sl .bool) l), (3, .raw out), (4, I (((i + 1) : Nat) : Int))], ?_, ⟨rfl, rfl, rfl, trivial⟩, (i + 1), out, rfl, rfl, (by first | (rw [e1]; done) | (rw [e1, e3]; done) | (rw [e1, e3, e2]; simp only [e4]; done) | (rw [e1, e3]; rfl)), (by omega), (by exact gapsE_len l _)⟩
        omega
      have e3 := gapS_2 (out := gapsE l i) (i := i) (fun hh => by first | exact absurd hh.1 (by omega) | (rw [← spX_pre hh.1 (by omega)] at hh; exact c7 hh.2))
      refine VC.text ?_; refine VO.c (.move rfl) ?_; refine VO.c (.move rfl) ?_; refine VO.c (.move rfl) ?_; refine VO.c (.add rfl rfl (by omega)) ?_; refine VO.c (.build (((i : Nat) : Int), (((i : Nat) : Int) + (1 : Int))) bt39) ?_; refine VO.new (.lit [(((i : Nat) : Int), (((i : Nat) : Int) + (1 : Int)))] el22) ?_; refine VO.app rfl rfl el22 el22 (by simp; omega) ?_; intro ww1; refine VO.c (.assign rfl) ?_; refine VO.nil ?_; refine VC.keep [(0, .v (.sl .bool) l), (3, .raw ww1), (4, I ((i : Nat) : Int))] ⟨rfl, rfl, rfl, trivial⟩ ?_; refine VC.text ?_; refine VO.c (.move rfl) ?_; refine VO.c (.add rfl rfl (by omega)) ?_; refine VO.c (.assign rfl) ?_; refine VO.nil ?_; refine ⟨_, [(0, .v (.sl .bool) l), (3, .raw ww1), (4, I (((i + 1) : Nat) : Int))], ?_, ⟨rfl, rfl, rfl, trivial⟩, (i + 1), ww1, rfl, rfl, (by first | (rw [e1]; done) | (rw [e1, e3]; done) | (rw [e1, e3, e2]; simp only [e4]; done) | (rw [e1, e3]; rfl)), (by omega), (by exact gapsE_len l _)⟩
      omega
    have e3 := gapS_2 (out := gapsE l i) (i := i) (fun hh => absurd hh.1 (by omega))
    refine VO.skip ?_; refine VO.skip ?_; refine VO.skip ?_; refine VO.skip ?_; refine VO.skip ?_; refine VO.skip ?_; refine VO.skip ?_; refine VO.skip ?_; refine VO.c (.pickF rfl rfl) ?_; refine VO.go ?_; refine VC.condF rfl ?_; refine VC.text ?_; refine VO.c (.move rfl) ?_; refine VO.c (.move rfl) ?_; refine VO.c (.move rfl) ?_; refine VO.c (.add rfl rfl (by omega)) ?_; refine VO.c (.build (((i : Nat) : Int), (((i : Nat) : Int) + (1 : Int))) bt39) ?_; refine VO.new (.lit [(((i : Nat) : Int), (((i : Nat) : Int) + (1 : Int)))] el22) ?_; refine VO.app rfl rfl el22 el22 (by simp; omega) ?_; intro ww2; refine VO.c (.assign rfl) ?_; refine VO.nil ?_; refine VC.keep [(0, .v (.sl .bool) l), (3, .raw ww2), (4, I ((i : Nat) : Int))] ⟨rfl, rfl, rfl, trivial⟩ ?_; refine VC.text ?_; refine VO.c (.move rfl) ?_; refine VO.c (.add rfl rfl (by omega)) ?_; refine VO.c (.assign rfl) ?_; refine VO.nil ?_; refine ⟨_, [(0, .v (.sl .bool) l), (3, .raw ww2), (4, I (((i + 1) : Nat) : Int))], ?_, ⟨rfl, rfl, rfl, trivial⟩, (i + 1), ww2, rfl, rfl, (by first | (rw [e1]; done) | (rw [e1, e3]; done) | (rw [e1, e3, e2]; simp only [e4]; done) | (rw [e1, e3]; rfl)), (by omega), (by exact gapsE_len l _)⟩
    omega
  refine VC.exit (VC.seq (VC.text ?_)); refine VO.c (.move rfl) ?_; refine VO.c (.assign rfl) ?_; refine VO.go ?_; refine VC.ret ?_; exact VEnd.one rfl (evC (.row m0)) (pvE (by rw [show i = l.length by omega]))
theorem gCanonO_ok {w_xs : Value} {xs : List (Int × Int)} (hl : xs.length < 1000000) : VFG Tryz.prog OA 113 [.raw w_xs] [(w_xs, .row 39 y39 xs)] (fun r' g => r' = (.v y22 (canE xs)) ∧ g = []) := by
  refine VFG.enterC Tryz.func113 rfl (fun _ _ => rfl) rfl ?_
  show VC _ _ _ _ _ [(0, .raw w_xs)] [(w_xs, .row 39 y39 xs)] _
  refine VC.seq (VC.text ?_); refine VO.c (.assign rfl) ?_; refine VO.go (VC.seq (VC.text ?_)); refine VO.c (.assign rfl) ?_; refine VO.go (VC.seq (VC.seq (VC.text ?_))); refine VO.c (.move rfl) ?_; refine VO.r (.lenO m0 el22) ?_; refine VO.c (.move rfl) ?_; refine VO.go (VC.block ?_); refine VC.cell0 39 y39 ?_; refine VC.keep [(3, .raw (.slice none 0 0)), (7, .raw w_xs), (8, I ((xs.length : Nat) : Int)), (9, I ((0 : Nat) : Int))] ⟨rfl, rfl, rfl, rfl, trivial⟩ ?_; refine VC.loop (I := fun kk ff ss => ∃ (i : Nat) (out : Value), kk = xs.length - i ∧ ff = [(3, .raw out), (7, .raw w_xs), (8, I ((xs.length : Nat) : Int)), (9, I ((i : Nat) : Int))] ∧ ss = [(out, .row 39 y39 (canE (xs.take i))), (w_xs, .row 39 y39 xs)] ∧ (i ≤ xs.length) ∧ ((canE (xs.take i)).length ≤ i)) ?_ _ _ _ ⟨0, (.slice none 0 0), rfl, rfl, rfl, Nat.zero_le _, (by rw [List.take_zero]; exact Nat.le_refl _)⟩; rintro kk ff ss ⟨i, out, hk0, rfl, rfl, hi, hcl⟩; refine VC.seq (VC.text ?_); refine VO.c (.lss) ?_; refine VO.go (VC.seq ?_); refine VC.condD rfl (fun c3 => ?_) (fun c3 => ?_)
  · refine VC.skip (VC.seq (VC.block (VC.seq (VC.text ?_))))
    have e1 := canE_next (show i < xs.length by omega)
    refine VO.c (.ixO (j := i) rfl rfl m1 el22 (by omega)) ?_; refine VO.r (.ldO rfl m1 vt39 (by omega)) ?_; refine VO.cell (.alloc zt39) ?_; intro ww7; refine VO.setV (cs' := [I ((xs[i]).1), I ((xs[i]).2)]) vt39 .v ?_; refine VO.shut [(5, .p y39 (xs[i]))] (.cons rfl (.var m0 .refl) .nil) ?_; refine VO.go (VC.seq (VC.text ?_)); refine VO.c (.move rfl) ?_; refine VO.r (.lenO m0 el22) ?_; refine VO.c (.assign rfl) ?_; refine VO.go (VC.block (VC.seq (VC.text ?_))); refine VO.c (.fa (.l .o)) ?_; refine VO.r (.ld vt3) ?_; refine VO.c (.fa (.r .o)) ?_; refine VO.r (.ld vt3) ?_; refine VO.c (.geq) ?_; refine VO.c (.assign rfl) ?_; refine VO.go ?_; refine VC.condD rfl (fun c7 => ?_) (fun c7 => ?_)
    · have e3 := canS_0 (out := canE (xs.take i)) c7
      refine VC.skip (VC.text ?_); refine VO.c (.add rfl rfl (by omega)) ?_; refine VO.c (.move rfl) ?_; refine VO.nil ?_; refine ⟨_, [(3, .raw out), (7, .raw w_xs), (8, I ((xs.length : Nat) : Int)), (9, I (((i + 1) : Nat) : Int))], ?_, ⟨rfl, rfl, rfl, rfl, trivial⟩, (i + 1), out, rfl, rfl, (by first | (rw [e1, e3]; done) | (rw [e1, e3, e2]; simp only [e4]; done) | (rw [e1, e3]; rfl)), (by omega), (by exact Nat.le_trans (canE_len _) (List.length_take_le _ _))⟩
      omega
    refine VC.seq (VC.drawn ?_); refine VD.c (.move rfl) ?_; refine VD.c (.gtr) ?_; refine VD.c (.move rfl) ?_; refine VD.splitD (x := 28) rfl (fun g8_2 => ?_) (fun g8_2 => ?_)
    · refine VD.c (.move rfl) ?_; refine VD.c (.move rfl) ?_; refine VD.nw [] ?_; refine VD.c (.sub rfl rfl (by omega)) ?_; refine VD.co (.ixOZ (k := ((((canE (xs.take i)).length : Nat) : Int) - (1 : Int))) rfl rfl m0 el22 (by omega) (by omega)) ?_; refine VD.co (.faE (j := (Int.toNat ((((canE (xs.take i)).length : Nat) : Int) - (1 : Int)))) (k := 1) m0 (by omega)) ?_; refine VD.r [(out, .row 39 y39 (canE (xs.take i))), (w_xs, .row 39 y39 xs)] (.ldE (j := (Int.toNat ((((canE (xs.take i)).length : Nat) : Int) - (1 : Int)))) (k := 1) (by omega) (.r .o) rfl m0 vt3) (.inr ⟨rfl, rfl⟩) ?_; refine VD.c (.fa (.l .o)) ?_; refine VD.r [] (.ld vt3) (.inl rfl) ?_; refine VD.c (.geq) ?_; refine VD.nw [] ?_; refine VD.c (.pickT rfl rfl) ?_; refine VD.c (.assign rfl) ?_; refine VD.go ?_; refine VC.condD rfl (fun c8 => ?_) (fun c8 => ?_)
      · have h0 : 0 < (canE (xs.take i)).length := by omega
        have e2 := spX_pre (l := canE (xs.take i)) h0 (by omega)
        have e3 := canS_1 (out := canE (xs.take i)) c7 h0 (by rw [← e2]; exact c8)
        have e4 : ((((canE (xs.take i)).length : Nat) : Int) - (1 : Int)).toNat = (canE (xs.take i)).length - 1 := by omega
        refine VC.drawn ?_; refine VD.c (.move rfl) ?_; refine VD.c (.move rfl) ?_; refine VD.c (.sub rfl rfl (by omega)) ?_; refine VD.c (.move rfl) ?_; refine VD.c (.move rfl) ?_; refine VD.c (.sub rfl rfl (by omega)) ?_; refine VD.nw [] ?_; refine VD.co (.ixOZ (k := ((((canE (xs.take i)).length : Nat) : Int) - (1 : Int))) rfl rfl m0 el22 (by omega) (by omega)) ?_; refine VD.co (.faE (j := (Int.toNat ((((canE (xs.take i)).length : Nat) : Int) - (1 : Int)))) (k := 1) m0 (by omega)) ?_; refine VD.r [(out, .row 39 y39 (canE (xs.take i))), (w_xs, .row 39 y39 xs)] (.ldE (j := (Int.toNat ((((canE (xs.take i)).length : Nat) : Int) - (1 : Int)))) (k := 1) (by omega) (.r .o) rfl m0 vt3) (.inr ⟨rfl, rfl⟩) ?_; refine VD.c (.fa (.r .o)) ?_; refine VD.r [] (.ld vt3) (.inl rfl) ?_; refine VD.r [] (.max) (.inl rfl) ?_; refine VD.co (.ixOZ (k := ((((canE (xs.take i)).length : Nat) : Int) - (1 : Int))) rfl rfl m0 el22 (by omega) (by omega)) ?_; refine VD.nw [] ?_; refine VD.co (.faE (j := (Int.toNat ((((canE (xs.take i)).length : Nat) : Int) - (1 : Int)))) (k := 1) m0 (by omega)) ?_; refine VD.mk0 (MakeV.setEF (j := (Int.toNat ((((canE (xs.take i)).length : Nat) : Int) - (1 : Int)))) (k := 1) (dz := (((canE (xs.take i))[(Int.toNat ((((canE (xs.take i)).length : Nat) : Int) - (1 : Int)))]).1, (max (((canE (xs.take i))[(Int.toNat ((((canE (xs.take i)).length : Nat) : Int) - (1 : Int)))]).2) ((xs[i]).2)))) (by omega) vt3 (.r .o) rfl rfl) ?_; rintro _ _ tl8 ⟨rfl, rfl⟩; refine VD.nil ?_; refine VC.keep [(3, .raw out), (7, .raw w_xs), (8, I ((xs.length : Nat) : Int)), (9, I ((i : Nat) : Int))] ⟨rfl, rfl, rfl, rfl, trivial⟩ ?_; refine VC.text ?_; refine VO.c (.add rfl rfl (by omega)) ?_; refine VO.c (.move rfl) ?_; refine VO.nil ?_; refine ⟨_, [(3, .raw out), (7, .raw w_xs), (8, I ((xs.length : Nat) : Int)), (9, I (((i + 1) : Nat) : Int))], ?_, ⟨rfl, rfl, rfl, rfl, trivial⟩, (i + 1), out, rfl, rfl, (by first | (rw [e1, e3]; done) | (rw [e1, e3, e2]; simp only [e4]; done) | (rw [e1, e3]; rfl)), (by omega), (by exact Nat.le_trans (canE_len _) (List.length_take_le _ _))⟩
        omega
      have e3 := canS_2 (out := canE (xs.take i)) c7 (fun hh => by first | exact absurd hh.1 (by omega) | (rw [← spX_pre hh.1 (by omega)] at hh; exact c8 hh.2))
      refine VC.text ?_; refine VO.c (.move rfl) ?_; refine VO.r (.ld vt39) ?_; refine VO.new (.lit [xs[i]] el22) ?_; refine VO.app rfl rfl el22 el22 (by simp; omega) ?_; intro ww9; refine VO.c (.assign rfl) ?_; refine VO.nil ?_; refine VC.keep [(3, .raw ww9), (7, .raw w_xs), (8, I ((xs.length : Nat) : Int)), (9, I ((i : Nat) : Int))] ⟨rfl, rfl, rfl, rfl, trivial⟩ ?_; refine VC.text ?_; refine VO.c (.add rfl rfl (by omega)) ?_; refine VO.c (.move rfl) ?_; refine VO.nil ?_; refine ⟨_, [(3, .raw ww9), (7, .raw w_xs), (8, I ((xs.length : Nat) : Int)), (9, I (((i + 1) : Nat) : Int))], ?_, ⟨rfl, rfl, rfl, rfl, trivial⟩, (i + 1), ww9, rfl, rfl, (by first | (rw [e1, e3]; done) | (rw [e1, e3, e2]; simp only [e4]; done) | (rw [e1, e3]; rfl)), (by omega), (by exact Nat.le_trans (canE_len _) (List.length_take_le _ _))⟩
      omega
    have e3 := canS_2 (out := canE (xs.take i)) c7 (fun hh => absurd hh.1 (by omega))
    refine VD.skip ?_; refine VD.skip ?_; refine VD.nw [] ?_; refine VD.skip ?_; refine VD.skip ?_; refine VD.skip ?_; refine VD.skip ?_; refine VD.skip ?_; refine VD.skip ?_; refine VD.skip ?_; refine VD.nw [] ?_; refine VD.c (.pickF rfl rfl) ?_; refine VD.c (.assign rfl) ?_; refine VD.go ?_; refine VC.condF rfl ?_; refine VC.text ?_; refine VO.c (.move rfl) ?_; refine VO.r (.ld vt39) ?_; refine VO.new (.lit [xs[i]] el22) ?_; refine VO.app rfl rfl el22 el22 (by simp; omega) ?_; intro ww10; refine VO.c (.assign rfl) ?_; refine VO.nil ?_; refine VC.keep [(3, .raw ww10), (7, .raw w_xs), (8, I ((xs.length : Nat) : Int)), (9, I ((i : Nat) : Int))] ⟨rfl, rfl, rfl, rfl, trivial⟩ ?_; refine VC.text ?_; refine VO.c (.add rfl rfl (by omega)) ?_; refine VO.c (.move rfl) ?_; refine VO.nil ?_; refine ⟨_, [(3, .raw ww10), (7, .raw w_xs), (8, I ((xs.length : Nat) : Int)), (9, I (((i + 1) : Nat) : Int))], ?_, ⟨rfl, rfl, rfl, rfl, trivial⟩, (i + 1), ww10, rfl, rfl, (by first | (rw [e1, e3]; done) | (rw [e1, e3, e2]; simp only [e4]; done) | (rw [e1, e3]; rfl)), (by omega), (by exact Nat.le_trans (canE_len _) (List.length_take_le _ _))⟩
    omega
  refine VC.exit (VC.seq (VC.text ?_)); refine VO.c (.move rfl) ?_; refine VO.c (.assign rfl) ?_; refine VO.go ?_; refine VC.ret ?_; exact VEnd.one rfl (evC (.row m0)) (pvE (by rw [List.take_of_length_le (by omega)]))
def keptL (r : Rec1) (l : List Bool) (f : Nat → Nat) (n : Nat) : List Nat := (List.range r.2.2.1.length).map fun i => if i < n ∧ l.getD i false = true then f (r.2.2.1.getD i 0) else 0
theorem keptL_len {r : Rec1} {l : List Bool} {f : Nat → Nat} {n : Nat} : (keptL r l f n).length = r.2.2.1.length := by simp [keptL]
theorem keptL_at {r : Rec1} {l : List Bool} {f : Nat → Nat} {n i : Nat} (h : i < r.2.2.1.length) : (keptL r l f n)[i]'(by rw [keptL_len]; exact h) = if i < n ∧ l.getD i false = true then f (r.2.2.1.getD i 0) else 0 := by
  unfold keptL
  rw [List.getElem_map, List.getElem_range]
theorem keptL_0 {r : Rec1} {l : List Bool} {f : Nat → Nat} : List.replicate r.2.2.1.length 0 = keptL r l f 0 := by
  refine List.ext_getElem (by rw [List.length_replicate, keptL_len]) fun i h1 h2 => ?_
  rw [keptL_len] at h2
  rw [List.getElem_replicate, keptL_at h2, if_neg (by omega)]
theorem keptL_t {r : Rec1} {l : List Bool} {f : Nat → Nat} {n : Nat} (hn : n < r.2.2.1.length) (h : n < l.length) (hb : l[n] = true) : keptL r l f (n + 1) = (keptL r l f n).set n (f r.2.2.1[n]) := by
  refine List.ext_getElem (by rw [List.length_set, keptL_len, keptL_len]) fun i h1 h2 => ?_
  rw [keptL_len] at h1
  rw [List.getElem_set, keptL_at h1]
  by_cases e : n = i
  · subst e
    rw [if_pos rfl, if_pos ⟨by omega, by rw [List.getD_eq_getElem?_getD, List.getElem?_eq_getElem h]; exact hb⟩, List.getD_eq_getElem?_getD, List.getElem?_eq_getElem hn] <;> rfl
  rw [if_neg e, keptL_at h1]
  exact ite_congr (propext ⟨fun hh => ⟨by omega, hh.2⟩, fun hh => ⟨by omega, hh.2⟩⟩) (fun _ => rfl) (fun _ => rfl)
theorem keptL_f {r : Rec1} {l : List Bool} {f : Nat → Nat} {n : Nat} (h : n < l.length) (hb : l[n] = false) : keptL r l f (n + 1) = keptL r l f n := by
  refine List.ext_getElem (by rw [keptL_len, keptL_len]) fun i h1 h2 => ?_
  rw [keptL_len] at h1
  rw [keptL_at h1, keptL_at h1]
  by_cases e : n = i
  · subst e
    rw [if_neg (fun hh => absurd hh.2 (by rw [List.getD_eq_getElem?_getD, List.getElem?_eq_getElem h]; show ¬ l[n] = true; rw [hb]; exact Bool.false_ne_true)), if_neg (by omega)]
  exact ite_congr (propext ⟨fun hh => ⟨by omega, hh.2⟩, fun hh => ⟨by omega, hh.2⟩⟩) (fun _ => rfl) (fun _ => rfl)
def keptE (r : Rec1) (l : List Bool) : Rec1 := (r.1, r.2.1, keptL r l id l.length, gapsE l l.length)
theorem rKept_ok {r : ByteArray × Int × (List Nat) × (List (Int × Int))} {l : List Bool} (hr : r.2.2.1.length < 1000000) (hl : l.length = r.2.2.1.length) : VF Tryz.prog OA 106 [.v y55 r, .v (.sl .bool) l] (.v y55 (keptE r l)) := by
  refine VF.enter Tryz.func106 rfl (fun _ _ => rfl) rfl ?_
  show VC _ _ _ _ _ [(0, .v y55 r), (1, .v (.sl .bool) l)] [] _
  refine VC.seq (VC.text ?_); refine VO.new (.box) ?_; refine VO.cell (.alloc zt55) ?_; intro ww11; refine VO.go (VC.seq (VC.drawn ?_)); refine VD.c (.fa (.l .o)) ?_; refine VD.r [] (.ld vt9) (.inl rfl) ?_; refine VD.c (.fa (.r (.l .o))) ?_; refine VD.r [] (.ld vt3) (.inl rfl) ?_; refine VD.c (.fa (.r (.r (.l .o)))) ?_; refine VD.r [] (.ld vt53) (.inl rfl) ?_; refine VD.nw [] ?_; refine VD.r [] (.len el53) (.inl rfl) ?_; refine VD.cell (.make (k := r.2.2.1.length) rfl rfl el53 zt59 (by omega)) ?_; intro ww12; refine VD.c (.move rfl) ?_; refine VD.call rfl rfl (VF.call (rGaps_ok (by omega))) ?_
  refine VD.one m0 fun ho13 => ?_
  refine VD.c (.buildR (cs := [St r.1, I r.2.1, .raw ww12, .v y22 (gapsE l l.length)]) bt55 rfl rfl (.cons (.v) rfl rfl (.cons (.v) rfl rfl (.cons (.w ho13) rfl rfl (.cons (.v) rfl rfl (.nil rfl)))))) ?_; refine VD.cell (.alloc zt55) ?_; intro ww14; refine VD.mk0 (MakeV.setF (k := 0) vt55 (.aggs rfl (allC rfl (allC rfl (allC (p := .raw ww12) ho13 (allC rfl rfl))))) (Nat.le_of_ble_eq_true rfl) (.inr ⟨rfl, rfl⟩) rfl rfl) ?_; rintro _ _ tl15 ⟨rfl, rfl⟩; refine VD.go (VC.seq (VC.seq (VC.text ?_))); refine VO.c (.assign rfl) ?_; refine VO.go (VC.block ?_); refine VC.keep [(1, .v (.sl .bool) l), (2, .p y55 r), (4, .raw ww11), (5, .raw ww14), (6, I ((0 : Nat) : Int))] ⟨rfl, rfl, rfl, rfl, rfl, trivial⟩ ?_; refine VC.loop (I := fun kk ff ss => ∃ (i : Nat), kk = l.length - i ∧ ff = [(1, .v (.sl .bool) l), (2, .p y55 r), (4, .raw ww11), (5, .raw ww14), (6, I ((i : Nat) : Int))] ∧ ss = [(ww14, .var [St r.1, I r.2.1, .raw ww12, .v y22 (gapsE l l.length)]), (ww12, .row 59 (.flt .f32) (keptL r l id i)), (ww11, .var [St ByteArray.empty, I (0 : Int), .v y53 [], .v y22 []])] ∧ (i ≤ l.length) ∧ ((keptL r l id i).length = r.2.2.1.length)) ?_ _ _ _ ⟨0, rfl, rfl, (by rw [← keptL_0] <;> rfl), Nat.zero_le _, (by exact keptL_len)⟩; rintro kk ff ss ⟨i, hk0, rfl, rfl, hi, hkl⟩; refine VC.seq (VC.seq (VC.text ?_)); refine VO.c (.move rfl) ?_; refine VO.c (.move rfl) ?_; refine VO.r (.len el156) ?_; refine VO.c (.lss) ?_; refine VO.go ?_; refine VC.condD rfl (fun c3 => ?_) (fun c3 => ?_)
  · refine VC.skip (VC.seq (VC.block (VC.seq (VC.text ?_)))); refine VO.c (.move rfl) ?_; refine VO.c (.move rfl) ?_; refine VO.c (.ix (j := i) rfl rfl el156 (by omega)) ?_; refine VO.r (.ld vt4) ?_; refine VO.go ?_; refine VC.condB rfl (fun c5 => ?_) (fun c5 => ?_)
    · refine VC.drawn ?_; refine VD.co (.faO (k := 2) m0) ?_; refine VD.r [(ww14, .var [St r.1, I r.2.1, .raw ww12, .v y22 (gapsE l l.length)]), (ww12, .row 59 (.flt .f32) (keptL r l id i)), (ww11, .var [St ByteArray.empty, I (0 : Int), .v y53 [], .v y22 []])] (.ldF (k := 2) m0 vt53) (.inr ⟨rfl, rfl⟩) ?_; refine VD.c (.move rfl) ?_; refine VD.c (.fa (.r (.r (.l .o)))) ?_; refine VD.r [] (.ld vt53) (.inl rfl) ?_; refine VD.c (.move rfl) ?_; refine VD.nw [] ?_; refine VD.c (.ix (j := i) rfl rfl el53 (by omega)) ?_; refine VD.r [] (.ld vt59) (.inl rfl) ?_; refine VD.co (.ixO (j := i) rfl rfl m1 el53 (by omega)) ?_; refine VD.perm swap1 ?_; refine VD.mk0 (MakeV.setE (j := i) vt59 (by omega) rfl rfl) ?_; rintro _ _ tl16 ⟨rfl, rfl⟩; refine VD.nil ?_; refine VC.text ?_; refine VO.c (.move rfl) ?_; refine VO.c (.add rfl rfl (by omega)) ?_; refine VO.c (.assign rfl) ?_; refine VO.perm swap2 ?_; refine VO.perm swap1 ?_; refine VO.perm swap2 ?_; refine VO.nil ?_; refine ⟨_, [(1, .v (.sl .bool) l), (2, .p y55 r), (4, .raw ww11), (5, .raw ww14), (6, I (((i + 1) : Nat) : Int))], ?_, ⟨rfl, rfl, rfl, rfl, rfl, trivial⟩, (i + 1), rfl, rfl, (by first | (rw [keptL_t (by omega) (by omega) c5]; rfl) | (rw [keptL_f (by omega) c5])), (by omega), (by exact keptL_len)⟩
      omega
    refine VC.skip (VC.text ?_); refine VO.c (.move rfl) ?_; refine VO.c (.add rfl rfl (by omega)) ?_; refine VO.c (.assign rfl) ?_; refine VO.nil ?_; refine ⟨_, [(1, .v (.sl .bool) l), (2, .p y55 r), (4, .raw ww11), (5, .raw ww14), (6, I (((i + 1) : Nat) : Int))], ?_, ⟨rfl, rfl, rfl, rfl, rfl, trivial⟩, (i + 1), rfl, rfl, (by first | (rw [keptL_t (by omega) (by omega) c5]; rfl) | (rw [keptL_f (by omega) c5])), (by omega), (by exact keptL_len)⟩
    omega
  refine VC.exit (VC.seq ?_); refine VC.perm swap1 ?_; refine VC.shutL [(ww12, .row 59 (.flt .f32) (keptL r l id i)), (ww14, .var [St r.1, I r.2.1, .raw ww12, .v y22 (gapsE l l.length)])] [(5, .p y55 (r.1, r.2.1, (keptL r l id i), gapsE l l.length))] rfl (.cons rfl (.var m1 (.cons .same (.cons .same (.cons (.row m0) (.cons .same .nil))))) .nil) ?_; refine VC.text ?_; refine VO.r (.ld vt55) ?_; refine VO.setV (cs' := [St r.1, I r.2.1, .v y53 (keptL r l id i), .v y22 (gapsE l l.length)]) vt55 .v ?_; refine VO.go ?_; refine VC.ret ?_; exact VEnd.one rfl (.cell (x := (r.1, r.2.1, (keptL r l id i), gapsE l l.length)) rfl m0 vt55 .refl) (pvE (by rw [show i = l.length by omega] <;> rfl))
def plusZ (x : Nat) : Nat := (single.add x 0).getD 0
theorem u32_0 : u32 0 = some 0 := by decide +kernel
theorem plusZ_ok {x : Nat} (h : lvlE x = 0) : single.add x 0 = some (plusZ x) ∧ lvlE (plusZ x) = 0 ∧ u32 (plusZ x) = u32 x := by
  obtain ⟨h1, h2, h3⟩ := lvl_ok h
  obtain ⟨r, hr, hr2⟩ := add32 h1 u32_0 (by
    rw [Int.add_zero, Int.natAbs_mul]
    exact rep_small (n := (sxE x).natAbs) (j := 145) (by show _ < 2 ^ (23 + 1); omega) (by decide))
  have e : plusZ x = r := by rw [plusZ, hr] <;> rfl
  rw [Int.add_zero] at hr2
  rw [e]
  exact ⟨hr, (lvl_of hr2 h2 h3).1, by rw [hr2, h1]⟩
def keepL (r : Rec1) (l : List Bool) (n : Nat) : List Nat := (List.range r.2.2.1.length).map fun i => if i < n then (if l.getD i false = true then plusZ (r.2.2.1.getD i 0) else 0) else r.2.2.1.getD i 0
theorem keepL_len {r : Rec1} {l : List Bool} {n : Nat} : (keepL r l n).length = r.2.2.1.length := by simp [keepL]
theorem keepL_at {r : Rec1} {l : List Bool} {n i : Nat} (h : i < r.2.2.1.length) : (keepL r l n)[i]'(by rw [keepL_len]; exact h) = if i < n then (if l.getD i false = true then plusZ (r.2.2.1.getD i 0) else 0) else r.2.2.1.getD i 0 := by
  unfold keepL
  rw [List.getElem_map, List.getElem_range]
theorem getDat {α : Type} {l : List α} {i : Nat} {d : α} (h : i < l.length) : l.getD i d = l[i] := by
  rw [List.getD_eq_getElem?_getD, List.getElem?_eq_getElem h] <;> rfl
theorem keepL_0 {r : Rec1} {l : List Bool} : r.2.2.1 = keepL r l 0 := by
  refine List.ext_getElem (by rw [keepL_len]) fun i h1 h2 => ?_
  rw [keepL_at h1, if_neg (by omega), getDat h1]
theorem keepL_cur {r : Rec1} {l : List Bool} {n : Nat} (hn : n < r.2.2.1.length) (h : n < (keepL r l n).length) : (keepL r l n)[n] = r.2.2.1[n] := by
  rw [keepL_at hn, if_neg (by omega), getDat hn]
theorem keepL_s {r : Rec1} {l : List Bool} {n : Nat} (hn : n < r.2.2.1.length) : keepL r l (n + 1) = (keepL r l n).set n (if l.getD n false = true then plusZ (r.2.2.1.getD n 0) else 0) := by
  refine List.ext_getElem (by rw [List.length_set, keepL_len, keepL_len]) fun i h1 h2 => ?_
  rw [keepL_len] at h1
  rw [List.getElem_set, keepL_at h1]
  by_cases e : n = i
  · subst e
    rw [if_pos rfl, if_pos (by omega)]
  rw [if_neg e, keepL_at h1]
  exact ite_congr (propext ⟨fun hh => by omega, fun hh => by omega⟩) (fun _ => rfl) (fun _ => rfl)
theorem keepL_t {r : Rec1} {l : List Bool} {n : Nat} (hn : n < r.2.2.1.length) (h : n < l.length) (hb : l[n] = true) : keepL r l (n + 1) = (keepL r l n).set n (plusZ r.2.2.1[n]) := by
  rw [keepL_s hn, if_pos (by rw [getDat h]; exact hb), getDat hn]
theorem keepL_f {r : Rec1} {l : List Bool} {n : Nat} (hn : n < r.2.2.1.length) (h : n < l.length) (hb : l[n] = false) : keepL r l (n + 1) = (keepL r l n).set n 0 := by
  rw [keepL_s hn, if_neg (by rw [getDat h, hb]; exact Bool.false_ne_true)]
theorem keepL_all {r : Rec1} {l : List Bool} (h : l.length = r.2.2.1.length) : keepL r l l.length = keptL r l plusZ l.length := by
  refine List.ext_getElem (by rw [keepL_len, keptL_len]) fun i h1 h2 => ?_
  rw [keepL_len] at h1
  rw [keepL_at h1, keptL_at h1, if_pos (by omega)]
  exact ite_congr (propext ⟨fun hh => ⟨by omega, hh⟩, fun hh => hh.2⟩) (fun _ => rfl) (fun _ => rfl)
theorem gKeeping_ok {r : ByteArray × Int × (List Nat) × (List (Int × Int))} {l : List Bool} (hr : r.2.2.1.length < 1000000) (hl : l.length = r.2.2.1.length) (hv : ∀ x ∈ r.2.2.1, lvlE x = 0) : VF Tryz.prog OA 101 [.v y65 r, .v (.sl .bool) l] (.v y65 (r.1, r.2.1, keptL r l plusZ l.length, gapsE l l.length)) := by
  refine VF.enter Tryz.func101 rfl (fun _ _ => rfl) rfl ?_
  show VC _ _ _ _ _ [(0, .v y65 r), (1, .v (.sl .bool) l)] [] _
  refine VC.seq (VC.text ?_); refine VO.new (.box) ?_; refine VO.cell (.alloc zt65) ?_; intro ww17; refine VO.go (VC.seq (VC.drawn ?_)); refine VD.c (.fa (.l .o)) ?_; refine VD.r [] (.ld vt9) (.inl rfl) ?_; refine VD.c (.fa (.r (.l .o))) ?_; refine VD.r [] (.ld vt3) (.inl rfl) ?_; refine VD.c (.fa (.r (.r (.l .o)))) ?_; refine VD.r [] (.ld vt53) (.inl rfl) ?_; refine VD.nw [] ?_; refine VD.r [] (.len el53) (.inl rfl) ?_; refine VD.cell (.make (k := r.2.2.1.length) rfl rfl el53 zt59 (by omega)) ?_; intro ww18
  refine VD.one m0 fun ho19 => ?_
  refine VD.c (.buildR (cs := [St r.1, I r.2.1, .raw ww18, nilV]) bt65 rfl rfl (.cons (.v) rfl rfl (.cons (.v) rfl rfl (.cons (.w ho19) rfl rfl (.nil rfl))))) ?_; refine VD.cell (.alloc zt65) ?_; intro ww20; refine VD.mk0 (MakeV.setF (k := 0) vt65 (.aggs rfl (allC rfl (allC rfl (allC (p := .raw ww18) ho19 (allC rfl rfl))))) (Nat.le_of_ble_eq_true rfl) (.inr ⟨rfl, rfl⟩) rfl rfl) ?_; rintro _ _ tl21 ⟨rfl, rfl⟩; refine VD.go (VC.seq (VC.text ?_)); refine VO.c (.faO (k := 2) m0) ?_; refine VO.r (.ldF (k := 2) m0 vt53) ?_; refine VO.c (.fa (.r (.r (.l .o)))) ?_; refine VO.r (.ld vt53) ?_; refine VO.perm swap1 ?_; refine VO.copy rfl rfl el53 (by simp) ?_; refine VO.go (VC.seq (VC.seq (VC.text ?_))); refine VO.c (.move rfl) ?_; refine VO.r (.len el156) ?_; refine VO.c (.move rfl) ?_; refine VO.go (VC.block ?_); refine VC.cell0 39 y39 ?_; refine VC.keep [(4, .raw ww17), (5, .raw ww20), (22, .v (.sl .bool) l), (23, I ((l.length : Nat) : Int)), (24, I ((0 : Nat) : Int))] ⟨rfl, rfl, rfl, rfl, rfl, trivial⟩ ?_; refine VC.loop (I := fun kk ff ss => ∃ (i : Nat) (w : Value), kk = l.length - i ∧ ff = [(4, .raw ww17), (5, .raw ww20), (22, .v (.sl .bool) l), (23, I ((l.length : Nat) : Int)), (24, I ((i : Nat) : Int))] ∧ ss = [(w, .row 39 y39 (unitE l i)), (ww18, .row 59 (.flt .f32) (keepL r l i)), (ww20, .var [St r.1, I r.2.1, .raw ww18, .raw w]), (ww17, .var [St ByteArray.empty, I (0 : Int), .v y53 [], .v y22 []])] ∧ (i ≤ l.length) ∧ ((keepL r l i).length = r.2.2.1.length) ∧ ((unitE l i).length ≤ i)) ?_ _ _ _ ⟨0, (.slice none 0 0), rfl, rfl, (by rw [← keepL_0] <;> rfl), Nat.zero_le _, (by exact keepL_len), (by exact Nat.le_refl _)⟩; rintro kk ff ss ⟨i, w, hk0, rfl, rfl, hi, hkl, hul⟩; refine VC.seq (VC.text ?_); refine VO.c (.lss) ?_; refine VO.go (VC.seq ?_); refine VC.condD rfl (fun c4 => ?_) (fun c4 => ?_)
  · have hil : i < r.2.2.1.length := by omega
    have hkc := keepL_cur (r := r) (l := l) hil (by omega)
    have hpz : single.add ((keepL r l i)[i]'(by omega)) 0 = some (plusZ r.2.2.1[i]) := by rw [hkc]; exact (plusZ_ok (hv _ (List.getElem_mem hil))).1
    refine VC.skip (VC.seq (VC.block (VC.seq (VC.text ?_)))); refine VO.c (.move rfl) ?_; refine VO.c (.ix (j := i) rfl rfl el156 (by omega)) ?_; refine VO.r (.ld vt4) ?_; refine VO.c (.assign rfl) ?_; refine VO.c (.assign rfl) ?_; refine VO.go (VC.seq (VC.seq (VC.text ?_))); refine VO.c (.move rfl) ?_; refine VO.go ?_; refine VC.condB rfl (fun c6 => ?_) (fun c6 => ?_)
    · refine VC.seq (VC.text ?_); refine VO.c (.faO (k := 2) m2) ?_; refine VO.r (.ldF (k := 2) m2 vt53) ?_; refine VO.c (.move rfl) ?_; refine VO.c (.ixO (j := i) rfl rfl m1 el53 (by omega)) ?_; refine VO.r (.ldO rfl m1 vt59 (by omega)) ?_; refine VO.c (.fop (add32E hpz)) ?_; refine VO.c (.ixO (j := i) rfl rfl m1 el53 (by omega)) ?_; refine VO.perm swap1 ?_; refine VO.setE i rfl rfl vt59 (by omega) ?_; refine VO.go (VC.exit (VC.text ?_)); refine VO.c (.add rfl rfl (by omega)) ?_; refine VO.c (.move rfl) ?_; refine VO.perm swap3 ?_; refine VO.perm swap3 ?_; refine VO.perm swap2 ?_; refine VO.perm swap3 ?_; refine VO.nil ?_; refine ⟨_, [(4, .raw ww17), (5, .raw ww20), (22, .v (.sl .bool) l), (23, I ((l.length : Nat) : Int)), (24, I (((i + 1) : Nat) : Int))], ?_, ⟨rfl, rfl, rfl, rfl, rfl, trivial⟩, (i + 1), w, rfl, rfl, (by first | (rw [keepL_t (by omega) (by omega) c6, unitE_t (by omega) c6]; done) | (rw [keepL_f (by omega) (by omega) c6, unitE_f (by omega) (by rw [c6]; exact Bool.false_ne_true)]; done) | (rw [keepL_t (by omega) (by omega) c6, unitE_t (by omega) c6]; rfl) | (rw [keepL_f (by omega) (by omega) c6, unitE_f (by omega) (by rw [c6]; exact Bool.false_ne_true)]; rfl)), (by omega), (by exact keepL_len), (by exact unitE_len l _)⟩
      omega
    refine VC.skip (VC.seq (VC.text ?_)); refine VO.c (.faO (k := 2) m2) ?_; refine VO.r (.ldF (k := 2) m2 vt53) ?_; refine VO.c (.move rfl) ?_; refine VO.c (.ixO (j := i) rfl rfl m1 el53 (by omega)) ?_; refine VO.perm swap1 ?_; refine VO.setE i rfl rfl vt59 (by omega) ?_; refine VO.go (VC.text ?_); refine VO.c (.faO (k := 3) m2) ?_; refine VO.r (.ldF (k := 3) m2 vt22AP) ?_; refine VO.c (.move rfl) ?_; refine VO.c (.move rfl) ?_; refine VO.c (.add rfl rfl (by omega)) ?_; refine VO.c (.build (((i : Nat) : Int), (((i : Nat) : Int) + (1 : Int))) bt39) ?_; refine VO.new (.lit [(((i : Nat) : Int), (((i : Nat) : Int) + (1 : Int)))] el22) ?_; refine VO.perm swap1 ?_; refine VO.app rfl rfl el22 el22 (by simp; omega) ?_; intro ww22; refine VO.c (.faO (k := 3) m2) ?_; refine VO.perm swap2 ?_
    refine VO.one m1 fun ho23 => ?_
    refine VO.setF (cs' := [St r.1, I r.2.1, .raw ww18, .raw ww22]) 3 vt22AP (.raw rfl (agg_one ho23) ho23) ?_; refine VO.nil (VC.text ?_); refine VO.c (.add rfl rfl (by omega)) ?_; refine VO.c (.move rfl) ?_; refine VO.perm swap3 ?_; refine VO.perm swap1 ?_; refine VO.perm swap3 ?_; refine VO.perm swap3 ?_; refine VO.nil ?_; refine ⟨_, [(4, .raw ww17), (5, .raw ww20), (22, .v (.sl .bool) l), (23, I ((l.length : Nat) : Int)), (24, I (((i + 1) : Nat) : Int))], ?_, ⟨rfl, rfl, rfl, rfl, rfl, trivial⟩, (i + 1), ww22, rfl, rfl, (by first | (rw [keepL_t (by omega) (by omega) c6, unitE_t (by omega) c6]; done) | (rw [keepL_f (by omega) (by omega) c6, unitE_f (by omega) (by rw [c6]; exact Bool.false_ne_true)]; done) | (rw [keepL_t (by omega) (by omega) c6, unitE_t (by omega) c6]; rfl) | (rw [keepL_f (by omega) (by omega) c6, unitE_f (by omega) (by rw [c6]; exact Bool.false_ne_true)]; rfl)), (by omega), (by exact keepL_len), (by exact unitE_len l _)⟩
    omega
  refine VC.exit (VC.seq (VC.text ?_)); refine VO.c (.faO (k := 3) m2) ?_; refine VO.r (.ldF (k := 3) m2 vt22AP) ?_; refine VO.callG [(w, .row 39 y39 (unitE l i))] rfl rfl rfl (VFG.call (gCanonO_ok (Nat.lt_of_le_of_lt (unitE_len _ _) (by omega)))) ?_; rintro _ _ ⟨rfl, rfl⟩
  show VO _ _ _ _ _ _ [(ww18, .row 59 (.flt .f32) (keepL r l i)), (ww20, .var [St r.1, I r.2.1, .raw ww18, .raw w]), (ww17, .var [St ByteArray.empty, I (0 : Int), .v y53 [], .v y22 []])] _
  refine VO.c (.faO (k := 3) m1) ?_; refine VO.perm swap1 ?_; refine VO.setF (cs' := [St r.1, I r.2.1, .raw ww18, .v y22 (canE (unitE l i))]) 3 vt22AP .v ?_; refine VO.go (VC.seq ?_); refine VC.perm swap1 ?_; refine VC.shutL [(ww18, .row 59 (.flt .f32) (keepL r l i)), (ww20, .var [St r.1, I r.2.1, .raw ww18, .v y22 (canE (unitE l i))])] [(5, .p y65 (r.1, r.2.1, (keepL r l i), canE (unitE l i)))] rfl (.cons rfl (.var m1 (.cons .same (.cons .same (.cons (.row m0) (.cons .same .nil))))) .nil) ?_; refine VC.text ?_; refine VO.r (.ld vt65) ?_; refine VO.setV (cs' := [St r.1, I r.2.1, .v y53 (keepL r l i), .v y22 (canE (unitE l i))]) vt65 .v ?_; refine VO.go ?_; refine VC.ret ?_; exact VEnd.one rfl (.cell (x := (r.1, r.2.1, (keepL r l i), canE (unitE l i))) rfl m0 vt65 .refl) (pvE (by rw [show i = l.length by omega, unit_can, keepL_all hl] <;> rfl))
end Go.Proofs
namespace Go.Fs
variable {P : Program} {fl : VL} {σ : Sto} {T T' : TypeId} {x y : Operand} {p q : Int}
end Go.Fs
namespace Go.Fs
variable {P : Program} {orc : FuncId → List Value → Heap → Option (Value × Heap)} {h : Heap} {σ ρ : Sto} {fl : VL} {ops : Array Oper} {n i mem : Nat} {l : List Oper} {K : VL → Sto → Prop} {nw bs : List Nat} {tl : Bool} {hr : Heap} {S0 A : List Nat} {t : Tr} {rd chg : List Nat}
end Go.Fs
namespace Go.Proofs
open Go.Fs Ieee
set_option linter.unusedVariables false
set_option maxHeartbeats 400000

theorem rec_ok {r : Rec1} (h : recE r = 0) : (0 ≤ r.2.1 ∧ r.2.1 ≤ 100000) ∧ r.2.2.1.length ≤ 4096 ∧ r.2.2.2.length ≤ 2048 ∧ (∀ x ∈ r.2.2.1, lvlE x = 0) ∧ ∀ s ∈ r.2.2.2, 0 ≤ s.1 ∧ s.1 < s.2 ∧ s.2 ≤ (r.2.2.1.length : Nat) := by
  unfold recE at h
  split at h
  · rename_i h1; exact absurd h h1
  rename_i h1
  split at h
  · rename_i h2; exact absurd h h2
  rename_i h2
  split at h
  · cases h
  rename_i h3
  have h1 := firstE_zero.1 (Classical.not_not.1 h1)
  have h2 := bodyE_zero.1 (Classical.not_not.1 h2)
  have h4 := spans_canon h2.2
  have h5 := bey_f (by simpa using h3)
  have h6 := h1 (rangeE r.2.1 0 100000) (by simp)
  have h7 := h1 (whenE (decide ((4096 : Int) < (r.2.2.1.length : Nat))) 5) (by simp)
  have h6 : 0 ≤ r.2.1 ∧ r.2.1 ≤ 100000 := by
    unfold rangeE at h6
    split at h6
    · cases h6
    omega
  rw [whenE_zero (by decide), decide_eq_false_iff_not] at h7
  refine ⟨h6, by omega, h4.2, fun x hx => firstE_zero.1 h2.1 _ (List.mem_map.2 ⟨x, hx, rfl⟩), fun s hs => ?_⟩
  have h8 := h4.1.1 s hs
  exact ⟨h8.1, h8.2.1, h5 s hs⟩
def sameLv (a b : List Nat) : Bool := decide (a.length = b.length ∧ ∀ i, i < a.length → fcmpE .neq .f32 (a.getD i 0) (b.getD i 0) = false)
theorem rSameLv_ok {a : List Nat} {b : List Nat} (ha : a.length < 1000000) : VF Tryz.prog OA 67 [.v y53 a, .v y53 b] (B (sameLv a b)) := by
  refine VF.enter Tryz.func67 rfl (fun _ _ => rfl) rfl ?_
  show VC _ _ _ _ _ [(0, .v y53 a), (1, .v y53 b)] [] _
  refine VC.seq (VC.text ?_); refine VO.c (.assign rfl) ?_; refine VO.go (VC.seq (VC.seq (VC.text ?_))); refine VO.c (.move rfl) ?_; refine VO.r (.len el53) ?_; refine VO.c (.move rfl) ?_; refine VO.r (.len el53) ?_; refine VO.c (.neq) ?_; refine VO.go ?_; refine VC.condD rfl (fun c1 => ?_) (fun c1 => ?_)
  · have hne : ¬ a.length = b.length := by omega
    refine VC.seq (VC.text ?_); refine VO.c (.assign rfl) ?_; refine VO.go ?_; refine VC.ret ?_; exact VEnd.one rfl evT (pvE (by exact (decide_eq_false fun hh => hne hh.1).symm))
  have hle : a.length = b.length := by omega
  refine VC.skip (VC.seq (VC.seq (VC.text ?_))); refine VO.c (.assign rfl) ?_; refine VO.go (VC.block ?_); refine VC.keep [(0, .v y53 a), (1, .v y53 b), (5, I ((0 : Nat) : Int))] ⟨rfl, rfl, rfl, trivial⟩ ?_; refine VC.loop (I := fun kk ff ss => ∃ (i : Nat), kk = a.length - i ∧ ff = [(0, .v y53 a), (1, .v y53 b), (5, I ((i : Nat) : Int))] ∧ ss = [] ∧ (i ≤ a.length) ∧ (∀ j, j < i → fcmpE .neq .f32 (a.getD j 0) (b.getD j 0) = false)) ?_ _ _ _ ⟨0, rfl, rfl, rfl, Nat.zero_le _, (by intro j hj; omega)⟩; rintro kk ff ss ⟨i, hk0, rfl, rfl, hi, hn⟩; refine VC.seq (VC.seq (VC.text ?_)); refine VO.c (.move rfl) ?_; refine VO.c (.move rfl) ?_; refine VO.r (.len el53) ?_; refine VO.c (.lss) ?_; refine VO.go ?_; refine VC.condD rfl (fun c4 => ?_) (fun c4 => ?_)
  · have hi' : i < a.length := by omega
    refine VC.skip (VC.seq (VC.block (VC.seq (VC.drawn ?_)))); refine VD.c (.move rfl) ?_; refine VD.c (.move rfl) ?_; refine VD.c (.ix (j := i) rfl rfl el53 (by omega)) ?_; refine VD.r [] (.ld vt59) (.inl rfl) ?_; refine VD.c (.move rfl) ?_; refine VD.c (.move rfl) ?_; refine VD.nw [] ?_; refine VD.c (.ix (j := i) rfl rfl el53 (by omega)) ?_; refine VD.r [] (.ld vt59) (.inl rfl) ?_; refine VD.c (.fcmp .neq) ?_; refine VD.go ?_; refine VC.condB rfl (fun c6 => ?_) (fun c6 => ?_)
    · have c6' : fcmpE .neq .f32 (a.getD i 0) (b.getD i 0) = true := by simpa [hi', show i < b.length by omega] using c6
      refine VC.seq (VC.text ?_); refine VO.c (.assign rfl) ?_; refine VO.go ?_; refine VC.ret ?_; exact VEnd.one rfl evT (pvE (by exact (decide_eq_false fun hh => by rw [hh.2 i hi'] at c6'; cases c6').symm))
    have c6' : fcmpE .neq .f32 (a.getD i 0) (b.getD i 0) = false := by simpa [hi', show i < b.length by omega] using c6
    refine VC.skip (VC.text ?_); refine VO.c (.move rfl) ?_; refine VO.c (.add rfl rfl (by omega)) ?_; refine VO.c (.assign rfl) ?_; refine VO.nil ?_; refine ⟨_, [(0, .v y53 a), (1, .v y53 b), (5, I (((i + 1) : Nat) : Int))], ?_, ⟨rfl, rfl, rfl, trivial⟩, (i + 1), rfl, rfl, rfl, (by omega), (by intro j hj; rcases Nat.lt_succ_iff_lt_or_eq.1 hj with h | h; exact hn j h; subst h; exact c6')⟩
    omega
  refine VC.exit (VC.seq (VC.text ?_)); refine VO.c (.assign rfl) ?_; refine VO.go ?_; refine VC.ret ?_; exact VEnd.one rfl evT (pvE (by exact (decide_eq_true ⟨hle, fun j hj => hn j (by omega)⟩).symm))
def sameRec (a b : Rec1) : Bool := decide (a.1 = b.1) && decide (a.2.1 = b.2.1) && sameLv a.2.2.1 b.2.2.1 && decide (a.2.2.2 = b.2.2.2)
theorem rSameRec_ok {a : ByteArray × Int × (List Nat) × (List (Int × Int))} {b : ByteArray × Int × (List Nat) × (List (Int × Int))} (ha : a.2.2.1.length < 1000000) (ha2 : a.2.2.2.length < 1000000) (hb2 : b.2.2.2.length < 1000000) : VF Tryz.prog OA 66 [.v y55 a, .v y55 b] (B (sameRec a b)) := by
  refine VF.enter Tryz.func66 rfl (fun _ _ => rfl) rfl ?_
  show VC _ _ _ _ _ [(0, .v y55 a), (1, .v y55 b)] [] _
  refine VC.seq (VC.text ?_); refine VO.new (.box) ?_; refine VO.new (.box) ?_; refine VO.c (.assign rfl) ?_; refine VO.go (VC.seq (VC.text ?_)); refine VO.c (.fa (.l .o)) ?_; refine VO.r (.ld vt9) ?_; refine VO.c (.fa (.l .o)) ?_; refine VO.r (.ld vt9) ?_; refine VO.c (.seql) ?_; refine VO.c (.move rfl) ?_; refine VO.cg (r := decide (a.1 = b.1)) (w := true) [] trivial (fun _ => (.fa (.r (.l .o)))) ?_; refine VO.rg (r := decide (a.1 = b.1)) (w := true) [(11, .p (.int .i64) a.2.1)] ⟨rfl, trivial⟩ (fun _ => (.ld vt3)) ?_; refine VO.cg (r := decide (a.1 = b.1)) (w := true) [] trivial (fun _ => (.fa (.r (.l .o)))) ?_; refine VO.rg (r := decide (a.1 = b.1)) (w := true) [(13, .p (.int .i64) b.2.1)] ⟨rfl, trivial⟩ (fun _ => (.ld vt3)) ?_; refine VO.cg (r := decide (a.1 = b.1)) (w := true) [(12, I a.2.1), (14, I b.2.1)] ⟨rfl, rfl, trivial⟩ (fun _ => (.eql)) ?_; refine VO.c (.and) ?_; refine VO.c (.move rfl) ?_; refine VO.cg (r := ((decide (a.1 = b.1)) && (decide (a.2.1 = b.2.1)))) (w := true) [] trivial (fun _ => (.fa (.r (.r (.l .o))))) ?_; refine VO.rg (r := ((decide (a.1 = b.1)) && (decide (a.2.1 = b.2.1)))) (w := true) [(18, .p y53 a.2.2.1)] ⟨rfl, trivial⟩ (fun _ => (.ld vt53)) ?_; refine VO.cg (r := ((decide (a.1 = b.1)) && (decide (a.2.1 = b.2.1)))) (w := true) [] trivial (fun _ => (.fa (.r (.r (.l .o))))) ?_; refine VO.rg (r := ((decide (a.1 = b.1)) && (decide (a.2.1 = b.2.1)))) (w := true) [(20, .p y53 b.2.2.1)] ⟨rfl, trivial⟩ (fun _ => (.ld vt53)) ?_; refine VO.callg (r0 := ((decide (a.1 = b.1)) && (decide (a.2.1 = b.2.1)))) (w := true) [(19, .v y53 a.2.2.1), (21, .v y53 b.2.2.1)] ⟨rfl, rfl, trivial⟩ rfl rfl .same .refl rfl (fun hgd => have g1_12 : ((decide (a.1 = b.1)) && (decide (a.2.1 = b.2.1))) = true := (by simpa using hgd); VF.call (rSameLv_ok (by first | assumption | omega | simp))) ?_; refine VO.c (.and) ?_; refine VO.c (.move rfl) ?_; refine VO.cg (r := (((decide (a.1 = b.1)) && (decide (a.2.1 = b.2.1))) && (sameLv a.2.2.1 b.2.2.1))) (w := true) [] trivial (fun _ => (.fa (.r (.r (.r (k := 0) .o))))) ?_; refine VO.rg (r := (((decide (a.1 = b.1)) && (decide (a.2.1 = b.2.1))) && (sameLv a.2.2.1 b.2.2.1))) (w := true) [(25, .p y22 a.2.2.2)] ⟨rfl, trivial⟩ (fun _ => (.ld vt22AP)) ?_; refine VO.cg (r := (((decide (a.1 = b.1)) && (decide (a.2.1 = b.2.1))) && (sameLv a.2.2.1 b.2.2.1))) (w := true) [] trivial (fun _ => (.fa (.r (.r (.r (k := 0) .o))))) ?_; refine VO.rg (r := (((decide (a.1 = b.1)) && (decide (a.2.1 = b.2.1))) && (sameLv a.2.2.1 b.2.2.1))) (w := true) [(27, .p y22 b.2.2.2)] ⟨rfl, trivial⟩ (fun _ => (.ld vt22AP)) ?_; refine VO.callg (r0 := (((decide (a.1 = b.1)) && (decide (a.2.1 = b.2.1))) && (sameLv a.2.2.1 b.2.2.1))) (w := true) [(26, .v y22 a.2.2.2), (28, .v y22 b.2.2.2)] ⟨rfl, rfl, trivial⟩ rfl rfl .same .refl rfl (fun hgd => have g1_19 : (((decide (a.1 = b.1)) && (decide (a.2.1 = b.2.1))) && (sameLv a.2.2.1 b.2.2.1)) = true := (by simpa using hgd); VF.call (rSameSp_ok (by first | assumption | omega | simp) (by first | assumption | omega | simp))) ?_; refine VO.c (.and) ?_; refine VO.c (.assign rfl) ?_; refine VO.go ?_; refine VC.ret ?_; exact VEnd.one rfl evT (pvE (by first | rfl | simp [sameRec, *]))
theorem lOwn_ok {r : ByteArray × Int × (List Nat) × (List (Int × Int))} : VF Tryz.prog OA 65 [.v y65 r] (.v y55 r) := by
  refine VF.enter Tryz.func65 rfl (fun _ _ => rfl) rfl ?_
  show VC _ _ _ _ _ [(0, .v y65 r)] [] _
  refine VC.seq (VC.text ?_); refine VO.new (.box) ?_; refine VO.cell (.alloc zt55) ?_; intro ww1; refine VO.go (VC.seq (VC.text ?_)); refine VO.r (.ld vt65) ?_; refine VO.setV (cs' := [St r.1, I r.2.1, .v y53 r.2.2.1, .v y22 r.2.2.2]) vt55 .v ?_; refine VO.go ?_; refine VC.ret ?_; exact VEnd.one rfl (.cell (x := r) rfl m0 vt55 .refl) (pvE (by rfl))
def zRec : Rec1 := (ByteArray.empty, 0, [], [])
def toldE (have_ : Rec1) (e bad : Int) (want : Rec1) : Bool := if bad ≠ 0 then sameRec have_ zRec && decide (e = bad) else decide (e = 0) && sameRec have_ want
theorem lTold_ok {v : ByteArray × Int × (List Nat) × (List (Int × Int))} {e : Int} {bad : Int} {want : ByteArray × Int × (List Nat) × (List (Int × Int))} (ha : v.2.2.1.length < 1000000) (ha2 : v.2.2.2.length < 1000000) (hb2 : want.2.2.2.length < 1000000) : VF Tryz.prog OA 55 [.v y65 v, I e, I bad, .v y55 want] (B (toldE v e bad want)) := by
  refine VF.enter Tryz.func55 rfl (fun _ _ => rfl) rfl ?_
  show VC _ _ _ _ _ [(0, .v y65 v), (1, I e), (2, I bad), (3, .v y55 want)] [] _
  refine VC.seq (VC.text ?_); refine VO.new (.box) ?_; refine VO.new (.box) ?_; refine VO.c (.assign rfl) ?_; refine VO.go (VC.seq (VC.seq (VC.text ?_))); refine VO.c (.move rfl) ?_; refine VO.c (.neq) ?_; refine VO.go ?_; refine VC.condD rfl (fun c1 => ?_) (fun c1 => ?_)
  · refine VC.seq (VC.text ?_); refine VO.r (.ld vt65) ?_; refine VO.call rfl rfl (VF.call (lOwn_ok )) ?_; refine VO.c (.build (ByteArray.empty, 0, [], []) bt55) ?_; refine VO.call rfl rfl (VF.call (rSameRec_ok ha ha2 (by decide))) ?_; refine VO.c (.move rfl) ?_; refine VO.cg (r := sameRec v (ByteArray.empty, 0, [], [])) (w := true) [] trivial (fun _ => (.move rfl)) ?_; refine VO.cg (r := sameRec v (ByteArray.empty, 0, [], [])) (w := true) [] trivial (fun _ => (.move rfl)) ?_; refine VO.cg (r := sameRec v (ByteArray.empty, 0, [], [])) (w := true) [(16, I e), (17, I bad)] ⟨rfl, rfl, trivial⟩ (fun _ => (.eql)) ?_; refine VO.c (.and) ?_; refine VO.c (.assign rfl) ?_; refine VO.go ?_; refine VC.ret ?_; exact VEnd.one rfl evT (pvE (by rw [toldE, if_pos c1] <;> rfl))
  refine VC.skip (VC.seq (VC.drawn ?_)); refine VD.c (.move rfl) ?_; refine VD.c (.eql) ?_; refine VD.c (.move rfl) ?_; refine VD.splitD (x := 22) rfl (fun g3_2 => ?_) (fun g3_2 => ?_)
  · refine VD.r [] (.ld vt65) (.inl rfl) ?_; refine VD.call rfl rfl (VF.call (lOwn_ok )) ?_; refine VD.nw [24] ?_; refine VD.r [] (.ld vt55) (.inl rfl) ?_; refine VD.callO rfl rfl (VF.call (rSameRec_ok (by first | assumption | omega | simp) (by first | assumption | omega | simp) (by first | assumption | omega | simp))) ?_; refine VD.c (.pickT rfl rfl) ?_; refine VD.c (.assign rfl) ?_; refine VD.go ?_; refine VC.ret ?_; exact VEnd.one rfl evT (pvE (by rw [toldE, if_neg c1]; first | rfl | simp [*]))
  refine VD.skip ?_; refine VD.skip ?_; refine VD.nw [] ?_; refine VD.skip ?_; refine VD.skip ?_; refine VD.c (.pickF rfl rfl) ?_; refine VD.c (.assign rfl) ?_; refine VD.go ?_; refine VC.ret ?_; exact VEnd.one rfl evT (pvE (by rw [toldE, if_neg c1]; first | rfl | simp [*]))
def recB (r : Rec1) (i : Int) : Bool := decide (0 ≤ i) && decide (i < (r.2.2.1.length : Nat)) && !Sp.inL r.2.2.2 i
theorem rRecorded_ok {r : ByteArray × Int × (List Nat) × (List (Int × Int))} {i : Int} (hg : r.2.2.2.length < 1000000) : VF Tryz.prog OA 104 [.v y55 r, I i] (B (recB r i)) := by
  refine VF.enter Tryz.func104 rfl (fun _ _ => rfl) rfl ?_
  show VC _ _ _ _ _ [(0, .v y55 r), (1, I i)] [] _
  refine VC.seq (VC.text ?_); refine VO.new (.box) ?_; refine VO.c (.assign rfl) ?_; refine VO.go (VC.seq (VC.text ?_)); refine VO.c (.move rfl) ?_; refine VO.c (.geq) ?_; refine VO.c (.move rfl) ?_; refine VO.cg (r := decide ((0 : Int) ≤ i)) (w := true) [] trivial (fun _ => (.move rfl)) ?_; refine VO.cg (r := decide ((0 : Int) ≤ i)) (w := true) [] trivial (fun _ => (.fa (.r (.r (.l .o))))) ?_; refine VO.rg (r := decide ((0 : Int) ≤ i)) (w := true) [(9, .p y53 r.2.2.1)] ⟨rfl, trivial⟩ (fun _ => (.ld vt53)) ?_; refine VO.rg (r := decide ((0 : Int) ≤ i)) (w := true) [(10, .v y53 r.2.2.1)] ⟨rfl, trivial⟩ (fun _ => (.len el53)) ?_; refine VO.cg (r := decide ((0 : Int) ≤ i)) (w := true) [(8, I i), (11, I ((r.2.2.1.length : Nat) : Int))] ⟨rfl, rfl, trivial⟩ (fun _ => (.lss)) ?_; refine VO.c (.and) ?_; refine VO.c (.move rfl) ?_; refine VO.cg (r := ((decide ((0 : Int) ≤ i)) && (decide (i < ((r.2.2.1.length : Nat) : Int))))) (w := true) [] trivial (fun _ => (.fa (.r (.r (.r (k := 0) .o))))) ?_; refine VO.rg (r := ((decide ((0 : Int) ≤ i)) && (decide (i < ((r.2.2.1.length : Nat) : Int))))) (w := true) [(15, .p y22 r.2.2.2)] ⟨rfl, trivial⟩ (fun _ => (.ld vt22AP)) ?_; refine VO.cg (r := ((decide ((0 : Int) ≤ i)) && (decide (i < ((r.2.2.1.length : Nat) : Int))))) (w := true) [] trivial (fun _ => (.move rfl)) ?_; refine VO.callg (r0 := ((decide ((0 : Int) ≤ i)) && (decide (i < ((r.2.2.1.length : Nat) : Int))))) (w := true) [(16, .v y22 r.2.2.2), (17, I i)] ⟨rfl, rfl, trivial⟩ rfl rfl .same .refl rfl (fun hgd => have g1_9 : ((decide ((0 : Int) ≤ i)) && (decide (i < ((r.2.2.1.length : Nat) : Int)))) = true := (by simpa using hgd); VF.call (rHas_ok (by first | assumption | omega | simp))) ?_; refine VO.cg (r := ((decide ((0 : Int) ≤ i)) && (decide (i < ((r.2.2.1.length : Nat) : Int))))) (w := true) [(18, B (Sp.inL r.2.2.2 i))] ⟨rfl, trivial⟩ (fun _ => (.not)) ?_; refine VO.c (.and) ?_; refine VO.c (.assign rfl) ?_; refine VO.go ?_; refine VC.ret ?_; exact VEnd.one rfl evT (pvE (by first | rfl | simp [recB, *]))
theorem recB_in {r : Rec1} {i : Nat} (h : i < r.2.2.1.length) : recB r i = !Sp.inL r.2.2.2 i := by
  unfold recB
  rw [decide_eq_true (show (0 : Int) ≤ (i : Int) by omega), decide_eq_true (show (i : Int) < (r.2.2.1.length : Nat) by omega)] <;> rfl
def both (a b : Rec1) : Rec1 := (a.1, a.2.1, a.2.2.1 ++ b.2.2.1, [])
end Go.Proofs
namespace Go.Proofs
open Go.Fs Ieee
set_option linter.unusedVariables false
set_option maxHeartbeats 400000

theorem neq_z : fcmpE .neq .f32 0 0 = false := by decide +kernel
end Go.Proofs
namespace Go.Fs
variable {P : Program} {σ : Sto} {fl : VL} {x y : Operand} {T : TypeId} {τ : Ty}
def arrNB (P : Program) (T e : TypeId) (m k : Nat) : Bool := match P.underlying T with
  | some (.array n e') => Nat.beq n m && Nat.beq e' e && (match P.info? e with | some i => Nat.beq i.size k | none => false)
  | _ => false
theorem ReadV.arr3 {a b c : τ.den} (e : TypeId) (hb : arrNB P T e 3 τ.size = true := by kernel_rfl) (hx : evV fl x = some (.p (.pair τ (.pair τ τ)) (a, b, c)) := by rfl) : ReadV P fl σ (.slice T x none none none) (.v (.sl τ) [a, b, c]) :=
  ⟨rfl, fun h S t hs _ => by
    have hp : RepP h S (.pair τ (.pair τ τ)) (evalO t x) (a, b, c) := hs x (by simp [Op.operands]) _ hx
    obtain ⟨bb, o, e', rs, own, more, h1, h2, h3, h4, h5⟩ := hp
    have h4 : o + (τ.size + (τ.size + τ.size)) ≤ rs.length := h4
    have h5 : RepC h S τ (((rs.drop o).take (τ.size + (τ.size + τ.size))).take τ.size) a ∧ RepC h S τ ((((rs.drop o).take (τ.size + (τ.size + τ.size))).drop τ.size).take τ.size) b ∧ RepC h S τ ((((rs.drop o).take (τ.size + (τ.size + τ.size))).drop τ.size).drop τ.size) c := h5
    refine ⟨.slice (some ⟨bb, o, none⟩) 3 1, SlV.rep (.inr ⟨bb, o, 1, rfl, .inr ⟨h2, e', rs, own, more, h3, by show o + 3 * τ.size ≤ _; omega, fun i hi => ?_⟩⟩), fun H _ _ _ _ _ _ => ?_⟩
    · have hi : i < 3 := hi
      rcases i with _ | _ | _ | i
      · have := h5.1
        rw [List.take_take, Nat.min_eq_left (by omega)] at this
        rw [Nat.zero_mul, Nat.add_zero]
        exact this
      · have := h5.2.1
        rw [List.drop_take, List.drop_drop, List.take_take, Nat.min_eq_left (by omega)] at this
        rw [show o + (0 + 1) * τ.size = o + τ.size by omega]
        exact this
      · have := h5.2.2
        rw [List.drop_take, List.drop_drop, List.drop_take, List.drop_drop] at this
        rw [show o + (0 + 1 + 1) * τ.size = o + τ.size + τ.size by omega]
        rw [show τ.size + (τ.size + τ.size) - τ.size - τ.size = τ.size by omega] at this
        exact this
      omega
    show (fsSlice P T (evalO t x) none none none H).map _ = _
    rw [h1]
    unfold arrNB at hb
    split at hb
    · rename_i n e2 hu
      obtain ⟨b1, b2⟩ := band hb
      obtain ⟨b3, b4⟩ := band b1
      obtain rfl := nbeq b3; obtain rfl := nbeq b4
      split at b2
      · rename_i i hi
        unfold fsSlice
        simp only [hu, hi, boundOf, Nat.zero_mul, Nat.add_zero]
        rfl
      cases b2
    cases hb⟩
def arr3 {α : Type} (a b c : α) : Nat → α
  | 0 => a
  | 1 => b
  | _ => c
theorem CalmV.ixP3 {a b c : τ.den} (j : Nat) (hj : j < 3) (h0 : aofB P T 0 0 τ = true := by kernel_rfl) (h1 : aofB P T 1 τ.size τ = true := by kernel_rfl) (h2 : aofB P T 2 (τ.size + τ.size) τ = true := by kernel_rfl) (hx : evV fl x = some (.p (.pair τ (.pair τ τ)) (a, b, c)) := by rfl) (hy : evV fl y = some (.v (.int .i64) ((j : Nat) : Int)) := by rfl) : CalmV P fl σ (.indexAddr T x y) (.p τ (arr3 a b c j)) := by
  rcases j with _ | _ | _ | j
  · exact CalmV.ixP (k := 0) 0 (.l .o) h0 hx hy
  · exact CalmV.ixP (k := τ.size) 1 (.r (k := 0) (.l .o)) h1 hx hy
  · exact CalmV.ixP (k := τ.size + τ.size) 2 (.r (k := τ.size) (.r (k := 0) .o)) h2 hx hy
  omega
theorem CalmV.ixA3 {a b c : τ.den} (j : Nat) (hj : j < 3) (h0 : aofB P T 0 0 τ = true := by kernel_rfl) (h1 : aofB P T 1 τ.size τ = true := by kernel_rfl) (h2 : aofB P T 2 (τ.size + τ.size) τ = true := by kernel_rfl) (hx : evV fl x = some (.v (.pair τ (.pair τ τ)) (a, b, c)) := by rfl) (hy : evV fl y = some (.v (.int .i64) ((j : Nat) : Int)) := by rfl) : CalmV P fl σ (.index T x y) (.v τ (arr3 a b c j)) := by
  rcases j with _ | _ | _ | j
  · exact CalmV.ixA (k := 0) 0 (.l .o) rfl h0 hx hy
  · exact CalmV.ixA (k := τ.size) 1 (.r (k := 0) (.l .o)) rfl h1 hx hy
  · exact CalmV.ixA (k := τ.size + τ.size) 2 (.r (k := τ.size) (.r (k := 0) .o)) rfl h2 hx hy
  omega
theorem ReadV.min3 {a : Array TypeId} {p q r : Int} {z : Operand} (hx : evV fl x = some (.v (.int .i64) p) := by rfl) (hy : evV fl y = some (.v (.int .i64) q) := by rfl) (hz : evV fl z = some (.v (.int .i64) r) := by rfl) : ReadV P fl σ (.call { callee := .builtin .min, args := #[x, y, z], argTypes := a }) (.v (.int .i64) (Min.min (Min.min p q) r)) :=
  ⟨rfl, fun h S t hs _ => by
    have h1 := RepV.int (hs x (by simp [Op.operands, Call.operands]) _ hx)
    have h2 := RepV.int (hs y (by simp [Op.operands, Call.operands]) _ hy)
    have h3 := RepV.int (hs z (by simp [Op.operands, Call.operands]) _ hz)
    refine ⟨_, RepV.ofInt _ _, fun H _ d ty pos after g => ?_⟩
    show (if [evalO t x, evalO t y, evalO t z].all af = true then (purely P (Builtin.min_ a ty [evalO t x, evalO t y, evalO t z].toArray)).map fun v => (v, H) else none) = _
    rw [h1, h2, h3]
    have : (purely P (Builtin.min_ a ty [Value.int .i64 p, Value.int .i64 q, Value.int .i64 r].toArray)) = some (.int .i64 (if r < (if q < p then q else p) then r else (if q < p then q else p))) := rfl
    have e : ∀ a b : Int, (if b < a then b else a) = Min.min a b := fun a b => by split <;> omega
    rw [this, e, e]; rfl⟩
end Go.Fs
namespace Go.Proofs
open Go.Fs
set_option linter.unusedVariables false

theorem cNaN_ok {x : Int} : VF Tryz.prog OA 181 [I x] (B false) := by
  refine VF.enter Tryz.func181 rfl (fun _ _ => rfl) rfl ?_
  show VC _ _ _ _ _ [(0, I x)] [] _
  refine VC.seq (VC.text ?_); refine VO.c (.assign rfl) ?_; refine VO.go (VC.seq (VC.text ?_)); refine VO.c (.move rfl) ?_; refine VO.c (.move rfl) ?_; refine VO.c (.neq) ?_; refine VO.c (.assign rfl) ?_; refine VO.go ?_; refine VC.ret ?_; exact VEnd.one rfl evT (pvE (by simp))
theorem cLess_ok {x : Int} {y : Int} : VF Tryz.prog OA 166 [I x, I y] (B (decide (x < y))) := by
  refine VF.enter Tryz.func166 rfl (fun _ _ => rfl) rfl ?_
  show VC _ _ _ _ _ [(0, I x), (1, I y)] [] _
  refine VC.seq (VC.text ?_); refine VO.c (.assign rfl) ?_; refine VO.go (VC.seq (VC.text ?_)); refine VO.c (.move rfl) ?_; refine VO.call rfl rfl (VF.call (cNaN_ok )) ?_; refine VO.c (.move rfl) ?_; refine VO.skip ?_; refine VO.skip ?_; refine VO.skip ?_; refine VO.c (.pickF rfl rfl) ?_; refine VO.c (.move rfl) ?_; refine VO.c (.move rfl) ?_; refine VO.c (.move rfl) ?_; refine VO.c (.lss) ?_; refine VO.c (.pickF rfl rfl) ?_; refine VO.c (.assign rfl) ?_; refine VO.go ?_; refine VC.ret ?_; exact VEnd.one rfl evT (pvE (by simp_all))
def sortN (l : List Int) : List Int := l.mergeSort fun a b => decide (a ≤ b)
theorem sortN_perm (l : List Int) : (sortN l).Perm l := List.mergeSort_perm _ _
theorem sortN_sorted (l : List Int) : (sortN l).Pairwise (· ≤ ·) := by
  have := List.pairwise_mergeSort (le := fun a b : Int => decide (a ≤ b)) (fun a b c h1 h2 => by simp at *; omega) (fun a b => by simp; omega) l
  exact this.imp fun h => of_decide_eq_true h
theorem sortN_eq {l ys : List Int} (hp : ys.Perm l) (hs : ys.Pairwise (· ≤ ·)) : ys = sortN l :=
  List.Perm.eq_of_pairwise (le := (· ≤ ·)) (fun a b _ _ h1 h2 => by omega) hs (sortN_sorted l) (hp.trans (sortN_perm l).symm)
theorem getD_get {l : List Int} {k : Nat} (h : k < l.length) : l.getD k 0 = l[k] := by simp [List.getD, h]
def swapE (ws : List Int) (j : Nat) : List Int := (ws.set j (ws.getD (j - 1) 0)).set (j - 1) (ws.getD j 0)
theorem swap_perm {ws : List Int} {j : Nat} (h0 : 0 < j) (hl : j < ws.length) : (swapE ws j).Perm ws := by
  have h1 : j - 1 < ws.length := by omega
  have := List.set_set_perm hl h1
  unfold swapE
  rw [getD_get h1, getD_get hl]
  exact this
theorem swap_get {ws : List Int} {j k : Nat} (h0 : 0 < j) (hl : j < ws.length) : (swapE ws j).getD k 0 = if k = j - 1 then ws.getD j 0 else if k = j then ws.getD (j - 1) 0 else ws.getD k 0 := by
  unfold swapE
  simp only [List.getD_eq_getElem?_getD, List.getElem?_set, List.length_set]
  by_cases h1 : k = j - 1
  · subst h1
    rw [if_pos rfl, if_pos rfl, if_pos (by omega)] <;> rfl
  rw [if_neg (fun e => h1 e.symm), if_neg h1]
  by_cases h2 : k = j
  · subst h2
    rw [if_pos rfl, if_pos rfl, if_pos hl] <;> rfl
  rw [if_neg (fun e => h2 e.symm), if_neg h2]
def SortedTo (zs : List Int) (n : Nat) : Prop := ∀ p q, p < q → q < n → zs.getD p 0 ≤ zs.getD q 0
def InsInv (ws : List Int) (i j : Nat) : Prop := (∀ p q, p < q → q ≤ i → p ≠ j → q ≠ j → ws.getD p 0 ≤ ws.getD q 0) ∧ (∀ q, j < q → q ≤ i → ws.getD j 0 ≤ ws.getD q 0)
theorem ins_init {zs : List Int} {i : Nat} (h : SortedTo zs i) : InsInv zs i i := ⟨fun p q h1 h2 _ h4 => h p q h1 (by omega), fun q h1 h2 => by omega⟩
theorem ins_step {ws : List Int} {i j : Nat} (h : InsInv ws i j) (h0 : 0 < j) (hj : j ≤ i) (hl : i < ws.length) (hlt : ws.getD j 0 < ws.getD (j - 1) 0) : InsInv (swapE ws j) i (j - 1) := by
  constructor
  · intro p q h1 h2 h3 h4
    rw [swap_get h0 (by omega), swap_get h0 (by omega), if_neg h3, if_neg h4]
    by_cases hp : p = j
    · rw [if_pos hp, if_neg (by omega)]
      exact h.1 (j - 1) q (by omega) h2 (by omega) (by omega)
    rw [if_neg hp]
    by_cases hq : q = j
    · rw [if_pos hq]
      exact h.1 p (j - 1) (by omega) (by omega) hp (by omega)
    rw [if_neg hq]
    exact h.1 p q h1 h2 hp hq
  intro q h1 h2
  rw [swap_get h0 (by omega), swap_get h0 (by omega), if_pos rfl, if_neg (by omega)]
  by_cases hq : q = j
  · rw [if_pos hq]; omega
  rw [if_neg hq]
  exact h.2 q (by omega) h2
theorem ins_end {ws : List Int} {i j : Nat} (h : InsInv ws i j) (hj : j ≤ i) (he : j = 0 ∨ ws.getD (j - 1) 0 ≤ ws.getD j 0) : SortedTo ws (i + 1) := by
  intro p q h1 h2
  by_cases hp : p = j
  · rw [hp]; exact h.2 q (by omega) (by omega)
  by_cases hq : q = j
  · subst hq
    rcases he with he | he
    · omega
    by_cases h3 : p = q - 1
    · rw [h3]; exact he
    have := h.1 p (q - 1) (by omega) (by omega) hp (by omega)
    omega
  exact h.1 p q h1 (by omega) hp hq
theorem sorted_end {zs : List Int} (h : SortedTo zs zs.length) : zs.Pairwise (· ≤ ·) := by
  rw [List.pairwise_iff_getElem]
  intro i j hi hj hij
  have := h i j hij hj
  rwa [getD_get hi, getD_get hj] at this
theorem swap_mem {ws : List Int} {j : Nat} {z : Int} (hz : z = (j : Int) - 1) (h0 : 0 < j) (hl : j < ws.length) : (ws.set j (ws[z.toNat]'(by omega))).set z.toNat ws[j] = swapE ws j := by
  have e : z.toNat = j - 1 := by omega
  unfold swapE
  rw [getD_get (show j - 1 < ws.length by omega), getD_get hl]
  simp only [e]
theorem ins_lt {ws : List Int} {j : Nat} {z : Int} (hz : z = (j : Int) - 1) (h0 : 0 < j) (hl : j < ws.length) : (ws[j] < ws[z.toNat]'(by omega)) ↔ ws.getD j 0 < ws.getD (j - 1) 0 := by
  have e : z.toNat = j - 1 := by omega
  rw [getD_get (show j - 1 < ws.length by omega), getD_get hl]
  simp only [e]
theorem zIns_ok {w_l : Value} {l : List Int} {a : Int} {b : Int} (ha : a = 0) (hb : b = (l.length : Nat)) (hl : l.length < 100000) : VFG Tryz.prog OA 160 [.raw w_l, I a, I b] [(w_l, .row 3 (.int .i64) l)] (fun r g => r = .tup [] ∧ g = [(w_l, .row 3 (.int .i64) (sortN l))]) := by
  refine VFG.enter Tryz.func160 rfl (fun _ _ => rfl) rfl ?_
  show VC _ _ _ _ _ [(0, .raw w_l), (1, I a), (2, I b)] [(w_l, .row 3 (.int .i64) l)] _
  refine VC.seq (VC.text ?_); refine VO.c (.move rfl) ?_; refine VO.c (.add rfl rfl (by omega)) ?_; refine VO.c (.assign rfl) ?_; refine VO.go (VC.block ?_); refine VC.keep [(0, .raw w_l), (1, I a), (2, I b), (6, I ((1 : Nat) : Int))] ⟨rfl, rfl, rfl, slI rfl (by rw [ha] <;> rfl), trivial⟩ ?_; refine VC.loop (I := fun kk ff ss => ∃ (i : Nat) (zs : List Int), kk = l.length - i ∧ ff = [(0, .raw w_l), (1, I a), (2, I b), (6, I ((i : Nat) : Int))] ∧ ss = [(w_l, .row 3 (.int .i64) zs)] ∧ (1 ≤ i ∧ (i ≤ l.length ∨ i = 1)) ∧ (zs.Perm l) ∧ (SortedTo zs i)) ?_ _ _ _ ⟨1, l, rfl, rfl, rfl, (by omega), (by exact .refl _), (by (intro p q h1 h2; omega))⟩; rintro kk ff ss ⟨i, zs, hk0, rfl, rfl, hi, hp, hz⟩
  have hzl := hp.length_eq
  refine VC.seq (VC.seq (VC.text ?_)); refine VO.c (.move rfl) ?_; refine VO.c (.move rfl) ?_; refine VO.c (.lss) ?_; refine VO.go ?_; refine VC.condD rfl (fun c1 => ?_) (fun c1 => ?_)
  · refine VC.skip (VC.seq (VC.block (VC.seq (VC.text ?_)))); refine VO.c (.move rfl) ?_; refine VO.c (.assign rfl) ?_; refine VO.go (VC.block ?_); refine VC.keep [(0, .raw w_l), (1, I a), (2, I b), (6, I ((i : Nat) : Int)), (7, I ((i : Nat) : Int))] ⟨rfl, rfl, rfl, rfl, rfl, trivial⟩ ?_; refine VC.loop (I := fun kk ff ss => ∃ (j : Nat) (ws : List Int), kk = j ∧ ff = [(0, .raw w_l), (1, I a), (2, I b), (6, I ((i : Nat) : Int)), (7, I ((j : Nat) : Int))] ∧ ss = [(w_l, .row 3 (.int .i64) ws)] ∧ (j ≤ i) ∧ (ws.Perm l) ∧ (InsInv ws i j)) ?_ _ _ _ ⟨i, zs, rfl, rfl, rfl, (by omega), (by exact hp), (by exact ins_init hz)⟩; rintro kk ff ss ⟨j, ws, hk2, rfl, rfl, hj, hp2, hz2⟩
    have hwl := hp2.length_eq
    refine VC.seq (VC.seq (VC.drawn ?_)); refine VD.c (.move rfl) ?_; refine VD.c (.move rfl) ?_; refine VD.c (.gtr) ?_; refine VD.c (.move rfl) ?_; refine VD.splitD (x := 19) rfl (fun g4_3 => ?_) (fun g4_3 => ?_)
    · refine VD.c (.move rfl) ?_; refine VD.nw [] ?_; refine VD.c (.move rfl) ?_; refine VD.co (.ixO (j := j) rfl rfl m0 el37 (by omega)) ?_; refine VD.r [(w_l, .row 3 (.int .i64) ws)] (.ldO rfl m0 vt3 (by omega)) (.inr ⟨rfl, rfl⟩) ?_; refine VD.c (.move rfl) ?_; refine VD.c (.move rfl) ?_; refine VD.c (.sub rfl rfl (by omega)) ?_; refine VD.co (.ixOZ (k := (((j : Nat) : Int) - (1 : Int))) rfl rfl m0 el37 (by omega) (by omega)) ?_; refine VD.nw [] ?_; refine VD.r [(w_l, .row 3 (.int .i64) ws)] (.ldO rfl m0 vt3 (by omega)) (.inr ⟨rfl, rfl⟩) ?_; refine VD.call rfl rfl (VF.call (cLess_ok )) ?_; refine VD.c (.pickT rfl rfl) ?_; refine VD.go ?_; refine VC.condB rfl (fun c4 => ?_) (fun c4 => ?_)
      · try simp only [Bool.and_eq_true, Bool.or_eq_true, Bool.and_eq_false_iff, Bool.or_eq_false_iff, Bool.not_eq_true', Bool.not_eq_false', decide_eq_true_eq, decide_eq_false_iff_not] at c4
        refine VC.skip (VC.seq (VC.block (VC.drawn ?_))); refine VD.c (.move rfl) ?_; refine VD.c (.move rfl) ?_; refine VD.c (.move rfl) ?_; refine VD.c (.move rfl) ?_; refine VD.c (.sub rfl rfl (by omega)) ?_; refine VD.c (.move rfl) ?_; refine VD.nw [] ?_; refine VD.c (.move rfl) ?_; refine VD.c (.sub rfl rfl (by omega)) ?_; refine VD.co (.ixOZ (k := (((j : Nat) : Int) - (1 : Int))) rfl rfl m0 el37 (by omega) (by omega)) ?_; refine VD.r [(w_l, .row 3 (.int .i64) ws)] (.ldO rfl m0 vt3 (by omega)) (.inr ⟨rfl, rfl⟩) ?_; refine VD.c (.move rfl) ?_; refine VD.c (.move rfl) ?_; refine VD.co (.ixO (j := j) rfl rfl m0 el37 (by omega)) ?_; refine VD.nw [] ?_; refine VD.r [(w_l, .row 3 (.int .i64) ws)] (.ldO rfl m0 vt3 (by omega)) (.inr ⟨rfl, rfl⟩) ?_; refine VD.co (.ixO (j := j) rfl rfl m0 el37 (by omega)) ?_; refine VD.mk0 (MakeV.setE (j := j) vt3 (by omega) rfl rfl) ?_; rintro _ _ tl1 ⟨rfl, rfl⟩; refine VD.co (.ixOZ (k := (((j : Nat) : Int) - (1 : Int))) rfl rfl m0 el37 (by omega) (by simp; omega)) ?_; refine VD.mk0 (MakeV.setE (j := (Int.toNat (((j : Nat) : Int) - (1 : Int)))) vt3 (by simp; omega) rfl rfl) ?_; rintro _ _ tl2 ⟨rfl, rfl⟩; refine VD.nil ?_; refine VC.keep [(0, .raw w_l), (1, I a), (2, I b), (6, I ((i : Nat) : Int)), (7, I ((j : Nat) : Int))] ⟨rfl, rfl, rfl, rfl, rfl, trivial⟩ ?_; refine VC.text ?_; refine VO.c (.move rfl) ?_; refine VO.c (.sub rfl rfl (by omega)) ?_; refine VO.c (.assign rfl) ?_; refine VO.nil ?_; refine ⟨_, [(0, .raw w_l), (1, I a), (2, I b), (6, I ((i : Nat) : Int)), (7, I (((j - 1) : Nat) : Int))], ?_, ⟨rfl, rfl, rfl, rfl, slI rfl (by exact (by omega)), trivial⟩, (j - 1), (swapE ws j), rfl, rfl, (by rw [← swap_mem (z := (j : Int) - 1) rfl (by omega) (by omega)] <;> rfl), (by omega), (by exact (swap_perm (by omega) (by omega)).trans hp2), (by exact ins_step hz2 (by omega) hj (by omega) ((ins_lt rfl (by omega) (by omega)).1 (c4)))⟩
        omega
      try simp only [Bool.and_eq_true, Bool.or_eq_true, Bool.and_eq_false_iff, Bool.or_eq_false_iff, Bool.not_eq_true', Bool.not_eq_false', decide_eq_true_eq, decide_eq_false_iff_not] at c4
      refine VC.exit (VC.text ?_); refine VO.c (.move rfl) ?_; refine VO.c (.add rfl rfl (by omega)) ?_; refine VO.c (.assign rfl) ?_; refine VO.nil ?_; refine ⟨_, [(0, .raw w_l), (1, I a), (2, I b), (6, I (((i + 1) : Nat) : Int))], ?_, ⟨rfl, rfl, rfl, rfl, trivial⟩, (i + 1), ws, rfl, rfl, (by simp), (by omega), (by exact hp2), (by exact ins_end hz2 hj (by first | (left; omega) | (right; have h9 := c4; rw [ins_lt rfl (by omega) (by omega)] at h9; omega)))⟩
      omega
    refine VD.skip ?_; refine VD.nw [] ?_; refine VD.skip ?_; refine VD.skip ?_; refine VD.skip ?_; refine VD.skip ?_; refine VD.skip ?_; refine VD.skip ?_; refine VD.skip ?_; refine VD.nw [] ?_; refine VD.skip ?_; refine VD.skip ?_; refine VD.c (.pickF rfl rfl) ?_; refine VD.go ?_; refine VC.condF rfl ?_; refine VC.exit (VC.text ?_); refine VO.c (.move rfl) ?_; refine VO.c (.add rfl rfl (by omega)) ?_; refine VO.c (.assign rfl) ?_; refine VO.nil ?_; refine ⟨_, [(0, .raw w_l), (1, I a), (2, I b), (6, I (((i + 1) : Nat) : Int))], ?_, ⟨rfl, rfl, rfl, rfl, trivial⟩, (i + 1), ws, rfl, rfl, (by simp), (by omega), (by exact hp2), (by exact ins_end hz2 hj (by first | (left; omega) | (right; have h9 := c4; rw [ins_lt rfl (by omega) (by omega)] at h9; omega)))⟩
    omega
  refine VC.exit ?_
  conv => whnf
  exact ⟨rfl, [], .nil, ⟨rfl, (by rw [show zs = sortN l from sortN_eq hp (sorted_end fun p q h1 h2 => hz p q h1 (by have := hp.length_eq; omega))])⟩, .inr (.inl ⟨rfl, List.all_eq_true.1 rfl⟩)⟩
theorem zPdq_ok {w_l : Value} {l : List Int} {a : Int} {b : Int} {k : Int} (ha : a = 0) (hb : b = (l.length : Nat)) (hl : l.length ≤ 12) : VFG Tryz.prog OA 146 [.raw w_l, I a, I b, I k] [(w_l, .row 3 (.int .i64) l)] (fun r g => r = .tup [] ∧ g = [(w_l, .row 3 (.int .i64) (sortN l))]) := by
  refine VFG.enter Tryz.func146 rfl (fun _ _ => rfl) rfl ?_
  show VC _ _ _ _ _ [(0, .raw w_l), (1, I a), (2, I b), (3, I k)] [(w_l, .row 3 (.int .i64) l)] _
  refine VC.seq (VC.text ?_); refine VO.c (.assign rfl) ?_; refine VO.go (VC.seq (VC.text ?_)); refine VO.c (.assign rfl) ?_; refine VO.go (VC.block ?_); refine VC.keep [(0, .raw w_l), (1, I a), (2, I b), (3, I k), (8, B true), (9, B true)] ⟨rfl, rfl, rfl, rfl, rfl, rfl, trivial⟩ ?_; refine VC.loop (I := fun kk ff ss => kk = 0 ∧ ff = [(0, .raw w_l), (1, I a), (2, I b), (3, I k), (8, B true), (9, B true)] ∧ ss = [(w_l, .row 3 (.int .i64) l)]) ?_ _ _ _ ⟨rfl, rfl, rfl⟩; rintro kk ff ss ⟨hk0, rfl, rfl⟩; refine VC.block (VC.seq (VC.text ?_)); refine VO.c (.move rfl) ?_; refine VO.c (.move rfl) ?_; refine VO.c (.sub rfl rfl (by omega)) ?_; refine VO.c (.assign rfl) ?_; refine VO.go (VC.seq (VC.seq (VC.text ?_))); refine VO.c (.move rfl) ?_; refine VO.c (.leq) ?_; refine VO.go ?_; refine VC.condD rfl (fun c3 => ?_) (fun c3 => ?_)
  · refine VC.seq (VC.text ?_); refine VO.c (.move rfl) ?_; refine VO.c (.move rfl) ?_; refine VO.c (.move rfl) ?_; refine VO.callG [(w_l, .row 3 (.int .i64) l)] rfl rfl rfl (VFG.call (zIns_ok ha hb (by omega))) ?_; rintro _ _ ⟨rfl, rfl⟩
    show VO _ _ _ _ _ _ [(w_l, .row 3 (.int .i64) (sortN l))] _
    refine VO.go ?_; refine VC.ret ?_
    conv => whnf
    exact ⟨rfl, [], .nil, ⟨rfl, (by rfl)⟩, .inr (.inl ⟨rfl, List.all_eq_true.1 rfl⟩)⟩
  exact absurd (by omega) c3
def lenE (n : Int) : Int := ([0, 1, 2, 2, 3, 3, 3, 3, 4, 4, 4, 4, 4] : List Int).getD n.toNat 0
theorem bLenA_ok {x : Int} (hx : 0 ≤ x ∧ x ≤ 12) : VF Tryz.prog OA 170 [.v (.int .u64) x] (I (lenE x)) := by
  have : x = 0 ∨ x = 1 ∨ x = 2 ∨ x = 3 ∨ x = 4 ∨ x = 5 ∨ x = 6 ∨ x = 7 ∨ x = 8 ∨ x = 9 ∨ x = 10 ∨ x = 11 ∨ x = 12 := by omega
  rcases this with rfl | rfl | rfl | rfl | rfl | rfl | rfl | rfl | rfl | rfl | rfl | rfl | rfl
  · exact VF.run (v := .int .i64 0) 100 Tryz.func170 rfl (fun _ _ => rfl) rfl repl_int (fun nx objs => by kernel_rfl) rfl (fun _ _ => RepV.ofInt _ _)
  · exact VF.run (v := .int .i64 1) 100 Tryz.func170 rfl (fun _ _ => rfl) rfl repl_int (fun nx objs => by kernel_rfl) rfl (fun _ _ => RepV.ofInt _ _)
  · exact VF.run (v := .int .i64 2) 100 Tryz.func170 rfl (fun _ _ => rfl) rfl repl_int (fun nx objs => by kernel_rfl) rfl (fun _ _ => RepV.ofInt _ _)
  · exact VF.run (v := .int .i64 2) 100 Tryz.func170 rfl (fun _ _ => rfl) rfl repl_int (fun nx objs => by kernel_rfl) rfl (fun _ _ => RepV.ofInt _ _)
  · exact VF.run (v := .int .i64 3) 100 Tryz.func170 rfl (fun _ _ => rfl) rfl repl_int (fun nx objs => by kernel_rfl) rfl (fun _ _ => RepV.ofInt _ _)
  · exact VF.run (v := .int .i64 3) 100 Tryz.func170 rfl (fun _ _ => rfl) rfl repl_int (fun nx objs => by kernel_rfl) rfl (fun _ _ => RepV.ofInt _ _)
  · exact VF.run (v := .int .i64 3) 100 Tryz.func170 rfl (fun _ _ => rfl) rfl repl_int (fun nx objs => by kernel_rfl) rfl (fun _ _ => RepV.ofInt _ _)
  · exact VF.run (v := .int .i64 3) 100 Tryz.func170 rfl (fun _ _ => rfl) rfl repl_int (fun nx objs => by kernel_rfl) rfl (fun _ _ => RepV.ofInt _ _)
  · exact VF.run (v := .int .i64 4) 100 Tryz.func170 rfl (fun _ _ => rfl) rfl repl_int (fun nx objs => by kernel_rfl) rfl (fun _ _ => RepV.ofInt _ _)
  · exact VF.run (v := .int .i64 4) 100 Tryz.func170 rfl (fun _ _ => rfl) rfl repl_int (fun nx objs => by kernel_rfl) rfl (fun _ _ => RepV.ofInt _ _)
  · exact VF.run (v := .int .i64 4) 100 Tryz.func170 rfl (fun _ _ => rfl) rfl repl_int (fun nx objs => by kernel_rfl) rfl (fun _ _ => RepV.ofInt _ _)
  · exact VF.run (v := .int .i64 4) 100 Tryz.func170 rfl (fun _ _ => rfl) rfl repl_int (fun nx objs => by kernel_rfl) rfl (fun _ _ => RepV.ofInt _ _)
  exact VF.run (v := .int .i64 4) 100 Tryz.func170 rfl (fun _ _ => rfl) rfl repl_int (fun nx objs => by kernel_rfl) rfl (fun _ _ => RepV.ofInt _ _)
theorem bLen_ok {x : Int} (hx : 0 ≤ x ∧ x ≤ 12) : VF Tryz.prog OA 147 [.v (.int .u64) x] (I (lenE x)) := by
  refine VF.enter Tryz.func147 rfl (fun _ _ => rfl) rfl ?_
  show VC _ _ _ _ _ [(0, .v (.int .u64) x)] [] _
  refine VC.seq (VC.text ?_); refine VO.c (.assign rfl) ?_; refine VO.go (VC.seq ?_); refine VC.condF rfl ?_; refine VC.skip (VC.seq (VC.text ?_)); refine VO.c (.move rfl) ?_; refine VO.call rfl rfl (VF.call (bLenA_ok hx)) ?_; refine VO.c (.assign rfl) ?_; refine VO.go ?_; refine VC.ret ?_; exact VEnd.one rfl evT (pvI (by first | rfl | simp))
theorem zSort_ok {w_l : Value} {l : List Int} (hl : l.length ≤ 12) : VFG Tryz.prog OA 108 [.raw w_l] [(w_l, .row 3 (.int .i64) l)] (fun r g => r = .tup [] ∧ g = [(w_l, .row 3 (.int .i64) (sortN l))]) := by
  refine VFG.enter Tryz.func108 rfl (fun _ _ => rfl) rfl ?_
  show VC _ _ _ _ _ [(0, .raw w_l)] [(w_l, .row 3 (.int .i64) l)] _
  refine VC.seq (VC.text ?_); refine VO.c (.move rfl) ?_; refine VO.r (.lenO m0 el37) ?_; refine VO.c (.assign rfl) ?_; refine VO.go (VC.text ?_); refine VO.c (.move rfl) ?_; refine VO.c (.move rfl) ?_; refine VO.c (.move rfl) ?_; refine VO.c (.convI rfl .u64 (by exact wrapU64 (by omega))) ?_; refine VO.call rfl rfl (VF.call (bLen_ok (by first | assumption | omega | simp))) ?_; refine VO.callG [(w_l, .row 3 (.int .i64) l)] rfl rfl rfl (VFG.call (zPdq_ok rfl rfl hl)) ?_; rintro _ _ ⟨rfl, rfl⟩
  show VO _ _ _ _ _ _ [(w_l, .row 3 (.int .i64) (sortN l))] _
  refine VO.nil ?_
  conv => whnf
  exact ⟨rfl, [], .nil, ⟨rfl, (by rfl)⟩, .inr (.inl ⟨rfl, List.all_eq_true.1 rfl⟩)⟩
def sort3 (x y z : Int) : List Int := if x ≤ y then (if y ≤ z then [x, y, z] else if x ≤ z then [x, z, y] else [z, x, y]) else (if x ≤ z then [y, x, z] else if y ≤ z then [y, z, x] else [z, y, x])
theorem sort3_eq (x y z : Int) : sortN [x, y, z] = sort3 x y z := by
  have p1 : [x, z, y].Perm [x, y, z] := .cons x (.swap y z [])
  have p2 : [z, x, y].Perm [x, y, z] := (List.Perm.swap x z [y]).trans p1
  have p3 : [y, x, z].Perm [x, y, z] := .swap x y [z]
  have p4 : [y, z, x].Perm [x, y, z] := (List.Perm.cons y (.swap x z [])).trans p3
  have p5 : [z, y, x].Perm [x, y, z] := (List.Perm.swap y z [x]).trans p4
  symm
  unfold sort3
  split
  · split
    · exact sortN_eq (.refl _) (by simp; omega)
    split
    · exact sortN_eq p1 (by simp; omega)
    exact sortN_eq p2 (by simp; omega)
  split
  · exact sortN_eq p3 (by simp; omega)
  split
  · exact sortN_eq p4 (by simp; omega)
  exact sortN_eq p5 (by simp; omega)
theorem sort2_eq (x y : Int) : sortN [x, y] = if x ≤ y then [x, y] else [y, x] := by
  symm
  split
  · exact sortN_eq (.refl _) (by simp; omega)
  exact sortN_eq (.swap x y []) (by simp; omega)
def votedE (l : List Int) (tol : Int) : Int × Bool :=
  if l.length = 3 then (l.getD 0 0 + l.getD 1 0 + l.getD 2 0 - min (min (l.getD 0 0) (l.getD 1 0)) (l.getD 2 0) - max (max (l.getD 0 0) (l.getD 1 0)) (l.getD 2 0), true)
  else if l.length = 2 ∧ max (l.getD 0 0 - l.getD 1 0) (l.getD 1 0 - l.getD 0 0) ≤ tol then (max (l.getD 0 0) (l.getD 1 0), true)
  else (0, false)
def voteP (l : List Int) (tol : Int) : Bool := decide (l.length = 3) || (decide (l.length = 2) && decide ((sortN l).getD (l.length - 1) 0 - (sortN l).getD 0 0 ≤ tol))
theorem vote_eq : ∀ {l : List Int} {tol : Int}, l.length ≤ 3 → votedE l tol = (if voteP l tol = true then (sortN l).getD 1 0 else 0, voteP l tol)
  | [], tol, _ => rfl
  | [x], tol, _ => rfl
  | [x, y], tol, _ => by
    unfold votedE voteP
    rw [sort2_eq]
    simp only [List.length_cons, List.length_nil, List.getD_cons_zero, List.getD_cons_succ]
    by_cases h : x ≤ y
    · rw [if_pos h]
      simp only [List.getD_cons_zero, List.getD_cons_succ]
      by_cases h2 : y - x ≤ tol
      · rw [if_neg (by decide), if_pos ⟨trivial, by omega⟩, decide_eq_true (show _ from h2), show max x y = y by omega] <;> rfl
      rw [if_neg (by decide), if_neg (fun hh => h2 (by have := hh.2; omega)), decide_eq_false (show ¬ _ from h2)] <;> rfl
    rw [if_neg h]
    simp only [List.getD_cons_zero, List.getD_cons_succ]
    by_cases h2 : x - y ≤ tol
    · rw [if_neg (by decide), if_pos ⟨trivial, by omega⟩, decide_eq_true (show _ from h2), show max x y = x by omega] <;> rfl
    rw [if_neg (by decide), if_neg (fun hh => h2 (by have := hh.2; omega)), decide_eq_false (show ¬ _ from h2)] <;> rfl
  | [x, y, z], tol, _ => by
    unfold votedE voteP
    rw [if_pos (show [x, y, z].length = 3 from rfl), sort3_eq]
    have e : (sort3 x y z).getD 1 0 = x + y + z - min (min x y) z - max (max x y) z := by
      unfold sort3
      split <;> split <;> (try split) <;> simp <;> omega
    rw [decide_eq_true (show [x, y, z].length = 3 from rfl), Bool.true_or, if_pos rfl, e] <;> rfl
  | _ :: _ :: _ :: _ :: _, _, h => absurd h (by simp)
end Go.Proofs
namespace Go.Fs
variable {P : Program} {orc : FuncId → List Value → Heap → Option (Value × Heap)} {σ : Sto} {fl : VL} {ops : Array Oper} {n : Nat} {l : List Oper} {K : VL → Sto → Prop} {d : Tmp} {ty : TypeId} {pos : String} {after : Array Edge} {g : Option (Nat × Bool)} {x : Operand} {T e : TypeId} {τ : Ty}
end Go.Fs
namespace Go.Fs
variable {P : Program} {fl : VL} {e : TypeId} {τ : Ty}
theorem swap4 {a b c d e : Value × Cell} {r : Sto} : (a :: b :: c :: d :: e :: r).Perm (e :: a :: b :: c :: d :: r) := (swap3.cons a).trans (List.Perm.swap e a (b :: c :: d :: r))
theorem swap5 {a b c d e f : Value × Cell} {r : Sto} : (a :: b :: c :: d :: e :: f :: r).Perm (f :: a :: b :: c :: d :: e :: r) := (swap4.cons a).trans (List.Perm.swap f a (b :: c :: d :: e :: r))
end Go.Fs
namespace Go.Fs
variable {P : Program} {orc : FuncId → List Value → Heap → Option (Value × Heap)} {rnd : Option Nat} {h h' h0 h1 h2 hs : Heap} {S S' S0 B G : List Nat} {σ σ' : Sto} {t t' : Tr} {ms : List Nat} {fl : VL} {ops : Array Oper} {n i mem : Nat} {l : List Oper} {K : VL → Sto → Prop} {Q : Ex → VL → Sto → Prop}
  {d d1 d2 : Tmp} {ty ty1 ty2 : TypeId} {pos pos1 pos2 : String} {after after1 after2 : Array Edge} {op : Op} {v v1 : PV} {g g1 g2 : Option (Nat × Bool)} {bs nw : List Nat} {segs : List (Nat × Nat × Nat)} {tail so : Bool}

section
variable (P orc)
end
end Go.Fs
namespace Go.Fs
variable {P : Program} {orc : FuncId → List Value → Heap → Option (Value × Heap)} {rnd : Option Nat} {h h' h0 h1 h2 : Heap} {S S' S0 B G : List Nat} {σ σ' σr : Sto} {t t' : Tr} {ms : List Nat} {fl : VL} {ops : Array Oper} {n i mem : Nat} {l : List Oper} {K : VL → Sto → Prop} {Q : Ex → VL → Sto → Prop}
  {d : Tmp} {ty : TypeId} {pos : String} {after : Array Edge} {op : Op} {v pv : PV} {g : Option (Nat × Bool)} {x y z : Operand} {T T' e : TypeId} {τ τ' : Ty} {bs nw : List Nat} {segs : List (Nat × Nat × Nat)} {tail so : Bool} {w w' : Value} {c c' : Cell}

end Go.Fs
namespace Go.Fs
variable {P : Program} {orc : FuncId → List Value → Heap → Option (Value × Heap)} {rnd : Option Nat} {h h' h0 h1 h2 hr : Heap} {S S' S0 B G A : List Nat} {σ σ' σr ρ : Sto} {t t' : Tr} {ms : List Nat} {fl : VL} {ops : Array Oper} {n i mem : Nat} {l : List Oper} {K : VL → Sto → Prop}
  {d : Tmp} {ty : TypeId} {pos : String} {after : Array Edge} {op : Op} {v pv : PV} {g : Option (Nat × Bool)} {x y z : Operand} {T T' e : TypeId} {τ τ' : Ty} {bs nw rd chg : List Nat} {segs : List (Nat × Nat × Nat)} {tail tl : Bool} {w w' : Value}
theorem TurnV.storeE {xs : List τ.den} {q : Value} {s j : Nat} (hx : evV fl x = some (.raw q)) (hq : q = ptrAt w s j ∨ ∃ k, q = padd (ptrAt w s j) k) (hj : j < xs.length) : TurnV P fl (.store T x y) w (.row e τ xs) := ⟨rfl, fun h h' S t u d ty pos after g hs hc _ => by
  have hxq : evalO t x = q := (hs x (by simp [Op.operands]) _ hx : RepPV _ _ (.raw q) _)
  rcases hc with ⟨_, rfl⟩ | ⟨b0, rs, m, h1, h2, h3, h4⟩
  · simp at hj
  obtain ⟨o0, hqb⟩ : ∃ o0, q = .pointer (some ⟨b0, o0, none⟩) := by
    rcases hq with hq | ⟨k, hq⟩
    · exact ⟨0 + j * s, by rw [hq, h1]; rfl⟩
    exact ⟨0 + j * s + k, by rw [hq, h1]; rfl⟩
  have ht : turned (.store T x y) (evalO t) = some b0 := by simp only [turned, hxq, hqb]
  refine ⟨fun k hk => ?_, .inr ⟨b0, ht⟩⟩
  rw [ht] at hk
  obtain rfl := Option.some.inj hk
  rw [h1]; exact List.mem_cons_self⟩
theorem VLt.cR {b : Nat} {q : Value} (hc : CalmV P fl σ op (.raw q)) (hk : VLt P orc ops n l (i + 1) ((d, .raw q) :: fl) (nwSet true d nw) σ ρ (bs ++ [b]) mem tl K)
    (hb : beforeOf bs ⟨some d, op, ty, pos, after, g⟩ = b := by rfl) (hw : wantV ops fl g = some true := by rfl) (hn : (Nat.blt d n && Nat.ble n 4000) = true := by rfl) :
    VLt P orc ops n (⟨some d, op, ty, pos, after, g⟩ :: l) i fl nw σ ρ bs mem tl K := fun hr h0 G S0 A t h ms rd chg segs tail ht I L => by
  obtain ⟨n1, n2⟩ := fits hn
  obtain ⟨u, e1, e2⟩ := hc.2 h (own σ ++ S0) t I.slots.sees I.cells
  refine EvL.opr (x' := (⟨t.set depth d u, h, bs ++ [b], segs, mem, tail⟩, rd, chg)) ?_ (hk hr h0 G S0 A _ h ms rd chg segs tail ht (I.set e1 n2) (L.set n2 fun _ => (e1 : u = q)))
  unfold lateDraw
  have hwt : fsWanted ops t ⟨some d, op, ty, pos, after, g⟩ = some true := want_ok I.slots hw
  simp only [hwt, hc.1, if_true, e2, Nat.beq_refl, cond_true, put_fits n1, Option.map_some, hb]
end Go.Fs
namespace Go.Proofs
open Ieee
def q16 (n : Int) : Nat := (single.div (single.write (.number (n < 0) n.natAbs 0)) 1098907648).getD 0
def q16B (n : Int) : Bool := decide (lvlE (q16 n) = 0) && decide (sxE (q16 n) = n) && (single.div (single.write (.number (n < 0) n.natAbs 0)) 1098907648).isSome
theorem q16_all : (List.range 2049).all (fun k => q16B ((k : Int) - 1024)) = true := by decide +kernel
theorem q16_ok {n : Int} (h : -1024 ≤ n ∧ n ≤ 1024) : lvlE (q16 n) = 0 ∧ sxE (q16 n) = n ∧ single.div (single.write (.number (n < 0) n.natAbs 0)) 1098907648 = some (q16 n) := by
  have h1 := List.all_eq_true.1 q16_all (n + 1024).toNat (List.mem_range.2 (by omega))
  rw [show (((n + 1024).toNat : Nat) : Int) - 1024 = n by omega] at h1
  unfold q16B at h1
  simp only [Bool.and_eq_true, decide_eq_true_eq] at h1
  refine ⟨h1.1.1, h1.1.2, ?_⟩
  obtain ⟨r, hr⟩ := Option.isSome_iff_exists.1 h1.2
  rw [q16, hr]; rfl
theorem q16_z : q16 0 = 0 := by decide +kernel
end Go.Proofs
namespace Go.Proofs
open Go.Fs Ieee
set_option linter.unusedVariables false
set_option maxHeartbeats 400000
abbrev y84 : Ty := (.pair (.pair .str (.pair (.int .i64) (.pair (.sl (.flt .f32)) (.sl (.pair (.int .i64) (.int .i64)))))) (.pair (.pair .str (.pair (.int .i64) (.pair (.sl (.flt .f32)) (.sl (.pair (.int .i64) (.int .i64)))))) (.pair .str (.pair (.int .i64) (.pair (.sl (.flt .f32)) (.sl (.pair (.int .i64) (.int .i64))))))))
abbrev y85 : Ty := (.pair (.int .i64) (.pair (.int .i64) (.int .i64)))
abbrev y166 : Ty := (.sl (.pair .str (.pair (.int .i64) (.pair (.sl (.flt .f32)) (.sl (.pair (.int .i64) (.int .i64)))))))
theorem vt85 : ValT Tryz.prog 85 y85 := valT_of (by kernel_rfl)
theorem el166 : ElT Tryz.prog 166 65 y65 := elT_of (by kernel_rfl)
theorem zt85 : ZerT Tryz.prog 85 y85 := zerT_of (z := .agg #[.int .i64 0, .int .i64 0, .int .i64 0]) (by kernel_rfl) rfl rfl
theorem gMapRec_ok {F : Rec1 → Int} {l : List (ByteArray × Int × (List Nat) × (List (Int × Int)))} {f : PV} (hl : l.length < 100000) (hf : ∀ x ∈ l, VCall Tryz.prog OA f [.v y65 x] (I (F x))) : VF Tryz.prog OA 107 [.v y166 l, f] (.v y164 (l.map F)) := by
  refine VF.enter Tryz.func107 rfl (fun _ _ => rfl) rfl ?_
  show VC _ _ _ _ _ [(0, .v y166 l), (1, f)] [] _
  refine VC.seq (VC.text ?_); refine VO.c (.assign rfl) ?_; refine VO.go (VC.seq (VC.text ?_)); refine VO.c (.assign rfl) ?_; refine VO.go (VC.seq (VC.seq (VC.text ?_))); refine VO.c (.move rfl) ?_; refine VO.r (.len el166) ?_; refine VO.c (.move rfl) ?_; refine VO.go (VC.block ?_); refine VC.cell0 29 (.int .i64) ?_; refine VC.keep [(1, f), (5, .raw (.slice none 0 0)), (8, .v y166 l), (9, I ((l.length : Nat) : Int)), (10, I ((0 : Nat) : Int))] ⟨rfl, rfl, rfl, rfl, rfl, trivial⟩ ?_; refine VC.loop (I := fun kk ff ss => ∃ (j : Nat) (out : Value), kk = l.length - j ∧ ff = [(1, f), (5, .raw out), (8, .v y166 l), (9, I ((l.length : Nat) : Int)), (10, I ((j : Nat) : Int))] ∧ ss = [(out, .row 29 (.int .i64) ((l.take j).map F))] ∧ (j ≤ l.length)) ?_ _ _ _ ⟨0, (.slice none 0 0), rfl, rfl, rfl, Nat.zero_le _⟩; rintro kk ff ss ⟨j, out, hk0, rfl, rfl, hj⟩; refine VC.seq (VC.text ?_); refine VO.c (.lss) ?_; refine VO.go (VC.seq ?_); refine VC.condD rfl (fun c3 => ?_) (fun c3 => ?_)
  · refine VC.skip (VC.seq (VC.block (VC.seq (VC.text ?_)))); refine VO.c (.ix (j := j) rfl rfl el166 (by omega)) ?_; refine VO.r (.ld vt65) ?_; refine VO.cell (.alloc zt65) ?_; intro ww1; refine VO.setV (cs' := [St ((l[j]).1), I ((l[j]).2.1), .v y53 ((l[j]).2.2.1), .v y22 ((l[j]).2.2.2)]) vt65 .v ?_; refine VO.shut [(7, .p y65 (l[j]))] (.cons rfl (.var m0 .refl) .nil) ?_; refine VO.go (VC.text ?_); refine VO.c (.move rfl) ?_; refine VO.c (.move rfl) ?_; refine VO.r (.ld vt65) ?_; refine VO.call rfl rfl ((hf _ (List.getElem_mem _)) ) ?_; refine VO.new (.lit [F (l[j])] el164) ?_; refine VO.app rfl rfl el164 el164 (by simp; omega) ?_; intro ww2; refine VO.c (.assign rfl) ?_; refine VO.nil (VC.text ?_); refine VO.c (.add rfl rfl (by omega)) ?_; refine VO.c (.move rfl) ?_; refine VO.nil ?_; refine ⟨_, [(1, f), (5, .raw ww2), (8, .v y166 l), (9, I ((l.length : Nat) : Int)), (10, I (((j + 1) : Nat) : Int))], ?_, ⟨rfl, rfl, rfl, rfl, rfl, trivial⟩, (j + 1), ww2, rfl, rfl, (by rw [List.take_succ_eq_append_getElem (by omega), List.map_append] <;> rfl), (by omega)⟩
    omega
  refine VC.exit (VC.seq (VC.text ?_)); refine VO.c (.move rfl) ?_; refine VO.c (.assign rfl) ?_; refine VO.go ?_; refine VC.ret ?_; exact VEnd.one rfl (evC (.row m0)) (pvE (by rw [List.take_of_length_le (by omega)]))
theorem votedE_3 {l : List Int} {tol : Int} (h : l.length = 3) : votedE l tol = (l[0]'(by omega) + l[1]'(by omega) + l[2]'(by omega) - min (min (l[0]'(by omega)) (l[1]'(by omega))) (l[2]'(by omega)) - max (max (l[0]'(by omega)) (l[1]'(by omega))) (l[2]'(by omega)), true) := by
  rw [votedE, if_pos h, getDat (show 0 < l.length by omega), getDat (show 1 < l.length by omega), getDat (show 2 < l.length by omega)]
theorem votedE_2 {l : List Int} {tol : Int} (h : l.length = 2) : votedE l tol = if max (l[0]'(by omega) - l[1]'(by omega)) (l[1]'(by omega) - l[0]'(by omega)) ≤ tol then (max (l[0]'(by omega)) (l[1]'(by omega)), true) else (0, false) := by
  rw [votedE, if_neg (by omega), getDat (show 0 < l.length by omega), getDat (show 1 < l.length by omega)]
  exact ite_congr (propext ⟨fun hh => hh.2, fun hh => ⟨h, hh⟩⟩) (fun _ => rfl) (fun _ => rfl)
theorem votedE_n {l : List Int} {tol : Int} (h3 : ¬ l.length = 3) (h2 : ¬ l.length = 2) : votedE l tol = (0, false) := by
  rw [votedE, if_neg h3, if_neg (fun hh => h2 hh.1)]
theorem rVoted_ok {l : List Int} {tol : Int} (hl : l.length ≤ 3) (hb : ∀ x ∈ l, -1024 ≤ x ∧ x ≤ 1024) : VF Tryz.prog OA 110 [.v y37 l, I tol] (.tup [I ((votedE l tol).1), B ((votedE l tol).2)]) := by
  refine VF.enter Tryz.func110 rfl (fun _ _ => rfl) rfl ?_
  show VC _ _ _ _ _ [(0, .v y37 l), (1, I tol)] [] _
  refine VC.seq (VC.text ?_); refine VO.c (.assign rfl) ?_; refine VO.c (.assign rfl) ?_; refine VO.go (VC.seq (VC.seq (VC.text ?_))); refine VO.c (.move rfl) ?_; refine VO.r (.len el37) ?_; refine VO.c (.eql) ?_; refine VO.go ?_; refine VC.condD rfl (fun c1 => ?_) (fun c1 => ?_)
  · have h3 : l.length = 3 := by omega
    have b0 := hb (l[0]'(by omega)) (List.getElem_mem _)
    have b1 := hb (l[1]'(by omega)) (List.getElem_mem _)
    have b2 := hb (l[2]'(by omega)) (List.getElem_mem _)
    refine VC.seq (VC.drawn ?_); refine VD.c (.move rfl) ?_; refine VD.c (.ix (j := 0) rfl rfl el37 (by omega)) ?_; refine VD.r [] (.ld vt3) (.inl rfl) ?_; refine VD.c (.move rfl) ?_; refine VD.c (.ix (j := 1) rfl rfl el37 (by omega)) ?_; refine VD.r [] (.ld vt3) (.inl rfl) ?_; refine VD.nw [] ?_; refine VD.c (.add rfl rfl (by omega)) ?_; refine VD.c (.move rfl) ?_; refine VD.c (.ix (j := 2) rfl rfl el37 (by omega)) ?_; refine VD.r [] (.ld vt3) (.inl rfl) ?_; refine VD.c (.add rfl rfl (by omega)) ?_; refine VD.c (.move rfl) ?_; refine VD.c (.ix (j := 0) rfl rfl el37 (by omega)) ?_; refine VD.nw [] ?_; refine VD.r [] (.ld vt3) (.inl rfl) ?_; refine VD.c (.move rfl) ?_; refine VD.c (.ix (j := 1) rfl rfl el37 (by omega)) ?_; refine VD.r [] (.ld vt3) (.inl rfl) ?_; refine VD.c (.move rfl) ?_; refine VD.c (.ix (j := 2) rfl rfl el37 (by omega)) ?_; refine VD.r [] (.ld vt3) (.inl rfl) ?_; refine VD.nw [] ?_; refine VD.r [] (.min3) (.inl rfl) ?_; refine VD.c (.sub rfl rfl (by omega)) ?_; refine VD.c (.move rfl) ?_; refine VD.c (.ix (j := 0) rfl rfl el37 (by omega)) ?_; refine VD.r [] (.ld vt3) (.inl rfl) ?_; refine VD.c (.move rfl) ?_; refine VD.c (.ix (j := 1) rfl rfl el37 (by omega)) ?_; refine VD.nw [] ?_; refine VD.r [] (.ld vt3) (.inl rfl) ?_; refine VD.c (.move rfl) ?_; refine VD.c (.ix (j := 2) rfl rfl el37 (by omega)) ?_; refine VD.r [] (.ld vt3) (.inl rfl) ?_; refine VD.r [] (.max3) (.inl rfl) ?_; refine VD.c (.sub rfl rfl (by omega)) ?_; refine VD.c (.assign rfl) ?_; refine VD.nw [] ?_; refine VD.c (.assign rfl) ?_; refine VD.go ?_; refine VC.ret ?_; exact VEnd.two rfl evT evT (pvI (by rw [votedE_3 h3])) (pvE (by rw [votedE_3 h3]))
  have h3 : ¬ l.length = 3 := by omega
  refine VC.skip (VC.seq (VC.seq (VC.drawn ?_))); refine VD.c (.move rfl) ?_; refine VD.r [] (.len el37) (.inl rfl) ?_; refine VD.c (.eql) ?_; refine VD.c (.move rfl) ?_; refine VD.splitD (x := 45) rfl (fun g3_3 => ?_) (fun g3_3 => ?_)
  · have h2 : l.length = 2 := by omega
    have b0 := hb (l[0]'(by omega)) (List.getElem_mem _)
    have b1 := hb (l[1]'(by omega)) (List.getElem_mem _)
    refine VD.c (.move rfl) ?_; refine VD.nw [] ?_; refine VD.c (.ix (j := 0) rfl rfl el37 (by omega)) ?_; refine VD.r [] (.ld vt3) (.inl rfl) ?_; refine VD.c (.move rfl) ?_; refine VD.c (.ix (j := 1) rfl rfl el37 (by omega)) ?_; refine VD.r [] (.ld vt3) (.inl rfl) ?_; refine VD.c (.sub rfl rfl (by omega)) ?_; refine VD.c (.move rfl) ?_; refine VD.nw [] ?_; refine VD.c (.ix (j := 1) rfl rfl el37 (by omega)) ?_; refine VD.r [] (.ld vt3) (.inl rfl) ?_; refine VD.c (.move rfl) ?_; refine VD.c (.ix (j := 0) rfl rfl el37 (by omega)) ?_; refine VD.r [] (.ld vt3) (.inl rfl) ?_; refine VD.c (.sub rfl rfl (by omega)) ?_; refine VD.r [] (.max) (.inl rfl) ?_; refine VD.nw [] ?_; refine VD.c (.move rfl) ?_; refine VD.c (.leq) ?_; refine VD.c (.pickT rfl rfl) ?_; refine VD.go ?_; refine VC.condD rfl (fun c3 => ?_) (fun c3 => ?_)
    · refine VC.seq (VC.drawn ?_); refine VD.c (.move rfl) ?_; refine VD.c (.ix (j := 0) rfl rfl el37 (by omega)) ?_; refine VD.r [] (.ld vt3) (.inl rfl) ?_; refine VD.c (.move rfl) ?_; refine VD.c (.ix (j := 1) rfl rfl el37 (by omega)) ?_; refine VD.r [] (.ld vt3) (.inl rfl) ?_; refine VD.nw [] ?_; refine VD.r [] (.max) (.inl rfl) ?_; refine VD.c (.assign rfl) ?_; refine VD.c (.assign rfl) ?_; refine VD.go ?_; refine VC.ret ?_; exact VEnd.two rfl evT evT (pvI (by rw [votedE_2 h2, if_pos c3])) (pvE (by rw [votedE_2 h2, if_pos c3]))
    refine VC.skip (VC.seq (VC.text ?_)); refine VO.c (.assign rfl) ?_; refine VO.c (.assign rfl) ?_; refine VO.go ?_; refine VC.ret ?_; exact VEnd.two rfl evT evT (pvI (by first | rw [votedE_2 h2, if_neg c3] | rw [votedE_n h3 h2])) (pvE (by first | rw [votedE_2 h2, if_neg c3] | rw [votedE_n h3 h2]))
  have h2 : ¬ l.length = 2 := by omega
  refine VD.skip ?_; refine VD.nw [] ?_; refine VD.skip ?_; refine VD.skip ?_; refine VD.skip ?_; refine VD.skip ?_; refine VD.skip ?_; refine VD.skip ?_; refine VD.skip ?_; refine VD.nw [] ?_; refine VD.skip ?_; refine VD.skip ?_; refine VD.skip ?_; refine VD.skip ?_; refine VD.skip ?_; refine VD.skip ?_; refine VD.skip ?_; refine VD.nw [] ?_; refine VD.skip ?_; refine VD.skip ?_; refine VD.c (.pickF rfl rfl) ?_; refine VD.go ?_; refine VC.condF rfl ?_; refine VC.skip (VC.seq (VC.text ?_)); refine VO.c (.assign rfl) ?_; refine VO.c (.assign rfl) ?_; refine VO.go ?_; refine VC.ret ?_; exact VEnd.two rfl evT evT (pvI (by first | rw [votedE_2 h2, if_neg c3] | rw [votedE_n h3 h2])) (pvE (by first | rw [votedE_2 h2, if_neg c3] | rw [votedE_n h3 h2]))
abbrev Rec3 := Rec1 × Rec1 × Rec1
abbrev rk (l : Rec3) (k : Nat) : Rec1 := arr3 l.1 l.2.1 l.2.2 k
def toldL (l : Rec3) (i : Nat) : Nat → List Int
  | 0 => []
  | k + 1 => if recB (rk l k) i = true then toldL l i k ++ [sxE ((rk l k).2.2.1.getD i 0)] else toldL l i k
theorem toldL_t {l : Rec3} {i k : Nat} (h : recB (rk l k) i = true) : toldL l i (k + 1) = toldL l i k ++ [sxE ((rk l k).2.2.1.getD i 0)] := if_pos h
theorem toldL_f {l : Rec3} {i k : Nat} (h : recB (rk l k) i = false) : toldL l i (k + 1) = toldL l i k := if_neg (by rw [h]; exact Bool.false_ne_true)
theorem toldL_len {l : Rec3} {i : Nat} : ∀ k, (toldL l i k).length ≤ k
  | 0 => Nat.le_refl _
  | k + 1 => by
    have := toldL_len (l := l) (i := i) k
    unfold toldL
    split
    · rw [List.length_append, List.length_singleton]; omega
    omega
theorem getD_lvl {r : Rec1} {i : Nat} (h : ∀ x ∈ r.2.2.1, lvlE x = 0) : lvlE (r.2.2.1.getD i 0) = 0 := by
  by_cases hi : i < r.2.2.1.length
  · rw [getDat hi]; exact h _ (List.getElem_mem hi)
  rw [List.getD_eq_getElem?_getD, List.getElem?_eq_none (by omega)]; decide +kernel
theorem toldL_bnd {l : Rec3} {i : Nat} (hv : ∀ k, k < 3 → ∀ x ∈ (rk l k).2.2.1, lvlE x = 0) : ∀ k, k ≤ 3 → ∀ x ∈ toldL l i k, -1024 ≤ x ∧ x ≤ 1024
  | 0, _ => fun x hx => by cases hx
  | k + 1, hk => fun x hx => by
    have h1 := toldL_bnd (i := i) hv k (by omega)
    unfold toldL at hx
    split at hx
    · rcases List.mem_append.1 hx with hx | hx
      · exact h1 x hx
      rw [List.mem_singleton.1 hx]
      have := lvl_ok (getD_lvl (i := i) (hv k (by omega)))
      exact ⟨this.2.1, this.2.2⟩
    exact h1 x hx
def vE (l : Rec3) (tol : Int) (i : Nat) : Int × Bool := votedE (toldL l i 3) tol
theorem voted_bnd {l : List Int} {tol : Int} (hl : l.length ≤ 3) (hb : ∀ x ∈ l, -1024 ≤ x ∧ x ≤ 1024) : -1024 ≤ (votedE l tol).1 ∧ (votedE l tol).1 ≤ 1024 := by
  by_cases h3 : l.length = 3
  · have b0 := hb (l[0]'(by omega)) (List.getElem_mem _)
    have b1 := hb (l[1]'(by omega)) (List.getElem_mem _)
    have b2 := hb (l[2]'(by omega)) (List.getElem_mem _)
    rw [votedE_3 h3]
    simp only
    omega
  by_cases h2 : l.length = 2
  · have b0 := hb (l[0]'(by omega)) (List.getElem_mem _)
    have b1 := hb (l[1]'(by omega)) (List.getElem_mem _)
    rw [votedE_2 h2]
    split
    · simp only; omega
    simp
  rw [votedE_n h3 h2]; simp
theorem vE_bnd {l : Rec3} {tol : Int} {i : Nat} (hv : ∀ k, k < 3 → ∀ x ∈ (rk l k).2.2.1, lvlE x = 0) : -1024 ≤ (vE l tol i).1 ∧ (vE l tol i).1 ≤ 1024 := voted_bnd (toldL_len 3) (toldL_bnd hv 3 (by omega))
def lvV (l : Rec3) (tol : Int) (n : Nat) : List Nat := (List.range l.1.2.2.1.length).map fun i => if i < n ∧ (vE l tol i).2 = true then q16 (vE l tol i).1 else 0
def isV (l : Rec3) (tol : Int) (n : Nat) : List Bool := (List.range l.1.2.2.1.length).map fun i => decide (i < n) && (vE l tol i).2
theorem lvV_len {l : Rec3} {tol : Int} {n : Nat} : (lvV l tol n).length = l.1.2.2.1.length := by simp [lvV]
theorem isV_len {l : Rec3} {tol : Int} {n : Nat} : (isV l tol n).length = l.1.2.2.1.length := by simp [isV]
theorem lvV_at {l : Rec3} {tol : Int} {n i : Nat} (h : i < l.1.2.2.1.length) : (lvV l tol n)[i]'(by rw [lvV_len]; exact h) = if i < n ∧ (vE l tol i).2 = true then q16 (vE l tol i).1 else 0 := by
  unfold lvV
  rw [List.getElem_map, List.getElem_range]
theorem isV_at {l : Rec3} {tol : Int} {n i : Nat} (h : i < l.1.2.2.1.length) : (isV l tol n)[i]'(by rw [isV_len]; exact h) = (decide (i < n) && (vE l tol i).2) := by
  unfold isV
  rw [List.getElem_map, List.getElem_range]
theorem lvV_0 {l : Rec3} {tol : Int} : List.replicate l.1.2.2.1.length 0 = lvV l tol 0 := by
  refine List.ext_getElem (by rw [List.length_replicate, lvV_len]) fun i h1 h2 => ?_
  rw [lvV_len] at h2
  rw [List.getElem_replicate, lvV_at h2, if_neg (by omega)]
theorem isV_0 {l : Rec3} {tol : Int} : List.replicate l.1.2.2.1.length false = isV l tol 0 := by
  refine List.ext_getElem (by rw [List.length_replicate, isV_len]) fun i h1 h2 => ?_
  rw [isV_len] at h2
  rw [List.getElem_replicate, isV_at h2, decide_eq_false (by omega)] <;> rfl
theorem lvV_t {l : Rec3} {tol : Int} {n : Nat} (hn : n < l.1.2.2.1.length) (h : (vE l tol n).2 = true) : lvV l tol (n + 1) = (lvV l tol n).set n (q16 (vE l tol n).1) := by
  refine List.ext_getElem (by rw [List.length_set, lvV_len, lvV_len]) fun i h1 h2 => ?_
  rw [lvV_len] at h1
  rw [List.getElem_set, lvV_at h1]
  by_cases e : n = i
  · subst e
    rw [if_pos rfl, if_pos ⟨by omega, h⟩]
  rw [if_neg e, lvV_at h1]
  exact ite_congr (propext ⟨fun hh => ⟨by omega, hh.2⟩, fun hh => ⟨by omega, hh.2⟩⟩) (fun _ => rfl) (fun _ => rfl)
theorem isV_t {l : Rec3} {tol : Int} {n : Nat} (hn : n < l.1.2.2.1.length) (h : (vE l tol n).2 = true) : isV l tol (n + 1) = (isV l tol n).set n true := by
  refine List.ext_getElem (by rw [List.length_set, isV_len, isV_len]) fun i h1 h2 => ?_
  rw [isV_len] at h1
  rw [List.getElem_set, isV_at h1]
  by_cases e : n = i
  · subst e
    rw [if_pos rfl, h, decide_eq_true (by omega)] <;> rfl
  rw [if_neg e, isV_at h1]
  exact congrArg (· && (vE l tol i).2) (decide_eq_decide.2 ⟨fun hh => by omega, fun hh => by omega⟩)
theorem lvV_f {l : Rec3} {tol : Int} {n : Nat} (h : (vE l tol n).2 = false) : lvV l tol (n + 1) = lvV l tol n := by
  refine List.ext_getElem (by rw [lvV_len, lvV_len]) fun i h1 h2 => ?_
  rw [lvV_len] at h1
  rw [lvV_at h1, lvV_at h1]
  refine ite_congr (propext ⟨fun hh => ⟨?_, hh.2⟩, fun hh => ⟨by omega, hh.2⟩⟩) (fun _ => rfl) (fun _ => rfl)
  by_cases e : i = n
  · subst e; rw [h] at hh; exact absurd hh.2 Bool.false_ne_true
  have := hh.1; omega
theorem isV_f {l : Rec3} {tol : Int} {n : Nat} (h : (vE l tol n).2 = false) : isV l tol (n + 1) = isV l tol n := by
  refine List.ext_getElem (by rw [isV_len, isV_len]) fun i h1 h2 => ?_
  rw [isV_len] at h1
  rw [isV_at h1, isV_at h1]
  by_cases e : i = n
  · subst e; rw [h, Bool.and_false, Bool.and_false]
  exact congrArg (· && (vE l tol i).2) (decide_eq_decide.2 ⟨fun hh => by omega, fun hh => by omega⟩)
def dvB (l : Rec3) (tol : Int) (k i : Nat) : Bool := (vE l tol i).2 && recB (rk l k) i && decide (tol < max (sxE ((rk l k).2.2.1.getD i 0) - (vE l tol i).1) (0 - (sxE ((rk l k).2.2.1.getD i 0) - (vE l tol i).1)))
def dvE (l : Rec3) (tol : Int) (k : Nat) : Nat → Int
  | 0 => 0
  | i + 1 => if dvB l tol k i = true then dvE l tol k i + 1 else dvE l tol k i
theorem dvE_bnd {l : Rec3} {tol : Int} {k : Nat} : ∀ i : Nat, 0 ≤ dvE l tol k i ∧ dvE l tol k i ≤ (i : Int)
  | 0 => ⟨Int.le_refl _, Int.le_refl _⟩
  | i + 1 => by
    have := dvE_bnd (l := l) (tol := tol) (k := k) i
    unfold dvE
    split <;> omega
def dvK (l : Rec3) (tol : Int) (i j k : Nat) : Int := if j ≤ k then dvE l tol j (i + 1) else dvE l tol j i
theorem dvE_t {l : Rec3} {tol : Int} {k i : Nat} (h : dvB l tol k i = true) : dvE l tol k (i + 1) = dvE l tol k i + 1 := if_pos h
theorem dvE_f {l : Rec3} {tol : Int} {k i : Nat} (h : dvB l tol k i = false) : dvE l tol k (i + 1) = dvE l tol k i := if_neg (by rw [h]; exact Bool.false_ne_true)
theorem dvE_n {l : Rec3} {tol : Int} {k i : Nat} (h : (vE l tol i).2 = false) : dvE l tol k (i + 1) = dvE l tol k i := dvE_f (by rw [dvB, h]; rfl)
theorem dvB_t {l : Rec3} {tol : Int} {k i : Nat} (hv : (vE l tol i).2 = true) (h : recB (rk l k) i = true ∧ tol < max (sxE ((rk l k).2.2.1.getD i 0) - (vE l tol i).1) (0 - (sxE ((rk l k).2.2.1.getD i 0) - (vE l tol i).1))) : dvB l tol k i = true := by
  rw [dvB, hv, h.1, decide_eq_true h.2] <;> rfl
theorem dvB_f {l : Rec3} {tol : Int} {k i : Nat} (h : recB (rk l k) i = false ∨ ¬ (tol < max (sxE ((rk l k).2.2.1.getD i 0) - (vE l tol i).1) (0 - (sxE ((rk l k).2.2.1.getD i 0) - (vE l tol i).1)))) : dvB l tol k i = false := by
  unfold dvB
  rcases h with h | h
  · rw [h, Bool.and_false] <;> rfl
  rw [decide_eq_false h, Bool.and_false]
theorem div32E {p q r : Nat} (h : single.div p q = some r) : fopE .quo .f32 p q = some r := h
structure Vot (l : Rec3) (tol : Int) : Prop where
  lv : ∀ k, k < 3 → ∀ x ∈ (rk l k).2.2.1, lvlE x = 0
  len : ∀ k, k < 3 → (rk l k).2.2.1.length = l.1.2.2.1.length
  n : l.1.2.2.1.length ≤ 4096
  gap : ∀ k, k < 3 → (rk l k).2.2.2.length < 1000000
  tol : 0 ≤ tol ∧ tol ≤ 2048
def lvR (l : Rec3) (tol : Int) : Rec1 := (l.1.1, l.1.2.1, lvV l tol l.1.2.2.1.length, [])
theorem rVote_ok {l : (ByteArray × Int × (List Nat) × (List (Int × Int))) × (ByteArray × Int × (List Nat) × (List (Int × Int))) × (ByteArray × Int × (List Nat) × (List (Int × Int)))} {tol : Int} (hV : Vot l tol) : VF Tryz.prog OA 57 [.v y84 l, I tol] (.tup [.v y55 (keptE (lvR l tol) (isV l tol l.1.2.2.1.length)), .v y85 (dvE l tol 0 l.1.2.2.1.length, dvE l tol 1 l.1.2.2.1.length, dvE l tol 2 l.1.2.2.1.length)]) := by
  refine VF.enter Tryz.func57 rfl (fun _ _ => rfl) rfl ?_
  show VC _ _ _ _ _ [(0, .v y84 l), (1, I tol)] [] _
  have hn := hV.n
  have ht := hV.tol
  refine VC.seq (VC.text ?_); refine VO.new (.box) ?_; refine VO.cell (.alloc zt55) ?_; intro ww3; refine VO.cell (.alloc zt85) ?_; intro ww4; refine VO.go (VC.seq (VC.text ?_)); refine VO.cell (.alloc zt85) ?_; intro ww5; refine VO.go (VC.seq (VC.text ?_)); refine VO.c (.ixP 0 (.l .o)) ?_; refine VO.c (.fa (.r (.r (.l .o)))) ?_; refine VO.r (.ld vt53) ?_; refine VO.r (.len el53) ?_; refine VO.c (.assign rfl) ?_; refine VO.go (VC.seq (VC.text ?_)); refine VO.c (.move rfl) ?_; refine VO.cell (.make (k := l.1.2.2.1.length) rfl rfl el156 zt4 (by omega)) ?_; intro ww6; refine VO.c (.assign rfl) ?_; refine VO.go (VC.seq (VC.drawn ?_)); refine VD.c (.ixP 0 (.l .o)) ?_; refine VD.c (.fa (.l .o)) ?_; refine VD.r [] (.ld vt9) (.inl rfl) ?_; refine VD.c (.ixP 0 (.l .o)) ?_; refine VD.c (.fa (.r (.l .o))) ?_; refine VD.r [] (.ld vt3) (.inl rfl) ?_; refine VD.nw [] ?_; refine VD.c (.move rfl) ?_; refine VD.cell (.make (k := l.1.2.2.1.length) rfl rfl el53 zt59 (by omega)) ?_; intro ww7
  refine VD.one m0 fun ho8 => ?_
  refine VD.c (.buildR (cs := [St l.1.1, I l.1.2.1, .raw ww7, nilV]) bt55 rfl rfl (.cons (.v) rfl rfl (.cons (.v) rfl rfl (.cons (.w ho8) rfl rfl (.cons (.w rfl) rfl rfl (.nil rfl)))))) ?_; refine VD.cell (.alloc zt55) ?_; intro ww9; refine VD.mk0 (MakeV.setF (k := 0) vt55 (.aggs rfl (allC rfl (allC rfl (allC (p := .raw ww7) ho8 (allC rfl rfl))))) (Nat.le_of_ble_eq_true rfl) (.inr ⟨rfl, rfl⟩) rfl rfl) ?_; rintro _ _ tl10 ⟨rfl, rfl⟩; refine VD.go (VC.seq (VC.seq (VC.text ?_))); refine VO.c (.assign rfl) ?_; refine VO.go (VC.block ?_); refine VC.keep [(1, I tol), (2, .p y84 l), (4, .raw ww3), (5, .raw ww4), (6, .raw ww5), (7, I ((l.1.2.2.1.length : Nat) : Int)), (8, .raw ww6), (9, .raw ww9), (10, I ((0 : Nat) : Int))] ⟨rfl, rfl, rfl, rfl, rfl, rfl, rfl, rfl, rfl, trivial⟩ ?_; refine VC.loop (I := fun kk ff ss => ∃ (i : Nat), kk = l.1.2.2.1.length - i ∧ ff = [(1, I tol), (2, .p y84 l), (4, .raw ww3), (5, .raw ww4), (6, .raw ww5), (7, I ((l.1.2.2.1.length : Nat) : Int)), (8, .raw ww6), (9, .raw ww9), (10, I ((i : Nat) : Int))] ∧ ss = [(ww9, .var [St l.1.1, I l.1.2.1, .raw ww7, nilV]), (ww7, .row 59 (.flt .f32) (lvV l tol i)), (ww6, .row 4 .bool (isV l tol i)), (ww5, .var [I (dvE l tol 0 i), I (dvE l tol 1 i), I (dvE l tol 2 i)]), (ww4, .var [I (0 : Int), I (0 : Int), I (0 : Int)]), (ww3, .var [St ByteArray.empty, I (0 : Int), .v y53 [], .v y22 []])] ∧ (i ≤ l.1.2.2.1.length) ∧ ((isV l tol i).length = l.1.2.2.1.length) ∧ ((lvV l tol i).length = l.1.2.2.1.length)) ?_ _ _ _ ⟨0, rfl, rfl, (by rw [← isV_0, ← lvV_0] <;> rfl), Nat.zero_le _, (by exact isV_len), (by exact lvV_len)⟩; rintro kk ff ss ⟨i, hk0, rfl, rfl, hi, hil, hll⟩; refine VC.seq (VC.seq (VC.text ?_)); refine VO.c (.move rfl) ?_; refine VO.c (.move rfl) ?_; refine VO.c (.lss) ?_; refine VO.go ?_; refine VC.condD rfl (fun c6 => ?_) (fun c6 => ?_)
  · have hib : i < l.1.2.2.1.length := by omega
    have hvb := vE_bnd (tol := tol) (i := i) hV.lv
    have hd0 := dvE_bnd (l := l) (tol := tol) (k := 0) i
    have hd1 := dvE_bnd (l := l) (tol := tol) (k := 1) i
    have hd2 := dvE_bnd (l := l) (tol := tol) (k := 2) i
    have hk10 : dvK l tol i 1 0 = dvE l tol 1 i := rfl
    have hk21 : dvK l tol i 2 1 = dvE l tol 2 i := rfl
    have hq := q16_ok hvb
    have hvb2 : -1024 ≤ (votedE (toldL l i 3) tol).1 ∧ (votedE (toldL l i 3) tol).1 ≤ 1024 := hvb
    have hl1 : l.2.1.2.2.1.length = l.1.2.2.1.length := hV.len 1 (by decide)
    have hl2 : l.2.2.2.2.1.length = l.1.2.2.1.length := hV.len 2 (by decide)
    have hat0 : (rk l 0).2.2.1.getD i 0 = l.1.2.2.1[i] := getDat hib
    have hat1 : (rk l 1).2.2.1.getD i 0 = l.2.1.2.2.1[i]'(by omega) := getDat (by show i < l.2.1.2.2.1.length; omega)
    have hat2 : (rk l 2).2.2.1.getD i 0 = l.2.2.2.2.1[i]'(by omega) := getDat (by show i < l.2.2.2.2.1.length; omega)
    have hs0 := (lvl_ok (hV.lv 0 (by decide) (l.1.2.2.1[i]) (List.getElem_mem _))).2
    have hs1 := (lvl_ok (hV.lv 1 (by decide) (l.2.1.2.2.1[i]'(by omega)) (List.getElem_mem _))).2
    have hs2 := (lvl_ok (hV.lv 2 (by decide) (l.2.2.2.2.1[i]'(by omega)) (List.getElem_mem _))).2
    refine VC.skip (VC.seq (VC.block (VC.seq (VC.text ?_)))); refine VO.c (.assign rfl) ?_; refine VO.go (VC.seq (VC.seq (VC.text ?_))); refine VO.c (.assign rfl) ?_; refine VO.go (VC.block ?_); refine VC.cell0 3 (.int .i64) ?_; refine VC.keep [(1, I tol), (2, .p y84 l), (4, .raw ww3), (5, .raw ww4), (6, .raw ww5), (7, I ((l.1.2.2.1.length : Nat) : Int)), (8, .raw ww6), (9, .raw ww9), (10, I ((i : Nat) : Int)), (11, .raw (.slice none 0 0)), (12, I ((0 : Nat) : Int))] ⟨rfl, rfl, rfl, rfl, rfl, rfl, rfl, rfl, rfl, rfl, rfl, trivial⟩ ?_; refine VC.loop (I := fun kk ff ss => ∃ (k : Nat) (out : Value), kk = 3 - k ∧ ff = [(1, I tol), (2, .p y84 l), (4, .raw ww3), (5, .raw ww4), (6, .raw ww5), (7, I ((l.1.2.2.1.length : Nat) : Int)), (8, .raw ww6), (9, .raw ww9), (10, I ((i : Nat) : Int)), (11, .raw out), (12, I ((k : Nat) : Int))] ∧ ss = [(out, .row 3 (.int .i64) (toldL l i k)), (ww9, .var [St l.1.1, I l.1.2.1, .raw ww7, nilV]), (ww7, .row 59 (.flt .f32) (lvV l tol i)), (ww6, .row 4 .bool (isV l tol i)), (ww5, .var [I (dvE l tol 0 i), I (dvE l tol 1 i), I (dvE l tol 2 i)]), (ww4, .var [I (0 : Int), I (0 : Int), I (0 : Int)]), (ww3, .var [St ByteArray.empty, I (0 : Int), .v y53 [], .v y22 []])] ∧ (k ≤ 3) ∧ ((toldL l i k).length ≤ k)) ?_ _ _ _ ⟨0, (.slice none 0 0), rfl, rfl, rfl, Nat.zero_le _, (by exact Nat.le_refl _)⟩; rintro kk ff ss ⟨k, out, hk2, rfl, rfl, hk, htl⟩; refine VC.seq (VC.seq (VC.text ?_)); refine VO.c (.move rfl) ?_; refine VO.c (.lss) ?_; refine VO.go ?_; refine VC.condD rfl (fun c10 => ?_) (fun c10 => ?_)
    · have hk3 : k < 3 := by omega
      have hkl := hV.len k hk3
      have hka : (arr3 l.1 l.2.1 l.2.2 k).2.2.1.length = l.1.2.2.1.length := hkl
      have hkg := hV.gap k hk3
      have hkv := hV.lv k hk3
      refine VC.skip (VC.seq (VC.block (VC.seq (VC.text ?_)))); refine VO.c (.move rfl) ?_; refine VO.c (.ixP3 (a := l.1) (b := l.2.1) (c := l.2.2) k (by omega)) ?_; refine VO.r (.ld vt55) ?_; refine VO.c (.move rfl) ?_; refine VO.call rfl rfl (VF.call (rRecorded_ok hkg)) ?_; refine VO.go ?_; refine VC.condB rfl (fun c12 => ?_) (fun c12 => ?_)
      · have e1 := toldL_t c12
        have hat : (rk l k).2.2.1.getD i 0 = (rk l k).2.2.1[i]'(by omega) := getDat (by omega)
        rw [hat] at e1
        refine VC.text ?_; refine VO.c (.move rfl) ?_; refine VO.c (.move rfl) ?_; refine VO.c (.ixP3 (a := l.1) (b := l.2.1) (c := l.2.2) k (by omega)) ?_; refine VO.c (.fa (.r (.r (.l .o)))) ?_; refine VO.r (.ld vt53) ?_; refine VO.c (.move rfl) ?_; refine VO.c (.ix (j := i) rfl rfl el53 (by omega)) ?_; refine VO.r (.ld vt59) ?_; refine VO.call rfl rfl (VF.call (rSix_ok (hkv _ (List.getElem_mem _)))) ?_; refine VO.new (.lit [sxE (((arr3 l.1 l.2.1 l.2.2 k).2.2.1)[i])] el37) ?_; refine VO.app rfl rfl el37 el37 (by simp; omega) ?_; intro ww11; refine VO.c (.assign rfl) ?_; refine VO.nil (VC.text ?_); refine VO.c (.move rfl) ?_; refine VO.c (.add rfl rfl (by omega)) ?_; refine VO.c (.assign rfl) ?_; refine VO.nil ?_; refine ⟨_, [(1, I tol), (2, .p y84 l), (4, .raw ww3), (5, .raw ww4), (6, .raw ww5), (7, I ((l.1.2.2.1.length : Nat) : Int)), (8, .raw ww6), (9, .raw ww9), (10, I ((i : Nat) : Int)), (11, .raw ww11), (12, I (((k + 1) : Nat) : Int))], ?_, ⟨rfl, rfl, rfl, rfl, rfl, rfl, rfl, rfl, rfl, rfl, rfl, trivial⟩, (k + 1), ww11, rfl, rfl, (by first | (rw [e1]; done) | (rw [e1]; rfl)), (by omega), (by exact toldL_len _)⟩
        omega
      have e1 := toldL_f c12
      refine VC.skip (VC.text ?_); refine VO.c (.move rfl) ?_; refine VO.c (.add rfl rfl (by omega)) ?_; refine VO.c (.assign rfl) ?_; refine VO.nil ?_; refine ⟨_, [(1, I tol), (2, .p y84 l), (4, .raw ww3), (5, .raw ww4), (6, .raw ww5), (7, I ((l.1.2.2.1.length : Nat) : Int)), (8, .raw ww6), (9, .raw ww9), (10, I ((i : Nat) : Int)), (11, .raw out), (12, I (((k + 1) : Nat) : Int))], ?_, ⟨rfl, rfl, rfl, rfl, rfl, rfl, rfl, rfl, rfl, rfl, rfl, trivial⟩, (k + 1), out, rfl, rfl, (by first | (rw [e1]; done) | (rw [e1]; rfl)), (by omega), (by exact toldL_len _)⟩
      omega
    refine VC.exit (VC.seq ?_); refine VC.shutL [(out, .row 3 (.int .i64) (toldL l i k))] [(11, .v y37 (toldL l i k))] rfl (.cons rfl (.row m0) .nil) ?_; refine VC.text ?_
    obtain rfl : k = 3 := by omega
    refine VO.c (.move rfl) ?_; refine VO.c (.move rfl) ?_; refine VO.call rfl rfl (VF.call (rVoted_ok (toldL_len 3) (toldL_bnd hV.lv 3 (by omega)))) ?_; refine VO.c (.move rfl) ?_; refine VO.c (.extract) ?_; refine VO.c (.extract) ?_; refine VO.c (.assign rfl) ?_; refine VO.c (.assign rfl) ?_; refine VO.go (VC.seq (VC.seq (VC.text ?_))); refine VO.c (.move rfl) ?_; refine VO.c (.not) ?_; refine VO.go ?_; refine VC.condB rfl (fun c15 => ?_) (fun c15 => ?_)
    · try simp only [Bool.and_eq_true, Bool.or_eq_true, Bool.and_eq_false_iff, Bool.or_eq_false_iff, Bool.not_eq_true', Bool.not_eq_false', decide_eq_true_eq, decide_eq_false_iff_not] at c15
      have hvf : (vE l tol i).2 = false := by
        have h : (votedE (toldL l i 3) tol).2 = false := by simpa using c15
        exact h
      refine VC.exit (VC.text ?_); refine VO.c (.move rfl) ?_; refine VO.c (.add rfl rfl (by omega)) ?_; refine VO.c (.assign rfl) ?_; refine VO.nil ?_; refine ⟨_, [(1, I tol), (2, .p y84 l), (4, .raw ww3), (5, .raw ww4), (6, .raw ww5), (7, I ((l.1.2.2.1.length : Nat) : Int)), (8, .raw ww6), (9, .raw ww9), (10, I (((i + 1) : Nat) : Int))], ?_, ⟨rfl, rfl, rfl, rfl, rfl, rfl, rfl, rfl, rfl, trivial⟩, (i + 1), rfl, rfl, (by first | (rw [dvE_n hvf, dvE_n hvf, dvE_n hvf, isV_f hvf, lvV_f hvf]; done) | (rw [isV_t hib hvt, lvV_t hib hvt]; rfl)), (by omega), (by exact isV_len), (by exact lvV_len)⟩
      omega
    try simp only [Bool.and_eq_true, Bool.or_eq_true, Bool.and_eq_false_iff, Bool.or_eq_false_iff, Bool.not_eq_true', Bool.not_eq_false', decide_eq_true_eq, decide_eq_false_iff_not] at c15
    have hvt : (vE l tol i).2 = true := by
      have h : (votedE (toldL l i 3) tol).2 = true := by simpa using c15
      exact h
    refine VC.skip (VC.seq ?_); refine VC.perm swap1 ?_; refine VC.perm swap2 ?_; refine VC.late [(ww9, .var [St l.1.1, I l.1.2.1, .raw ww7, nilV]), (ww5, .var [I (dvE l tol 0 i), I (dvE l tol 1 i), I (dvE l tol 2 i)]), (ww4, .var [I (0 : Int), I (0 : Int), I (0 : Int)]), (ww3, .var [St ByteArray.empty, I (0 : Int), .v y53 [], .v y22 []])] ⟨[(ww6, .row 4 .bool (isV l tol i)), (ww7, .row 59 (.flt .f32) (lvV l tol i))], rfl⟩ ?_; refine VLt.cR (.move rfl) ?_; refine VLt.c (.move rfl) ?_; refine VLt.cR (.faO (k := 2) m2) ?_; refine VLt.qo rfl m0 (.inr ⟨_, rfl⟩) (.ldF (k := 2) m0 vt53) ?_; refine VLt.c (.move rfl) ?_; refine VLt.c (.move rfl) ?_; refine VLt.nws [] ?_; refine VLt.c (.cvIF .f32) ?_; refine VLt.c (.fop (div32E hq.2.2)) ?_; refine VLt.cR (.ixO (j := i) rfl rfl m0 el156 (by omega)) ?_; refine VLt.mk0 (MakeV.setE (j := i) vt4 (by omega) rfl rfl) (TurnV.storeE rfl (.inl rfl) (by omega)) ⟨[(ww7, .row 59 (.flt .f32) (lvV l tol i))], rfl⟩ ?_; rintro _ _ ⟨rfl, rfl⟩; refine ⟨⟨[(ww6, .row 4 .bool ((isV l tol i).set i true)), (ww7, .row 59 (.flt .f32) (lvV l tol i))], rfl⟩, ?_⟩; refine VLt.cR (.ixO (j := i) rfl rfl m1 el53 (by omega)) ?_; refine VLt.perm swap1 ⟨[(ww7, .row 59 (.flt .f32) (lvV l tol i)), (ww6, .row 4 .bool ((isV l tol i).set i true))], rfl⟩ ?_; refine VLt.mk0 (MakeV.setE (j := i) vt59 (by omega) rfl rfl) (TurnV.storeE rfl (.inl rfl) (by omega)) ⟨[(ww6, .row 4 .bool ((isV l tol i).set i true))], rfl⟩ ?_; rintro _ _ ⟨rfl, rfl⟩; refine ⟨⟨[(ww7, .row 59 (.flt .f32) ((lvV l tol i).set i (q16 (vE l tol i).1))), (ww6, .row 4 .bool ((isV l tol i).set i true))], rfl⟩, ?_⟩; refine VLt.go ?_; refine VC.seq (VC.text ?_); refine VO.c (.assign rfl) ?_; refine VO.go (VC.block ?_); refine VC.unroll ?_; refine VC.seq (VC.seq (VC.text ?_)); refine VO.c (.move rfl) ?_; refine VO.c (.lss) ?_; refine VO.go ?_; refine VC.condT rfl ?_; refine VC.skip (VC.seq (VC.block (VC.seq (VC.text ?_)))); refine VO.c (.move rfl) ?_; refine VO.c (.ixP 0 (.l .o)) ?_; refine VO.c (.fa (.r (.r (.l .o)))) ?_; refine VO.r (.ld vt53) ?_; refine VO.c (.move rfl) ?_; refine VO.c (.ix (j := i) rfl rfl el53 (by omega)) ?_; refine VO.r (.ld vt59) ?_; refine VO.call rfl rfl (VF.call (rSix_ok (by first | exact hV.lv 0 (by decide) _ (List.getElem_mem _) | exact hV.lv 1 (by decide) _ (List.getElem_mem _) | exact hV.lv 2 (by decide) _ (List.getElem_mem _)))) ?_; refine VO.c (.move rfl) ?_; refine VO.c (.sub rfl rfl (by omega)) ?_; refine VO.c (.assign rfl) ?_; refine VO.go (VC.seq ?_); refine VC.keep [(1, I tol), (2, .p y84 l), (4, .raw ww3), (5, .raw ww4), (6, .raw ww5), (7, I ((l.1.2.2.1.length : Nat) : Int)), (8, .raw ww6), (9, .raw ww9), (10, I ((i : Nat) : Int)), (13, I ((vE l tol i).1)), (15, I (0 : Int)), (16, I (sxE (l.1.2.2.1[i]) - (vE l tol i).1))] ⟨rfl, rfl, rfl, rfl, rfl, rfl, rfl, rfl, rfl, rfl, rfl, rfl, trivial⟩ ?_; refine VC.text ?_; refine VO.c (.move rfl) ?_; refine VO.c (.ixP 0 (.l .o)) ?_; refine VO.r (.ld vt55) ?_; refine VO.c (.move rfl) ?_; refine VO.call rfl rfl (VF.call (rRecorded_ok (by first | exact hV.gap 0 (by decide) | exact hV.gap 1 (by decide) | exact hV.gap 2 (by decide)))) ?_; refine VO.c (.move rfl) ?_; refine VO.cg (r := recB l.1 ((i : Nat) : Int)) (w := true) [] trivial (fun _ => (.move rfl)) ?_; refine VO.cg (r := recB l.1 ((i : Nat) : Int)) (w := true) [] trivial (fun _ => (.move rfl)) ?_; refine VO.cg (r := recB l.1 ((i : Nat) : Int)) (w := true) [(96, I (sxE (l.1.2.2.1[i]) - (vE l tol i).1))] ⟨rfl, trivial⟩ (fun hgd => have g21_5 : recB l.1 ((i : Nat) : Int) = true := (by simpa using hgd); (.sub rfl rfl (by omega))) ?_; refine VO.rg (r := recB l.1 ((i : Nat) : Int)) (w := true) [(95, I (sxE (l.1.2.2.1[i]) - (vE l tol i).1)), (97, I ((0 : Int) - (sxE (l.1.2.2.1[i]) - (vE l tol i).1)))] ⟨rfl, rfl, trivial⟩ (fun _ => (.max)) ?_; refine VO.cg (r := recB l.1 ((i : Nat) : Int)) (w := true) [] trivial (fun _ => (.move rfl)) ?_; refine VO.cg (r := recB l.1 ((i : Nat) : Int)) (w := true) [(98, I (max (sxE (l.1.2.2.1[i]) - (vE l tol i).1) ((0 : Int) - (sxE (l.1.2.2.1[i]) - (vE l tol i).1)))), (99, I tol)] ⟨rfl, rfl, trivial⟩ (fun _ => (.gtr)) ?_; refine VO.c (.and) ?_; refine VO.go ?_; refine VC.join [(1, I tol), (2, .p y84 l), (4, .raw ww3), (5, .raw ww4), (6, .raw ww5), (7, I ((l.1.2.2.1.length : Nat) : Int)), (8, .raw ww6), (9, .raw ww9), (10, I ((i : Nat) : Int)), (13, I ((vE l tol i).1)), (15, I (0 : Int))] [(ww7, .row 59 (.flt .f32) ((lvV l tol i).set i (q16 (vE l tol i).1))), (ww6, .row 4 .bool ((isV l tol i).set i true)), (ww9, .var [St l.1.1, I l.1.2.1, .raw ww7, nilV]), (ww5, .var [I (dvK l tol i 0 0), I (dvK l tol i 1 0), I (dvK l tol i 2 0)]), (ww4, .var [I (0 : Int), I (0 : Int), I (0 : Int)]), (ww3, .var [St ByteArray.empty, I (0 : Int), .v y53 [], .v y22 []])] ?_ ?_; refine VC.condB rfl (fun c21 => ?_) (fun c21 => ?_)
    · try simp only [Bool.and_eq_true, Bool.or_eq_true, Bool.and_eq_false_iff, Bool.or_eq_false_iff, Bool.not_eq_true', Bool.not_eq_false', decide_eq_true_eq, decide_eq_false_iff_not] at c21
      refine VC.text ?_; refine VO.c (.move rfl) ?_; refine VO.c (.ixV 0 (k := 0) (τ' := (.int .i64)) m3) ?_; refine VO.r (.ldF (k := 0) m3 vt3) ?_; refine VO.c (.add rfl rfl (by omega)) ?_; refine VO.c (.ixV 0 (k := 0) (τ' := (.int .i64)) m3) ?_; refine VO.perm swap3 ?_; refine VO.setF (cs' := [I ((dvE l tol 0 i) + (1 : Int)), I (dvE l tol 1 i), I (dvE l tol 2 i)]) 0 vt3 .v ?_; refine VO.perm swap5 ?_; refine VO.perm swap5 ?_; refine VO.perm swap2 ?_; refine VO.perm swap5 ?_; refine VO.perm swap5 ?_; refine VO.perm swap5 ?_; refine VO.nil ?_; exact ⟨⟨rfl, rfl, rfl, rfl, rfl, rfl, rfl, rfl, rfl, rfl, rfl, trivial⟩, (by first | (rw [show dvK l tol i 0 0 = dvE l tol 0 i + 1 from dvE_t (dvB_t hvt (by rw [hat0]; exact c21))]; rfl) | (rw [show dvK l tol i 0 0 = dvE l tol 0 i from dvE_f (dvB_f (by rw [hat0]; exact c21))]; rfl) | (rw [show dvK l tol i 1 1 = dvE l tol 1 i + 1 from dvE_t (dvB_t hvt (by rw [hat1]; exact c21))]; rfl) | (rw [show dvK l tol i 1 1 = dvE l tol 1 i from dvE_f (dvB_f (by rw [hat1]; exact c21))]; rfl) | (rw [show dvK l tol i 2 2 = dvE l tol 2 i + 1 from dvE_t (dvB_t hvt (by rw [hat2]; exact c21))]; rfl) | (rw [show dvK l tol i 2 2 = dvE l tol 2 i from dvE_f (dvB_f (by rw [hat2]; exact c21))]; rfl))⟩
    · try simp only [Bool.and_eq_true, Bool.or_eq_true, Bool.and_eq_false_iff, Bool.or_eq_false_iff, Bool.not_eq_true', Bool.not_eq_false', decide_eq_true_eq, decide_eq_false_iff_not] at c21
      refine VC.skip ?_; exact ⟨⟨rfl, rfl, rfl, rfl, rfl, rfl, rfl, rfl, rfl, rfl, rfl, trivial⟩, (by first | (rw [show dvK l tol i 0 0 = dvE l tol 0 i + 1 from dvE_t (dvB_t hvt (by rw [hat0]; exact c21))]; rfl) | (rw [show dvK l tol i 0 0 = dvE l tol 0 i from dvE_f (dvB_f (by rw [hat0]; exact c21))]; rfl) | (rw [show dvK l tol i 1 1 = dvE l tol 1 i + 1 from dvE_t (dvB_t hvt (by rw [hat1]; exact c21))]; rfl) | (rw [show dvK l tol i 1 1 = dvE l tol 1 i from dvE_f (dvB_f (by rw [hat1]; exact c21))]; rfl) | (rw [show dvK l tol i 2 2 = dvE l tol 2 i + 1 from dvE_t (dvB_t hvt (by rw [hat2]; exact c21))]; rfl) | (rw [show dvK l tol i 2 2 = dvE l tol 2 i from dvE_f (dvB_f (by rw [hat2]; exact c21))]; rfl))⟩
    refine VC.text ?_; refine VO.c (.move rfl) ?_; refine VO.c (.add rfl rfl (by decide)) ?_; refine VO.c (.assign rfl) ?_; refine VO.nil ?_; refine VC.unroll ?_; refine VC.seq (VC.seq (VC.text ?_)); refine VO.c (.move rfl) ?_; refine VO.c (.lss) ?_; refine VO.go ?_; refine VC.condT rfl ?_; refine VC.skip (VC.seq (VC.block (VC.seq (VC.text ?_)))); refine VO.c (.move rfl) ?_; refine VO.c (.ixP 1 (.r (.l .o))) ?_; refine VO.c (.fa (.r (.r (.l .o)))) ?_; refine VO.r (.ld vt53) ?_; refine VO.c (.move rfl) ?_; refine VO.c (.ix (j := i) rfl rfl el53 (by omega)) ?_; refine VO.r (.ld vt59) ?_; refine VO.call rfl rfl (VF.call (rSix_ok (by first | exact hV.lv 0 (by decide) _ (List.getElem_mem _) | exact hV.lv 1 (by decide) _ (List.getElem_mem _) | exact hV.lv 2 (by decide) _ (List.getElem_mem _)))) ?_; refine VO.c (.move rfl) ?_; refine VO.c (.sub rfl rfl (by omega)) ?_; refine VO.c (.assign rfl) ?_; refine VO.go (VC.seq (VC.text ?_)); refine VO.c (.move rfl) ?_; refine VO.c (.ixP 1 (.r (.l .o))) ?_; refine VO.r (.ld vt55) ?_; refine VO.c (.move rfl) ?_; refine VO.call rfl rfl (VF.call (rRecorded_ok (by first | exact hV.gap 0 (by decide) | exact hV.gap 1 (by decide) | exact hV.gap 2 (by decide)))) ?_; refine VO.c (.move rfl) ?_; refine VO.cg (r := recB l.2.1 ((i : Nat) : Int)) (w := true) [] trivial (fun _ => (.move rfl)) ?_; refine VO.cg (r := recB l.2.1 ((i : Nat) : Int)) (w := true) [] trivial (fun _ => (.move rfl)) ?_; refine VO.cg (r := recB l.2.1 ((i : Nat) : Int)) (w := true) [(96, I (sxE (l.2.1.2.2.1[i]) - (vE l tol i).1))] ⟨rfl, trivial⟩ (fun hgd => have g21_5 : recB l.2.1 ((i : Nat) : Int) = true := (by simpa using hgd); (.sub rfl rfl (by omega))) ?_; refine VO.rg (r := recB l.2.1 ((i : Nat) : Int)) (w := true) [(95, I (sxE (l.2.1.2.2.1[i]) - (vE l tol i).1)), (97, I ((0 : Int) - (sxE (l.2.1.2.2.1[i]) - (vE l tol i).1)))] ⟨rfl, rfl, trivial⟩ (fun _ => (.max)) ?_; refine VO.cg (r := recB l.2.1 ((i : Nat) : Int)) (w := true) [] trivial (fun _ => (.move rfl)) ?_; refine VO.cg (r := recB l.2.1 ((i : Nat) : Int)) (w := true) [(98, I (max (sxE (l.2.1.2.2.1[i]) - (vE l tol i).1) ((0 : Int) - (sxE (l.2.1.2.2.1[i]) - (vE l tol i).1)))), (99, I tol)] ⟨rfl, rfl, trivial⟩ (fun _ => (.gtr)) ?_; refine VO.c (.and) ?_; refine VO.go ?_; refine VC.join [(1, I tol), (2, .p y84 l), (4, .raw ww3), (5, .raw ww4), (6, .raw ww5), (7, I ((l.1.2.2.1.length : Nat) : Int)), (8, .raw ww6), (9, .raw ww9), (10, I ((i : Nat) : Int)), (13, I ((vE l tol i).1)), (15, I (1 : Int))] [(ww7, .row 59 (.flt .f32) ((lvV l tol i).set i (q16 (vE l tol i).1))), (ww6, .row 4 .bool ((isV l tol i).set i true)), (ww9, .var [St l.1.1, I l.1.2.1, .raw ww7, nilV]), (ww5, .var [I (dvK l tol i 0 1), I (dvK l tol i 1 1), I (dvK l tol i 2 1)]), (ww4, .var [I (0 : Int), I (0 : Int), I (0 : Int)]), (ww3, .var [St ByteArray.empty, I (0 : Int), .v y53 [], .v y22 []])] ?_ ?_; refine VC.condB rfl (fun c21 => ?_) (fun c21 => ?_)
    · try simp only [Bool.and_eq_true, Bool.or_eq_true, Bool.and_eq_false_iff, Bool.or_eq_false_iff, Bool.not_eq_true', Bool.not_eq_false', decide_eq_true_eq, decide_eq_false_iff_not] at c21
      refine VC.text ?_; refine VO.c (.move rfl) ?_; refine VO.c (.ixV 1 (k := 1) (τ' := (.int .i64)) m3) ?_; refine VO.r (.ldF (k := 1) m3 vt3) ?_; refine VO.c (.add rfl rfl (by omega)) ?_; refine VO.c (.ixV 1 (k := 1) (τ' := (.int .i64)) m3) ?_; refine VO.perm swap3 ?_; refine VO.setF (cs' := [I (dvK l tol i 0 0), I ((dvK l tol i 1 0) + (1 : Int)), I (dvK l tol i 2 0)]) 1 vt3 .v ?_; refine VO.perm swap5 ?_; refine VO.perm swap5 ?_; refine VO.perm swap2 ?_; refine VO.perm swap5 ?_; refine VO.perm swap5 ?_; refine VO.perm swap5 ?_; refine VO.nil ?_; exact ⟨⟨rfl, rfl, rfl, rfl, rfl, rfl, rfl, rfl, rfl, rfl, rfl, trivial⟩, (by first | (rw [show dvK l tol i 0 0 = dvE l tol 0 i + 1 from dvE_t (dvB_t hvt (by rw [hat0]; exact c21))]; rfl) | (rw [show dvK l tol i 0 0 = dvE l tol 0 i from dvE_f (dvB_f (by rw [hat0]; exact c21))]; rfl) | (rw [show dvK l tol i 1 1 = dvE l tol 1 i + 1 from dvE_t (dvB_t hvt (by rw [hat1]; exact c21))]; rfl) | (rw [show dvK l tol i 1 1 = dvE l tol 1 i from dvE_f (dvB_f (by rw [hat1]; exact c21))]; rfl) | (rw [show dvK l tol i 2 2 = dvE l tol 2 i + 1 from dvE_t (dvB_t hvt (by rw [hat2]; exact c21))]; rfl) | (rw [show dvK l tol i 2 2 = dvE l tol 2 i from dvE_f (dvB_f (by rw [hat2]; exact c21))]; rfl))⟩
    · try simp only [Bool.and_eq_true, Bool.or_eq_true, Bool.and_eq_false_iff, Bool.or_eq_false_iff, Bool.not_eq_true', Bool.not_eq_false', decide_eq_true_eq, decide_eq_false_iff_not] at c21
      refine VC.skip ?_; exact ⟨⟨rfl, rfl, rfl, rfl, rfl, rfl, rfl, rfl, rfl, rfl, rfl, trivial⟩, (by first | (rw [show dvK l tol i 0 0 = dvE l tol 0 i + 1 from dvE_t (dvB_t hvt (by rw [hat0]; exact c21))]; rfl) | (rw [show dvK l tol i 0 0 = dvE l tol 0 i from dvE_f (dvB_f (by rw [hat0]; exact c21))]; rfl) | (rw [show dvK l tol i 1 1 = dvE l tol 1 i + 1 from dvE_t (dvB_t hvt (by rw [hat1]; exact c21))]; rfl) | (rw [show dvK l tol i 1 1 = dvE l tol 1 i from dvE_f (dvB_f (by rw [hat1]; exact c21))]; rfl) | (rw [show dvK l tol i 2 2 = dvE l tol 2 i + 1 from dvE_t (dvB_t hvt (by rw [hat2]; exact c21))]; rfl) | (rw [show dvK l tol i 2 2 = dvE l tol 2 i from dvE_f (dvB_f (by rw [hat2]; exact c21))]; rfl))⟩
    refine VC.text ?_; refine VO.c (.move rfl) ?_; refine VO.c (.add rfl rfl (by decide)) ?_; refine VO.c (.assign rfl) ?_; refine VO.nil ?_; refine VC.unroll ?_; refine VC.seq (VC.seq ?_); refine VC.keep [(1, I tol), (2, .p y84 l), (4, .raw ww3), (5, .raw ww4), (6, .raw ww5), (7, I ((l.1.2.2.1.length : Nat) : Int)), (8, .raw ww6), (9, .raw ww9), (10, I ((i : Nat) : Int)), (13, I ((vE l tol i).1)), (15, I (2 : Int))] ⟨rfl, rfl, rfl, rfl, rfl, rfl, rfl, rfl, rfl, rfl, rfl, trivial⟩ ?_; refine VC.text ?_; refine VO.c (.move rfl) ?_; refine VO.c (.lss) ?_; refine VO.go ?_; refine VC.condT rfl ?_; refine VC.skip (VC.seq (VC.block (VC.seq (VC.text ?_)))); refine VO.c (.move rfl) ?_; refine VO.c (.ixP 2 (.r (.r .o))) ?_; refine VO.c (.fa (.r (.r (.l .o)))) ?_; refine VO.r (.ld vt53) ?_; refine VO.c (.move rfl) ?_; refine VO.c (.ix (j := i) rfl rfl el53 (by omega)) ?_; refine VO.r (.ld vt59) ?_; refine VO.call rfl rfl (VF.call (rSix_ok (by first | exact hV.lv 0 (by decide) _ (List.getElem_mem _) | exact hV.lv 1 (by decide) _ (List.getElem_mem _) | exact hV.lv 2 (by decide) _ (List.getElem_mem _)))) ?_; refine VO.c (.move rfl) ?_; refine VO.c (.sub rfl rfl (by omega)) ?_; refine VO.c (.assign rfl) ?_; refine VO.go (VC.seq (VC.text ?_)); refine VO.c (.move rfl) ?_; refine VO.c (.ixP 2 (.r (.r .o))) ?_; refine VO.r (.ld vt55) ?_; refine VO.c (.move rfl) ?_; refine VO.call rfl rfl (VF.call (rRecorded_ok (by first | exact hV.gap 0 (by decide) | exact hV.gap 1 (by decide) | exact hV.gap 2 (by decide)))) ?_; refine VO.c (.move rfl) ?_; refine VO.cg (r := recB l.2.2 ((i : Nat) : Int)) (w := true) [] trivial (fun _ => (.move rfl)) ?_; refine VO.cg (r := recB l.2.2 ((i : Nat) : Int)) (w := true) [] trivial (fun _ => (.move rfl)) ?_; refine VO.cg (r := recB l.2.2 ((i : Nat) : Int)) (w := true) [(96, I (sxE (l.2.2.2.2.1[i]) - (vE l tol i).1))] ⟨rfl, trivial⟩ (fun hgd => have g21_5 : recB l.2.2 ((i : Nat) : Int) = true := (by simpa using hgd); (.sub rfl rfl (by omega))) ?_; refine VO.rg (r := recB l.2.2 ((i : Nat) : Int)) (w := true) [(95, I (sxE (l.2.2.2.2.1[i]) - (vE l tol i).1)), (97, I ((0 : Int) - (sxE (l.2.2.2.2.1[i]) - (vE l tol i).1)))] ⟨rfl, rfl, trivial⟩ (fun _ => (.max)) ?_; refine VO.cg (r := recB l.2.2 ((i : Nat) : Int)) (w := true) [] trivial (fun _ => (.move rfl)) ?_; refine VO.cg (r := recB l.2.2 ((i : Nat) : Int)) (w := true) [(98, I (max (sxE (l.2.2.2.2.1[i]) - (vE l tol i).1) ((0 : Int) - (sxE (l.2.2.2.2.1[i]) - (vE l tol i).1)))), (99, I tol)] ⟨rfl, rfl, trivial⟩ (fun _ => (.gtr)) ?_; refine VO.c (.and) ?_; refine VO.go ?_; refine VC.join [(1, I tol), (2, .p y84 l), (4, .raw ww3), (5, .raw ww4), (6, .raw ww5), (7, I ((l.1.2.2.1.length : Nat) : Int)), (8, .raw ww6), (9, .raw ww9), (10, I ((i : Nat) : Int)), (13, I ((vE l tol i).1)), (15, I (2 : Int))] [(ww7, .row 59 (.flt .f32) ((lvV l tol i).set i (q16 (vE l tol i).1))), (ww6, .row 4 .bool ((isV l tol i).set i true)), (ww9, .var [St l.1.1, I l.1.2.1, .raw ww7, nilV]), (ww5, .var [I (dvK l tol i 0 2), I (dvK l tol i 1 2), I (dvK l tol i 2 2)]), (ww4, .var [I (0 : Int), I (0 : Int), I (0 : Int)]), (ww3, .var [St ByteArray.empty, I (0 : Int), .v y53 [], .v y22 []])] ?_ ?_; refine VC.condB rfl (fun c21 => ?_) (fun c21 => ?_)
    · try simp only [Bool.and_eq_true, Bool.or_eq_true, Bool.and_eq_false_iff, Bool.or_eq_false_iff, Bool.not_eq_true', Bool.not_eq_false', decide_eq_true_eq, decide_eq_false_iff_not] at c21
      refine VC.text ?_; refine VO.c (.move rfl) ?_; refine VO.c (.ixV 2 (k := 2) (τ' := (.int .i64)) m3) ?_; refine VO.r (.ldF (k := 2) m3 vt3) ?_; refine VO.c (.add rfl rfl (by omega)) ?_; refine VO.c (.ixV 2 (k := 2) (τ' := (.int .i64)) m3) ?_; refine VO.perm swap3 ?_; refine VO.setF (cs' := [I (dvK l tol i 0 1), I (dvK l tol i 1 1), I ((dvK l tol i 2 1) + (1 : Int))]) 2 vt3 .v ?_; refine VO.perm swap5 ?_; refine VO.perm swap5 ?_; refine VO.perm swap2 ?_; refine VO.perm swap5 ?_; refine VO.perm swap5 ?_; refine VO.perm swap5 ?_; refine VO.nil ?_; exact ⟨⟨rfl, rfl, rfl, rfl, rfl, rfl, rfl, rfl, rfl, rfl, rfl, trivial⟩, (by first | (rw [show dvK l tol i 0 0 = dvE l tol 0 i + 1 from dvE_t (dvB_t hvt (by rw [hat0]; exact c21))]; rfl) | (rw [show dvK l tol i 0 0 = dvE l tol 0 i from dvE_f (dvB_f (by rw [hat0]; exact c21))]; rfl) | (rw [show dvK l tol i 1 1 = dvE l tol 1 i + 1 from dvE_t (dvB_t hvt (by rw [hat1]; exact c21))]; rfl) | (rw [show dvK l tol i 1 1 = dvE l tol 1 i from dvE_f (dvB_f (by rw [hat1]; exact c21))]; rfl) | (rw [show dvK l tol i 2 2 = dvE l tol 2 i + 1 from dvE_t (dvB_t hvt (by rw [hat2]; exact c21))]; rfl) | (rw [show dvK l tol i 2 2 = dvE l tol 2 i from dvE_f (dvB_f (by rw [hat2]; exact c21))]; rfl))⟩
    · try simp only [Bool.and_eq_true, Bool.or_eq_true, Bool.and_eq_false_iff, Bool.or_eq_false_iff, Bool.not_eq_true', Bool.not_eq_false', decide_eq_true_eq, decide_eq_false_iff_not] at c21
      refine VC.skip ?_; exact ⟨⟨rfl, rfl, rfl, rfl, rfl, rfl, rfl, rfl, rfl, rfl, rfl, trivial⟩, (by first | (rw [show dvK l tol i 0 0 = dvE l tol 0 i + 1 from dvE_t (dvB_t hvt (by rw [hat0]; exact c21))]; rfl) | (rw [show dvK l tol i 0 0 = dvE l tol 0 i from dvE_f (dvB_f (by rw [hat0]; exact c21))]; rfl) | (rw [show dvK l tol i 1 1 = dvE l tol 1 i + 1 from dvE_t (dvB_t hvt (by rw [hat1]; exact c21))]; rfl) | (rw [show dvK l tol i 1 1 = dvE l tol 1 i from dvE_f (dvB_f (by rw [hat1]; exact c21))]; rfl) | (rw [show dvK l tol i 2 2 = dvE l tol 2 i + 1 from dvE_t (dvB_t hvt (by rw [hat2]; exact c21))]; rfl) | (rw [show dvK l tol i 2 2 = dvE l tol 2 i from dvE_f (dvB_f (by rw [hat2]; exact c21))]; rfl))⟩
    refine VC.text ?_; refine VO.c (.move rfl) ?_; refine VO.c (.add rfl rfl (by decide)) ?_; refine VO.c (.assign rfl) ?_; refine VO.nil ?_; refine VC.unroll ?_; refine VC.seq (VC.seq (VC.text ?_)); refine VO.c (.move rfl) ?_; refine VO.c (.lss) ?_; refine VO.go ?_; refine VC.condF rfl ?_; refine VC.exit (VC.text ?_); refine VO.c (.move rfl) ?_; refine VO.c (.add rfl rfl (by omega)) ?_; refine VO.c (.assign rfl) ?_; refine VO.perm swap5 ?_; refine VO.perm swap5 ?_; refine VO.perm swap5 ?_; refine VO.perm swap4 ?_; refine VO.perm swap4 ?_; refine VO.perm swap5 ?_; refine VO.nil ?_; refine ⟨_, [(1, I tol), (2, .p y84 l), (4, .raw ww3), (5, .raw ww4), (6, .raw ww5), (7, I ((l.1.2.2.1.length : Nat) : Int)), (8, .raw ww6), (9, .raw ww9), (10, I (((i + 1) : Nat) : Int))], ?_, ⟨rfl, rfl, rfl, rfl, rfl, rfl, rfl, rfl, rfl, trivial⟩, (i + 1), rfl, rfl, (by first | (rw [dvE_n hvf, dvE_n hvf, dvE_n hvf, isV_f hvf, lvV_f hvf]; done) | (rw [isV_t hib hvt, lvV_t hib hvt]; rfl)), (by omega), (by exact isV_len), (by exact lvV_len)⟩
    omega
  refine VC.exit (VC.seq ?_); refine VC.perm swap1 ?_; refine VC.shutL [(ww7, .row 59 (.flt .f32) (lvV l tol i)), (ww9, .var [St l.1.1, I l.1.2.1, .raw ww7, nilV])] [(9, .p y55 (l.1.1, l.1.2.1, (lvV l tol i), []))] rfl (.cons rfl (.var m1 (.cons .same (.cons .same (.cons (.row m0) (.cons .nil .nil))))) .nil) ?_; refine VC.shutL [(ww6, .row 4 .bool (isV l tol i))] [(8, .v (.sl .bool) (isV l tol i))] rfl (.cons rfl (.row m0) .nil) ?_; refine VC.perm swap1 ?_; refine VC.perm swap2 ?_; refine VC.late [(ww5, .var [I (dvE l tol 0 i), I (dvE l tol 1 i), I (dvE l tol 2 i)])] ⟨[(ww3, .var [St ByteArray.empty, I (0 : Int), .v y53 [], .v y22 []]), (ww4, .var [I (0 : Int), I (0 : Int), I (0 : Int)])], rfl⟩ ?_; refine VLt.q rfl (.ld vt55) ?_; refine VLt.c (.move rfl) ?_; refine VLt.callO rfl rfl (VF.call (rKept_ok (by show (lvV l tol i).length < _; omega) (by show (isV l tol i).length = (lvV l tol i).length; omega))) ?_; refine VLt.qo rfl m0 (.inl rfl) (.ldA (dx := ((dvE l tol 0 i), (dvE l tol 1 i), (dvE l tol 2 i))) m0 vt85) ?_; refine VLt.mk0 (MakeV.setF (k := 0) vt55 .v (Nat.le_of_ble_eq_true rfl) (.inr ⟨rfl, rfl⟩) rfl rfl) (TurnV.store rfl (.inl rfl)) ⟨[(ww4, .var [I (0 : Int), I (0 : Int), I (0 : Int)])], rfl⟩ ?_; rintro _ _ ⟨rfl, rfl⟩; refine ⟨⟨[(ww3, .var [St ((keptE (l.1.1, l.1.2.1, (lvV l tol i), []) (isV l tol i)).1), I ((keptE (l.1.1, l.1.2.1, (lvV l tol i), []) (isV l tol i)).2.1), .v y53 ((keptE (l.1.1, l.1.2.1, (lvV l tol i), []) (isV l tol i)).2.2.1), .v y22 ((keptE (l.1.1, l.1.2.1, (lvV l tol i), []) (isV l tol i)).2.2.2)]), (ww4, .var [I (0 : Int), I (0 : Int), I (0 : Int)])], rfl⟩, ?_⟩; refine VLt.perm swap1 ⟨[(ww4, .var [I (0 : Int), I (0 : Int), I (0 : Int)]), (ww3, .var [St ((keptE (l.1.1, l.1.2.1, (lvV l tol i), []) (isV l tol i)).1), I ((keptE (l.1.1, l.1.2.1, (lvV l tol i), []) (isV l tol i)).2.1), .v y53 ((keptE (l.1.1, l.1.2.1, (lvV l tol i), []) (isV l tol i)).2.2.1), .v y22 ((keptE (l.1.1, l.1.2.1, (lvV l tol i), []) (isV l tol i)).2.2.2)])], rfl⟩ ?_; refine VLt.mk0 (MakeV.setF (k := 0) vt85 .v (Nat.le_of_ble_eq_true rfl) (.inr ⟨rfl, rfl⟩) rfl rfl) (TurnV.store rfl (.inl rfl)) ⟨[(ww3, .var [St ((keptE (l.1.1, l.1.2.1, (lvV l tol i), []) (isV l tol i)).1), I ((keptE (l.1.1, l.1.2.1, (lvV l tol i), []) (isV l tol i)).2.1), .v y53 ((keptE (l.1.1, l.1.2.1, (lvV l tol i), []) (isV l tol i)).2.2.1), .v y22 ((keptE (l.1.1, l.1.2.1, (lvV l tol i), []) (isV l tol i)).2.2.2)])], rfl⟩ ?_; rintro _ _ ⟨rfl, rfl⟩; refine ⟨⟨[(ww4, .var [I (dvE l tol 0 i), I (dvE l tol 1 i), I (dvE l tol 2 i)]), (ww3, .var [St ((keptE (l.1.1, l.1.2.1, (lvV l tol i), []) (isV l tol i)).1), I ((keptE (l.1.1, l.1.2.1, (lvV l tol i), []) (isV l tol i)).2.1), .v y53 ((keptE (l.1.1, l.1.2.1, (lvV l tol i), []) (isV l tol i)).2.2.1), .v y22 ((keptE (l.1.1, l.1.2.1, (lvV l tol i), []) (isV l tol i)).2.2.2)])], rfl⟩, ?_⟩; refine VLt.go ?_; refine VC.ret ?_; exact VEnd.two rfl (.cell (x := keptE (l.1.1, l.1.2.1, (lvV l tol i), []) (isV l tol i)) rfl m1 vt55 .refl) (.cell (x := ((dvE l tol 0 i), (dvE l tol 1 i), (dvE l tol 2 i))) rfl m0 vt85 .refl) (pvE (by rw [show i = l.1.2.2.1.length by omega]; rfl)) (pvE (by rw [show i = l.1.2.2.1.length by omega]))
end Go.Proofs
namespace Go.Fs
variable {P : Program}
section
variable {orc : FuncId → List Value → Heap → Option (Value × Heap)} {h : Heap} {S : List Nat} {fl : VL} {σ : Sto} {T : TypeId} {τ : Ty}
theorem CalmV.buildV {pl : List (Nat × Nat)} {parts : Array (Nat × Operand)} {ps : List PV} {dx : τ.den} (hT : BldT P T τ pl) (hps : evVs fl (parts.toList.map (·.2)) = some ps := by rfl) (hb : bldL pl (cellsPV τ (zeroD τ)) (parts.toList.map (·.1)) ps = some (cellsPV τ dx) := by rfl) : CalmV P fl σ (.build T parts) (.v τ dx) := CalmV.build dx hT hps hb
end
end Go.Fs
