/- Parts of the proof: an evaluator of the model, what it is sound for, and contracts of functions. No condition. -/
import Derived.Test.YthiofhkndpegjaaGreatDoorP6
import Derived.Test.YthiofhkndpegjaaGreatDoorP5
import Derived.Test.YthiofhkndpegjaaGreatDoorP3
import Derived.Test.YthiofhkndpegjaaGreatDoorP2
set_option linter.all false
namespace Go.Proofs
open Go.Fs Ieee
set_option linter.unusedVariables false
set_option maxHeartbeats 2000000
theorem zt55 : ZerT Tryz.prog 55 y55 := zerT_of (z := .agg #[.string ByteArray.empty, .int .i64 0, .slice none 0 0, .slice none 0 0]) (by kernel_rfl) rfl rfl
theorem zt59 : ZerT Tryz.prog 59 (.flt .f32) := zerT_of (z := .float .f32 0) (by kernel_rfl) rfl rfl
theorem bt55 : BldT Tryz.prog 55 y55 [(0, 1), (1, 1), (2, 1), (3, 1)] := bldT_of zt55 rfl (by kernel_rfl)
def canS (out : List (Int × Int)) (s : Int × Int) : List (Int × Int) :=
  if s.2 ≤ s.1 then out
  else if 0 < out.length ∧ s.1 ≤ (spX out (out.length - 1)).2 then out.set (out.length - 1) ((spX out (out.length - 1)).1, max (spX out (out.length - 1)).2 s.2)
  else out ++ [s]
def canE (l : List (Int × Int)) : List (Int × Int) := l.foldl canS []
theorem canE_snoc (l : List (Int × Int)) (s : Int × Int) : canE (l ++ [s]) = canS (canE l) s := by simp [canE]
theorem canE_next {l : List (Int × Int)} {j : Nat} (h : j < l.length) : canE (l.take (j + 1)) = canS (canE (l.take j)) l[j] := by
  rw [List.take_succ_eq_append_getElem h, canE_snoc]
theorem canS_len (out : List (Int × Int)) (s : Int × Int) : (canS out s).length ≤ out.length + 1 := by
  unfold canS
  split
  · omega
  split
  · rw [List.length_set]; omega
  rw [List.length_append, List.length_singleton]; omega
theorem foldl_len : ∀ (l out : List (Int × Int)), (l.foldl canS out).length ≤ out.length + l.length
  | [], out => by simp
  | s :: l, out => by
    have h1 := foldl_len l (canS out s)
    have h2 := canS_len out s
    rw [List.foldl_cons, List.length_cons]; omega
theorem canE_len (l : List (Int × Int)) : (canE l).length ≤ l.length := by
  have := foldl_len l []
  simpa [canE] using this
theorem canS_0 {out : List (Int × Int)} {s : Int × Int} (h : s.2 ≤ s.1) : canS out s = out := by rw [canS, if_pos h]
theorem canS_1 {out : List (Int × Int)} {s : Int × Int} (h : ¬ s.2 ≤ s.1) (h0 : 0 < out.length) (h1 : s.1 ≤ (spX out (out.length - 1)).2) : canS out s = out.set (out.length - 1) ((spX out (out.length - 1)).1, max (spX out (out.length - 1)).2 s.2) := by rw [canS, if_neg h, if_pos ⟨h0, h1⟩]
theorem canS_2 {out : List (Int × Int)} {s : Int × Int} (h : ¬ s.2 ≤ s.1) (h1 : ¬ (0 < out.length ∧ s.1 ≤ (spX out (out.length - 1)).2)) : canS out s = out ++ [s] := by rw [canS, if_neg h, if_neg h1]
def gapS (out : List (Int × Int)) (i : Nat) : List (Int × Int) :=
  if 0 < out.length ∧ (spX out (out.length - 1)).2 = (i : Int) then out.set (out.length - 1) ((spX out (out.length - 1)).1, (i : Int) + 1)
  else out ++ [((i : Int), (i : Int) + 1)]
def gapsE (l : List Bool) : Nat → List (Int × Int)
  | 0 => []
  | i + 1 => if l.getD i false = true then gapsE l i else gapS (gapsE l i) i
theorem gapS_len (out : List (Int × Int)) (i : Nat) : (gapS out i).length ≤ out.length + 1 := by
  unfold gapS
  split
  · rw [List.length_set]; omega
  rw [List.length_append, List.length_singleton]; omega
theorem gapsE_len (l : List Bool) : ∀ i, (gapsE l i).length ≤ i
  | 0 => Nat.le_refl _
  | i + 1 => by
    have h1 := gapsE_len l i
    have h2 := gapS_len (gapsE l i) i
    unfold gapsE
    split <;> omega
theorem gapsE_t {l : List Bool} {i : Nat} (h : i < l.length) (hb : l[i] = true) : gapsE l (i + 1) = gapsE l i := by
  rw [gapsE, if_pos (by rw [List.getD_eq_getElem?_getD, List.getElem?_eq_getElem h]; exact hb)]
theorem gapsE_f {l : List Bool} {i : Nat} (h : i < l.length) (hb : ¬ l[i] = true) : gapsE l (i + 1) = gapS (gapsE l i) i := by
  rw [gapsE, if_neg (by rw [List.getD_eq_getElem?_getD, List.getElem?_eq_getElem h]; exact hb)]
theorem gapS_1 {out : List (Int × Int)} {i : Nat} (h0 : 0 < out.length) (h1 : (spX out (out.length - 1)).2 = (i : Int)) : gapS out i = out.set (out.length - 1) ((spX out (out.length - 1)).1, (i : Int) + 1) := by rw [gapS, if_pos ⟨h0, h1⟩]
theorem gapS_2 {out : List (Int × Int)} {i : Nat} (h1 : ¬ (0 < out.length ∧ (spX out (out.length - 1)).2 = (i : Int))) : gapS out i = out ++ [((i : Int), (i : Int) + 1)] := by rw [gapS, if_neg h1]
def unitE (l : List Bool) : Nat → List (Int × Int)
  | 0 => []
  | i + 1 => if l.getD i false = true then unitE l i else unitE l i ++ [((i : Int), (i : Int) + 1)]
theorem unitE_t {l : List Bool} {i : Nat} (h : i < l.length) (hb : l[i] = true) : unitE l (i + 1) = unitE l i := by
  rw [unitE, if_pos (by rw [List.getD_eq_getElem?_getD, List.getElem?_eq_getElem h]; exact hb)]
theorem unitE_f {l : List Bool} {i : Nat} (h : i < l.length) (hb : ¬ l[i] = true) : unitE l (i + 1) = unitE l i ++ [((i : Int), (i : Int) + 1)] := by
  rw [unitE, if_neg (by rw [List.getD_eq_getElem?_getD, List.getElem?_eq_getElem h]; exact hb)]
theorem unitE_len (l : List Bool) : ∀ i, (unitE l i).length ≤ i
  | 0 => Nat.le_refl _
  | i + 1 => by
    have h1 := unitE_len l i
    unfold unitE
    split
    · omega
    rw [List.length_append, List.length_singleton]; omega
theorem spX_last_set {out : List (Int × Int)} {s : Int × Int} (h : 0 < out.length) : spX (out.set (out.length - 1) s) ((out.set (out.length - 1) s).length - 1) = s := by
  rw [spX_eq (by rw [List.length_set]; omega), List.getElem_set, if_pos (by rw [List.length_set])]
theorem spX_last_app {out : List (Int × Int)} {s : Int × Int} : spX (out ++ [s]) ((out ++ [s]).length - 1) = s := by
  rw [spX_eq (by simp), List.getElem_append_right (by simp)]; simp
theorem gaps_last (l : List Bool) : ∀ i, 0 < (gapsE l i).length → (spX (gapsE l i) ((gapsE l i).length - 1)).2 ≤ (i : Int)
  | 0 => fun h => absurd h (by simp [gapsE])
  | i + 1 => fun h => by
    unfold gapsE at h ⊢
    split at h
    · rename_i hb
      rw [if_pos hb] 
      have := gaps_last l i h
      omega
    rename_i hb
    rw [if_neg hb]
    unfold gapS
    split
    · rename_i hc
      rw [spX_last_set hc.1]; simp
    rw [spX_last_app]; simp
theorem unit_can (l : List Bool) : ∀ i, canE (unitE l i) = gapsE l i
  | 0 => rfl
  | i + 1 => by
    unfold unitE gapsE
    split
    · exact unit_can l i
    rw [canE_snoc, unit_can l i]
    have hl := gaps_last l i
    by_cases hc : 0 < (gapsE l i).length ∧ (spX (gapsE l i) ((gapsE l i).length - 1)).2 = (i : Int)
    · rw [gapS_1 hc.1 hc.2, canS_1 (by show ¬ ((i : Int) + 1 ≤ (i : Int)); omega) hc.1 (by show (i : Int) ≤ _; omega)]
      congr 2
      show max _ ((i : Int) + 1) = _
      omega
    rw [gapS_2 hc, canS_2 (by show ¬ ((i : Int) + 1 ≤ (i : Int)); omega) (fun hd => hc ⟨hd.1, by have := hl hd.1; have h2 : (i : Int) ≤ _ := hd.2; omega⟩)]
theorem spX_pre {l : List (Int × Int)} {n : Nat} (h0 : 0 < n) (h : ((n : Int) - 1).toNat < l.length) : l[((n : Int) - 1).toNat] = spX l (n - 1) := by
  have e : ((n : Int) - 1).toNat = n - 1 := by omega
  simp only [e] at h ⊢
  exact (spX_eq h).symm
theorem rGaps_ok {l : List Bool} (hl : l.length < 1000000) : VF Tryz.prog OA 115 [.v (.sl .bool) l] (.v y22 (gapsE l l.length)) := by
  refine VF.enter Tryz.func115 rfl (fun _ _ => rfl) rfl ?_
  show VC _ _ _ _ _ [(0, .v (.sl .bool) l)] [] _
  refine VC.seq (VC.text ?_)
  refine VO.c (.assign rfl) ?_
  refine VO.go (VC.seq (VC.text ?_))
  refine VO.c (.assign rfl) ?_
  refine VO.go (VC.seq (VC.seq (VC.text ?_)))
  refine VO.c (.assign rfl) ?_
  refine VO.go (VC.block ?_)
  refine VC.cell0 39 y39 ?_
  refine VC.keep [(0, .v (.sl .bool) l), (3, .raw (.slice none 0 0)), (4, I ((0 : Nat) : Int))] ⟨rfl, rfl, rfl, trivial⟩ ?_
  refine VC.loop (I := fun kk ff ss => ∃ (i : Nat) (out : Value), kk = l.length - i ∧ ff = [(0, .v (.sl .bool) l), (3, .raw out), (4, I ((i : Nat) : Int))] ∧ ss = [(out, .row 39 y39 (gapsE l i))] ∧ (i ≤ l.length) ∧ ((gapsE l i).length ≤ i)) ?_ _ _ _ ⟨0, (.slice none 0 0), rfl, rfl, rfl, Nat.zero_le _, (by exact Nat.le_refl _)⟩
  rintro kk ff ss ⟨i, out, hk0, rfl, rfl, hi, hgl⟩
  refine VC.seq (VC.seq (VC.text ?_))
  refine VO.c (.move rfl) ?_
  refine VO.c (.move rfl) ?_
  refine VO.r (.len el156) ?_
  refine VO.c (.lss) ?_
  refine VO.go ?_
  refine VC.condD rfl (fun c3 => ?_) (fun c3 => ?_)
  · refine VC.skip (VC.seq (VC.block (VC.seq (VC.seq (VC.text ?_)))))
    refine VO.c (.move rfl) ?_
    refine VO.c (.move rfl) ?_
    refine VO.c (.ix (j := i) rfl rfl el156 (by omega)) ?_
    refine VO.r (.ld vt4) ?_
    refine VO.go ?_
    refine VC.condB rfl (fun c5 => ?_) (fun c5 => ?_)
    · have e1 := gapsE_t (show i < l.length by omega) c5
      refine VC.exit (VC.text ?_)
      refine VO.c (.move rfl) ?_
      refine VO.c (.add rfl rfl (by omega)) ?_
      refine VO.c (.assign rfl) ?_
      refine VO.nil ?_
      refine ⟨_, [(0, .v (.sl .bool) l), (3, .raw out), (4, I (((i + 1) : Nat) : Int))], ?_, ⟨rfl, rfl, rfl, trivial⟩, (i + 1), out, rfl, rfl, (by first | (rw [e1]; done) | (rw [e1, e3]; done) | (rw [e1, e3, e2]; simp only [e4]; done) | (rw [e1, e3]; rfl)), (by omega), (by exact gapsE_len l _)⟩
      omega
    have e1 := gapsE_f (l := l) (i := i) (by omega) (by rw [c5]; exact Bool.false_ne_true)
    refine VC.skip (VC.seq (VC.text ?_))
    refine VO.c (.move rfl) ?_
    refine VO.r (.lenO m0 el22) ?_
    refine VO.c (.assign rfl) ?_
    refine VO.go (VC.seq (VC.text ?_))
    refine VO.c (.move rfl) ?_
    refine VO.c (.gtr) ?_
    refine VO.c (.move rfl) ?_
    refine VO.splitD (x := 20) rfl (fun g7_2 => ?_) (fun g7_2 => ?_)
    · refine VO.c (.move rfl) ?_
      refine VO.c (.move rfl) ?_
      refine VO.c (.sub rfl rfl (by omega)) ?_
      refine VO.c (.ixOZ (k := ((((gapsE l i).length : Nat) : Int) - (1 : Int))) rfl rfl m0 el22 (by omega) (by omega)) ?_
      refine VO.c (.faE (j := (Int.toNat ((((gapsE l i).length : Nat) : Int) - (1 : Int)))) (k := 1) m0 (by omega)) ?_
      refine VO.r (.ldE (j := (Int.toNat ((((gapsE l i).length : Nat) : Int) - (1 : Int)))) (k := 1) (by omega) (.r .o) rfl m0 vt3) ?_
      refine VO.c (.move rfl) ?_
      refine VO.c (.eql) ?_
      refine VO.c (.pickT rfl rfl) ?_
      refine VO.go ?_
      refine VC.condD rfl (fun c7 => ?_) (fun c7 => ?_)
      · have h0 : 0 < (gapsE l i).length := by omega
        have e2 := spX_pre (l := gapsE l i) h0 (by omega)
        have e3 := gapS_1 (out := gapsE l i) (i := i) h0 (by rw [← e2]; exact c7)
        have e4 : ((((gapsE l i).length : Nat) : Int) - (1 : Int)).toNat = (gapsE l i).length - 1 := by omega
        refine VC.text ?_
        refine VO.c (.move rfl) ?_
        refine VO.c (.move rfl) ?_
        refine VO.c (.sub rfl rfl (by omega)) ?_
        refine VO.c (.move rfl) ?_
        refine VO.c (.add rfl rfl (by omega)) ?_
        refine VO.c (.ixOZ (k := ((((gapsE l i).length : Nat) : Int) - (1 : Int))) rfl rfl m0 el22 (by omega) (by omega)) ?_
        refine VO.c (.faE (j := (Int.toNat ((((gapsE l i).length : Nat) : Int) - (1 : Int)))) (k := 1) m0 (by omega)) ?_
        refine VO.setEF (j := (Int.toNat ((((gapsE l i).length : Nat) : Int) - (1 : Int)))) (k := 1) (dz := (((gapsE l i)[(Int.toNat ((((gapsE l i).length : Nat) : Int) - (1 : Int)))]).1, (((i : Nat) : Int) + (1 : Int)))) (by omega) vt3 (.r .o) ?_
        refine VO.nil (VC.text ?_)
        refine VO.c (.move rfl) ?_
        refine VO.c (.add rfl rfl (by omega)) ?_
        refine VO.c (.assign rfl) ?_
        refine VO.nil ?_
        refine ⟨_, [(0, .v (.sl .bool) l), (3, .raw out), (4, I (((i + 1) : Nat) : Int))], ?_, ⟨rfl, rfl, rfl, trivial⟩, (i + 1), out, rfl, rfl, (by first | (rw [e1]; done) | (rw [e1, e3]; done) | (rw [e1, e3, e2]; simp only [e4]; done) | (rw [e1, e3]; rfl)), (by omega), (by exact gapsE_len l _)⟩
        omega
      have e3 := gapS_2 (out := gapsE l i) (i := i) (fun hh => by first | exact absurd hh.1 (by omega) | (rw [← spX_pre hh.1 (by omega)] at hh; exact c7 hh.2))
      refine VC.text ?_
      refine VO.c (.move rfl) ?_
      refine VO.c (.move rfl) ?_
      refine VO.c (.move rfl) ?_
      refine VO.c (.add rfl rfl (by omega)) ?_
      refine VO.c (.build (((i : Nat) : Int), (((i : Nat) : Int) + (1 : Int))) bt39) ?_
      refine VO.new (.lit [(((i : Nat) : Int), (((i : Nat) : Int) + (1 : Int)))] el22) ?_
      refine VO.app rfl rfl el22 el22 (by simp; omega) ?_
      intro ww1
      refine VO.c (.assign rfl) ?_
      refine VO.nil ?_
      refine VC.keep [(0, .v (.sl .bool) l), (3, .raw ww1), (4, I ((i : Nat) : Int))] ⟨rfl, rfl, rfl, trivial⟩ ?_
      refine VC.text ?_
      refine VO.c (.move rfl) ?_
      refine VO.c (.add rfl rfl (by omega)) ?_
      refine VO.c (.assign rfl) ?_
      refine VO.nil ?_
      refine ⟨_, [(0, .v (.sl .bool) l), (3, .raw ww1), (4, I (((i + 1) : Nat) : Int))], ?_, ⟨rfl, rfl, rfl, trivial⟩, (i + 1), ww1, rfl, rfl, (by first | (rw [e1]; done) | (rw [e1, e3]; done) | (rw [e1, e3, e2]; simp only [e4]; done) | (rw [e1, e3]; rfl)), (by omega), (by exact gapsE_len l _)⟩
      omega
    have e3 := gapS_2 (out := gapsE l i) (i := i) (fun hh => absurd hh.1 (by omega))
    refine VO.skip ?_
    refine VO.skip ?_
    refine VO.skip ?_
    refine VO.skip ?_
    refine VO.skip ?_
    refine VO.skip ?_
    refine VO.skip ?_
    refine VO.skip ?_
    refine VO.c (.pickF rfl rfl) ?_
    refine VO.go ?_
    refine VC.condF rfl ?_
    refine VC.text ?_
    refine VO.c (.move rfl) ?_
    refine VO.c (.move rfl) ?_
    refine VO.c (.move rfl) ?_
    refine VO.c (.add rfl rfl (by omega)) ?_
    refine VO.c (.build (((i : Nat) : Int), (((i : Nat) : Int) + (1 : Int))) bt39) ?_
    refine VO.new (.lit [(((i : Nat) : Int), (((i : Nat) : Int) + (1 : Int)))] el22) ?_
    refine VO.app rfl rfl el22 el22 (by simp; omega) ?_
    intro ww2
    refine VO.c (.assign rfl) ?_
    refine VO.nil ?_
    refine VC.keep [(0, .v (.sl .bool) l), (3, .raw ww2), (4, I ((i : Nat) : Int))] ⟨rfl, rfl, rfl, trivial⟩ ?_
    refine VC.text ?_
    refine VO.c (.move rfl) ?_
    refine VO.c (.add rfl rfl (by omega)) ?_
    refine VO.c (.assign rfl) ?_
    refine VO.nil ?_
    refine ⟨_, [(0, .v (.sl .bool) l), (3, .raw ww2), (4, I (((i + 1) : Nat) : Int))], ?_, ⟨rfl, rfl, rfl, trivial⟩, (i + 1), ww2, rfl, rfl, (by first | (rw [e1]; done) | (rw [e1, e3]; done) | (rw [e1, e3, e2]; simp only [e4]; done) | (rw [e1, e3]; rfl)), (by omega), (by exact gapsE_len l _)⟩
    omega
  refine VC.exit (VC.seq (VC.text ?_))
  refine VO.c (.move rfl) ?_
  refine VO.c (.assign rfl) ?_
  refine VO.go ?_
  refine VC.ret ?_
  exact VEnd.one rfl (evC (.row m0)) (pvE (by rw [show i = l.length by omega]))
theorem gCanonO_ok {w_xs : Value} {xs : List (Int × Int)} (hl : xs.length < 1000000) : VFG Tryz.prog OA 113 [.raw w_xs] [(w_xs, .row 39 y39 xs)] (fun r' g => r' = (.v y22 (canE xs)) ∧ g = []) := by
  refine VFG.enterC Tryz.func113 rfl (fun _ _ => rfl) rfl ?_
  show VC _ _ _ _ _ [(0, .raw w_xs)] [(w_xs, .row 39 y39 xs)] _
  refine VC.seq (VC.text ?_)
  refine VO.c (.assign rfl) ?_
  refine VO.go (VC.seq (VC.text ?_))
  refine VO.c (.assign rfl) ?_
  refine VO.go (VC.seq (VC.seq (VC.text ?_)))
  refine VO.c (.move rfl) ?_
  refine VO.r (.lenO m0 el22) ?_
  refine VO.c (.move rfl) ?_
  refine VO.go (VC.block ?_)
  refine VC.cell0 39 y39 ?_
  refine VC.keep [(3, .raw (.slice none 0 0)), (7, .raw w_xs), (8, I ((xs.length : Nat) : Int)), (9, I ((0 : Nat) : Int))] ⟨rfl, rfl, rfl, rfl, trivial⟩ ?_
  refine VC.loop (I := fun kk ff ss => ∃ (i : Nat) (out : Value), kk = xs.length - i ∧ ff = [(3, .raw out), (7, .raw w_xs), (8, I ((xs.length : Nat) : Int)), (9, I ((i : Nat) : Int))] ∧ ss = [(out, .row 39 y39 (canE (xs.take i))), (w_xs, .row 39 y39 xs)] ∧ (i ≤ xs.length) ∧ ((canE (xs.take i)).length ≤ i)) ?_ _ _ _ ⟨0, (.slice none 0 0), rfl, rfl, rfl, Nat.zero_le _, (by rw [List.take_zero]; exact Nat.le_refl _)⟩
  rintro kk ff ss ⟨i, out, hk0, rfl, rfl, hi, hcl⟩
  refine VC.seq (VC.text ?_)
  refine VO.c (.lss) ?_
  refine VO.go (VC.seq ?_)
  refine VC.condD rfl (fun c3 => ?_) (fun c3 => ?_)
  · refine VC.skip (VC.seq (VC.block (VC.seq (VC.text ?_))))
    have e1 := canE_next (show i < xs.length by omega)
    refine VO.c (.ixO (j := i) rfl rfl m1 el22 (by omega)) ?_
    refine VO.r (.ldO rfl m1 vt39 (by omega)) ?_
    refine VO.cell (.alloc zt39) ?_
    intro ww7
    refine VO.setV (cs' := [I ((xs[i]).1), I ((xs[i]).2)]) vt39 .v ?_
    refine VO.shut [(5, .p y39 (xs[i]))] (.cons rfl (.var m0 .refl) .nil) ?_
    refine VO.go (VC.seq (VC.text ?_))
    refine VO.c (.move rfl) ?_
    refine VO.r (.lenO m0 el22) ?_
    refine VO.c (.assign rfl) ?_
    refine VO.go (VC.block (VC.seq (VC.text ?_)))
    refine VO.c (.fa (.l .o)) ?_
    refine VO.r (.ld vt3) ?_
    refine VO.c (.fa (.r .o)) ?_
    refine VO.r (.ld vt3) ?_
    refine VO.c (.geq) ?_
    refine VO.c (.assign rfl) ?_
    refine VO.go ?_
    refine VC.condD rfl (fun c7 => ?_) (fun c7 => ?_)
    · have e3 := canS_0 (out := canE (xs.take i)) c7
      refine VC.skip (VC.text ?_)
      refine VO.c (.add rfl rfl (by omega)) ?_
      refine VO.c (.move rfl) ?_
      refine VO.nil ?_
      refine ⟨_, [(3, .raw out), (7, .raw w_xs), (8, I ((xs.length : Nat) : Int)), (9, I (((i + 1) : Nat) : Int))], ?_, ⟨rfl, rfl, rfl, rfl, trivial⟩, (i + 1), out, rfl, rfl, (by first | (rw [e1, e3]; done) | (rw [e1, e3, e2]; simp only [e4]; done) | (rw [e1, e3]; rfl)), (by omega), (by exact Nat.le_trans (canE_len _) (List.length_take_le _ _))⟩
      omega
    refine VC.seq (VC.drawn ?_)
    refine VD.c (.move rfl) ?_
    refine VD.c (.gtr) ?_
    refine VD.c (.move rfl) ?_
    refine VD.splitD (x := 28) rfl (fun g8_2 => ?_) (fun g8_2 => ?_)
    · refine VD.c (.move rfl) ?_
      refine VD.c (.move rfl) ?_
      refine VD.nw [] ?_
      refine VD.c (.sub rfl rfl (by omega)) ?_
      refine VD.co (.ixOZ (k := ((((canE (xs.take i)).length : Nat) : Int) - (1 : Int))) rfl rfl m0 el22 (by omega) (by omega)) ?_
      refine VD.co (.faE (j := (Int.toNat ((((canE (xs.take i)).length : Nat) : Int) - (1 : Int)))) (k := 1) m0 (by omega)) ?_
      refine VD.r [(out, .row 39 y39 (canE (xs.take i))), (w_xs, .row 39 y39 xs)] (.ldE (j := (Int.toNat ((((canE (xs.take i)).length : Nat) : Int) - (1 : Int)))) (k := 1) (by omega) (.r .o) rfl m0 vt3) (.inr ⟨rfl, rfl⟩) ?_
      refine VD.c (.fa (.l .o)) ?_
      refine VD.r [] (.ld vt3) (.inl rfl) ?_
      refine VD.c (.geq) ?_
      refine VD.nw [] ?_
      refine VD.c (.pickT rfl rfl) ?_
      refine VD.c (.assign rfl) ?_
      refine VD.go ?_
      refine VC.condD rfl (fun c8 => ?_) (fun c8 => ?_)
      · have h0 : 0 < (canE (xs.take i)).length := by omega
        have e2 := spX_pre (l := canE (xs.take i)) h0 (by omega)
        have e3 := canS_1 (out := canE (xs.take i)) c7 h0 (by rw [← e2]; exact c8)
        have e4 : ((((canE (xs.take i)).length : Nat) : Int) - (1 : Int)).toNat = (canE (xs.take i)).length - 1 := by omega
        refine VC.drawn ?_
        refine VD.c (.move rfl) ?_
        refine VD.c (.move rfl) ?_
        refine VD.c (.sub rfl rfl (by omega)) ?_
        refine VD.c (.move rfl) ?_
        refine VD.c (.move rfl) ?_
        refine VD.c (.sub rfl rfl (by omega)) ?_
        refine VD.nw [] ?_
        refine VD.co (.ixOZ (k := ((((canE (xs.take i)).length : Nat) : Int) - (1 : Int))) rfl rfl m0 el22 (by omega) (by omega)) ?_
        refine VD.co (.faE (j := (Int.toNat ((((canE (xs.take i)).length : Nat) : Int) - (1 : Int)))) (k := 1) m0 (by omega)) ?_
        refine VD.r [(out, .row 39 y39 (canE (xs.take i))), (w_xs, .row 39 y39 xs)] (.ldE (j := (Int.toNat ((((canE (xs.take i)).length : Nat) : Int) - (1 : Int)))) (k := 1) (by omega) (.r .o) rfl m0 vt3) (.inr ⟨rfl, rfl⟩) ?_
        refine VD.c (.fa (.r .o)) ?_
        refine VD.r [] (.ld vt3) (.inl rfl) ?_
        refine VD.r [] (.max) (.inl rfl) ?_
        refine VD.co (.ixOZ (k := ((((canE (xs.take i)).length : Nat) : Int) - (1 : Int))) rfl rfl m0 el22 (by omega) (by omega)) ?_
        refine VD.nw [] ?_
        refine VD.co (.faE (j := (Int.toNat ((((canE (xs.take i)).length : Nat) : Int) - (1 : Int)))) (k := 1) m0 (by omega)) ?_
        refine VD.mk0 (MakeV.setEF (j := (Int.toNat ((((canE (xs.take i)).length : Nat) : Int) - (1 : Int)))) (k := 1) (dz := (((canE (xs.take i))[(Int.toNat ((((canE (xs.take i)).length : Nat) : Int) - (1 : Int)))]).1, (max (((canE (xs.take i))[(Int.toNat ((((canE (xs.take i)).length : Nat) : Int) - (1 : Int)))]).2) ((xs[i]).2)))) (by omega) vt3 (.r .o) rfl rfl) ?_
        rintro _ _ tl8 ⟨rfl, rfl⟩
        refine VD.nil ?_
        refine VC.keep [(3, .raw out), (7, .raw w_xs), (8, I ((xs.length : Nat) : Int)), (9, I ((i : Nat) : Int))] ⟨rfl, rfl, rfl, rfl, trivial⟩ ?_
        refine VC.text ?_
        refine VO.c (.add rfl rfl (by omega)) ?_
        refine VO.c (.move rfl) ?_
        refine VO.nil ?_
        refine ⟨_, [(3, .raw out), (7, .raw w_xs), (8, I ((xs.length : Nat) : Int)), (9, I (((i + 1) : Nat) : Int))], ?_, ⟨rfl, rfl, rfl, rfl, trivial⟩, (i + 1), out, rfl, rfl, (by first | (rw [e1, e3]; done) | (rw [e1, e3, e2]; simp only [e4]; done) | (rw [e1, e3]; rfl)), (by omega), (by exact Nat.le_trans (canE_len _) (List.length_take_le _ _))⟩
        omega
      have e3 := canS_2 (out := canE (xs.take i)) c7 (fun hh => by first | exact absurd hh.1 (by omega) | (rw [← spX_pre hh.1 (by omega)] at hh; exact c8 hh.2))
      refine VC.text ?_
      refine VO.c (.move rfl) ?_
      refine VO.r (.ld vt39) ?_
      refine VO.new (.lit [xs[i]] el22) ?_
      refine VO.app rfl rfl el22 el22 (by simp; omega) ?_
      intro ww9
      refine VO.c (.assign rfl) ?_
      refine VO.nil ?_
      refine VC.keep [(3, .raw ww9), (7, .raw w_xs), (8, I ((xs.length : Nat) : Int)), (9, I ((i : Nat) : Int))] ⟨rfl, rfl, rfl, rfl, trivial⟩ ?_
      refine VC.text ?_
      refine VO.c (.add rfl rfl (by omega)) ?_
      refine VO.c (.move rfl) ?_
      refine VO.nil ?_
      refine ⟨_, [(3, .raw ww9), (7, .raw w_xs), (8, I ((xs.length : Nat) : Int)), (9, I (((i + 1) : Nat) : Int))], ?_, ⟨rfl, rfl, rfl, rfl, trivial⟩, (i + 1), ww9, rfl, rfl, (by first | (rw [e1, e3]; done) | (rw [e1, e3, e2]; simp only [e4]; done) | (rw [e1, e3]; rfl)), (by omega), (by exact Nat.le_trans (canE_len _) (List.length_take_le _ _))⟩
      omega
    have e3 := canS_2 (out := canE (xs.take i)) c7 (fun hh => absurd hh.1 (by omega))
    refine VD.skip ?_
    refine VD.skip ?_
    refine VD.nw [] ?_
    refine VD.skip ?_
    refine VD.skip ?_
    refine VD.skip ?_
    refine VD.skip ?_
    refine VD.skip ?_
    refine VD.skip ?_
    refine VD.skip ?_
    refine VD.nw [] ?_
    refine VD.c (.pickF rfl rfl) ?_
    refine VD.c (.assign rfl) ?_
    refine VD.go ?_
    refine VC.condF rfl ?_
    refine VC.text ?_
    refine VO.c (.move rfl) ?_
    refine VO.r (.ld vt39) ?_
    refine VO.new (.lit [xs[i]] el22) ?_
    refine VO.app rfl rfl el22 el22 (by simp; omega) ?_
    intro ww10
    refine VO.c (.assign rfl) ?_
    refine VO.nil ?_
    refine VC.keep [(3, .raw ww10), (7, .raw w_xs), (8, I ((xs.length : Nat) : Int)), (9, I ((i : Nat) : Int))] ⟨rfl, rfl, rfl, rfl, trivial⟩ ?_
    refine VC.text ?_
    refine VO.c (.add rfl rfl (by omega)) ?_
    refine VO.c (.move rfl) ?_
    refine VO.nil ?_
    refine ⟨_, [(3, .raw ww10), (7, .raw w_xs), (8, I ((xs.length : Nat) : Int)), (9, I (((i + 1) : Nat) : Int))], ?_, ⟨rfl, rfl, rfl, rfl, trivial⟩, (i + 1), ww10, rfl, rfl, (by first | (rw [e1, e3]; done) | (rw [e1, e3, e2]; simp only [e4]; done) | (rw [e1, e3]; rfl)), (by omega), (by exact Nat.le_trans (canE_len _) (List.length_take_le _ _))⟩
    omega
  refine VC.exit (VC.seq (VC.text ?_))
  refine VO.c (.move rfl) ?_
  refine VO.c (.assign rfl) ?_
  refine VO.go ?_
  refine VC.ret ?_
  exact VEnd.one rfl (evC (.row m0)) (pvE (by rw [List.take_of_length_le (by omega)]))
def keptL (r : Rec1) (l : List Bool) (f : Nat → Nat) (n : Nat) : List Nat := (List.range r.2.2.1.length).map fun i => if i < n ∧ l.getD i false = true then f (r.2.2.1.getD i 0) else 0
theorem keptL_len {r : Rec1} {l : List Bool} {f : Nat → Nat} {n : Nat} : (keptL r l f n).length = r.2.2.1.length := by simp [keptL]
theorem keptL_at {r : Rec1} {l : List Bool} {f : Nat → Nat} {n i : Nat} (h : i < r.2.2.1.length) : (keptL r l f n)[i]'(by rw [keptL_len]; exact h) = if i < n ∧ l.getD i false = true then f (r.2.2.1.getD i 0) else 0 := by
  unfold keptL
  rw [List.getElem_map, List.getElem_range]
theorem keptL_0 {r : Rec1} {l : List Bool} {f : Nat → Nat} : List.replicate r.2.2.1.length 0 = keptL r l f 0 := by
  refine List.ext_getElem (by rw [List.length_replicate, keptL_len]) fun i h1 h2 => ?_
  rw [keptL_len] at h2
  rw [List.getElem_replicate, keptL_at h2, if_neg (by omega)]
theorem keptL_t {r : Rec1} {l : List Bool} {f : Nat → Nat} {n : Nat} (hn : n < r.2.2.1.length) (h : n < l.length) (hb : l[n] = true) : keptL r l f (n + 1) = (keptL r l f n).set n (f r.2.2.1[n]) := by
  refine List.ext_getElem (by rw [List.length_set, keptL_len, keptL_len]) fun i h1 h2 => ?_
  rw [keptL_len] at h1
  rw [List.getElem_set, keptL_at h1]
  by_cases e : n = i
  · subst e
    rw [if_pos rfl, if_pos ⟨by omega, by rw [List.getD_eq_getElem?_getD, List.getElem?_eq_getElem h]; exact hb⟩, List.getD_eq_getElem?_getD, List.getElem?_eq_getElem hn] <;> rfl
  rw [if_neg e, keptL_at h1]
  exact ite_congr (propext ⟨fun hh => ⟨by omega, hh.2⟩, fun hh => ⟨by omega, hh.2⟩⟩) (fun _ => rfl) (fun _ => rfl)
theorem keptL_f {r : Rec1} {l : List Bool} {f : Nat → Nat} {n : Nat} (h : n < l.length) (hb : l[n] = false) : keptL r l f (n + 1) = keptL r l f n := by
  refine List.ext_getElem (by rw [keptL_len, keptL_len]) fun i h1 h2 => ?_
  rw [keptL_len] at h1
  rw [keptL_at h1, keptL_at h1]
  by_cases e : n = i
  · subst e
    rw [if_neg (fun hh => absurd hh.2 (by rw [List.getD_eq_getElem?_getD, List.getElem?_eq_getElem h]; show ¬ l[n] = true; rw [hb]; exact Bool.false_ne_true)), if_neg (by omega)]
  exact ite_congr (propext ⟨fun hh => ⟨by omega, hh.2⟩, fun hh => ⟨by omega, hh.2⟩⟩) (fun _ => rfl) (fun _ => rfl)
def keptE (r : Rec1) (l : List Bool) : Rec1 := (r.1, r.2.1, keptL r l id l.length, gapsE l l.length)
theorem rKept_ok {r : ByteArray × Int × (List Nat) × (List (Int × Int))} {l : List Bool} (hr : r.2.2.1.length < 1000000) (hl : l.length = r.2.2.1.length) : VF Tryz.prog OA 106 [.v y55 r, .v (.sl .bool) l] (.v y55 (keptE r l)) := by
  refine VF.enter Tryz.func106 rfl (fun _ _ => rfl) rfl ?_
  show VC _ _ _ _ _ [(0, .v y55 r), (1, .v (.sl .bool) l)] [] _
  refine VC.seq (VC.text ?_)
  refine VO.new (.box) ?_
  refine VO.cell (.alloc zt55) ?_
  intro ww11
  refine VO.go (VC.seq (VC.drawn ?_))
  refine VD.c (.fa (.l .o)) ?_
  refine VD.r [] (.ld vt9) (.inl rfl) ?_
  refine VD.c (.fa (.r (.l .o))) ?_
  refine VD.r [] (.ld vt3) (.inl rfl) ?_
  refine VD.c (.fa (.r (.r (.l .o)))) ?_
  refine VD.r [] (.ld vt53) (.inl rfl) ?_
  refine VD.nw [] ?_
  refine VD.r [] (.len el53) (.inl rfl) ?_
  refine VD.cell (.make (k := r.2.2.1.length) rfl rfl el53 zt59 (by omega)) ?_
  intro ww12
  refine VD.c (.move rfl) ?_
  refine VD.call rfl rfl (VF.call (rGaps_ok (by omega))) ?_
  refine VD.one m0 fun ho13 => ?_
  refine VD.c (.buildR (cs := [St r.1, I r.2.1, .raw ww12, .v y22 (gapsE l l.length)]) bt55 rfl rfl (.cons (.v) rfl rfl (.cons (.v) rfl rfl (.cons (.w ho13) rfl rfl (.cons (.v) rfl rfl (.nil rfl)))))) ?_
  refine VD.cell (.alloc zt55) ?_
  intro ww14
  refine VD.mk0 (MakeV.setF (k := 0) vt55 (.aggs rfl (allC rfl (allC rfl (allC (p := .raw ww12) ho13 (allC rfl rfl))))) (Nat.le_of_ble_eq_true rfl) (.inr ⟨rfl, rfl⟩) rfl rfl) ?_
  rintro _ _ tl15 ⟨rfl, rfl⟩
  refine VD.go (VC.seq (VC.seq (VC.text ?_)))
  refine VO.c (.assign rfl) ?_
  refine VO.go (VC.block ?_)
  refine VC.keep [(1, .v (.sl .bool) l), (2, .p y55 r), (4, .raw ww11), (5, .raw ww14), (6, I ((0 : Nat) : Int))] ⟨rfl, rfl, rfl, rfl, rfl, trivial⟩ ?_
  refine VC.loop (I := fun kk ff ss => ∃ (i : Nat), kk = l.length - i ∧ ff = [(1, .v (.sl .bool) l), (2, .p y55 r), (4, .raw ww11), (5, .raw ww14), (6, I ((i : Nat) : Int))] ∧ ss = [(ww14, .var [St r.1, I r.2.1, .raw ww12, .v y22 (gapsE l l.length)]), (ww12, .row 59 (.flt .f32) (keptL r l id i)), (ww11, .var [St ByteArray.empty, I (0 : Int), .v y53 [], .v y22 []])] ∧ (i ≤ l.length) ∧ ((keptL r l id i).length = r.2.2.1.length)) ?_ _ _ _ ⟨0, rfl, rfl, (by rw [← keptL_0] <;> rfl), Nat.zero_le _, (by exact keptL_len)⟩
  rintro kk ff ss ⟨i, hk0, rfl, rfl, hi, hkl⟩
  refine VC.seq (VC.seq (VC.text ?_))
  refine VO.c (.move rfl) ?_
  refine VO.c (.move rfl) ?_
  refine VO.r (.len el156) ?_
  refine VO.c (.lss) ?_
  refine VO.go ?_
  refine VC.condD rfl (fun c3 => ?_) (fun c3 => ?_)
  · refine VC.skip (VC.seq (VC.block (VC.seq (VC.text ?_))))
    refine VO.c (.move rfl) ?_
    refine VO.c (.move rfl) ?_
    refine VO.c (.ix (j := i) rfl rfl el156 (by omega)) ?_
    refine VO.r (.ld vt4) ?_
    refine VO.go ?_
    refine VC.condB rfl (fun c5 => ?_) (fun c5 => ?_)
    · refine VC.drawn ?_
      refine VD.co (.faO (k := 2) m0) ?_
      refine VD.r [(ww14, .var [St r.1, I r.2.1, .raw ww12, .v y22 (gapsE l l.length)]), (ww12, .row 59 (.flt .f32) (keptL r l id i)), (ww11, .var [St ByteArray.empty, I (0 : Int), .v y53 [], .v y22 []])] (.ldF (k := 2) m0 vt53) (.inr ⟨rfl, rfl⟩) ?_
      refine VD.c (.move rfl) ?_
      refine VD.c (.fa (.r (.r (.l .o)))) ?_
      refine VD.r [] (.ld vt53) (.inl rfl) ?_
      refine VD.c (.move rfl) ?_
      refine VD.nw [] ?_
      refine VD.c (.ix (j := i) rfl rfl el53 (by omega)) ?_
      refine VD.r [] (.ld vt59) (.inl rfl) ?_
      refine VD.co (.ixO (j := i) rfl rfl m1 el53 (by omega)) ?_
      refine VD.perm swap1 ?_
      refine VD.mk0 (MakeV.setE (j := i) vt59 (by omega) rfl rfl) ?_
      rintro _ _ tl16 ⟨rfl, rfl⟩
      refine VD.nil ?_
      refine VC.text ?_
      refine VO.c (.move rfl) ?_
      refine VO.c (.add rfl rfl (by omega)) ?_
      refine VO.c (.assign rfl) ?_
      refine VO.perm swap2 ?_
      refine VO.perm swap1 ?_
      refine VO.perm swap2 ?_
      refine VO.nil ?_
      refine ⟨_, [(1, .v (.sl .bool) l), (2, .p y55 r), (4, .raw ww11), (5, .raw ww14), (6, I (((i + 1) : Nat) : Int))], ?_, ⟨rfl, rfl, rfl, rfl, rfl, trivial⟩, (i + 1), rfl, rfl, (by first | (rw [keptL_t (by omega) (by omega) c5]; rfl) | (rw [keptL_f (by omega) c5])), (by omega), (by exact keptL_len)⟩
      omega
    refine VC.skip (VC.text ?_)
    refine VO.c (.move rfl) ?_
    refine VO.c (.add rfl rfl (by omega)) ?_
    refine VO.c (.assign rfl) ?_
    refine VO.nil ?_
    refine ⟨_, [(1, .v (.sl .bool) l), (2, .p y55 r), (4, .raw ww11), (5, .raw ww14), (6, I (((i + 1) : Nat) : Int))], ?_, ⟨rfl, rfl, rfl, rfl, rfl, trivial⟩, (i + 1), rfl, rfl, (by first | (rw [keptL_t (by omega) (by omega) c5]; rfl) | (rw [keptL_f (by omega) c5])), (by omega), (by exact keptL_len)⟩
    omega
  refine VC.exit (VC.seq ?_)
  refine VC.perm swap1 ?_
  refine VC.shutL [(ww12, .row 59 (.flt .f32) (keptL r l id i)), (ww14, .var [St r.1, I r.2.1, .raw ww12, .v y22 (gapsE l l.length)])] [(5, .p y55 (r.1, r.2.1, (keptL r l id i), gapsE l l.length))] rfl (.cons rfl (.var m1 (.cons .same (.cons .same (.cons (.row m0) (.cons .same .nil))))) .nil) ?_
  refine VC.text ?_
  refine VO.r (.ld vt55) ?_
  refine VO.setV (cs' := [St r.1, I r.2.1, .v y53 (keptL r l id i), .v y22 (gapsE l l.length)]) vt55 .v ?_
  refine VO.go ?_
  refine VC.ret ?_
  exact VEnd.one rfl (.cell (x := (r.1, r.2.1, (keptL r l id i), gapsE l l.length)) rfl m0 vt55 .refl) (pvE (by rw [show i = l.length by omega] <;> rfl))
def plusZ (x : Nat) : Nat := (single.add x 0).getD 0
theorem u32_0 : u32 0 = some 0 := by decide +kernel
theorem plusZ_ok {x : Nat} (h : lvlE x = 0) : single.add x 0 = some (plusZ x) ∧ lvlE (plusZ x) = 0 ∧ u32 (plusZ x) = u32 x := by
  obtain ⟨h1, h2, h3⟩ := lvl_ok h
  obtain ⟨r, hr, hr2⟩ := add32 h1 u32_0 (by
    rw [Int.add_zero, Int.natAbs_mul]
    exact rep_small (n := (sxE x).natAbs) (j := 145) (by show _ < 2 ^ (23 + 1); omega) (by decide))
  have e : plusZ x = r := by rw [plusZ, hr] <;> rfl
  rw [Int.add_zero] at hr2
  rw [e]
  exact ⟨hr, (lvl_of hr2 h2 h3).1, by rw [hr2, h1]⟩
def keepL (r : Rec1) (l : List Bool) (n : Nat) : List Nat := (List.range r.2.2.1.length).map fun i => if i < n then (if l.getD i false = true then plusZ (r.2.2.1.getD i 0) else 0) else r.2.2.1.getD i 0
theorem keepL_len {r : Rec1} {l : List Bool} {n : Nat} : (keepL r l n).length = r.2.2.1.length := by simp [keepL]
theorem keepL_at {r : Rec1} {l : List Bool} {n i : Nat} (h : i < r.2.2.1.length) : (keepL r l n)[i]'(by rw [keepL_len]; exact h) = if i < n then (if l.getD i false = true then plusZ (r.2.2.1.getD i 0) else 0) else r.2.2.1.getD i 0 := by
  unfold keepL
  rw [List.getElem_map, List.getElem_range]
theorem getDat {α : Type} {l : List α} {i : Nat} {d : α} (h : i < l.length) : l.getD i d = l[i] := by
  rw [List.getD_eq_getElem?_getD, List.getElem?_eq_getElem h] <;> rfl
theorem keepL_0 {r : Rec1} {l : List Bool} : r.2.2.1 = keepL r l 0 := by
  refine List.ext_getElem (by rw [keepL_len]) fun i h1 h2 => ?_
  rw [keepL_at h1, if_neg (by omega), getDat h1]
theorem keepL_cur {r : Rec1} {l : List Bool} {n : Nat} (hn : n < r.2.2.1.length) (h : n < (keepL r l n).length) : (keepL r l n)[n] = r.2.2.1[n] := by
  rw [keepL_at hn, if_neg (by omega), getDat hn]
theorem keepL_s {r : Rec1} {l : List Bool} {n : Nat} (hn : n < r.2.2.1.length) : keepL r l (n + 1) = (keepL r l n).set n (if l.getD n false = true then plusZ (r.2.2.1.getD n 0) else 0) := by
  refine List.ext_getElem (by rw [List.length_set, keepL_len, keepL_len]) fun i h1 h2 => ?_
  rw [keepL_len] at h1
  rw [List.getElem_set, keepL_at h1]
  by_cases e : n = i
  · subst e
    rw [if_pos rfl, if_pos (by omega)]
  rw [if_neg e, keepL_at h1]
  exact ite_congr (propext ⟨fun hh => by omega, fun hh => by omega⟩) (fun _ => rfl) (fun _ => rfl)
theorem keepL_t {r : Rec1} {l : List Bool} {n : Nat} (hn : n < r.2.2.1.length) (h : n < l.length) (hb : l[n] = true) : keepL r l (n + 1) = (keepL r l n).set n (plusZ r.2.2.1[n]) := by
  rw [keepL_s hn, if_pos (by rw [getDat h]; exact hb), getDat hn]
theorem keepL_f {r : Rec1} {l : List Bool} {n : Nat} (hn : n < r.2.2.1.length) (h : n < l.length) (hb : l[n] = false) : keepL r l (n + 1) = (keepL r l n).set n 0 := by
  rw [keepL_s hn, if_neg (by rw [getDat h, hb]; exact Bool.false_ne_true)]
theorem keepL_all {r : Rec1} {l : List Bool} (h : l.length = r.2.2.1.length) : keepL r l l.length = keptL r l plusZ l.length := by
  refine List.ext_getElem (by rw [keepL_len, keptL_len]) fun i h1 h2 => ?_
  rw [keepL_len] at h1
  rw [keepL_at h1, keptL_at h1, if_pos (by omega)]
  exact ite_congr (propext ⟨fun hh => ⟨by omega, hh⟩, fun hh => hh.2⟩) (fun _ => rfl) (fun _ => rfl)
theorem gKeeping_ok {r : ByteArray × Int × (List Nat) × (List (Int × Int))} {l : List Bool} (hr : r.2.2.1.length < 1000000) (hl : l.length = r.2.2.1.length) (hv : ∀ x ∈ r.2.2.1, lvlE x = 0) : VF Tryz.prog OA 101 [.v y65 r, .v (.sl .bool) l] (.v y65 (r.1, r.2.1, keptL r l plusZ l.length, gapsE l l.length)) := by
  refine VF.enter Tryz.func101 rfl (fun _ _ => rfl) rfl ?_
  show VC _ _ _ _ _ [(0, .v y65 r), (1, .v (.sl .bool) l)] [] _
  refine VC.seq (VC.text ?_)
  refine VO.new (.box) ?_
  refine VO.cell (.alloc zt65) ?_
  intro ww17
  refine VO.go (VC.seq (VC.drawn ?_))
  refine VD.c (.fa (.l .o)) ?_
  refine VD.r [] (.ld vt9) (.inl rfl) ?_
  refine VD.c (.fa (.r (.l .o))) ?_
  refine VD.r [] (.ld vt3) (.inl rfl) ?_
  refine VD.c (.fa (.r (.r (.l .o)))) ?_
  refine VD.r [] (.ld vt53) (.inl rfl) ?_
  refine VD.nw [] ?_
  refine VD.r [] (.len el53) (.inl rfl) ?_
  refine VD.cell (.make (k := r.2.2.1.length) rfl rfl el53 zt59 (by omega)) ?_
  intro ww18
  refine VD.one m0 fun ho19 => ?_
  refine VD.c (.buildR (cs := [St r.1, I r.2.1, .raw ww18, nilV]) bt65 rfl rfl (.cons (.v) rfl rfl (.cons (.v) rfl rfl (.cons (.w ho19) rfl rfl (.nil rfl))))) ?_
  refine VD.cell (.alloc zt65) ?_
  intro ww20
  refine VD.mk0 (MakeV.setF (k := 0) vt65 (.aggs rfl (allC rfl (allC rfl (allC (p := .raw ww18) ho19 (allC rfl rfl))))) (Nat.le_of_ble_eq_true rfl) (.inr ⟨rfl, rfl⟩) rfl rfl) ?_
  rintro _ _ tl21 ⟨rfl, rfl⟩
  refine VD.go (VC.seq (VC.text ?_))
  refine VO.c (.faO (k := 2) m0) ?_
  refine VO.r (.ldF (k := 2) m0 vt53) ?_
  refine VO.c (.fa (.r (.r (.l .o)))) ?_
  refine VO.r (.ld vt53) ?_
  refine VO.perm swap1 ?_
  refine VO.copy rfl rfl el53 (by simp) ?_
  refine VO.go (VC.seq (VC.seq (VC.text ?_)))
  refine VO.c (.move rfl) ?_
  refine VO.r (.len el156) ?_
  refine VO.c (.move rfl) ?_
  refine VO.go (VC.block ?_)
  refine VC.cell0 39 y39 ?_
  refine VC.keep [(4, .raw ww17), (5, .raw ww20), (22, .v (.sl .bool) l), (23, I ((l.length : Nat) : Int)), (24, I ((0 : Nat) : Int))] ⟨rfl, rfl, rfl, rfl, rfl, trivial⟩ ?_
  refine VC.loop (I := fun kk ff ss => ∃ (i : Nat) (w : Value), kk = l.length - i ∧ ff = [(4, .raw ww17), (5, .raw ww20), (22, .v (.sl .bool) l), (23, I ((l.length : Nat) : Int)), (24, I ((i : Nat) : Int))] ∧ ss = [(w, .row 39 y39 (unitE l i)), (ww18, .row 59 (.flt .f32) (keepL r l i)), (ww20, .var [St r.1, I r.2.1, .raw ww18, .raw w]), (ww17, .var [St ByteArray.empty, I (0 : Int), .v y53 [], .v y22 []])] ∧ (i ≤ l.length) ∧ ((keepL r l i).length = r.2.2.1.length) ∧ ((unitE l i).length ≤ i)) ?_ _ _ _ ⟨0, (.slice none 0 0), rfl, rfl, (by rw [← keepL_0] <;> rfl), Nat.zero_le _, (by exact keepL_len), (by exact Nat.le_refl _)⟩
  rintro kk ff ss ⟨i, w, hk0, rfl, rfl, hi, hkl, hul⟩
  refine VC.seq (VC.text ?_)
  refine VO.c (.lss) ?_
  refine VO.go (VC.seq ?_)
  refine VC.condD rfl (fun c4 => ?_) (fun c4 => ?_)
  · have hil : i < r.2.2.1.length := by omega
    have hkc := keepL_cur (r := r) (l := l) hil (by omega)
    have hpz : single.add ((keepL r l i)[i]'(by omega)) 0 = some (plusZ r.2.2.1[i]) := by rw [hkc]; exact (plusZ_ok (hv _ (List.getElem_mem hil))).1
    refine VC.skip (VC.seq (VC.block (VC.seq (VC.text ?_))))
    refine VO.c (.move rfl) ?_
    refine VO.c (.ix (j := i) rfl rfl el156 (by omega)) ?_
    refine VO.r (.ld vt4) ?_
    refine VO.c (.assign rfl) ?_
    refine VO.c (.assign rfl) ?_
    refine VO.go (VC.seq (VC.seq (VC.text ?_)))
    refine VO.c (.move rfl) ?_
    refine VO.go ?_
    refine VC.condB rfl (fun c6 => ?_) (fun c6 => ?_)
    · refine VC.seq (VC.text ?_)
      refine VO.c (.faO (k := 2) m2) ?_
      refine VO.r (.ldF (k := 2) m2 vt53) ?_
      refine VO.c (.move rfl) ?_
      refine VO.c (.ixO (j := i) rfl rfl m1 el53 (by omega)) ?_
      refine VO.r (.ldO rfl m1 vt59 (by omega)) ?_
      refine VO.c (.fop (add32E hpz)) ?_
      refine VO.c (.ixO (j := i) rfl rfl m1 el53 (by omega)) ?_
      refine VO.perm swap1 ?_
      refine VO.setE i rfl rfl vt59 (by omega) ?_
      refine VO.go (VC.exit (VC.text ?_))
      refine VO.c (.add rfl rfl (by omega)) ?_
      refine VO.c (.move rfl) ?_
      refine VO.perm swap3 ?_
      refine VO.perm swap3 ?_
      refine VO.perm swap2 ?_
      refine VO.perm swap3 ?_
      refine VO.nil ?_
      refine ⟨_, [(4, .raw ww17), (5, .raw ww20), (22, .v (.sl .bool) l), (23, I ((l.length : Nat) : Int)), (24, I (((i + 1) : Nat) : Int))], ?_, ⟨rfl, rfl, rfl, rfl, rfl, trivial⟩, (i + 1), w, rfl, rfl, (by first | (rw [keepL_t (by omega) (by omega) c6, unitE_t (by omega) c6]; done) | (rw [keepL_f (by omega) (by omega) c6, unitE_f (by omega) (by rw [c6]; exact Bool.false_ne_true)]; done) | (rw [keepL_t (by omega) (by omega) c6, unitE_t (by omega) c6]; rfl) | (rw [keepL_f (by omega) (by omega) c6, unitE_f (by omega) (by rw [c6]; exact Bool.false_ne_true)]; rfl)), (by omega), (by exact keepL_len), (by exact unitE_len l _)⟩
      omega
    refine VC.skip (VC.seq (VC.text ?_))
    refine VO.c (.faO (k := 2) m2) ?_
    refine VO.r (.ldF (k := 2) m2 vt53) ?_
    refine VO.c (.move rfl) ?_
    refine VO.c (.ixO (j := i) rfl rfl m1 el53 (by omega)) ?_
    refine VO.perm swap1 ?_
    refine VO.setE i rfl rfl vt59 (by omega) ?_
    refine VO.go (VC.text ?_)
    refine VO.c (.faO (k := 3) m2) ?_
    refine VO.r (.ldF (k := 3) m2 vt22AP) ?_
    refine VO.c (.move rfl) ?_
    refine VO.c (.move rfl) ?_
    refine VO.c (.add rfl rfl (by omega)) ?_
    refine VO.c (.build (((i : Nat) : Int), (((i : Nat) : Int) + (1 : Int))) bt39) ?_
    refine VO.new (.lit [(((i : Nat) : Int), (((i : Nat) : Int) + (1 : Int)))] el22) ?_
    refine VO.perm swap1 ?_
    refine VO.app rfl rfl el22 el22 (by simp; omega) ?_
    intro ww22
    refine VO.c (.faO (k := 3) m2) ?_
    refine VO.perm swap2 ?_
    refine VO.one m1 fun ho23 => ?_
    refine VO.setF (cs' := [St r.1, I r.2.1, .raw ww18, .raw ww22]) 3 vt22AP (.raw rfl (agg_one ho23) ho23) ?_
    refine VO.nil (VC.text ?_)
    refine VO.c (.add rfl rfl (by omega)) ?_
    refine VO.c (.move rfl) ?_
    refine VO.perm swap3 ?_
    refine VO.perm swap1 ?_
    refine VO.perm swap3 ?_
    refine VO.perm swap3 ?_
    refine VO.nil ?_
    refine ⟨_, [(4, .raw ww17), (5, .raw ww20), (22, .v (.sl .bool) l), (23, I ((l.length : Nat) : Int)), (24, I (((i + 1) : Nat) : Int))], ?_, ⟨rfl, rfl, rfl, rfl, rfl, trivial⟩, (i + 1), ww22, rfl, rfl, (by first | (rw [keepL_t (by omega) (by omega) c6, unitE_t (by omega) c6]; done) | (rw [keepL_f (by omega) (by omega) c6, unitE_f (by omega) (by rw [c6]; exact Bool.false_ne_true)]; done) | (rw [keepL_t (by omega) (by omega) c6, unitE_t (by omega) c6]; rfl) | (rw [keepL_f (by omega) (by omega) c6, unitE_f (by omega) (by rw [c6]; exact Bool.false_ne_true)]; rfl)), (by omega), (by exact keepL_len), (by exact unitE_len l _)⟩
    omega
  refine VC.exit (VC.seq (VC.text ?_))
  refine VO.c (.faO (k := 3) m2) ?_
  refine VO.r (.ldF (k := 3) m2 vt22AP) ?_
  refine VO.callG [(w, .row 39 y39 (unitE l i))] rfl rfl rfl (VFG.call (gCanonO_ok (Nat.lt_of_le_of_lt (unitE_len _ _) (by omega)))) ?_
  rintro _ _ ⟨rfl, rfl⟩
  show VO _ _ _ _ _ _ [(ww18, .row 59 (.flt .f32) (keepL r l i)), (ww20, .var [St r.1, I r.2.1, .raw ww18, .raw w]), (ww17, .var [St ByteArray.empty, I (0 : Int), .v y53 [], .v y22 []])] _
  refine VO.c (.faO (k := 3) m1) ?_
  refine VO.perm swap1 ?_
  refine VO.setF (cs' := [St r.1, I r.2.1, .raw ww18, .v y22 (canE (unitE l i))]) 3 vt22AP .v ?_
  refine VO.go (VC.seq ?_)
  refine VC.perm swap1 ?_
  refine VC.shutL [(ww18, .row 59 (.flt .f32) (keepL r l i)), (ww20, .var [St r.1, I r.2.1, .raw ww18, .v y22 (canE (unitE l i))])] [(5, .p y65 (r.1, r.2.1, (keepL r l i), canE (unitE l i)))] rfl (.cons rfl (.var m1 (.cons .same (.cons .same (.cons (.row m0) (.cons .same .nil))))) .nil) ?_
  refine VC.text ?_
  refine VO.r (.ld vt65) ?_
  refine VO.setV (cs' := [St r.1, I r.2.1, .v y53 (keepL r l i), .v y22 (canE (unitE l i))]) vt65 .v ?_
  refine VO.go ?_
  refine VC.ret ?_
  exact VEnd.one rfl (.cell (x := (r.1, r.2.1, (keepL r l i), canE (unitE l i))) rfl m0 vt65 .refl) (pvE (by rw [show i = l.length by omega, unit_can, keepL_all hl] <;> rfl))
end Go.Proofs
namespace Go.Fs
variable {P : Program} {fl : VL} {σ : Sto} {T T' : TypeId} {x y : Operand} {p q : Int}
def wrI (p : Int) : Int := IntKind.i64.wrap p
theorem wrI_fit {p : Int} (h0 : -9223372036854775808 ≤ p) (h1 : p ≤ 9223372036854775807) : wrI p = p := wrap64 h0 h1
theorem CalmV.addW (hx : evV fl x = some (.v (.int .i64) p) := by rfl) (hy : evV fl y = some (.v (.int .i64) q) := by rfl) : CalmV P fl σ (.binOp .add T x y T') (.v (.int .i64) (wrI (p + q))) :=
  .binI hx hy (u := .int .i64 (IntKind.i64.wrap (p + q))) rfl fun h S => RepV.ofInt _ _
end Go.Fs
namespace Go.Fs
variable {P : Program} {orc : FuncId → List Value → Heap → Option (Value × Heap)} {h : Heap} {σ ρ : Sto} {fl : VL} {ops : Array Oper} {n i mem : Nat} {l : List Oper} {K : VL → Sto → Prop} {nw bs : List Nat} {tl : Bool} {hr : Heap} {S0 A : List Nat} {t : Tr} {rd chg : List Nat}
def keysNew : VL → List Nat → List Nat
  | [], nw => nw
  | (k, _) :: r, nw => k :: keysNew r nw
theorem keysNew_no : ∀ {nl : VL} {nw : List Nat} {k : Nat}, nwHas (keysNew nl nw) k = false → (∀ pv, lkV (nl ++ fl) k = some pv → lkV fl k = some pv) ∧ nwHas nw k = false
  | [], nw, k, h => ⟨fun _ h => h, h⟩
  | (j, v) :: r, nw, k, h => by
    simp only [keysNew, nwHas] at h
    cases hb : Nat.beq j k with
    | true => rw [hb] at h; cases h
    | false =>
      rw [hb] at h
      obtain ⟨h1, h2⟩ := keysNew_no (nl := r) h
      refine ⟨fun pv hp => h1 pv ?_, h2⟩
      simp only [List.cons_append, lkV, hb, cond_false] at hp
      exact hp
theorem VLt.shut {c : Value × Cell} (nl : VL) (hs : Shut fl c nl) (hk : VLt P orc ops n l i (nl ++ fl) (keysNew nl nw) σ ρ bs mem tl K) (hf : ∃ σ1, σ = σ1 ++ ρ) : VLt P orc ops n l i fl nw (c :: σ) ρ bs mem tl K := fun hr h0 G S0 A t h ms rd chg segs tail ht I L =>
  have ho : own (c :: σ) = blk c.1 ++ own σ := rfl
  hk hr h0 G S0 A t h ms rd chg segs tail ht (I.shut hs) { L with
    goes := fun b o hg hb => by
      obtain ⟨g1, g2⟩ := L.goes b o hg hb
      refine ⟨g1, fun hm => g2 ?_⟩
      rw [ho]
      rcases List.mem_append.1 hm with hm | hm
      · exact List.mem_append_left _ (List.mem_append_right _ hm)
      exact List.mem_append_right _ hm
    slots := fun k pv hp hn => by
      obtain ⟨h1, h2⟩ := keysNew_no (fl := fl) hn
      exact L.slots k pv (h1 pv hp) h2
    suf := hf
    new := fun b hb => L.new b (by rw [ho]; exact List.mem_append_right _ hb) }
end Go.Fs
namespace Go.Proofs
open Go.Fs Ieee
set_option linter.unusedVariables false
set_option maxHeartbeats 400000

theorem rec_ok {r : Rec1} (h : recE r = 0) : (0 ≤ r.2.1 ∧ r.2.1 ≤ 100000) ∧ r.2.2.1.length ≤ 4096 ∧ r.2.2.2.length ≤ 2048 ∧ (∀ x ∈ r.2.2.1, lvlE x = 0) ∧ ∀ s ∈ r.2.2.2, 0 ≤ s.1 ∧ s.1 < s.2 ∧ s.2 ≤ (r.2.2.1.length : Nat) := by
  unfold recE at h
  split at h
  · rename_i h1; exact absurd h h1
  rename_i h1
  split at h
  · rename_i h2; exact absurd h h2
  rename_i h2
  split at h
  · cases h
  rename_i h3
  have h1 := firstE_zero.1 (Classical.not_not.1 h1)
  have h2 := bodyE_zero.1 (Classical.not_not.1 h2)
  have h4 := spans_canon h2.2
  have h5 := bey_f (by simpa using h3)
  have h6 := h1 (rangeE r.2.1 0 100000) (by simp)
  have h7 := h1 (whenE (decide ((4096 : Int) < (r.2.2.1.length : Nat))) 5) (by simp)
  have h6 : 0 ≤ r.2.1 ∧ r.2.1 ≤ 100000 := by
    unfold rangeE at h6
    split at h6
    · cases h6
    omega
  rw [whenE_zero (by decide), decide_eq_false_iff_not] at h7
  refine ⟨h6, by omega, h4.2, fun x hx => firstE_zero.1 h2.1 _ (List.mem_map.2 ⟨x, hx, rfl⟩), fun s hs => ?_⟩
  have h8 := h4.1.1 s hs
  exact ⟨h8.1, h8.2.1, h5 s hs⟩
def sameLv (a b : List Nat) : Bool := decide (a.length = b.length ∧ ∀ i, i < a.length → fcmpE .neq .f32 (a.getD i 0) (b.getD i 0) = false)
theorem rSameLv_ok {a : List Nat} {b : List Nat} (ha : a.length < 1000000) : VF Tryz.prog OA 67 [.v y53 a, .v y53 b] (B (sameLv a b)) := by
  refine VF.enter Tryz.func67 rfl (fun _ _ => rfl) rfl ?_
  show VC _ _ _ _ _ [(0, .v y53 a), (1, .v y53 b)] [] _
  refine VC.seq (VC.text ?_)
  refine VO.c (.assign rfl) ?_
  refine VO.go (VC.seq (VC.seq (VC.text ?_)))
  refine VO.c (.move rfl) ?_
  refine VO.r (.len el53) ?_
  refine VO.c (.move rfl) ?_
  refine VO.r (.len el53) ?_
  refine VO.c (.neq) ?_
  refine VO.go ?_
  refine VC.condD rfl (fun c1 => ?_) (fun c1 => ?_)
  · have hne : ¬ a.length = b.length := by omega
    refine VC.seq (VC.text ?_)
    refine VO.c (.assign rfl) ?_
    refine VO.go ?_
    refine VC.ret ?_
    exact VEnd.one rfl evT (pvE (by exact (decide_eq_false fun hh => hne hh.1).symm))
  have hle : a.length = b.length := by omega
  refine VC.skip (VC.seq (VC.seq (VC.text ?_)))
  refine VO.c (.assign rfl) ?_
  refine VO.go (VC.block ?_)
  refine VC.keep [(0, .v y53 a), (1, .v y53 b), (5, I ((0 : Nat) : Int))] ⟨rfl, rfl, rfl, trivial⟩ ?_
  refine VC.loop (I := fun kk ff ss => ∃ (i : Nat), kk = a.length - i ∧ ff = [(0, .v y53 a), (1, .v y53 b), (5, I ((i : Nat) : Int))] ∧ ss = [] ∧ (i ≤ a.length) ∧ (∀ j, j < i → fcmpE .neq .f32 (a.getD j 0) (b.getD j 0) = false)) ?_ _ _ _ ⟨0, rfl, rfl, rfl, Nat.zero_le _, (by intro j hj; omega)⟩
  rintro kk ff ss ⟨i, hk0, rfl, rfl, hi, hn⟩
  refine VC.seq (VC.seq (VC.text ?_))
  refine VO.c (.move rfl) ?_
  refine VO.c (.move rfl) ?_
  refine VO.r (.len el53) ?_
  refine VO.c (.lss) ?_
  refine VO.go ?_
  refine VC.condD rfl (fun c4 => ?_) (fun c4 => ?_)
  · have hi' : i < a.length := by omega
    refine VC.skip (VC.seq (VC.block (VC.seq (VC.drawn ?_))))
    refine VD.c (.move rfl) ?_
    refine VD.c (.move rfl) ?_
    refine VD.c (.ix (j := i) rfl rfl el53 (by omega)) ?_
    refine VD.r [] (.ld vt59) (.inl rfl) ?_
    refine VD.c (.move rfl) ?_
    refine VD.c (.move rfl) ?_
    refine VD.nw [] ?_
    refine VD.c (.ix (j := i) rfl rfl el53 (by omega)) ?_
    refine VD.r [] (.ld vt59) (.inl rfl) ?_
    refine VD.c (.fcmp .neq) ?_
    refine VD.go ?_
    refine VC.condB rfl (fun c6 => ?_) (fun c6 => ?_)
    · have c6' : fcmpE .neq .f32 (a.getD i 0) (b.getD i 0) = true := by simpa [hi', show i < b.length by omega] using c6
      refine VC.seq (VC.text ?_)
      refine VO.c (.assign rfl) ?_
      refine VO.go ?_
      refine VC.ret ?_
      exact VEnd.one rfl evT (pvE (by exact (decide_eq_false fun hh => by rw [hh.2 i hi'] at c6'; cases c6').symm))
    have c6' : fcmpE .neq .f32 (a.getD i 0) (b.getD i 0) = false := by simpa [hi', show i < b.length by omega] using c6
    refine VC.skip (VC.text ?_)
    refine VO.c (.move rfl) ?_
    refine VO.c (.add rfl rfl (by omega)) ?_
    refine VO.c (.assign rfl) ?_
    refine VO.nil ?_
    refine ⟨_, [(0, .v y53 a), (1, .v y53 b), (5, I (((i + 1) : Nat) : Int))], ?_, ⟨rfl, rfl, rfl, trivial⟩, (i + 1), rfl, rfl, rfl, (by omega), (by intro j hj; rcases Nat.lt_succ_iff_lt_or_eq.1 hj with h | h; exact hn j h; subst h; exact c6')⟩
    omega
  refine VC.exit (VC.seq (VC.text ?_))
  refine VO.c (.assign rfl) ?_
  refine VO.go ?_
  refine VC.ret ?_
  exact VEnd.one rfl evT (pvE (by exact (decide_eq_true ⟨hle, fun j hj => hn j (by omega)⟩).symm))
def sameRec (a b : Rec1) : Bool := decide (a.1 = b.1) && decide (a.2.1 = b.2.1) && sameLv a.2.2.1 b.2.2.1 && decide (a.2.2.2 = b.2.2.2)
theorem rSameRec_ok {a : ByteArray × Int × (List Nat) × (List (Int × Int))} {b : ByteArray × Int × (List Nat) × (List (Int × Int))} (ha : a.2.2.1.length < 1000000) (ha2 : a.2.2.2.length < 1000000) (hb2 : b.2.2.2.length < 1000000) : VF Tryz.prog OA 66 [.v y55 a, .v y55 b] (B (sameRec a b)) := by
  refine VF.enter Tryz.func66 rfl (fun _ _ => rfl) rfl ?_
  show VC _ _ _ _ _ [(0, .v y55 a), (1, .v y55 b)] [] _
  refine VC.seq (VC.text ?_)
  refine VO.new (.box) ?_
  refine VO.new (.box) ?_
  refine VO.c (.assign rfl) ?_
  refine VO.go (VC.seq (VC.text ?_))
  refine VO.c (.fa (.l .o)) ?_
  refine VO.r (.ld vt9) ?_
  refine VO.c (.fa (.l .o)) ?_
  refine VO.r (.ld vt9) ?_
  refine VO.c (.seql) ?_
  refine VO.c (.move rfl) ?_
  refine VO.cg (r := decide (a.1 = b.1)) (w := true) [] trivial (fun hgd => have g1_5 : a.1 = b.1 := (by simpa using hgd); (.fa (.r (.l .o)))) ?_
  refine VO.rg (r := decide (a.1 = b.1)) (w := true) [(11, .p (.int .i64) a.2.1)] ⟨rfl, trivial⟩ (fun hgd => have g1_5 : a.1 = b.1 := (by simpa using hgd); (.ld vt3)) ?_
  refine VO.cg (r := decide (a.1 = b.1)) (w := true) [] trivial (fun hgd => have g1_5 : a.1 = b.1 := (by simpa using hgd); (.fa (.r (.l .o)))) ?_
  refine VO.rg (r := decide (a.1 = b.1)) (w := true) [(13, .p (.int .i64) b.2.1)] ⟨rfl, trivial⟩ (fun hgd => have g1_5 : a.1 = b.1 := (by simpa using hgd); (.ld vt3)) ?_
  refine VO.cg (r := decide (a.1 = b.1)) (w := true) [(12, I a.2.1), (14, I b.2.1)] ⟨rfl, rfl, trivial⟩ (fun hgd => have g1_5 : a.1 = b.1 := (by simpa using hgd); (.eql)) ?_
  refine VO.c (.and) ?_
  refine VO.c (.move rfl) ?_
  refine VO.cg (r := ((decide (a.1 = b.1)) && (decide (a.2.1 = b.2.1)))) (w := true) [] trivial (fun hgd => have g1_12 : ((decide (a.1 = b.1)) && (decide (a.2.1 = b.2.1))) = true := (by simpa using hgd); (.fa (.r (.r (.l .o))))) ?_
  refine VO.rg (r := ((decide (a.1 = b.1)) && (decide (a.2.1 = b.2.1)))) (w := true) [(18, .p y53 a.2.2.1)] ⟨rfl, trivial⟩ (fun hgd => have g1_12 : ((decide (a.1 = b.1)) && (decide (a.2.1 = b.2.1))) = true := (by simpa using hgd); (.ld vt53)) ?_
  refine VO.cg (r := ((decide (a.1 = b.1)) && (decide (a.2.1 = b.2.1)))) (w := true) [] trivial (fun hgd => have g1_12 : ((decide (a.1 = b.1)) && (decide (a.2.1 = b.2.1))) = true := (by simpa using hgd); (.fa (.r (.r (.l .o))))) ?_
  refine VO.rg (r := ((decide (a.1 = b.1)) && (decide (a.2.1 = b.2.1)))) (w := true) [(20, .p y53 b.2.2.1)] ⟨rfl, trivial⟩ (fun hgd => have g1_12 : ((decide (a.1 = b.1)) && (decide (a.2.1 = b.2.1))) = true := (by simpa using hgd); (.ld vt53)) ?_
  refine VO.callg (r0 := ((decide (a.1 = b.1)) && (decide (a.2.1 = b.2.1)))) (w := true) [(19, .v y53 a.2.2.1), (21, .v y53 b.2.2.1)] ⟨rfl, rfl, trivial⟩ rfl rfl .same .refl rfl (fun hgd => have g1_12 : ((decide (a.1 = b.1)) && (decide (a.2.1 = b.2.1))) = true := (by simpa using hgd); VF.call (rSameLv_ok (by first | assumption | omega | simp))) ?_
  refine VO.c (.and) ?_
  refine VO.c (.move rfl) ?_
  refine VO.cg (r := (((decide (a.1 = b.1)) && (decide (a.2.1 = b.2.1))) && (sameLv a.2.2.1 b.2.2.1))) (w := true) [] trivial (fun hgd => have g1_19 : (((decide (a.1 = b.1)) && (decide (a.2.1 = b.2.1))) && (sameLv a.2.2.1 b.2.2.1)) = true := (by simpa using hgd); (.fa (.r (.r (.r (k := 0) .o))))) ?_
  refine VO.rg (r := (((decide (a.1 = b.1)) && (decide (a.2.1 = b.2.1))) && (sameLv a.2.2.1 b.2.2.1))) (w := true) [(25, .p y22 a.2.2.2)] ⟨rfl, trivial⟩ (fun hgd => have g1_19 : (((decide (a.1 = b.1)) && (decide (a.2.1 = b.2.1))) && (sameLv a.2.2.1 b.2.2.1)) = true := (by simpa using hgd); (.ld vt22AP)) ?_
  refine VO.cg (r := (((decide (a.1 = b.1)) && (decide (a.2.1 = b.2.1))) && (sameLv a.2.2.1 b.2.2.1))) (w := true) [] trivial (fun hgd => have g1_19 : (((decide (a.1 = b.1)) && (decide (a.2.1 = b.2.1))) && (sameLv a.2.2.1 b.2.2.1)) = true := (by simpa using hgd); (.fa (.r (.r (.r (k := 0) .o))))) ?_
  refine VO.rg (r := (((decide (a.1 = b.1)) && (decide (a.2.1 = b.2.1))) && (sameLv a.2.2.1 b.2.2.1))) (w := true) [(27, .p y22 b.2.2.2)] ⟨rfl, trivial⟩ (fun hgd => have g1_19 : (((decide (a.1 = b.1)) && (decide (a.2.1 = b.2.1))) && (sameLv a.2.2.1 b.2.2.1)) = true := (by simpa using hgd); (.ld vt22AP)) ?_
  refine VO.callg (r0 := (((decide (a.1 = b.1)) && (decide (a.2.1 = b.2.1))) && (sameLv a.2.2.1 b.2.2.1))) (w := true) [(26, .v y22 a.2.2.2), (28, .v y22 b.2.2.2)] ⟨rfl, rfl, trivial⟩ rfl rfl .same .refl rfl (fun hgd => have g1_19 : (((decide (a.1 = b.1)) && (decide (a.2.1 = b.2.1))) && (sameLv a.2.2.1 b.2.2.1)) = true := (by simpa using hgd); VF.call (rSameSp_ok (by first | assumption | omega | simp) (by first | assumption | omega | simp))) ?_
  refine VO.c (.and) ?_
  refine VO.c (.assign rfl) ?_
  refine VO.go ?_
  refine VC.ret ?_
  exact VEnd.one rfl evT (pvE (by first | rfl | simp [sameRec, *]))
theorem lOwn_ok {r : ByteArray × Int × (List Nat) × (List (Int × Int))} : VF Tryz.prog OA 65 [.v y65 r] (.v y55 r) := by
  refine VF.enter Tryz.func65 rfl (fun _ _ => rfl) rfl ?_
  show VC _ _ _ _ _ [(0, .v y65 r)] [] _
  refine VC.seq (VC.text ?_)
  refine VO.new (.box) ?_
  refine VO.cell (.alloc zt55) ?_
  intro ww1
  refine VO.go (VC.seq (VC.text ?_))
  refine VO.r (.ld vt65) ?_
  refine VO.setV (cs' := [St r.1, I r.2.1, .v y53 r.2.2.1, .v y22 r.2.2.2]) vt55 .v ?_
  refine VO.go ?_
  refine VC.ret ?_
  exact VEnd.one rfl (.cell (x := r) rfl m0 vt55 .refl) (pvE (by rfl))
def zRec : Rec1 := (ByteArray.empty, 0, [], [])
def toldE (have_ : Rec1) (e bad : Int) (want : Rec1) : Bool := if bad ≠ 0 then sameRec have_ zRec && decide (e = bad) else decide (e = 0) && sameRec have_ want
theorem lTold_ok {v : ByteArray × Int × (List Nat) × (List (Int × Int))} {e : Int} {bad : Int} {want : ByteArray × Int × (List Nat) × (List (Int × Int))} (ha : v.2.2.1.length < 1000000) (ha2 : v.2.2.2.length < 1000000) (hb2 : want.2.2.2.length < 1000000) : VF Tryz.prog OA 55 [.v y65 v, I e, I bad, .v y55 want] (B (toldE v e bad want)) := by
  refine VF.enter Tryz.func55 rfl (fun _ _ => rfl) rfl ?_
  show VC _ _ _ _ _ [(0, .v y65 v), (1, I e), (2, I bad), (3, .v y55 want)] [] _
  refine VC.seq (VC.text ?_)
  refine VO.new (.box) ?_
  refine VO.new (.box) ?_
  refine VO.c (.assign rfl) ?_
  refine VO.go (VC.seq (VC.seq (VC.text ?_)))
  refine VO.c (.move rfl) ?_
  refine VO.c (.neq) ?_
  refine VO.go ?_
  refine VC.condD rfl (fun c1 => ?_) (fun c1 => ?_)
  · refine VC.seq (VC.text ?_)
    refine VO.r (.ld vt65) ?_
    refine VO.call rfl rfl (VF.call (lOwn_ok )) ?_
    refine VO.c (.build (ByteArray.empty, 0, [], []) bt55) ?_
    refine VO.call rfl rfl (VF.call (rSameRec_ok ha ha2 (by decide))) ?_
    refine VO.c (.move rfl) ?_
    refine VO.cg (r := sameRec v (ByteArray.empty, 0, [], [])) (w := true) [] trivial (fun hgd => have g2_4 : sameRec v (ByteArray.empty, 0, [], []) = true := (by simpa using hgd); (.move rfl)) ?_
    refine VO.cg (r := sameRec v (ByteArray.empty, 0, [], [])) (w := true) [] trivial (fun hgd => have g2_4 : sameRec v (ByteArray.empty, 0, [], []) = true := (by simpa using hgd); (.move rfl)) ?_
    refine VO.cg (r := sameRec v (ByteArray.empty, 0, [], [])) (w := true) [(16, I e), (17, I bad)] ⟨rfl, rfl, trivial⟩ (fun hgd => have g2_4 : sameRec v (ByteArray.empty, 0, [], []) = true := (by simpa using hgd); (.eql)) ?_
    refine VO.c (.and) ?_
    refine VO.c (.assign rfl) ?_
    refine VO.go ?_
    refine VC.ret ?_
    exact VEnd.one rfl evT (pvE (by rw [toldE, if_pos c1] <;> rfl))
  refine VC.skip (VC.seq (VC.drawn ?_))
  refine VD.c (.move rfl) ?_
  refine VD.c (.eql) ?_
  refine VD.c (.move rfl) ?_
  refine VD.splitD (x := 22) rfl (fun g3_2 => ?_) (fun g3_2 => ?_)
  · refine VD.r [] (.ld vt65) (.inl rfl) ?_
    refine VD.call rfl rfl (VF.call (lOwn_ok )) ?_
    refine VD.nw [24] ?_
    refine VD.r [] (.ld vt55) (.inl rfl) ?_
    refine VD.callO rfl rfl (VF.call (rSameRec_ok (by first | assumption | omega | simp) (by first | assumption | omega | simp) (by first | assumption | omega | simp))) ?_
    refine VD.c (.pickT rfl rfl) ?_
    refine VD.c (.assign rfl) ?_
    refine VD.go ?_
    refine VC.ret ?_
    exact VEnd.one rfl evT (pvE (by rw [toldE, if_neg c1]; first | rfl | simp [*]))
  refine VD.skip ?_
  refine VD.skip ?_
  refine VD.nw [] ?_
  refine VD.skip ?_
  refine VD.skip ?_
  refine VD.c (.pickF rfl rfl) ?_
  refine VD.c (.assign rfl) ?_
  refine VD.go ?_
  refine VC.ret ?_
  exact VEnd.one rfl evT (pvE (by rw [toldE, if_neg c1]; first | rfl | simp [*]))
def recB (r : Rec1) (i : Int) : Bool := decide (0 ≤ i) && decide (i < (r.2.2.1.length : Nat)) && !Sp.inL r.2.2.2 i
theorem rRecorded_ok {r : ByteArray × Int × (List Nat) × (List (Int × Int))} {i : Int} (hg : r.2.2.2.length < 1000000) : VF Tryz.prog OA 104 [.v y55 r, I i] (B (recB r i)) := by
  refine VF.enter Tryz.func104 rfl (fun _ _ => rfl) rfl ?_
  show VC _ _ _ _ _ [(0, .v y55 r), (1, I i)] [] _
  refine VC.seq (VC.text ?_)
  refine VO.new (.box) ?_
  refine VO.c (.assign rfl) ?_
  refine VO.go (VC.seq (VC.text ?_))
  refine VO.c (.move rfl) ?_
  refine VO.c (.geq) ?_
  refine VO.c (.move rfl) ?_
  refine VO.cg (r := decide ((0 : Int) ≤ i)) (w := true) [] trivial (fun hgd => have g1_2 : (0 : Int) ≤ i := (by simpa using hgd); (.move rfl)) ?_
  refine VO.cg (r := decide ((0 : Int) ≤ i)) (w := true) [] trivial (fun hgd => have g1_2 : (0 : Int) ≤ i := (by simpa using hgd); (.fa (.r (.r (.l .o))))) ?_
  refine VO.rg (r := decide ((0 : Int) ≤ i)) (w := true) [(9, .p y53 r.2.2.1)] ⟨rfl, trivial⟩ (fun hgd => have g1_2 : (0 : Int) ≤ i := (by simpa using hgd); (.ld vt53)) ?_
  refine VO.rg (r := decide ((0 : Int) ≤ i)) (w := true) [(10, .v y53 r.2.2.1)] ⟨rfl, trivial⟩ (fun hgd => have g1_2 : (0 : Int) ≤ i := (by simpa using hgd); (.len el53)) ?_
  refine VO.cg (r := decide ((0 : Int) ≤ i)) (w := true) [(8, I i), (11, I ((r.2.2.1.length : Nat) : Int))] ⟨rfl, rfl, trivial⟩ (fun hgd => have g1_2 : (0 : Int) ≤ i := (by simpa using hgd); (.lss)) ?_
  refine VO.c (.and) ?_
  refine VO.c (.move rfl) ?_
  refine VO.cg (r := ((decide ((0 : Int) ≤ i)) && (decide (i < ((r.2.2.1.length : Nat) : Int))))) (w := true) [] trivial (fun hgd => have g1_9 : ((decide ((0 : Int) ≤ i)) && (decide (i < ((r.2.2.1.length : Nat) : Int)))) = true := (by simpa using hgd); (.fa (.r (.r (.r (k := 0) .o))))) ?_
  refine VO.rg (r := ((decide ((0 : Int) ≤ i)) && (decide (i < ((r.2.2.1.length : Nat) : Int))))) (w := true) [(15, .p y22 r.2.2.2)] ⟨rfl, trivial⟩ (fun hgd => have g1_9 : ((decide ((0 : Int) ≤ i)) && (decide (i < ((r.2.2.1.length : Nat) : Int)))) = true := (by simpa using hgd); (.ld vt22AP)) ?_
  refine VO.cg (r := ((decide ((0 : Int) ≤ i)) && (decide (i < ((r.2.2.1.length : Nat) : Int))))) (w := true) [] trivial (fun hgd => have g1_9 : ((decide ((0 : Int) ≤ i)) && (decide (i < ((r.2.2.1.length : Nat) : Int)))) = true := (by simpa using hgd); (.move rfl)) ?_
  refine VO.callg (r0 := ((decide ((0 : Int) ≤ i)) && (decide (i < ((r.2.2.1.length : Nat) : Int))))) (w := true) [(16, .v y22 r.2.2.2), (17, I i)] ⟨rfl, rfl, trivial⟩ rfl rfl .same .refl rfl (fun hgd => have g1_9 : ((decide ((0 : Int) ≤ i)) && (decide (i < ((r.2.2.1.length : Nat) : Int)))) = true := (by simpa using hgd); VF.call (rHas_ok (by first | assumption | omega | simp))) ?_
  refine VO.cg (r := ((decide ((0 : Int) ≤ i)) && (decide (i < ((r.2.2.1.length : Nat) : Int))))) (w := true) [(18, B (Sp.inL r.2.2.2 i))] ⟨rfl, trivial⟩ (fun hgd => have g1_9 : ((decide ((0 : Int) ≤ i)) && (decide (i < ((r.2.2.1.length : Nat) : Int)))) = true := (by simpa using hgd); (.not)) ?_
  refine VO.c (.and) ?_
  refine VO.c (.assign rfl) ?_
  refine VO.go ?_
  refine VC.ret ?_
  exact VEnd.one rfl evT (pvE (by first | rfl | simp [recB, *]))
theorem recB_in {r : Rec1} {i : Nat} (h : i < r.2.2.1.length) : recB r i = !Sp.inL r.2.2.2 i := by
  unfold recB
  rw [decide_eq_true (show (0 : Int) ≤ (i : Int) by omega), decide_eq_true (show (i : Int) < (r.2.2.1.length : Nat) by omega)] <;> rfl
theorem offB_snoc {n : Nat} {p : Int → Bool} : offB (n + 1) p = offB n p ++ [!p (n : Int)] := by
  unfold offB
  rw [List.range_succ, List.map_append] <;> rfl
def appK (a b : Rec1) : Int := firstE [whenE (decide (a.1 ≠ b.1)) 30, whenE (decide (b.2.1 ≠ a.2.1 + (a.2.2.1.length : Nat))) 11, whenE (decide ((4096 : Int) < (a.2.2.1.length : Nat) + (b.2.2.1.length : Nat))) 5]
theorem rChkApp_ok {a : ByteArray × Int × (List Nat) × (List (Int × Int))} {b : ByteArray × Int × (List Nat) × (List (Int × Int))} (ha : a.2.2.1.length < 1000000) (hb : b.2.2.1.length < 1000000) (hs : 0 ≤ a.2.1 ∧ a.2.1 ≤ 100000) : VF Tryz.prog OA 69 [.v y55 a, .v y55 b] (I (appK a b)) := by
  refine VF.enter Tryz.func69 rfl (fun _ _ => rfl) rfl ?_
  show VC _ _ _ _ _ [(0, .v y55 a), (1, .v y55 b)] [] _
  refine VC.seq (VC.text ?_)
  refine VO.new (.box) ?_
  refine VO.new (.box) ?_
  refine VO.c (.assign rfl) ?_
  refine VO.go (VC.seq (VC.seq (VC.text ?_)))
  refine VO.c (.fa (.l .o)) ?_
  refine VO.r (.ld vt9) ?_
  refine VO.c (.fa (.l .o)) ?_
  refine VO.r (.ld vt9) ?_
  refine VO.c (.sneq) ?_
  refine VO.go ?_
  refine VC.condD rfl (fun c1 => ?_) (fun c1 => ?_)
  · refine VC.seq (VC.text ?_)
    refine VO.c (.assign rfl) ?_
    refine VO.go ?_
    refine VC.ret ?_
    exact VEnd.one rfl evT (pvI (by rw [appK, decide_eq_true c1] <;> rfl))
  refine VC.skip (VC.seq (VC.seq (VC.text ?_)))
  refine VO.c (.fa (.r (.l .o))) ?_
  refine VO.r (.ld vt3) ?_
  refine VO.c (.fa (.r (.l .o))) ?_
  refine VO.r (.ld vt3) ?_
  refine VO.c (.fa (.r (.r (.l .o)))) ?_
  refine VO.r (.ld vt53) ?_
  refine VO.r (.len el53) ?_
  refine VO.c (.add rfl rfl (by omega)) ?_
  refine VO.c (.neq) ?_
  refine VO.go ?_
  refine VC.condD rfl (fun c3 => ?_) (fun c3 => ?_)
  · refine VC.seq (VC.text ?_)
    refine VO.c (.assign rfl) ?_
    refine VO.go ?_
    refine VC.ret ?_
    exact VEnd.one rfl evT (pvI (by rw [appK, decide_eq_false c1, decide_eq_true c3] <;> rfl))
  refine VC.skip (VC.seq (VC.seq (VC.text ?_)))
  refine VO.c (.fa (.r (.r (.l .o)))) ?_
  refine VO.r (.ld vt53) ?_
  refine VO.r (.len el53) ?_
  refine VO.c (.fa (.r (.r (.l .o)))) ?_
  refine VO.r (.ld vt53) ?_
  refine VO.r (.len el53) ?_
  refine VO.c (.add rfl rfl (by omega)) ?_
  refine VO.c (.gtr) ?_
  refine VO.go ?_
  refine VC.condD rfl (fun c5 => ?_) (fun c5 => ?_)
  · refine VC.seq (VC.text ?_)
    refine VO.c (.assign rfl) ?_
    refine VO.go ?_
    refine VC.ret ?_
    exact VEnd.one rfl evT (pvI (by rw [appK, decide_eq_false c1, decide_eq_false c3, decide_eq_true c5] <;> rfl))
  refine VC.skip (VC.seq (VC.text ?_))
  refine VO.c (.assign rfl) ?_
  refine VO.go ?_
  refine VC.ret ?_
  exact VEnd.one rfl evT (pvI (by rw [appK, decide_eq_false c1, decide_eq_false c3, decide_eq_false c5] <;> rfl))
def thereTwo (a b : Rec1) : List Bool := thereE a ++ thereE b
theorem thereTwo_len {a b : Rec1} : (thereTwo a b).length = a.2.2.1.length + b.2.2.1.length := by simp [thereTwo, thereE, offB_len]
def both (a b : Rec1) : Rec1 := (a.1, a.2.1, a.2.2.1 ++ b.2.2.1, [])
theorem rApp_ok {a : ByteArray × Int × (List Nat) × (List (Int × Int))} {b : ByteArray × Int × (List Nat) × (List (Int × Int))} (ha : a.2.2.1.length < 100000) (hb : b.2.2.1.length < 100000) (ha2 : a.2.2.2.length < 1000000) (hb2 : b.2.2.2.length < 1000000) : VF Tryz.prog OA 70 [.v y55 a, .v y55 b] (.v y55 (keptE (both a b) (thereTwo a b))) := by
  refine VF.enter Tryz.func70 rfl (fun _ _ => rfl) rfl ?_
  show VC _ _ _ _ _ [(0, .v y55 a), (1, .v y55 b)] [] _
  refine VC.seq (VC.text ?_)
  refine VO.new (.box) ?_
  refine VO.new (.box) ?_
  refine VO.cell (.alloc zt55) ?_
  intro ww2
  refine VO.go (VC.seq (VC.text ?_))
  refine VO.c (.assign rfl) ?_
  refine VO.go (VC.seq (VC.seq (VC.text ?_)))
  refine VO.c (.assign rfl) ?_
  refine VO.go (VC.block ?_)
  refine VC.cell0 4 .bool ?_
  refine VC.keep [(2, .p y55 a), (3, .p y55 b), (4, .raw ww2), (5, .raw (.slice none 0 0)), (6, I ((0 : Nat) : Int))] ⟨rfl, rfl, rfl, rfl, rfl, trivial⟩ ?_
  refine VC.loop (I := fun kk ff ss => ∃ (i : Nat) (out : Value), kk = a.2.2.1.length - i ∧ ff = [(2, .p y55 a), (3, .p y55 b), (4, .raw ww2), (5, .raw out), (6, I ((i : Nat) : Int))] ∧ ss = [(out, .row 4 .bool (offB i (Sp.inL a.2.2.2))), (ww2, .var [St ByteArray.empty, I (0 : Int), .v y53 [], .v y22 []])] ∧ (i ≤ a.2.2.1.length) ∧ ((offB i (Sp.inL a.2.2.2)).length = i)) ?_ _ _ _ ⟨0, (.slice none 0 0), rfl, rfl, rfl, Nat.zero_le _, (by exact offB_len)⟩
  rintro kk ff ss ⟨i, out, hk0, rfl, rfl, hi, hol⟩
  refine VC.seq (VC.seq (VC.text ?_))
  refine VO.c (.move rfl) ?_
  refine VO.c (.fa (.r (.r (.l .o)))) ?_
  refine VO.r (.ld vt53) ?_
  refine VO.r (.len el53) ?_
  refine VO.c (.lss) ?_
  refine VO.go ?_
  refine VC.condD rfl (fun c3 => ?_) (fun c3 => ?_)
  · refine VC.skip (VC.seq (VC.block (VC.text ?_)))
    refine VO.c (.move rfl) ?_
    refine VO.r (.ld vt55) ?_
    refine VO.c (.move rfl) ?_
    refine VO.call rfl rfl (VF.call (rRecorded_ok (by first | assumption | omega | simp))) ?_
    refine VO.new (.lit [recB a ((i : Nat) : Int)] el156) ?_
    refine VO.app rfl rfl el156 el156 (by simp; omega) ?_
    intro ww3
    refine VO.c (.assign rfl) ?_
    refine VO.nil (VC.text ?_)
    refine VO.c (.move rfl) ?_
    refine VO.c (.add rfl rfl (by omega)) ?_
    refine VO.c (.assign rfl) ?_
    refine VO.nil ?_
    refine ⟨_, [(2, .p y55 a), (3, .p y55 b), (4, .raw ww2), (5, .raw ww3), (6, I (((i + 1) : Nat) : Int))], ?_, ⟨rfl, rfl, rfl, rfl, rfl, trivial⟩, (i + 1), ww3, rfl, rfl, (by rw [offB_snoc, ← recB_in (by omega)]), (by omega), (by exact offB_len)⟩
    omega
  refine VC.exit (VC.seq (VC.seq (VC.text ?_)))
  refine VO.c (.assign rfl) ?_
  refine VO.go (VC.block ?_)
  refine VC.keep [(2, .p y55 a), (3, .p y55 b), (4, .raw ww2), (5, .raw out), (7, I ((0 : Nat) : Int))] ⟨rfl, rfl, rfl, rfl, rfl, trivial⟩ ?_
  refine VC.loop (I := fun kk ff ss => ∃ (j : Nat) (out2 : Value), kk = b.2.2.1.length - j ∧ ff = [(2, .p y55 a), (3, .p y55 b), (4, .raw ww2), (5, .raw out2), (7, I ((j : Nat) : Int))] ∧ ss = [(out2, .row 4 .bool (offB a.2.2.1.length (Sp.inL a.2.2.2) ++ offB j (Sp.inL b.2.2.2))), (ww2, .var [St ByteArray.empty, I (0 : Int), .v y53 [], .v y22 []])] ∧ (j ≤ b.2.2.1.length) ∧ ((offB a.2.2.1.length (Sp.inL a.2.2.2) ++ offB j (Sp.inL b.2.2.2)).length = a.2.2.1.length + j)) ?_ _ _ _ ⟨0, out, rfl, rfl, (by rw [show i = a.2.2.1.length by omega]; rw [show offB 0 (Sp.inL b.2.2.2) = [] from rfl, List.append_nil]), Nat.zero_le _, (by rw [List.length_append, offB_len, offB_len])⟩
  rintro kk ff ss ⟨j, out2, hk2, rfl, rfl, hj, hol2⟩
  refine VC.seq (VC.seq (VC.text ?_))
  refine VO.c (.move rfl) ?_
  refine VO.c (.fa (.r (.r (.l .o)))) ?_
  refine VO.r (.ld vt53) ?_
  refine VO.r (.len el53) ?_
  refine VO.c (.lss) ?_
  refine VO.go ?_
  refine VC.condD rfl (fun c7 => ?_) (fun c7 => ?_)
  · refine VC.skip (VC.seq (VC.block (VC.text ?_)))
    refine VO.c (.move rfl) ?_
    refine VO.r (.ld vt55) ?_
    refine VO.c (.move rfl) ?_
    refine VO.call rfl rfl (VF.call (rRecorded_ok (by first | assumption | omega | simp))) ?_
    refine VO.new (.lit [recB b ((j : Nat) : Int)] el156) ?_
    refine VO.app rfl rfl el156 el156 (by simp [offB_len]; omega) ?_
    intro ww4
    refine VO.c (.assign rfl) ?_
    refine VO.nil (VC.text ?_)
    refine VO.c (.move rfl) ?_
    refine VO.c (.add rfl rfl (by omega)) ?_
    refine VO.c (.assign rfl) ?_
    refine VO.nil ?_
    refine ⟨_, [(2, .p y55 a), (3, .p y55 b), (4, .raw ww2), (5, .raw ww4), (7, I (((j + 1) : Nat) : Int))], ?_, ⟨rfl, rfl, rfl, rfl, rfl, trivial⟩, (j + 1), ww4, rfl, rfl, (by rw [offB_snoc, ← recB_in (r := b) (by omega), List.append_assoc]), (by omega), (by rw [List.length_append, offB_len, offB_len])⟩
    omega
  refine VC.exit (VC.seq ?_)
  refine VC.shutL [(out2, .row 4 .bool (offB a.2.2.1.length (Sp.inL a.2.2.2) ++ offB j (Sp.inL b.2.2.2)))] [(5, .v (.sl .bool) (offB a.2.2.1.length (Sp.inL a.2.2.2) ++ offB j (Sp.inL b.2.2.2)))] rfl (.cons rfl (.row m0) .nil) ?_
  refine VC.late [] ⟨[(ww2, .var [St ByteArray.empty, I (0 : Int), .v y53 [], .v y22 []])], rfl⟩ ?_
  refine VLt.c (.fa (.l .o)) ?_
  refine VLt.q rfl (.ld vt9) ?_
  refine VLt.c (.fa (.r (.l .o))) ?_
  refine VLt.q rfl (.ld vt3) ?_
  refine VLt.cell (.lit0 el53) ?_
  intro ww5
  refine VLt.c (.fa (.r (.r (.l .o)))) ?_
  refine VLt.nws [38] ?_
  refine VLt.q rfl (.ld vt53) ?_
  refine VLt.mk (MakeV.app el53 el53 rfl rfl (by simp; omega)) (TurnV.app rfl) ⟨[(ww2, .var [St ByteArray.empty, I (0 : Int), .v y53 [], .v y22 []])], rfl⟩ ?_
  rintro _ _ ⟨ww6, rfl, rfl⟩
  refine ⟨⟨[(ww6, .row 59 (.flt .f32) a.2.2.1), (ww2, .var [St ByteArray.empty, I (0 : Int), .v y53 [], .v y22 []])], rfl⟩, ?_⟩
  refine VLt.c (.fa (.r (.r (.l .o)))) ?_
  refine VLt.q rfl (.ld vt53) ?_
  refine VLt.mk (MakeV.app el53 el53 rfl rfl (by simp; omega)) (TurnV.app rfl) ⟨[(ww2, .var [St ByteArray.empty, I (0 : Int), .v y53 [], .v y22 []])], rfl⟩ ?_
  rintro _ _ ⟨ww7, rfl, rfl⟩
  refine ⟨⟨[(ww7, .row 59 (.flt .f32) (a.2.2.1 ++ b.2.2.1)), (ww2, .var [St ByteArray.empty, I (0 : Int), .v y53 [], .v y22 []])], rfl⟩, ?_⟩
  refine VLt.shut [(44, .v y53 (a.2.2.1 ++ b.2.2.1))] (.cons rfl (.row m0) .nil) ?_ ⟨[(ww2, .var [St ByteArray.empty, I (0 : Int), .v y53 [], .v y22 []])], rfl⟩
  refine VLt.c (.build (a.1, a.2.1, (a.2.2.1 ++ b.2.2.1), []) bt55) ?_
  refine VLt.c (.move rfl) ?_
  refine VLt.nws [45, 44, 44, 41, 38] ?_
  refine VLt.callO rfl rfl (VF.call (rKept_ok (by simp; omega) (by rw [List.length_append, offB_len, offB_len, List.length_append]; omega))) ?_
  refine VLt.mk0 (MakeV.setF (k := 0) vt55 .v (Nat.le_of_ble_eq_true rfl) (.inr ⟨rfl, rfl⟩) rfl rfl) (TurnV.store rfl (.inl rfl)) ⟨[], rfl⟩ ?_
  rintro _ _ ⟨rfl, rfl⟩
  refine ⟨⟨[(ww2, .var [St ((keptE (a.1, a.2.1, (a.2.2.1 ++ b.2.2.1), []) (offB a.2.2.1.length (Sp.inL a.2.2.2) ++ offB j (Sp.inL b.2.2.2))).1), I ((keptE (a.1, a.2.1, (a.2.2.1 ++ b.2.2.1), []) (offB a.2.2.1.length (Sp.inL a.2.2.2) ++ offB j (Sp.inL b.2.2.2))).2.1), .v y53 ((keptE (a.1, a.2.1, (a.2.2.1 ++ b.2.2.1), []) (offB a.2.2.1.length (Sp.inL a.2.2.2) ++ offB j (Sp.inL b.2.2.2))).2.2.1), .v y22 ((keptE (a.1, a.2.1, (a.2.2.1 ++ b.2.2.1), []) (offB a.2.2.1.length (Sp.inL a.2.2.2) ++ offB j (Sp.inL b.2.2.2))).2.2.2)])], rfl⟩, ?_⟩
  refine VLt.go ?_
  refine VC.ret ?_
  exact VEnd.one rfl (.cell (x := keptE (a.1, a.2.1, (a.2.2.1 ++ b.2.2.1), []) (offB a.2.2.1.length (Sp.inL a.2.2.2) ++ offB j (Sp.inL b.2.2.2))) rfl m0 vt55 .refl) (pvE (by rw [show j = b.2.2.1.length by omega] <;> rfl))
def appC (a b : Rec1) : Int := firstE [recE a, recE b, whenE (decide (a.1 ≠ b.1)) 30, whenE (decide (b.2.1 ≠ wrI (a.2.1 + (a.2.2.1.length : Nat)))) 11, whenE (decide ((4096 : Int) < (a.2.2.1.length : Nat) + (b.2.2.1.length : Nat))) 5]
def appR (a b : Rec1) : Rec1 := if appC a b ≠ 0 then zRec else (a.1, a.2.1, keptL (both a b) (thereTwo a b) plusZ (thereTwo a b).length, gapsE (thereTwo a b) (thereTwo a b).length)

theorem thereTwo_flat {a b : Rec1} : [thereE (a.1, a.2.1, a.2.2.1, a.2.2.2), thereE b].flatten = thereTwo a b := by simp [thereTwo]
theorem keptL_lev {r r' : Rec1} {l : List Bool} {f : Nat → Nat} {n : Nat} (h : r.2.2.1 = r'.2.2.1) : keptL r l f n = keptL r' l f n := by unfold keptL; rw [h]
theorem gApp_ok {a : ByteArray × Int × (List Nat) × (List (Int × Int))} {b : ByteArray × Int × (List Nat) × (List (Int × Int))} (ha : a.2.2.1.length < 100000) (hb : b.2.2.1.length < 100000) (ha2 : a.2.2.2.length < 1000000) (hb2 : b.2.2.2.length < 1000000) : VF Tryz.prog OA 68 [.v y65 a, .v y65 b] (.tup [.v y65 (appR a b), I (appC a b)]) := by
  refine VF.enter Tryz.func68 rfl (fun _ _ => rfl) rfl ?_
  show VC _ _ _ _ _ [(0, .v y65 a), (1, .v y65 b)] [] _
  refine VC.seq (VC.text ?_)
  refine VO.cell (.box (τ := y65) .v) ?_
  intro ww8
  refine VO.new (.box) ?_
  refine VO.cell (.alloc zt65) ?_
  intro ww9
  refine VO.c (.assign rfl) ?_
  refine VO.go (VC.seq (VC.text ?_))
  refine VO.c (.faO (k := 2) m1) ?_
  refine VO.r (.ldF (k := 2) m1 vt53) ?_
  refine VO.r (.len el53) ?_
  refine VO.c (.assign rfl) ?_
  refine VO.go (VC.seq (VC.seq (VC.drawn ?_)))
  refine VD.r [(ww9, .var [St ByteArray.empty, I (0 : Int), .v y53 [], .v y22 []]), (ww8, .var [St a.1, I a.2.1, .v y53 a.2.2.1, .v y22 a.2.2.2])] (.ldA (dx := (a.1, a.2.1, a.2.2.1, a.2.2.2)) m1 vt65) (.inr ⟨rfl, rfl⟩) ?_
  refine VD.call rfl rfl (VF.call (gRec_ok (by show a.2.2.1.length < _; omega) ha2)) ?_
  refine VD.r [] (.ld vt65) (.inl rfl) ?_
  refine VD.call rfl rfl (VF.call (gRec_ok (by first | assumption | omega | simp) (by first | assumption | omega | simp))) ?_
  refine VD.co (.faO (k := 0) m1) ?_
  refine VD.r [(ww9, .var [St ByteArray.empty, I (0 : Int), .v y53 [], .v y22 []]), (ww8, .var [St a.1, I a.2.1, .v y53 a.2.2.1, .v y22 a.2.2.2])] (.ldF (k := 0) m1 vt9) (.inr ⟨rfl, rfl⟩) ?_
  refine VD.nw [] ?_
  refine VD.c (.fa (.l .o)) ?_
  refine VD.r [] (.ld vt9) (.inl rfl) ?_
  refine VD.c (.sneq) ?_
  refine VD.call rfl rfl (VF.call (gWhen_ok )) ?_
  refine VD.c (.fa (.r (.l .o))) ?_
  refine VD.r [] (.ld vt3) (.inl rfl) ?_
  refine VD.co (.faO (k := 1) m1) ?_
  refine VD.nw [] ?_
  refine VD.r [(ww9, .var [St ByteArray.empty, I (0 : Int), .v y53 [], .v y22 []]), (ww8, .var [St a.1, I a.2.1, .v y53 a.2.2.1, .v y22 a.2.2.2])] (.ldF (k := 1) m1 vt3) (.inr ⟨rfl, rfl⟩) ?_
  refine VD.c (.move rfl) ?_
  refine VD.c (.addW) ?_
  refine VD.c (.neq) ?_
  refine VD.call rfl rfl (VF.call (gWhen_ok )) ?_
  refine VD.c (.move rfl) ?_
  refine VD.c (.fa (.r (.r (.l .o)))) ?_
  refine VD.nw [] ?_
  refine VD.r [] (.ld vt53) (.inl rfl) ?_
  refine VD.r [] (.len el53) (.inl rfl) ?_
  refine VD.c (.add rfl rfl (by omega)) ?_
  refine VD.c (.gtr) ?_
  refine VD.call rfl rfl (VF.call (gWhen_ok )) ?_
  refine VD.new (.lit [recE (a.1, a.2.1, a.2.2.1, a.2.2.2), recE b, whenE (decide (a.1 ≠ b.1)) (30 : Int), whenE (decide (b.2.1 ≠ wrI (a.2.1 + (a.2.2.1.length : Nat)))) (11 : Int), whenE (decide ((4096 : Int) < (((a.2.2.1.length : Nat) : Int) + ((b.2.2.1.length : Nat) : Int)))) (5 : Int)] el164) ?_
  refine VD.callO rfl rfl (VF.call (gFirst_ok (by first | assumption | omega | simp))) ?_
  refine VD.nw [37] ?_
  refine VD.c (.assign rfl) ?_
  refine VD.go (VC.seq ?_)
  refine VC.keep [(2, .raw ww8), (3, .p y65 b), (4, .raw ww9), (7, I (appC a b))] ⟨rfl, rfl, rfl, rfl, trivial⟩ ?_
  refine VC.text ?_
  refine VO.c (.move rfl) ?_
  refine VO.c (.neq) ?_
  refine VO.go ?_
  refine VC.condD rfl (fun c3 => ?_) (fun c3 => ?_)
  · refine VC.seq (VC.text ?_)
    refine VO.c (.build (ByteArray.empty, 0, [], []) bt65) ?_
    refine VO.c (.move rfl) ?_
    refine VO.setV (cs' := [St ByteArray.empty, I 0, .v y53 [], .v y22 []]) vt65 .v ?_
    refine VO.c (.assign rfl) ?_
    refine VO.go ?_
    refine VC.ret ?_
    exact VEnd.two rfl (.cell (x := (ByteArray.empty, 0, [], [])) rfl m0 vt65 .refl) evT (pvE (by rw [appR, if_pos c3]; rfl)) (pvI (by rfl))
  have hz := firstE_zero.1 (Classical.not_not.1 c3)
  have hra := rec_ok (hz (recE a) (by simp))
  have hrb := rec_ok (hz (recE b) (by simp))
  have hlv : ∀ x ∈ a.2.2.1 ++ b.2.2.1, lvlE x = 0 := fun x hx => by rcases List.mem_append.1 hx with h | h; exact hra.2.2.2.1 x h; exact hrb.2.2.2.1 x h
  have htl := thereTwo_len (a := a) (b := b)
  refine VC.skip (VC.seq (VC.drawn ?_))
  refine VD.r [(ww9, .var [St ByteArray.empty, I (0 : Int), .v y53 [], .v y22 []]), (ww8, .var [St a.1, I a.2.1, .v y53 a.2.2.1, .v y22 a.2.2.2])] (.ldA (dx := (a.1, a.2.1, a.2.2.1, a.2.2.2)) m1 vt65) (.inr ⟨rfl, rfl⟩) ?_
  refine VD.call rfl rfl (VF.call (gThere_ok (show a.2.2.1.length ≤ 4096 from hra.2.1) ha2 hra.2.2.2.2)) ?_
  refine VD.r [] (.ld vt65) (.inl rfl) ?_
  refine VD.call rfl rfl (VF.call (gThere_ok (by omega) hb2 hrb.2.2.2.2)) ?_
  refine VD.new (.lit [thereE (a.1, a.2.1, a.2.2.1, a.2.2.2), thereE b] el212) ?_
  refine VD.callG rfl rfl (VFG.call (zConcatB_ok (by simp) (by simp [thereE, offB_len]; omega))) ?_
  rintro _ _ ⟨ww10, rfl, rfl⟩
  show VD _ _ _ _ _ _ _ _ [(ww10, .row 4 .bool ([thereE (a.1, a.2.1, a.2.2.1, a.2.2.2), thereE b].flatten)), (ww9, .var [St ByteArray.empty, I (0 : Int), .v y53 [], .v y22 []]), (ww8, .var [St a.1, I a.2.1, .v y53 a.2.2.1, .v y22 a.2.2.2])] _ _ _ _ _
  refine VD.nw [48, 47, 46, 44] ?_
  refine VD.c (.assign rfl) ?_
  refine VD.go (VC.seq (VC.text ?_))
  refine VO.c (.faO (k := 2) m2) ?_
  refine VO.r (.ldF (k := 2) m2 vt53) ?_
  refine VO.c (.fa (.r (.r (.l .o)))) ?_
  refine VO.r (.ld vt53) ?_
  refine VO.new (.lit [a.2.2.1, b.2.2.1] el213) ?_
  refine VO.callG [] rfl rfl rfl (VFG.call (zConcatF_ok (by simp) (by simp; omega))) ?_
  rintro _ _ ⟨ww11, rfl, rfl⟩
  show VO _ _ _ _ _ _ [(ww11, .row 59 (.flt .f32) ([a.2.2.1, b.2.2.1].flatten)), (ww10, .row 4 .bool ([thereE (a.1, a.2.1, a.2.2.1, a.2.2.2), thereE b].flatten)), (ww9, .var [St ByteArray.empty, I (0 : Int), .v y53 [], .v y22 []]), (ww8, .var [St a.1, I a.2.1, .v y53 a.2.2.1, .v y22 a.2.2.2])] _
  refine VO.c (.faO (k := 2) m3) ?_
  refine VO.perm swap3 ?_
  refine VO.one m1 fun ho12 => ?_
  refine VO.setF (cs' := [St a.1, I a.2.1, .raw ww11, .v y22 a.2.2.2]) 2 vt53 (.raw rfl (agg_one ho12) ho12) ?_
  refine VO.go (VC.seq ?_)
  refine VC.perm swap1 ?_
  refine VC.shutL [(ww11, .row 59 (.flt .f32) ([a.2.2.1, b.2.2.1].flatten)), (ww8, .var [St a.1, I a.2.1, .raw ww11, .v y22 a.2.2.2])] [(2, .p y65 (a.1, a.2.1, ([a.2.2.1, b.2.2.1].flatten), a.2.2.2))] rfl (.cons rfl (.var m1 (.cons .same (.cons .same (.cons (.row m0) (.cons .same .nil))))) .nil) ?_
  refine VC.text ?_
  refine VO.r (.ld vt65) ?_
  refine VO.c (.move rfl) ?_
  refine VO.shut [(8, .v (.sl .bool) ([thereE (a.1, a.2.1, a.2.2.1, a.2.2.2), thereE b].flatten)), (48, .v (.sl .bool) ([thereE (a.1, a.2.1, a.2.2.1, a.2.2.2), thereE b].flatten)), (57, .v (.sl .bool) ([thereE (a.1, a.2.1, a.2.2.1, a.2.2.2), thereE b].flatten))] (.cons rfl (.row m0) (.cons rfl (.row m0) (.cons rfl (.row m0) .nil))) ?_
  refine VO.call rfl rfl (VF.call (gKeeping_ok (by simp; omega) (by simp [thereE, offB_len]) (by simpa using hlv))) ?_
  refine VO.setV (cs' := [St ((a.1, a.2.1, ([a.2.2.1, b.2.2.1].flatten), a.2.2.2).1), I ((a.1, a.2.1, ([a.2.2.1, b.2.2.1].flatten), a.2.2.2).2.1), .v y53 (keptL (a.1, a.2.1, ([a.2.2.1, b.2.2.1].flatten), a.2.2.2) ([thereE (a.1, a.2.1, a.2.2.1, a.2.2.2), thereE b].flatten) plusZ ([thereE (a.1, a.2.1, a.2.2.1, a.2.2.2), thereE b].flatten).length), .v y22 (gapsE ([thereE (a.1, a.2.1, a.2.2.1, a.2.2.2), thereE b].flatten) ([thereE (a.1, a.2.1, a.2.2.1, a.2.2.2), thereE b].flatten).length)]) vt65 .v ?_
  refine VO.c (.assign rfl) ?_
  refine VO.go ?_
  refine VC.ret ?_
  exact VEnd.two rfl (.cell (x := ((a.1, a.2.1, ([a.2.2.1, b.2.2.1].flatten), a.2.2.2).1, (a.1, a.2.1, ([a.2.2.1, b.2.2.1].flatten), a.2.2.2).2.1, keptL (a.1, a.2.1, ([a.2.2.1, b.2.2.1].flatten), a.2.2.2) ([thereE (a.1, a.2.1, a.2.2.1, a.2.2.2), thereE b].flatten) plusZ ([thereE (a.1, a.2.1, a.2.2.1, a.2.2.2), thereE b].flatten).length, gapsE ([thereE (a.1, a.2.1, a.2.2.1, a.2.2.2), thereE b].flatten) ([thereE (a.1, a.2.1, a.2.2.1, a.2.2.2), thereE b].flatten).length)) rfl m0 vt65 .refl) evT (pvE (by rw [appR, if_neg c3, thereTwo_flat]; exact congrArg (fun z => (a.1, a.2.1, z, gapsE (thereTwo a b) (thereTwo a b).length)) (keptL_lev (by show [a.2.2.1, b.2.2.1].flatten = a.2.2.1 ++ b.2.2.1; simp)))) (pvI (by exact (Classical.not_not.1 c3).symm))
end Go.Proofs
namespace Go.Proofs
open Go.Fs Ieee
set_option linter.unusedVariables false
set_option maxHeartbeats 400000

theorem firstE_2 {x y : Int} {l : List Int} (hx : x = 0) (hy : y = 0) : firstE (x :: y :: l) = firstE l := by
  subst hx; subst hy; rfl
theorem appC_K {a b : Rec1} (h : firstE [recE a, recE b] = 0) : appC a b = appK a b := by
  have h1 := firstE_zero.1 h (recE a) (by simp)
  have h2 := firstE_zero.1 h (recE b) (by simp)
  have h3 := rec_ok h1
  unfold appC appK
  rw [firstE_2 h1 h2, wrI_fit (by omega) (by omega)]
theorem appC_1 {a b : Rec1} (h : firstE [recE a, recE b] ≠ 0) : appC a b = firstE [recE a, recE b] := by
  unfold appC
  show (if recE a = 0 then (if recE b = 0 then _ else recE b) else recE a) = (if recE a = 0 then (if recE b = 0 then 0 else recE b) else recE a)
  by_cases h1 : recE a = 0
  · by_cases h2 : recE b = 0
    · exact absurd (by rw [firstE_2 h1 h2]; rfl) h
    rw [if_pos h1, if_neg h2, if_pos h1, if_neg h2]
  rw [if_neg h1, if_neg h1]
theorem same_z : sameRec zRec zRec = true := by decide +kernel
theorem told_bad {a b : Rec1} {x : Int} {w : Rec1} (h : appC a b = x) (h0 : x ≠ 0) : toldE (appR a b) (appC a b) x w = true := by
  rw [toldE, if_pos h0, appR, if_pos (by rw [h]; exact h0), same_z, decide_eq_true h] <;> rfl
theorem neq_z : fcmpE .neq .f32 0 0 = false := by decide +kernel
theorem same_kept {r : Rec1} {l : List Bool} {n : Nat} (hv : ∀ x ∈ r.2.2.1, lvlE x = 0) : sameLv (keptL r l plusZ n) (keptL r l id n) = true := by
  refine decide_eq_true ⟨by rw [keptL_len, keptL_len], fun i hi => ?_⟩
  rw [keptL_len] at hi
  rw [getDat (by rw [keptL_len]; exact hi), getDat (by rw [keptL_len]; exact hi), keptL_at hi, keptL_at hi]
  by_cases hc : i < n ∧ l.getD i false = true
  · rw [if_pos hc, if_pos hc, getDat hi]
    have h1 := hv _ (List.getElem_mem hi)
    have h2 := lvl_ok h1
    have h3 := plusZ_ok h1
    show fcmpE .neq .f32 (plusZ r.2.2.1[i]) r.2.2.1[i] = false
    rw [(fcmp32 (h3.2.2.trans h2.1) h2.1).2.1]
    exact decide_eq_false (by simp)
  rw [if_neg hc, if_neg hc]; exact neq_z
theorem told_good {a b : Rec1} {x : Int} (h : firstE [recE a, recE b] = 0) (h2 : appK a b = 0) (hx : x = 0) : toldE (appR a b) (appC a b) x (keptE (both a b) (thereTwo a b)) = true := by
  have h0 : appC a b = 0 := by rw [appC_K h, h2]
  have ha := rec_ok (firstE_zero.1 h (recE a) (by simp))
  have hb := rec_ok (firstE_zero.1 h (recE b) (by simp))
  have hs : sameLv (keptL (both a b) (thereTwo a b) plusZ (thereTwo a b).length) (keptL (both a b) (thereTwo a b) id (thereTwo a b).length) = true := same_kept fun x hx => by
    rcases List.mem_append.1 (show x ∈ a.2.2.1 ++ b.2.2.1 from hx) with h | h
    · exact ha.2.2.2.1 x h
    exact hb.2.2.2.1 x h
  rw [toldE, if_neg (fun h => h hx), appR, if_neg (fun h => h h0), decide_eq_true h0, Bool.true_and]
  unfold sameRec keptE
  show (decide (a.1 = a.1) && decide (a.2.1 = a.2.1) && sameLv _ _ && decide (_ = _)) = true
  rw [hs, decide_eq_true rfl, decide_eq_true rfl, decide_eq_true rfl] <;> rfl
theorem appR_len {a b : Rec1} : (appR a b).2.2.1.length ≤ a.2.2.1.length + b.2.2.1.length ∧ (appR a b).2.2.2.length ≤ a.2.2.1.length + b.2.2.1.length := by
  unfold appR
  split
  · exact ⟨Nat.zero_le _, Nat.zero_le _⟩
  refine ⟨?_, ?_⟩
  · show (keptL _ _ _ _).length ≤ _
    rw [keptL_len]
    show (a.2.2.1 ++ b.2.2.1).length ≤ _
    rw [List.length_append]; exact Nat.le_refl _
  have := gapsE_len (thereTwo a b) (thereTwo a b).length
  rw [thereTwo_len] at this
  exact (by rw [thereTwo_len]; exact this : (gapsE (thereTwo a b) (thereTwo a b).length).length ≤ _)
theorem law10_ok {a : ByteArray × Int × (List Nat) × (List (Int × Int))} {b : ByteArray × Int × (List Nat) × (List (Int × Int))} : VF Tryz.prog OA 12 [.v y55 a, .v y55 b] (B true) := by
  refine VF.enter Tryz.func12 rfl (fun _ _ => rfl) rfl ?_
  show VC _ _ _ _ _ [(0, .v y55 a), (1, .v y55 b)] [] _
  refine VC.seq (VC.text ?_)
  refine VO.new (.box) ?_
  refine VO.new (.box) ?_
  refine VO.c (.assign rfl) ?_
  refine VO.go (VC.seq (VC.seq (VC.text ?_)))
  refine VO.call rfl rfl (VF.call (awake_ok )) ?_
  refine VO.c (.not) ?_
  refine VO.c (.move rfl) ?_
  refine VO.r (.ld vt55) ?_
  refine VO.call rfl rfl (VF.call (rShort_ok )) ?_
  refine VO.c (.not) ?_
  refine VO.c (.pickF rfl rfl) ?_
  refine VO.c (.move rfl) ?_
  refine VO.rg (r := (!(shortE a))) (w := false) [] trivial (fun hgd => have g1_7 : (!(shortE a)) = false := (by first | exact eq_of_beq hgd | simpa using hgd); (.ld vt55)) ?_
  refine VO.callg (r0 := (!(shortE a))) (w := false) [(17, .v y55 b)] ⟨rfl, trivial⟩ rfl rfl .same .refl rfl (fun hgd => have g1_7 : (!(shortE a)) = false := (by first | exact eq_of_beq hgd | simpa using hgd); VF.call (rShort_ok )) ?_
  refine VO.cg (r := (!(shortE a))) (w := false) [(18, B (shortE b))] ⟨rfl, trivial⟩ (fun hgd => have g1_7 : (!(shortE a)) = false := (by first | exact eq_of_beq hgd | simpa using hgd); (.not)) ?_
  refine VO.c (.or) ?_
  refine VO.go ?_
  refine VC.condB rfl (fun c1 => ?_) (fun c1 => ?_)
  · try simp only [Bool.and_eq_true, Bool.or_eq_true, Bool.and_eq_false_iff, Bool.or_eq_false_iff, Bool.not_eq_true', Bool.not_eq_false', decide_eq_true_eq, decide_eq_false_iff_not] at c1
    refine VC.seq (VC.text ?_)
    refine VO.call rfl rfl (VF.call (awake_ok )) ?_
    refine VO.c (.assign rfl) ?_
    refine VO.go ?_
    refine VC.ret ?_
    exact VEnd.one rfl evT (pvE (by rfl))
  try simp only [Bool.and_eq_true, Bool.or_eq_true, Bool.and_eq_false_iff, Bool.or_eq_false_iff, Bool.not_eq_true', Bool.not_eq_false', decide_eq_true_eq, decide_eq_false_iff_not] at c1
  have hs := shortE_t c1.1
  have hs2 := shortE_t c1.2
  have hal : a.2.2.1.length < 100000 := by omega
  have hbl : b.2.2.1.length < 100000 := by omega
  have hag : a.2.2.2.length < 1000000 := by omega
  have hbg : b.2.2.2.length < 1000000 := by omega
  have hrl := appR_len (a := a) (b := b)
  have hgz := gapsE_len (thereTwo a b) (thereTwo a b).length
  have htt := thereTwo_len (a := a) (b := b)
  refine VC.skip (VC.seq (VC.drawn ?_))
  refine VD.r [] (.ld vt55) (.inl rfl) ?_
  refine VD.call rfl rfl (VF.call (lRecord_ok (by first | assumption | omega | simp) (by first | assumption | omega | simp))) ?_
  refine VD.r [] (.ld vt55) (.inl rfl) ?_
  refine VD.call rfl rfl (VF.call (lRecord_ok (by first | assumption | omega | simp) (by first | assumption | omega | simp))) ?_
  refine VD.callO rfl rfl (VF.call (gApp_ok (by first | assumption | omega | simp) (by first | assumption | omega | simp) (by first | assumption | omega | simp) (by first | assumption | omega | simp))) ?_
  refine VD.c (.move rfl) ?_
  refine VD.nw [22, 27, 26, 24] ?_
  refine VD.c (.extract) ?_
  refine VD.c (.extract) ?_
  refine VD.cell (.alloc zt65) ?_
  intro ww1
  refine VD.mk0 (MakeV.setF (k := 0) vt65 .v (Nat.le_of_ble_eq_true rfl) (.inr ⟨rfl, rfl⟩) rfl rfl) ?_
  rintro _ _ tl2 ⟨rfl, rfl⟩
  refine VD.c (.assign rfl) ?_
  refine VD.go (VC.seq (VC.drawn ?_))
  refine VD.r [] (.ld vt55) (.inl rfl) ?_
  refine VD.call rfl rfl (VF.call (rRec_ok (by first | assumption | omega | simp) (by first | assumption | omega | simp))) ?_
  refine VD.r [] (.ld vt55) (.inl rfl) ?_
  refine VD.call rfl rfl (VF.call (rRec_ok (by first | assumption | omega | simp) (by first | assumption | omega | simp))) ?_
  refine VD.new (.lit [recE a, recE b] el37) ?_
  refine VD.callO rfl rfl (VF.call (lFirst_ok (by first | assumption | omega | simp))) ?_
  refine VD.nw [34] ?_
  refine VD.c (.assign rfl) ?_
  refine VD.go (VC.seq (VC.text ?_))
  refine VO.cell (.alloc zt55) ?_
  intro ww3
  refine VO.go (VC.seq (VC.seq (VC.text ?_)))
  refine VO.c (.move rfl) ?_
  refine VO.c (.eql) ?_
  refine VO.go ?_
  refine VC.condD rfl (fun c6 => ?_) (fun c6 => ?_)
  · have hra := rec_ok (firstE_zero.1 c6 (recE a) (by simp))
    refine VC.seq ?_
    refine VC.keep [(2, .p y55 a), (3, .p y55 b), (5, .raw ww1), (6, I (appC a b)), (8, .raw ww3)] ⟨rfl, rfl, rfl, rfl, rfl, trivial⟩ ?_
    refine VC.text ?_
    refine VO.r (.ld vt55) ?_
    refine VO.r (.ld vt55) ?_
    refine VO.call rfl rfl (VF.call (rChkApp_ok (by omega) (by omega) hra.1)) ?_
    refine VO.c (.assign rfl) ?_
    refine VO.go (VC.seq (VC.text ?_))
    refine VO.c (.move rfl) ?_
    refine VO.c (.eql) ?_
    refine VO.go ?_
    refine VC.condD rfl (fun c8 => ?_) (fun c8 => ?_)
    · refine VC.text ?_
      refine VO.r (.ld vt55) ?_
      refine VO.r (.ld vt55) ?_
      refine VO.call rfl rfl (VF.call (rApp_ok (by first | assumption | omega | simp) (by first | assumption | omega | simp) (by first | assumption | omega | simp) (by first | assumption | omega | simp))) ?_
      refine VO.setV (cs' := [St ((keptE (both a b) (thereTwo a b)).1), I ((keptE (both a b) (thereTwo a b)).2.1), .v y53 ((keptE (both a b) (thereTwo a b)).2.2.1), .v y22 ((keptE (both a b) (thereTwo a b)).2.2.2)]) vt55 .v ?_
      refine VO.shut [(8, .p y55 (keptE (both a b) (thereTwo a b)))] (.cons rfl (.var m0 .refl) .nil) ?_
      refine VO.go (VC.seq (VC.text ?_))
      refine VO.r (.ldA (dx := appR a b) m0 vt65) ?_
      refine VO.c (.move rfl) ?_
      refine VO.c (.move rfl) ?_
      refine VO.r (.ld vt55) ?_
      refine VO.call rfl rfl (VF.call (lTold_ok (by omega) (by omega) (by first | decide | (show (gapsE _ _).length < _; omega)))) ?_
      refine VO.c (.assign rfl) ?_
      refine VO.go ?_
      refine VC.ret ?_
      exact VEnd.one rfl evT (pvE (by first | exact told_bad (appC_1 c6) c6 | exact told_bad (appC_K c6) c8 | exact told_good c6 c8 c8))
    refine VC.skip (VC.seq (VC.text ?_))
    refine VO.r (.ldA (dx := appR a b) m1 vt65) ?_
    refine VO.c (.move rfl) ?_
    refine VO.c (.move rfl) ?_
    refine VO.r (.ldA (dx := (ByteArray.empty, (0 : Int), [], [])) m0 vt55) ?_
    refine VO.call rfl rfl (VF.call (lTold_ok (by omega) (by omega) (by first | decide | (show (gapsE _ _).length < _; omega)))) ?_
    refine VO.c (.assign rfl) ?_
    refine VO.go ?_
    refine VC.ret ?_
    exact VEnd.one rfl evT (pvE (by first | exact told_bad (appC_1 c6) c6 | exact told_bad (appC_K c6) c8 | exact told_good c6 c8 c8))
  refine VC.skip (VC.seq ?_)
  refine VC.keep [(5, .raw ww1), (6, I (appC a b)), (7, I (firstE [recE a, recE b])), (8, .raw ww3)] ⟨rfl, rfl, rfl, rfl, trivial⟩ ?_
  refine VC.text ?_
  refine VO.r (.ldA (dx := appR a b) m1 vt65) ?_
  refine VO.c (.move rfl) ?_
  refine VO.c (.move rfl) ?_
  refine VO.r (.ldA (dx := (ByteArray.empty, (0 : Int), [], [])) m0 vt55) ?_
  refine VO.call rfl rfl (VF.call (lTold_ok (by omega) (by omega) (by first | decide | (show (gapsE _ _).length < _; omega)))) ?_
  refine VO.c (.assign rfl) ?_
  refine VO.go ?_
  refine VC.ret ?_
  exact VEnd.one rfl evT (pvE (by first | exact told_bad (appC_1 c6) c6 | exact told_bad (appC_K c6) c8 | exact told_good c6 c8 c8))
end Go.Proofs
namespace Go.Fs
open Go.RowKit (Below)
variable {P : Program}
def orcB (fi fj fc : FuncId) (T : TypeId) : FuncId → List Value → Heap → Option (Value × Heap) := fun f xs h =>
  bif Nat.beq f fc then
    match xs with
    | [.pointer (some ⟨b, 0, none⟩)] =>
      match h.get b with
      | some (.row e [p, v] true false) =>
        bif Nat.beq e T then
          match p with
          | .pointer none => some (.tuple #[], h.set b (.row e [.pointer (some ⟨b, 0, none⟩), v] true false))
          | .pointer (some ⟨b', 0, none⟩) => bif Nat.beq b' b then some (.tuple #[], h) else none
          | _ => none
        else none
      | _ => none
    | _ => none
  else orcS fi fj f xs h
theorem orcB_sound {B : Nat} {w0 : World} {fi fj fc : FuncId} {T : TypeId} (hz : w0.drawn = 0) (hS : CallSound P B w0 (orcS fi fj)) (hc : Enters P fc)
    (hF : ∀ (b : Nat) (w : World), w.cell? ⟨b, 0, none⟩ = some (.pointer none) → w.shape? b = some (T, 2) → w.frozen? ⟨b, 0, none⟩ = false →
      Calls P fc #[.pointer (some ⟨b, 0, none⟩)] w fun e w' => e = .returned (.tuple #[]) ∧ w' = w.setCell ⟨b, 0, none⟩ (.pointer (some ⟨b, 0, none⟩)))
    (hU : ∀ (b : Nat) (w : World), w.cell? ⟨b, 0, none⟩ = some (.pointer (some ⟨b, 0, none⟩)) → Calls P fc #[.pointer (some ⟨b, 0, none⟩)] w fun e w' => e = .returned (.tuple #[]) ∧ w' = w) :
    CallSound P B w0 (orcB fi fj fc T) := by
  intro f xs h v h' hf
  unfold orcB at hf
  cases hb : Nat.beq f fc with
  | false =>
    rw [hb] at hf
    exact hS f xs h v h' hf
  | true =>
    have := nbeq hb
    subst this
    rw [hb] at hf
    simp only [cond_true] at hf
    split at hf
    · rename_i b
      split at hf
      · rename_i e p u hg
        obtain ⟨he, hf2⟩ := bif_some hf
        obtain rfl := nbeq he
        refine ⟨hc, fun ρ S w args' hr ha nn => ?_⟩
        obtain ⟨hsb, cur, k1, k2, k3, k4, k5, k6, k7⟩ := hr.objs b _ hg
        have hcl : cur.length = 2 := (k6 rfl).symm
        match cur, hcl with
        | [p', u'], _ =>
        have hp : VR ρ S p p' := k7 0 (by simp)
        have hu : VR ρ S u u' := k7 1 (by simp)
        have hat : (ρ b).at 0 = ⟨(ρ b).block, 0, none⟩ := by unfold Loc.at; rw [k2]
        have harg : args' = [.pointer (some ⟨(ρ b).block, 0, none⟩)] := by
          have h1 := ha.1
          match args', h1 with
          | [a], _ =>
            have h2 : VR ρ S (.pointer (some ⟨b, 0, none⟩)) a := ha.2 0 (by simp)
            rw [h2.ptr_inv.2, hat]
        subst harg
        have hcell : w.cell? ⟨(ρ b).block, 0, none⟩ = some p' := by simp [World.cell?, k1]
        split at hf2
        · simp only [Option.some.injEq, Prod.mk.injEq] at hf2
          obtain ⟨rfl, rfl⟩ := hf2
          obtain rfl := hp.eq_of_af0 rfl
          have hC : CallsIn Fence.wide nn P f #[.pointer (some ⟨(ρ b).block, 0, none⟩)] w _ := callsIn_wide.2 (hF (ρ b).block w hcell (by simp [World.shape?, k1]) (frozen_soft k1 (by rw [k3]; exact Nat.zero_lt_succ _)))
          refine hC.mono fun e2 w' hret => ?_
          obtain ⟨rfl, rfl⟩ := hret
          refine ⟨ρ, Moved.set hr hg rfl rfl rfl rfl rfl (by simp [World.setCell]) (fun k hk => ?_) ?_, VR.tuple' LR.nil⟩
          · simp only [World.setCell, Array.getElem?_modify]
            rw [if_neg (fun e0 => hk e0.symm)]
          refine ⟨[.pointer (some ⟨(ρ b).block, 0, none⟩), u'], ?_, k2, k3, k4, Nat.le_refl _, fun _ => rfl, fun i hi => ?_⟩
          · simp only [World.setCell, Array.getElem?_modify, if_pos rfl, k1]
            simp
          match i, hi with
          | 0, _ => show VR ρ S (.pointer (some ⟨b, 0, none⟩)) (.pointer (some ⟨(ρ b).block, 0, none⟩)); rw [← hat]; exact .ptr b 0 hsb
          | 1, _ => exact hu
        · rename_i b'
          obtain ⟨hbb, hf3⟩ := bif_some hf2
          obtain rfl := nbeq hbb
          simp only [Option.some.injEq, Prod.mk.injEq] at hf3
          obtain ⟨rfl, rfl⟩ := hf3
          have hp2 := hp.ptr_inv.2
          rw [hat] at hp2
          subst hp2
          have hC : CallsIn Fence.wide nn P f #[.pointer (some ⟨(ρ b').block, 0, none⟩)] w _ := callsIn_wide.2 (hU (ρ b').block w hcell)
          refine hC.mono fun e2 w' hret => ?_
          obtain ⟨rfl, rfl⟩ := hret
          exact ⟨ρ, Moved.same hr, VR.tuple' LR.nil⟩
        cases hf2
      cases hf
    cases hf
end Go.Fs
namespace Go.Fs
open Go.RowKit (Below)
variable {P : Program} {ops : Array Oper} {n : Nat}
def sameV : Value → Value → Bool
  | .int k a, .int k' b => decide (k = k') && decide (a = b)
  | .bool a, .bool b => decide (a = b)
  | _, _ => false
theorem sameV_eq {a b : Value} (h : sameV a b = true) : a = b := by
  unfold sameV at h
  split at h
  · obtain ⟨h1, h2⟩ := band h
    rw [of_decide_eq_true h1, of_decide_eq_true h2]
  · rw [of_decide_eq_true h]
  cases h
def sameL : List Value → List Value → Bool
  | [], [] => true
  | a :: r, b :: q => sameV a b && sameL r q
  | _, _ => false
theorem sameL_eq : ∀ {a b : List Value}, sameL a b = true → a = b
  | [], [], _ => rfl
  | [], _ :: _, h => by cases h
  | _ :: _, [], h => by cases h
  | a :: r, b :: q, h => by
    obtain ⟨h1, h2⟩ := band (h : (sameV a b && sameL r q) = true)
    rw [sameV_eq h1, sameL_eq h2]
def sameO : AObj → AObj → Bool
  | .row e cs o m, .row e' cs' o' m' => Nat.beq e e' && sameL cs cs' && decide (o = o') && decide (m = m')
  | _, _ => false
theorem sameO_eq {a b : AObj} (h : sameO a b = true) : a = b := by
  unfold sameO at h
  split at h
  · obtain ⟨h, h1⟩ := band h
    obtain ⟨h, h2⟩ := band h
    obtain ⟨h, h3⟩ := band h
    rw [nbeq h, sameL_eq h3, of_decide_eq_true h2, of_decide_eq_true h1]
  cases h
def okRd (rd : List (Nat × AObj)) (h : Heap) : Bool := rd.all fun p => match h.get p.1 with
  | some ob => sameO ob p.2
  | none => false
theorem stLook_mem {b : Nat} {ob : AObj} : ∀ {l : List (Nat × AObj)}, look l b = some ob → (b, ob) ∈ l
  | [], h => by cases h
  | (c, oc) :: r, h => by
    simp only [look] at h
    cases hc : Nat.beq c b with
    | true =>
      rw [hc] at h
      simp only [cond_true, Option.some.injEq] at h
      rw [nbeq hc, h]; exact List.mem_cons_self
    | false =>
      rw [hc] at h
      simp only [cond_false] at h
      exact List.mem_cons_of_mem _ (stLook_mem h)
theorem okRd_get {rd : List (Nat × AObj)} {h : Heap} (hk : okRd rd h = true) {b : Nat} {ob : AObj} (hl : look rd b = some ob) : h.get b = some ob := by
  have := List.all_eq_true.1 hk _ (stLook_mem hl)
  simp only at this
  split at this
  · rename_i o2 hg
    rw [hg, sameO_eq this]
  cases this
def stillR (P : Program) (rd : List (Nat × AObj)) (ops : Array Oper) (n : Nat) (o : Oper) (s : DSt) : Option DSt :=
  match fsWanted ops s.t o, o.op with
  | some true, .load T a =>
    match evalO s.t a with
    | .pointer (some p) =>
      match look rd p.block with
      | some ob =>
        match fsLoad P T (evalO s.t a) { next := s.h.next, low := s.h.next, objs := [(p.block, ob)] } with
        | some v => (put n s.t o.dst v).map fun t => { s with t, bs := s.bs ++ [beforeOf s.bs o] }
        | none => none
      | none => none
    | _ => none
  | _, _ => none
def fsDrawnY (P : Program) (rd : List (Nat × AObj)) (step : Oper → (Operand → Value) → Heap → Option (Value × Heap)) (ops : Array Oper) (n : Nat) : List Oper → Nat → DSt → Option DSt
  | [], _, s => bif okRd rd s.h then some s else none
  | o :: r, i, s => bif okRd rd s.h then
      match fsDraw step ops n o i s with
      | some s' => fsDrawnY P rd step ops n r (i + 1) s'
      | none => match stillR P rd ops n o s with
        | some s' => fsDrawnY P rd step ops n r (i + 1) s'
        | none => none
    else none
def fsReads (P : Program) (h0 : Heap) (step : Oper → (Operand → Value) → Heap → Option (Value × Heap)) (ops : Array Oper) (n : Nat) : List Oper → Nat → DSt → List (Nat × AObj) → List (Nat × AObj)
  | [], _, _, l => l
  | o :: r, i, s, l => match fsDraw step ops n o i s with
    | some s' => fsReads P h0 step ops n r (i + 1) s' l
    | none => match stillO P h0 ops n o s with
      | some (s', b) => match h0.get (b - 1) with
        | some ob => fsReads P h0 step ops n r (i + 1) s' ((b - 1, ob) :: l)
        | none => l
      | none => l
def drawnY (P : Program) (h0 : Heap) (step : Oper → (Operand → Value) → Heap → Option (Value × Heap)) (ops : Array Oper) (n : Nat) (s : DSt) (rd : List (Nat × AObj)) : Option DSt :=
  bif rd.all fun p => Nat.blt p.1 h0.next then fsDrawnY P rd step ops n ops.toList 0 s else none

theorem stillR_of {call : FuncId → List Value → Heap → Option (Value × Heap)} {yield : Nat → List Value → Heap → Option (Value × Heap)} {X : Nat → AObj → Prop} {rd : List (Nat × AObj)} {o : Oper} {i : Nat} {s s' : DSt}
    (hf : stillR P rd ops n o s = some s') (hX : ∀ c ob, look rd c = some ob → X c ob) :
    s'.bs = s.bs ++ [beforeOf s.bs o] ∧ Did (fsOp P call yield) ops n X o i s s' := by
  unfold stillR at hf
  split at hf
  · rename_i T a hw hop
    split at hf
    · rename_i p hev
      split at hf
      · rename_i ob hg
        split at hf
        · rename_i v hv
          obtain ⟨t, h3, h4⟩ := Option.map_eq_some_iff.1 hf
          subst h4
          refine ⟨rfl, .still hw v [(p.block, ob)] (fun c oc hc => ?_) ?_ h3 rfl rfl rfl rfl⟩
          · simp only [look] at hc
            cases hbc : Nat.beq p.block c with
            | true =>
              rw [hbc] at hc
              simp only [cond_true, Option.some.injEq] at hc
              obtain rfl := nbeq hbc
              subst hc
              exact hX _ _ hg
            | false => rw [hbc] at hc; cases hc
          unfold fsOp
          rw [hop]
          simp only [hv, Option.map_some]
        cases hf
      cases hf
    cases hf
  cases hf
theorem drawnY_trace {call : FuncId → List Value → Heap → Option (Value × Heap)} {yield : Nat → List Value → Heap → Option (Value × Heap)} {rd : List (Nat × AObj)} : ∀ (l : List Oper) (i : Nat) (s s' : DSt), fsDrawnY P rd (fsOp P call yield) ops n l i s = some s' →
    ∃ st : Nat → DSt, st i = s ∧ st (i + l.length) = s' ∧ (∀ q, i ≤ q → q ≤ i + l.length → okRd rd (st q).h = true) ∧
    ∀ j o, l[j]? = some o → ∀ X : Nat → AObj → Prop, (∀ c ob, look rd c = some ob → X c ob) → (st (i + j + 1)).bs = (st (i + j)).bs ++ [beforeOf (st (i + j)).bs o] ∧ Did (fsOp P call yield) ops n X o (i + j) (st (i + j)) (st (i + j + 1))
  | [], i, s, s', h => by
    simp only [fsDrawnY] at h
    obtain ⟨h1, h2⟩ := bif_some h
    simp only [Option.some.injEq] at h2
    subst h2
    exact ⟨fun _ => s, rfl, rfl, fun _ _ _ => h1, fun j o hj => by simp at hj⟩
  | o :: l, i, s, s', h => by
    simp only [fsDrawnY] at h
    obtain ⟨hok, h⟩ := bif_some h
    have key : ∀ s1, fsDrawnY P rd (fsOp P call yield) ops n l (i + 1) s1 = some s' →
        (∀ X : Nat → AObj → Prop, (∀ c ob, look rd c = some ob → X c ob) → s1.bs = s.bs ++ [beforeOf s.bs o] ∧ Did (fsOp P call yield) ops n X o i s s1) →
      ∃ st : Nat → DSt, st i = s ∧ st (i + (o :: l).length) = s' ∧ (∀ q, i ≤ q → q ≤ i + (o :: l).length → okRd rd (st q).h = true) ∧
        ∀ j o', (o :: l)[j]? = some o' → ∀ X : Nat → AObj → Prop, (∀ c ob, look rd c = some ob → X c ob) → (st (i + j + 1)).bs = (st (i + j)).bs ++ [beforeOf (st (i + j)).bs o'] ∧ Did (fsOp P call yield) ops n X o' (i + j) (st (i + j)) (st (i + j + 1)) := fun s1 hr hd => by
      obtain ⟨st, h1, h2, hq, h3⟩ := drawnY_trace l (i + 1) s1 s' hr
      refine ⟨fun k => if k = i then s else st k, by simp, ?_, fun q hq1 hq2 => ?_, fun j o' hj X hX => ?_⟩
      · simp only [List.length_cons]
        rw [if_neg (by omega), ← h2]
        congr 1; omega
      · rw [List.length_cons] at hq2
        by_cases e : q = i
        · subst e; simpa using hok
        simp only [if_neg e]; exact hq q (by omega) (by omega)
      cases j with
      | zero =>
        simp at hj
        subst hj
        simpa [h1] using hd X hX
      | succ j =>
        simp only [List.getElem?_cons_succ] at hj
        have := h3 j o' hj X hX
        rw [show i + 1 + j = i + (j + 1) by omega] at this
        simp only
        rw [if_neg (by omega), if_neg (by omega)]
        exact this
    split at h
    · rename_i s1 hs1
      exact key s1 h fun X _ => did_of hs1
    split at h
    · rename_i s1 hs1
      exact key s1 h fun X hX => stillR_of hs1 hX
    cases h
theorem traceY_of {call : FuncId → List Value → Heap → Option (Value × Heap)} {yield : Nat → List Value → Heap → Option (Value × Heap)} {t0 : Tr} {h0 : Heap} {s : DSt} {rd : List (Nat × AObj)} (h : drawnY P h0 (fsOp P call yield) ops n ⟨t0, h0, [], [], 0, false⟩ rd = some s) : ∃ st, Trace (fsOp P call yield) ops n st t0 h0 ∧ st ops.size = s := by
  unfold drawnY at h
  obtain ⟨hb, h⟩ := bif_some h
  obtain ⟨st, h1, h2, hq, h3⟩ := drawnY_trace _ _ _ _ h
  have h2' : st ops.size = s := by simpa using h2
  refine ⟨st, ⟨h1, fun i o ho => ?_⟩, h2'⟩
  have := h3 i o (by simpa using ho) (fun b ob => h0.get b = some ob ∧ b < h0.next ∧ (b < (st ops.size).h.low ∨ ∀ q, q ≤ ops.size → (st q).h.get b = some ob)) (fun c ob hc => ?_)
  · simpa only [Nat.zero_add] using this
  have hall : ∀ q, q ≤ ops.size → (st q).h.get c = some ob := fun q hq2 => okRd_get (hq q (Nat.zero_le _) (by simpa using hq2)) hc
  have h0 := hall 0 (Nat.zero_le _)
  rw [h1] at h0
  exact ⟨h0, nblt (List.all_eq_true.1 hb _ (stLook_mem hc)), .inr hall⟩
variable {B : Nat} {w0 : World} {S : Nat → Prop} {ρ0 : Ren} {call : FuncId → List Value → Heap → Option (Value × Heap)} {yield : Nat → List Value → Heap → Option (Value × Heap)} {t0 : Tr} {h0 : Heap}
theorem drawn_wpY (hcs : CallSnd P B w0 call) (hys : YieldSound P B w0 yield) (hok : regionOk ops = true) {s : DSt} {rd : List (Nat × AObj)} (hf : drawnY P h0 (fsOp P call yield) ops n ⟨t0, h0, [], [], 0, false⟩ rd = some s)
    {w : World} {a : Act} (hr : HR P ρ0 S B w0 h0 w) (ht : TrR ρ0 S t0 n a.tmps) {r : Option Nat} {nn : Nat} {Q : Exit → Act → World → Prop}
    (k : ∀ ρ' w' a', Moved P B w0 ρ0 ρ' S h0 s.h w w' → TrR ρ' (Ext S h0 s.h) s.t n a'.tmps → a'.defers = a.defers → Q .normal a' w') (t : Nat) :
    wpOpsIn (Wide r) nn P ops Q (Region.schedule true ops t) a w := drawn_wpT hcs hys hok (traceY_of hf) hr ht k t
end Go.Fs
namespace Go.Fs
open Go.RowKit (Below)
variable {P : Program} {B : Nat} {w0 : World}

def fsStepX (P : Program) (orc : FuncId → List Value → Heap → Option (Value × Heap)) (rec : Rec) : Rec := fun rnd c fr h =>
  match c with
  | .region _ ops true => match drawnX P { next := h.next, low := h.next, objs := h.objs } (fsOp P (callOf P orc rec) (fsYield rec)) ops fr.n ⟨fr.t, { next := h.next, low := h.next, objs := h.objs }, [], [], 0, false⟩ with
    | some s => some (.normal, { t := s.t, n := fr.n, marks := fr.marks }, { next := s.h.next, low := min h.low s.h.low, objs := s.h.objs })
    | none => match drawnY P { next := h.next, low := h.next, objs := h.objs } (fsOp P (callOf P orc rec) (fsYield rec)) ops fr.n ⟨fr.t, { next := h.next, low := h.next, objs := h.objs }, [], [], 0, false⟩ (fsReads P { next := h.next, low := h.next, objs := h.objs } (fsOp P (callOf P orc rec) (fsYield rec)) ops fr.n ops.toList 0 ⟨fr.t, { next := h.next, low := h.next, objs := h.objs }, [], [], 0, false⟩ []) with
      | some s => some (.normal, { t := s.t, n := fr.n, marks := fr.marks }, { next := s.h.next, low := min h.low s.h.low, objs := s.h.objs })
      | none => fsStep P orc rec rnd c fr h
  | c => fsStep P orc rec rnd c fr h
def fsCodeX (P : Program) (orc : FuncId → List Value → Heap → Option (Value × Heap)) : Nat → Rec
  | 0 => fun _ _ _ _ => none
  | n + 1 => fsStepX P orc (fsCodeX P orc n)

theorem HR.low {ρ : Ren} {S : Nat → Prop} {h : Heap} {w : World} (hr : HR P ρ S B w0 h w) (l : Nat) : HR P ρ S B w0 { next := h.next, low := l, objs := h.objs } w :=
  { objs := hr.objs, inj := hr.inj, base := hr.base, ro := hr.ro, ids := hr.ids, pos := hr.pos, below := hr.below, drawn := hr.drawn, size := hr.size }
theorem Moved.lowered {ρ ρ' : Ren} {S : Nat → Prop} {h h' : Heap} {w w' : World} {l : Nat} (m : Moved P B w0 ρ ρ' S { next := h.next, low := l, objs := h.objs } h' w w') :
    Moved P B w0 ρ ρ' S h { next := h'.next, low := min h.low h'.low, objs := h'.objs } w w' where
  agree := m.agree
  next := m.next
  hr := m.hr.low _
  frame := ⟨m.frame.os, m.frame.tape, m.frame.output, m.frame.size, m.frame.block⟩
  low := Nat.min_le_left _ _
  keep := fun i hi hl => m.keep i hi (Nat.lt_of_lt_of_le hl (Nat.min_le_right _ _))
  old := m.old
  fresh := fun i o ho hi => by
    obtain ⟨h1, h2⟩ := m.fresh i o ho hi
    refine ⟨h1, ?_⟩
    rcases h2 with h2 | ⟨j, oj, h3, h4, h5, h6, h7⟩
    · exact .inl h2
    exact .inr ⟨j, oj, h3, h4, h5, Nat.le_trans (Nat.min_le_right _ _) h6, h7⟩
theorem stepX_sound (hP : ProgOk P) {orc : FuncId → List Value → Heap → Option (Value × Heap)} (horc : CallSound P B w0 orc) {m : Nat} {rec : Rec} (hrec : SoundR P B w0 m rec) : SoundR P B w0 (m + 1) (fsStepX P orc rec) := by
  have hcs : CallSnd P B w0 (callOf P orc rec) := call_sound hP horc hrec
  have hys : YieldSound P B w0 (fsYield rec) := yield_sound hrec
  have hold := step_sound hP horc hrec
  intro rnd c fr h e fr' h' hok hf
  cases c with
  | region id ops draw =>
    cases draw with
    | false => exact hold rnd _ fr h e fr' h' hok hf
    | true =>
      intro ρ S w a nn Q hr ht hm hs k
      simp only [fsStepX] at hf
      split at hf
      · rename_i s hrun
        simp only [Option.some.injEq, Prod.mk.injEq] at hf
        obtain ⟨rfl, rfl, rfl⟩ := hf
        refine wpIn_region_draw fun t => ?_
        rw [hP.mixed]
        exact drawn_wpX (h0 := { next := h.next, low := h.next, objs := h.objs }) (call := callOf P orc rec) (yield := fsYield rec) hcs hys hok hrun ((hr.drew _).low _) ht (fun ρ1 w1 a1 m1 ht1 hd1 => k _ _ _ ⟨(Moved.ofDrew m1).lowered, ht1, by rw [hd1]; exact hm.mono fun b hb => ⟨.inl hb, m1.agree b hb⟩⟩) t
      split at hf
      · rename_i s hrun
        simp only [Option.some.injEq, Prod.mk.injEq] at hf
        obtain ⟨rfl, rfl, rfl⟩ := hf
        refine wpIn_region_draw fun t => ?_
        rw [hP.mixed]
        exact drawn_wpY (h0 := { next := h.next, low := h.next, objs := h.objs }) (call := callOf P orc rec) (yield := fsYield rec) hcs hys hok hrun ((hr.drew _).low _) ht (fun ρ1 w1 a1 m1 ht1 hd1 => k _ _ _ ⟨(Moved.ofDrew m1).lowered, ht1, by rw [hd1]; exact hm.mono fun b hb => ⟨.inl hb, m1.agree b hb⟩⟩) t
      exact hold rnd _ fr h e fr' h' hok hf ρ S w a nn Q hr ht hm hs k
  | _ => exact hold rnd _ fr h e fr' h' hok hf

theorem codeX_sound (hP : ProgOk P) {orc : FuncId → List Value → Heap → Option (Value × Heap)} (horc : CallSound P B w0 orc) : ∀ m, SoundR P B w0 m (fsCodeX P orc m)
  | 0 => fun rnd c fr h e fr' h' _ hf => by cases hf
  | m + 1 => stepX_sound hP horc (codeX_sound hP horc m)
theorem fsX_calls (hP : ProgOk P) {orc : FuncId → List Value → Heap → Option (Value × Heap)} (horc : CallSound P B w0 orc) (m : Nat) : CallSound P B w0 (fsEnter P (fsCodeX P orc m)) := enter_sound hP (codeX_sound hP horc m)
theorem fsX_closed (hP : ProgOk P) {w : World} {orc : FuncId → List Value → Heap → Option (Value × Heap)} (horc : CallSound P w.heap.size (wz w) orc) {m : Nat} {f : FuncId} {args : List Value} {v : Value} (ha : args.all af = true)
    (hf : (fsEnter P (fsCodeX P orc m) f args ⟨1, 1, []⟩).map (·.1) = some v) (hv : af v = true) :
    Calls P f args.toArray w fun | .returned v', w' => v' = v ∧ Below w.heap.size w w' | _, _ => False := by
  obtain ⟨⟨v0, h0⟩, h1, h2⟩ := Option.map_eq_some_iff.1 hf
  simp only at h2
  subst h2
  have hr : HR P (fun _ => Loc.clean 0 0 0 0) (fun _ => False) w.heap.size (wz w) ⟨1, 1, []⟩ w :=
    { objs := fun i o hi => (by cases hi), inj := fun i j oi oj hi => (by cases hi), base := fun i o hi => (by cases hi), ro := fun i o hi => (by cases hi), ids := fun b hb => hb.elim, pos := by decide,
      below := z_below (Below.refl _ _), drawn := Nat.zero_le _, size := Nat.le_refl _ }
  have hc := ((fsX_calls hP horc m) f args _ _ _ h1).2 _ _ w args hr ⟨rfl, fun i hi => .of_af (List.all_eq_true.1 ha _ (mem_getD hi))⟩ 0
  refine Calls.mono (callsIn_wide.1 hc) fun e w' he => ?_
  cases e with
  | returned v' =>
    obtain ⟨ρ', m1, hv1⟩ := he
    exact ⟨hv1.eq_of_af hv, below_z m1.hr.below⟩
  | panicked c => exact he.elim
  | outgrown => exact he.elim
theorem awakeX_calls (hP : ProgOk P) {B : Nat} {w0 : World} {O : FuncId → List Value → Heap → Option (Value × Heap)} {fa : FuncId} (hS : ∀ w, Below B w0 w → CallSound P w.heap.size (wz w) O) {m : Nat}
    (hrun : (fsEnter P (fsCodeX P O m) fa [] ⟨1, 1, []⟩).map (·.1) = some (.bool true)) (w : World) (hw : Below B w0 w) :
    Calls P fa #[] w fun | .returned v', w' => v' = .bool true ∧ Below w.heap.size w w' | _, _ => False :=
  fsX_closed hP (hS w hw) (args := []) rfl hrun rfl
end Go.Fs
namespace Go.Fs
variable {P : Program} {orc : FuncId → List Value → Heap → Option (Value × Heap)}
def runPre (P : Program) (orc : FuncId → List Value → Heap → Option (Value × Heap)) : Nat → Nat → Code → Fr → Heap → Option (Nat × Code × Fr × Heap)
  | 0, n, c, fr, h => some (n, c, fr, h)
  | k + 1, n, c, fr, h => match n, c with
    | n + 1, .seq a b => match fsCodeX P orc n none a fr h with
      | some (.normal, fr1, h1) => runPre P orc k n b fr1 h1
      | _ => none
    | _, _ => none
theorem run_via : ∀ {k n : Nat} {c : Code} {fr : Fr} {h : Heap} {n' : Nat} {c' : Code} {fr' : Fr} {h' : Heap}, runPre P orc k n c fr h = some (n', c', fr', h') → fsCodeX P orc n none c fr h = fsCodeX P orc n' none c' fr' h'
  | 0, n, c, fr, h, n', c', fr', h', hr => by
    simp only [runPre, Option.some.injEq, Prod.mk.injEq] at hr
    obtain ⟨rfl, rfl, rfl, rfl⟩ := hr
    rfl
  | k + 1, n, c, fr, h, n', c', fr', h', hr => by
    simp only [runPre] at hr
    split at hr
    · rename_i n a b
      split at hr
      · rename_i fr1 h1 ha
        rw [← run_via hr]
        show fsStep P orc (fsCodeX P orc n) none (.seq a b) fr h = _
        simp only [fsStep, ha]
      cases hr
    cases hr
def endV (P : Program) (fn : Func) (h : Heap) (x : Ex × Fr × Heap) : Option Value :=
  bif x.1.goes then
    match dropMarks x.2.1.marks x.2.2 with
    | some h2 => (fsResults P x.2.1.t h2 fn.results.toList).map tupled
    | none => none
  else none
theorem enter_map {rec : Rec} {f : FuncId} {args : List Value} {h : Heap} {fn : Func} {c : Code} (hf : P.funcs[f]? = some fn) (hc : fn.body = some c) (hn : (Nat.blt 4000 fn.ntmps || Nat.blt fn.ntmps args.length) = false) :
    (fsEnter P rec f args h).map (·.1) = (rec none c ⟨fillTr .leaf 0 args, fn.ntmps, []⟩ { next := h.next, low := h.next, objs := h.objs }).bind (endV P fn h) := by
  unfold fsEnter fsEnterK endV
  simp only [hf, hc, hn, cond_false]
  cases rec none c ⟨fillTr .leaf 0 args, fn.ntmps, []⟩ { next := h.next, low := h.next, objs := h.objs } with
  | none => rfl
  | some x =>
    obtain ⟨e, fr, h1⟩ := x
    simp only [Option.bind_some]
    cases e.goes with
    | false => rfl
    | true =>
      simp only [cond_true]
      cases dropMarks fr.marks h1 with
      | none => rfl
      | some h2 =>
        simp only
        cases fsResults P fr.t h2 fn.results.toList with
        | none => rfl
        | some vs =>
          simp only [Option.map_some]
          generalize (!false && (af (tupled vs) && Nat.ble h.next h2.low)) = q
          cases q <;> rfl
def sufx : Nat → Code → Code
  | 0, c => c
  | k + 1, .seq _ b => sufx k b
  | _ + 1, c => c
def rfOf : Code → Option (Array Tmp × Code × Code)
  | .rangeFunc _ ps a b => some (ps, a, b)
  | .seq a b => (rfOf a).or (rfOf b)
  | .cond _ a b => (rfOf a).or (rfOf b)
  | .block _ b => rfOf b
  | .loop b => rfOf b
  | .scope b => rfOf b
  | _ => none
def rfIn (fn : Func) : Array Tmp × Code × Code := (fn.body.bind rfOf).getD (#[], .skip, .skip)
end Go.Fs
namespace Go.Fs
open Go.RowKit (Below)

variable {P : Program} {B : Nat} {w0 : World}
theorem orcI_sound {fi : FuncId} (hz : w0.drawn = 0) (hi : Enters P fi)
    (hI : ∀ (n : Int) (w : World), Below B w0 w → -9223372036854775808 ≤ n → n ≤ 9223372036854775807 → Calls P fi #[.int .i64 n] w fun e w' => e = .returned (.string ⟨(Lib.itoa n).toArray⟩) ∧ Below w.heap.size w w') : CallSound P B w0 (orcS fi fi) := by
  intro f xs h v h' hf
  unfold orcS at hf
  cases hfi : Nat.beq f fi with
  | true =>
    have := nbeq hfi
    subst this
    rw [hfi] at hf
    simp only [cond_true] at hf
    split at hf
    · rename_i n
      obtain ⟨hc, hf2⟩ := bif_some hf
      obtain ⟨h0, h1⟩ := band hc
      have h0 := of_decide_eq_true h0
      have h1 := of_decide_eq_true h1
      simp only [Option.some.injEq, Prod.mk.injEq] at hf2
      obtain ⟨rfl, rfl⟩ := hf2
      refine ⟨hi, fun ρ S w args' hr ha nn => ?_⟩
      have he : args' = [.int .i64 n] := ha.eq_of_af (by rfl)
      subst he
      have hC : CallsIn Fence.wide nn P f #[.int .i64 n] w _ := callsIn_wide.2 (hI n w hr.below (by omega) (by omega))
      refine hC.mono fun e w' hret => ?_
      obtain ⟨rfl, hb⟩ := hret
      exact ⟨ρ, Moved.grewWorld hr hb (by rw [hz]; exact Nat.zero_le _), by rw [itoaF_eq h0 h1]; exact .lit rfl⟩
    cases hf
  | false =>
    rw [hfi] at hf
    simp only [cond_false] at hf
    cases hf
end Go.Fs
