/- Parts of the proof: an evaluator of the model, what it is sound for, and contracts of functions. No condition. -/
import Derived.Test.YtligdjefbiebjaaGreatDoorP6
import Derived.Test.YtligdjefbiebjaaGreatDoorP3
set_option linter.all false
namespace Go.Proofs
open Go.Fs Go.Sort
set_option linter.unusedVariables false
theorem perm_mid {α : Type} {a b c d : List α} : (a ++ b ++ (c ++ d)).Perm ((a ++ c) ++ (b ++ d)) := by
  have h : (b ++ (c ++ d)).Perm (c ++ (b ++ d)) := by
    rw [← List.append_assoc, ← List.append_assoc]
    exact List.Perm.append_right d List.perm_append_comm
  rw [List.append_assoc, List.append_assoc]
  exact List.Perm.append_left a h
theorem clR_next {l : List Permit} {n : Nat} : ∀ {i : Nat}, i ≤ n → (clR l (n + 1) i).Perm (clR l n i ++ clRow l n i)
  | 0, _ => List.Perm.refl _
  | i + 1, h => by
    have ih := clR_next (l := l) (n := n) (i := i) (by omega)
    rw [clR_succ, clR_succ, clRow_succ, show n + 1 - (i + 1) = (n - (i + 1)) + 1 by omega, clUp_succ, show i + 1 + (n - (i + 1)) = n by omega]
    exact (List.Perm.append_right _ ih).trans perm_mid
theorem clP_perm {l : List Permit} : ∀ {n : Nat}, (clP l n).Perm (clR l n n)
  | 0 => List.Perm.refl _
  | n + 1 => by
    have ih := clP_perm (l := l) (n := n)
    have h1 := clR_next (l := l) (n := n) (i := n) (Nat.le_refl _)
    have h2 : clR l (n + 1) (n + 1) = clR l (n + 1) n := by rw [clR_succ, show n + 1 - (n + 1) = 0 by omega]; exact List.append_nil _
    rw [clP_succ, h2]
    exact (List.Perm.append_right _ ih).trans h1.symm
theorem clsAt_mem {l : List Permit} {a b : Nat} {x : Clsh} (h : x ∈ clsAt l a b) : x = ((a : Int), (b : Int), clsN l a b) := by
  unfold clsAt at h
  split at h
  · cases h
  simpa using h
theorem clUp_mem {l : List Permit} {i d : Nat} {x : Clsh} (h : x ∈ clUp l i d) : ∃ b : Nat, b < i + 1 + d ∧ x = ((i : Int), (b : Int), clsN l i b) := by
  unfold clUp at h
  obtain ⟨c, h1, h2⟩ := List.mem_flatMap.1 h
  exact ⟨i + 1 + c, by have := List.mem_range.1 h1; omega, clsAt_mem h2⟩
theorem clR_mem {l : List Permit} {n i : Nat} {x : Clsh} (h : x ∈ clR l n i) : ∃ a b : Nat, a < i ∧ x = ((a : Int), (b : Int), clsN l a b) := by
  unfold clR at h
  obtain ⟨c, h1, h2⟩ := List.mem_flatMap.1 h
  obtain ⟨b, _, h3⟩ := clUp_mem h2
  exact ⟨c, b, List.mem_range.1 h1, h3⟩
def leC (x y : Clsh) : Prop := ltOf cmpC y x = false
theorem leC_of {x y : Clsh} (h : x.1 < y.1 ∨ (x.1 = y.1 ∧ x.2.1 < y.2.1)) : leC x y := by
  unfold leC
  rw [ltC, decide_eq_false_iff_not]
  omega
theorem clUp_asc {l : List Permit} {i : Nat} : ∀ {d : Nat}, (clUp l i d).Pairwise leC
  | 0 => List.Pairwise.nil
  | d + 1 => by
    rw [clUp_succ, List.pairwise_append]
    refine ⟨clUp_asc, ?_, fun x hx y hy => ?_⟩
    · unfold clsAt; split <;> simp
    obtain ⟨b, hb, rfl⟩ := clUp_mem hx
    obtain rfl := clsAt_mem hy
    refine leC_of (.inr ⟨rfl, ?_⟩)
    show (b : Int) < ((i + 1 + d : Nat) : Int)
    omega
theorem clR_asc {l : List Permit} {n : Nat} : ∀ {i : Nat}, (clR l n i).Pairwise leC
  | 0 => List.Pairwise.nil
  | i + 1 => by
    rw [clR_succ, List.pairwise_append]
    refine ⟨clR_asc, clUp_asc, fun x hx y hy => ?_⟩
    obtain ⟨a, b, ha, rfl⟩ := clR_mem hx
    obtain ⟨c, _, rfl⟩ := clUp_mem hy
    refine leC_of (.inl ?_)
    show (a : Int) < (i : Int)
    omega
theorem clash_sort {l : List Permit} {n : Nat} : sortC (clP l n) = clR l n n := by
  have hp := (sortC_perm (clP l n)).trans clP_perm
  refine List.Perm.eq_of_pairwise (le := leC) (fun a b ha hb h1 h2 => ?_) (sortC_sorted _) clR_asc hp
  obtain ⟨a1, a2, _, rfl⟩ := clR_mem (hp.subset ha)
  obtain ⟨b1, b2, _, rfl⟩ := clR_mem hb
  unfold leC at h1 h2
  rw [ltC, decide_eq_false_iff_not] at h1 h2
  have h1 : ¬ ((b1 : Int) < a1 ∨ ((b1 : Int) = a1 ∧ (b2 : Int) < a2)) := h1
  have h2 : ¬ ((a1 : Int) < b1 ∨ ((a1 : Int) = b1 ∧ (a2 : Int) < b2)) := h2
  obtain rfl : a1 = b1 := by omega
  obtain rfl : a2 = b2 := by omega
  rfl
end Go.Proofs
namespace Go.Proofs
open Go.Fs
set_option linter.unusedVariables false
set_option maxHeartbeats 2000000

theorem clash_len {l : List Permit} (h : l.length ≤ 65) : (if permsE l = 0 then sortC (clP l l.length) else []).length < 100000 := by
  split
  · rw [sortC_len]
    have h1 := clP_len (l := l) (k := l.length) (n := l.length) (Nat.le_refl _)
    have h2 : l.length * l.length ≤ 65 * 65 := Nat.mul_le_mul h h
    omega
  exact Nat.zero_lt_succ _
theorem clashR_len {l : List Permit} (h : l.length ≤ 65) : (clR l l.length l.length).length < 1000000 := by
  have h1 := clR_len (l := l) (i := l.length) (n := l.length)
  have h2 : l.length * l.length ≤ 65 * 65 := Nat.mul_le_mul h h
  omega
theorem ite_len {α : Type} {c : Prop} [Decidable c] {l : List α} {n : Nat} (h : l.length < n + 1) : (if c then l else []).length < n + 1 := by
  split
  · exact h
  exact Nat.zero_lt_succ _
theorem clash_t {l : List Permit} (h : permsE l = 0) : (if permsE l = 0 then sortC (clP l l.length) else []) = clR l l.length l.length := by rw [if_pos h, clash_sort]
theorem busyC_t {l : List Permit} (h : permsE l = 0) : busyC l = whenE (decide ((l.length : Int) = 0)) 12 := by
  unfold busyC
  rw [h]
  by_cases h2 : (l.length : Int) = 0
  · rw [decide_eq_true h2] <;> rfl
  rw [decide_eq_false h2] <;> rfl
theorem busyC_f {l : List Permit} (h : ¬ permsE l = 0) : busyC l = permsE l := by
  unfold busyC
  exact if_neg h
theorem busy_1 {l : List Permit} (h : permsE l = 0) : (if busyC l = 0 then (busyE l l.length).1 else 0) = (busyE l l.length).1 := by
  rw [busyC_t h]
  by_cases h2 : (l.length : Int) = 0
  · have : l = [] := List.length_eq_zero_iff.1 (by omega)
    subst this; rfl
  rw [decide_eq_false h2] <;> rfl
theorem busy_2 {l : List Permit} (h : permsE l = 0) : (if busyC l = 0 then (busyE l l.length).2 else 0) = (busyE l l.length).2 := by
  rw [busyC_t h]
  by_cases h2 : (l.length : Int) = 0
  · have : l = [] := List.length_eq_zero_iff.1 (by omega)
    subst this; rfl
  rw [decide_eq_false h2] <;> rfl
theorem busy_0 {l : List Permit} (h : ¬ permsE l = 0) {x : Int} : (if busyC l = 0 then x else 0) = 0 := by rw [busyC_f h, if_neg h]
theorem law12_ok {l : List (ByteArray × ByteArray × ByteArray × (List ByteArray) × (Int × Int))} {t : Int} : VF Tryz.prog OA 12 [.v y22 l, I t] (B true) := by
  refine VF.enter Tryz.func12 rfl (fun _ _ => rfl) rfl ?_
  show VC _ _ _ _ _ [(0, .v y22 l), (1, I t)] [] _
  refine VC.seq (VC.text ?_)
  refine VO.c (.assign rfl) ?_
  refine VO.go (VC.seq (VC.seq (VC.text ?_)))
  refine VO.c (.move rfl) ?_
  refine VO.call rfl rfl (VF.call (rShortP_ok )) ?_
  refine VO.c (.not) ?_
  refine VO.go ?_
  refine VC.condB rfl (fun c1 => ?_) (fun c1 => ?_)
  · try simp only [Bool.and_eq_true, Bool.or_eq_true, Bool.and_eq_false_iff, Bool.or_eq_false_iff, Bool.not_eq_true', Bool.not_eq_false', decide_eq_true_eq, decide_eq_false_iff_not] at c1
    refine VC.seq (VC.text ?_)
    refine VO.call rfl rfl (VF.call (awakeC_ok )) ?_
    refine VO.c (.assign rfl) ?_
    refine VO.go ?_
    refine VC.ret ?_
    exact VEnd.one rfl evT (pvE (by first | (rw [clash_t c12, busy_1 c12, busy_2 c12, busyC_t c12, if_pos c15, if_pos c15]; simp) | (rw [clash_t c12, busy_1 c12, busy_2 c12, busyC_t c12, if_neg c15, if_neg c15]; simp) | (rw [if_neg c12, busy_0 c12, busy_0 c12, busyC_f c12, if_pos c15, if_pos c15]; simp) | (rw [if_neg c12, busy_0 c12, busy_0 c12, busyC_f c12, if_neg c15, if_neg c15]; simp) | rfl))
  try simp only [Bool.and_eq_true, Bool.or_eq_true, Bool.and_eq_false_iff, Bool.or_eq_false_iff, Bool.not_eq_true', Bool.not_eq_false', decide_eq_true_eq, decide_eq_false_iff_not] at c1
  have hs := shortPs_ok c1
  have hl := hs.1
  have h9 : Few9 l := hs.2
  have hk : PermOk l := few_ok h9
  have hc1 := clash_len hl
  have hr1 := clashR_len hl
  have hox := outE_len (l := l) (t := t)
  have hlx := locked_len (t := t) h9
  have ho2 : (outE l t).length < 1000000 := by omega
  have hk2 : (lockedE l t).length < 1000000 := by omega
  have ho1 : (if firstE [permsE l, rangeE t 0 100000] = 0 then outE l t else []).length < 1000000 := ite_len ho2
  have hk1 : (if firstE [permsE l, rangeE t 0 100000] = 0 then lockedE l t else []).length < 1000000 := ite_len hk2
  refine VC.skip (VC.seq (VC.text ?_))
  refine VO.c (.move rfl) ?_
  refine VO.call rfl rfl (VF.call (lPermits_ok (by first | assumption | omega | simp) (by first | assumption | omega | simp))) ?_
  refine VO.call rfl rfl (VF.call (sClashes_ok (by first | assumption | omega | simp) (by first | assumption | omega | simp))) ?_
  refine VO.c (.move rfl) ?_
  refine VO.c (.extract) ?_
  refine VO.c (.extract) ?_
  refine VO.c (.assign rfl) ?_
  refine VO.c (.assign rfl) ?_
  refine VO.go (VC.seq (VC.text ?_))
  refine VO.c (.move rfl) ?_
  refine VO.call rfl rfl (VF.call (lPermits_ok (by first | assumption | omega | simp) (by first | assumption | omega | simp))) ?_
  refine VO.c (.move rfl) ?_
  refine VO.call rfl rfl (VF.call (sOutT_ok (by first | assumption | omega | simp) (by first | assumption | omega | simp))) ?_
  refine VO.c (.move rfl) ?_
  refine VO.c (.extract) ?_
  refine VO.c (.extract) ?_
  refine VO.c (.assign rfl) ?_
  refine VO.c (.assign rfl) ?_
  refine VO.go (VC.seq (VC.text ?_))
  refine VO.c (.move rfl) ?_
  refine VO.call rfl rfl (VF.call (lPermits_ok (by first | assumption | omega | simp) (by first | assumption | omega | simp))) ?_
  refine VO.c (.move rfl) ?_
  refine VO.call rfl rfl (VF.call (sLockedT_ok (by first | assumption | omega | simp) (by first | assumption | omega | simp))) ?_
  refine VO.c (.move rfl) ?_
  refine VO.c (.extract) ?_
  refine VO.c (.extract) ?_
  refine VO.c (.assign rfl) ?_
  refine VO.c (.assign rfl) ?_
  refine VO.go (VC.seq (VC.text ?_))
  refine VO.c (.move rfl) ?_
  refine VO.call rfl rfl (VF.call (lPermits_ok (by first | assumption | omega | simp) (by first | assumption | omega | simp))) ?_
  refine VO.call rfl rfl (VF.call (sBusy_ok (by first | assumption | omega | simp) (by first | assumption | omega | simp))) ?_
  refine VO.c (.move rfl) ?_
  refine VO.c (.extract) ?_
  refine VO.c (.extract) ?_
  refine VO.c (.extract) ?_
  refine VO.c (.assign rfl) ?_
  refine VO.c (.assign rfl) ?_
  refine VO.c (.assign rfl) ?_
  refine VO.go (VC.seq ?_)
  refine VC.keep [(0, .v y22 l), (1, I t), (5, .v y110 (if permsE l = 0 then sortC (clP l l.length) else [])), (6, I (permsE l)), (7, .v (.sl .str) (if firstE [permsE l, rangeE t 0 100000] = 0 then outE l t else [])), (8, I (firstE [permsE l, rangeE t 0 100000])), (9, .v (.sl .str) (if firstE [permsE l, rangeE t 0 100000] = 0 then lockedE l t else [])), (10, I (firstE [permsE l, rangeE t 0 100000])), (11, I (if busyC l = 0 then (busyE l l.length).1 else 0)), (12, I (if busyC l = 0 then (busyE l l.length).2 else 0)), (13, I (busyC l))] ⟨rfl, rfl, rfl, rfl, rfl, rfl, rfl, rfl, rfl, rfl, rfl, trivial⟩ ?_
  refine VC.text ?_
  refine VO.c (.move rfl) ?_
  refine VO.call rfl rfl (VF.call (rPermits_ok (by first | assumption | omega | simp) (by first | assumption | omega | simp))) ?_
  refine VO.c (.assign rfl) ?_
  refine VO.go (VC.seq (VC.text ?_))
  refine VO.c (.move rfl) ?_
  refine VO.c (.move rfl) ?_
  refine VO.call rfl rfl (VF.call (rCheckTick_ok )) ?_
  refine VO.new (.lit [permsE l, rangeE t 0 100000] el39) ?_
  refine VO.call rfl rfl (VF.call (rFirst_ok (by first | assumption | omega | simp))) ?_
  refine VO.c (.move rfl) ?_
  refine VO.c (.assign rfl) ?_
  refine VO.c (.assign rfl) ?_
  refine VO.go (VC.seq (VC.text ?_))
  refine VO.c (.assign rfl) ?_
  refine VO.go (VC.seq (VC.text ?_))
  refine VO.c (.assign rfl) ?_
  refine VO.c (.assign rfl) ?_
  refine VO.go (VC.seq (VC.text ?_))
  refine VO.c (.assign rfl) ?_
  refine VO.c (.assign rfl) ?_
  refine VO.go (VC.seq (VC.seq (VC.text ?_)))
  refine VO.c (.move rfl) ?_
  refine VO.c (.eql) ?_
  refine VO.go ?_
  refine VC.condD rfl (fun c12 => ?_) (fun c12 => ?_)
  · have hv := permsV c12
    refine VC.seq (VC.text ?_)
    refine VO.c (.move rfl) ?_
    refine VO.call rfl rfl (VF.call (rClashes_ok (by first | assumption | omega | simp) (by first | assumption | omega | simp) (by first | assumption | omega | simp))) ?_
    refine VO.c (.assign rfl) ?_
    refine VO.go (VC.text ?_)
    refine VO.c (.move rfl) ?_
    refine VO.call rfl rfl (VF.call (rBusy_ok (by first | assumption | omega | simp))) ?_
    refine VO.c (.move rfl) ?_
    refine VO.c (.extract) ?_
    refine VO.c (.extract) ?_
    refine VO.c (.extract) ?_
    refine VO.c (.assign rfl) ?_
    refine VO.c (.assign rfl) ?_
    refine VO.c (.assign rfl) ?_
    refine VO.go (VC.seq (VC.seq (VC.text ?_)))
    refine VO.c (.move rfl) ?_
    refine VO.c (.eql) ?_
    refine VO.go ?_
    refine VC.condD rfl (fun c15 => ?_) (fun c15 => ?_)
    · refine VC.keep [(0, .v y22 l), (1, I t), (5, .v y110 (if permsE l = 0 then sortC (clP l l.length) else [])), (6, I (permsE l)), (7, .v (.sl .str) (if firstE [permsE l, rangeE t 0 100000] = 0 then outE l t else [])), (8, I (firstE [permsE l, rangeE t 0 100000])), (9, .v (.sl .str) (if firstE [permsE l, rangeE t 0 100000] = 0 then lockedE l t else [])), (10, I (firstE [permsE l, rangeE t 0 100000])), (11, I (if busyC l = 0 then (busyE l l.length).1 else 0)), (12, I (if busyC l = 0 then (busyE l l.length).2 else 0)), (13, I (busyC l)), (14, I (permsE l)), (15, I (firstE [permsE l, rangeE t 0 100000])), (16, I (whenE (decide ((l.length : Int) = 0)) 12)), (17, .v y117 (clR l l.length l.length)), (20, I ((busyE l l.length).1)), (21, I ((busyE l l.length).2))] ⟨rfl, rfl, rfl, rfl, rfl, rfl, rfl, rfl, rfl, rfl, rfl, rfl, rfl, rfl, rfl, rfl, rfl, trivial⟩ ?_
      refine VC.text ?_
      refine VO.c (.move rfl) ?_
      refine VO.c (.move rfl) ?_
      refine VO.call rfl rfl (VF.call (rOut_ok (by first | assumption | omega | simp))) ?_
      refine VO.c (.move rfl) ?_
      refine VO.c (.move rfl) ?_
      refine VO.call rfl rfl (VF.call (rLocked_ok (by first | assumption | omega | simp) (by first | assumption | omega | simp))) ?_
      refine VO.c (.assign rfl) ?_
      refine VO.c (.assign rfl) ?_
      refine VO.go (VC.seq (VC.text ?_))
      refine VO.c (.move rfl) ?_
      refine VO.call rfl rfl (VF.call (lClashes_ok (by first | assumption | omega | simp))) ?_
      refine VO.c (.move rfl) ?_
      refine VO.call rfl rfl (VF.call (rSameCl_ok (by first | assumption | omega | simp) (by first | assumption | omega | simp))) ?_
      refine VO.c (.move rfl) ?_
      refine VO.cg (r := decide ((if permsE l = 0 then sortC (clP l l.length) else []) = (clR l l.length l.length))) (w := true) [] trivial (fun hgd => have g17_4 : decide ((if permsE l = 0 then sortC (clP l l.length) else []) = (clR l l.length l.length)) = true := (by simpa using hgd); (.move rfl)) ?_
      refine VO.cg (r := decide ((if permsE l = 0 then sortC (clP l l.length) else []) = (clR l l.length l.length))) (w := true) [] trivial (fun hgd => have g17_4 : decide ((if permsE l = 0 then sortC (clP l l.length) else []) = (clR l l.length l.length)) = true := (by simpa using hgd); (.move rfl)) ?_
      refine VO.cg (r := decide ((if permsE l = 0 then sortC (clP l l.length) else []) = (clR l l.length l.length))) (w := true) [(84, I (permsE l)), (85, I (permsE l))] ⟨rfl, rfl, trivial⟩ (fun hgd => have g17_4 : decide ((if permsE l = 0 then sortC (clP l l.length) else []) = (clR l l.length l.length)) = true := (by simpa using hgd); (.eql)) ?_
      refine VO.c (.and) ?_
      refine VO.c (.move rfl) ?_
      refine VO.cg (r := ((decide ((if permsE l = 0 then sortC (clP l l.length) else []) = (clR l l.length l.length))) && (decide (permsE l = permsE l)))) (w := true) [] trivial (fun hgd => have g17_9 : ((decide ((if permsE l = 0 then sortC (clP l l.length) else []) = (clR l l.length l.length))) && (decide (permsE l = permsE l))) = true := (by simpa using hgd); (.move rfl)) ?_
      refine VO.cg (r := ((decide ((if permsE l = 0 then sortC (clP l l.length) else []) = (clR l l.length l.length))) && (decide (permsE l = permsE l)))) (w := true) [] trivial (fun hgd => have g17_9 : ((decide ((if permsE l = 0 then sortC (clP l l.length) else []) = (clR l l.length l.length))) && (decide (permsE l = permsE l))) = true := (by simpa using hgd); (.move rfl)) ?_
      refine VO.callg (r0 := ((decide ((if permsE l = 0 then sortC (clP l l.length) else []) = (clR l l.length l.length))) && (decide (permsE l = permsE l)))) (w := true) [(89, .v (.sl .str) (if firstE [permsE l, rangeE t 0 100000] = 0 then outE l t else [])), (90, .v (.sl .str) (outE l t))] ⟨rfl, rfl, trivial⟩ rfl rfl .same .refl rfl (fun hgd => have g17_9 : ((decide ((if permsE l = 0 then sortC (clP l l.length) else []) = (clR l l.length l.length))) && (decide (permsE l = permsE l))) = true := (by simpa using hgd); VF.call (rSame_ok (by first | assumption | omega | simp) (by first | assumption | omega | simp))) ?_
      refine VO.c (.and) ?_
      refine VO.c (.move rfl) ?_
      refine VO.cg (r := (((decide ((if permsE l = 0 then sortC (clP l l.length) else []) = (clR l l.length l.length))) && (decide (permsE l = permsE l))) && (decide ((if firstE [permsE l, rangeE t 0 100000] = 0 then outE l t else []) = (outE l t))))) (w := true) [] trivial (fun hgd => have g17_14 : (((decide ((if permsE l = 0 then sortC (clP l l.length) else []) = (clR l l.length l.length))) && (decide (permsE l = permsE l))) && (decide ((if firstE [permsE l, rangeE t 0 100000] = 0 then outE l t else []) = (outE l t)))) = true := (by simpa using hgd); (.move rfl)) ?_
      refine VO.cg (r := (((decide ((if permsE l = 0 then sortC (clP l l.length) else []) = (clR l l.length l.length))) && (decide (permsE l = permsE l))) && (decide ((if firstE [permsE l, rangeE t 0 100000] = 0 then outE l t else []) = (outE l t))))) (w := true) [] trivial (fun hgd => have g17_14 : (((decide ((if permsE l = 0 then sortC (clP l l.length) else []) = (clR l l.length l.length))) && (decide (permsE l = permsE l))) && (decide ((if firstE [permsE l, rangeE t 0 100000] = 0 then outE l t else []) = (outE l t)))) = true := (by simpa using hgd); (.move rfl)) ?_
      refine VO.cg (r := (((decide ((if permsE l = 0 then sortC (clP l l.length) else []) = (clR l l.length l.length))) && (decide (permsE l = permsE l))) && (decide ((if firstE [permsE l, rangeE t 0 100000] = 0 then outE l t else []) = (outE l t))))) (w := true) [(94, I (firstE [permsE l, rangeE t 0 100000])), (95, I (firstE [permsE l, rangeE t 0 100000]))] ⟨rfl, rfl, trivial⟩ (fun hgd => have g17_14 : (((decide ((if permsE l = 0 then sortC (clP l l.length) else []) = (clR l l.length l.length))) && (decide (permsE l = permsE l))) && (decide ((if firstE [permsE l, rangeE t 0 100000] = 0 then outE l t else []) = (outE l t)))) = true := (by simpa using hgd); (.eql)) ?_
      refine VO.c (.and) ?_
      refine VO.c (.move rfl) ?_
      refine VO.cg (r := ((((decide ((if permsE l = 0 then sortC (clP l l.length) else []) = (clR l l.length l.length))) && (decide (permsE l = permsE l))) && (decide ((if firstE [permsE l, rangeE t 0 100000] = 0 then outE l t else []) = (outE l t)))) && (decide (firstE [permsE l, rangeE t 0 100000] = firstE [permsE l, rangeE t 0 100000])))) (w := true) [] trivial (fun hgd => have g17_19 : ((((decide ((if permsE l = 0 then sortC (clP l l.length) else []) = (clR l l.length l.length))) && (decide (permsE l = permsE l))) && (decide ((if firstE [permsE l, rangeE t 0 100000] = 0 then outE l t else []) = (outE l t)))) && (decide (firstE [permsE l, rangeE t 0 100000] = firstE [permsE l, rangeE t 0 100000]))) = true := (by simpa using hgd); (.move rfl)) ?_
      refine VO.cg (r := ((((decide ((if permsE l = 0 then sortC (clP l l.length) else []) = (clR l l.length l.length))) && (decide (permsE l = permsE l))) && (decide ((if firstE [permsE l, rangeE t 0 100000] = 0 then outE l t else []) = (outE l t)))) && (decide (firstE [permsE l, rangeE t 0 100000] = firstE [permsE l, rangeE t 0 100000])))) (w := true) [] trivial (fun hgd => have g17_19 : ((((decide ((if permsE l = 0 then sortC (clP l l.length) else []) = (clR l l.length l.length))) && (decide (permsE l = permsE l))) && (decide ((if firstE [permsE l, rangeE t 0 100000] = 0 then outE l t else []) = (outE l t)))) && (decide (firstE [permsE l, rangeE t 0 100000] = firstE [permsE l, rangeE t 0 100000]))) = true := (by simpa using hgd); (.move rfl)) ?_
      refine VO.callg (r0 := ((((decide ((if permsE l = 0 then sortC (clP l l.length) else []) = (clR l l.length l.length))) && (decide (permsE l = permsE l))) && (decide ((if firstE [permsE l, rangeE t 0 100000] = 0 then outE l t else []) = (outE l t)))) && (decide (firstE [permsE l, rangeE t 0 100000] = firstE [permsE l, rangeE t 0 100000])))) (w := true) [(99, .v (.sl .str) (if firstE [permsE l, rangeE t 0 100000] = 0 then lockedE l t else [])), (100, .v (.sl .str) (lockedE l t))] ⟨rfl, rfl, trivial⟩ rfl rfl .same .refl rfl (fun hgd => have g17_19 : ((((decide ((if permsE l = 0 then sortC (clP l l.length) else []) = (clR l l.length l.length))) && (decide (permsE l = permsE l))) && (decide ((if firstE [permsE l, rangeE t 0 100000] = 0 then outE l t else []) = (outE l t)))) && (decide (firstE [permsE l, rangeE t 0 100000] = firstE [permsE l, rangeE t 0 100000]))) = true := (by simpa using hgd); VF.call (rSame_ok (by first | assumption | omega | simp) (by first | assumption | omega | simp))) ?_
      refine VO.c (.and) ?_
      refine VO.c (.move rfl) ?_
      refine VO.cg (r := (((((decide ((if permsE l = 0 then sortC (clP l l.length) else []) = (clR l l.length l.length))) && (decide (permsE l = permsE l))) && (decide ((if firstE [permsE l, rangeE t 0 100000] = 0 then outE l t else []) = (outE l t)))) && (decide (firstE [permsE l, rangeE t 0 100000] = firstE [permsE l, rangeE t 0 100000]))) && (decide ((if firstE [permsE l, rangeE t 0 100000] = 0 then lockedE l t else []) = (lockedE l t))))) (w := true) [] trivial (fun hgd => have g17_24 : (((((decide ((if permsE l = 0 then sortC (clP l l.length) else []) = (clR l l.length l.length))) && (decide (permsE l = permsE l))) && (decide ((if firstE [permsE l, rangeE t 0 100000] = 0 then outE l t else []) = (outE l t)))) && (decide (firstE [permsE l, rangeE t 0 100000] = firstE [permsE l, rangeE t 0 100000]))) && (decide ((if firstE [permsE l, rangeE t 0 100000] = 0 then lockedE l t else []) = (lockedE l t)))) = true := (by simpa using hgd); (.move rfl)) ?_
      refine VO.cg (r := (((((decide ((if permsE l = 0 then sortC (clP l l.length) else []) = (clR l l.length l.length))) && (decide (permsE l = permsE l))) && (decide ((if firstE [permsE l, rangeE t 0 100000] = 0 then outE l t else []) = (outE l t)))) && (decide (firstE [permsE l, rangeE t 0 100000] = firstE [permsE l, rangeE t 0 100000]))) && (decide ((if firstE [permsE l, rangeE t 0 100000] = 0 then lockedE l t else []) = (lockedE l t))))) (w := true) [] trivial (fun hgd => have g17_24 : (((((decide ((if permsE l = 0 then sortC (clP l l.length) else []) = (clR l l.length l.length))) && (decide (permsE l = permsE l))) && (decide ((if firstE [permsE l, rangeE t 0 100000] = 0 then outE l t else []) = (outE l t)))) && (decide (firstE [permsE l, rangeE t 0 100000] = firstE [permsE l, rangeE t 0 100000]))) && (decide ((if firstE [permsE l, rangeE t 0 100000] = 0 then lockedE l t else []) = (lockedE l t)))) = true := (by simpa using hgd); (.move rfl)) ?_
      refine VO.cg (r := (((((decide ((if permsE l = 0 then sortC (clP l l.length) else []) = (clR l l.length l.length))) && (decide (permsE l = permsE l))) && (decide ((if firstE [permsE l, rangeE t 0 100000] = 0 then outE l t else []) = (outE l t)))) && (decide (firstE [permsE l, rangeE t 0 100000] = firstE [permsE l, rangeE t 0 100000]))) && (decide ((if firstE [permsE l, rangeE t 0 100000] = 0 then lockedE l t else []) = (lockedE l t))))) (w := true) [(104, I (firstE [permsE l, rangeE t 0 100000])), (105, I (firstE [permsE l, rangeE t 0 100000]))] ⟨rfl, rfl, trivial⟩ (fun hgd => have g17_24 : (((((decide ((if permsE l = 0 then sortC (clP l l.length) else []) = (clR l l.length l.length))) && (decide (permsE l = permsE l))) && (decide ((if firstE [permsE l, rangeE t 0 100000] = 0 then outE l t else []) = (outE l t)))) && (decide (firstE [permsE l, rangeE t 0 100000] = firstE [permsE l, rangeE t 0 100000]))) && (decide ((if firstE [permsE l, rangeE t 0 100000] = 0 then lockedE l t else []) = (lockedE l t)))) = true := (by simpa using hgd); (.eql)) ?_
      refine VO.c (.and) ?_
      refine VO.c (.move rfl) ?_
      refine VO.cg (r := ((((((decide ((if permsE l = 0 then sortC (clP l l.length) else []) = (clR l l.length l.length))) && (decide (permsE l = permsE l))) && (decide ((if firstE [permsE l, rangeE t 0 100000] = 0 then outE l t else []) = (outE l t)))) && (decide (firstE [permsE l, rangeE t 0 100000] = firstE [permsE l, rangeE t 0 100000]))) && (decide ((if firstE [permsE l, rangeE t 0 100000] = 0 then lockedE l t else []) = (lockedE l t)))) && (decide (firstE [permsE l, rangeE t 0 100000] = firstE [permsE l, rangeE t 0 100000])))) (w := true) [] trivial (fun hgd => have g17_29 : ((((((decide ((if permsE l = 0 then sortC (clP l l.length) else []) = (clR l l.length l.length))) && (decide (permsE l = permsE l))) && (decide ((if firstE [permsE l, rangeE t 0 100000] = 0 then outE l t else []) = (outE l t)))) && (decide (firstE [permsE l, rangeE t 0 100000] = firstE [permsE l, rangeE t 0 100000]))) && (decide ((if firstE [permsE l, rangeE t 0 100000] = 0 then lockedE l t else []) = (lockedE l t)))) && (decide (firstE [permsE l, rangeE t 0 100000] = firstE [permsE l, rangeE t 0 100000]))) = true := (by simpa using hgd); (.move rfl)) ?_
      refine VO.cg (r := ((((((decide ((if permsE l = 0 then sortC (clP l l.length) else []) = (clR l l.length l.length))) && (decide (permsE l = permsE l))) && (decide ((if firstE [permsE l, rangeE t 0 100000] = 0 then outE l t else []) = (outE l t)))) && (decide (firstE [permsE l, rangeE t 0 100000] = firstE [permsE l, rangeE t 0 100000]))) && (decide ((if firstE [permsE l, rangeE t 0 100000] = 0 then lockedE l t else []) = (lockedE l t)))) && (decide (firstE [permsE l, rangeE t 0 100000] = firstE [permsE l, rangeE t 0 100000])))) (w := true) [] trivial (fun hgd => have g17_29 : ((((((decide ((if permsE l = 0 then sortC (clP l l.length) else []) = (clR l l.length l.length))) && (decide (permsE l = permsE l))) && (decide ((if firstE [permsE l, rangeE t 0 100000] = 0 then outE l t else []) = (outE l t)))) && (decide (firstE [permsE l, rangeE t 0 100000] = firstE [permsE l, rangeE t 0 100000]))) && (decide ((if firstE [permsE l, rangeE t 0 100000] = 0 then lockedE l t else []) = (lockedE l t)))) && (decide (firstE [permsE l, rangeE t 0 100000] = firstE [permsE l, rangeE t 0 100000]))) = true := (by simpa using hgd); (.move rfl)) ?_
      refine VO.cg (r := ((((((decide ((if permsE l = 0 then sortC (clP l l.length) else []) = (clR l l.length l.length))) && (decide (permsE l = permsE l))) && (decide ((if firstE [permsE l, rangeE t 0 100000] = 0 then outE l t else []) = (outE l t)))) && (decide (firstE [permsE l, rangeE t 0 100000] = firstE [permsE l, rangeE t 0 100000]))) && (decide ((if firstE [permsE l, rangeE t 0 100000] = 0 then lockedE l t else []) = (lockedE l t)))) && (decide (firstE [permsE l, rangeE t 0 100000] = firstE [permsE l, rangeE t 0 100000])))) (w := true) [(109, I (if busyC l = 0 then (busyE l l.length).1 else 0)), (110, I ((busyE l l.length).1))] ⟨rfl, rfl, trivial⟩ (fun hgd => have g17_29 : ((((((decide ((if permsE l = 0 then sortC (clP l l.length) else []) = (clR l l.length l.length))) && (decide (permsE l = permsE l))) && (decide ((if firstE [permsE l, rangeE t 0 100000] = 0 then outE l t else []) = (outE l t)))) && (decide (firstE [permsE l, rangeE t 0 100000] = firstE [permsE l, rangeE t 0 100000]))) && (decide ((if firstE [permsE l, rangeE t 0 100000] = 0 then lockedE l t else []) = (lockedE l t)))) && (decide (firstE [permsE l, rangeE t 0 100000] = firstE [permsE l, rangeE t 0 100000]))) = true := (by simpa using hgd); (.eql)) ?_
      refine VO.c (.and) ?_
      refine VO.c (.move rfl) ?_
      refine VO.cg (r := (((((((decide ((if permsE l = 0 then sortC (clP l l.length) else []) = (clR l l.length l.length))) && (decide (permsE l = permsE l))) && (decide ((if firstE [permsE l, rangeE t 0 100000] = 0 then outE l t else []) = (outE l t)))) && (decide (firstE [permsE l, rangeE t 0 100000] = firstE [permsE l, rangeE t 0 100000]))) && (decide ((if firstE [permsE l, rangeE t 0 100000] = 0 then lockedE l t else []) = (lockedE l t)))) && (decide (firstE [permsE l, rangeE t 0 100000] = firstE [permsE l, rangeE t 0 100000]))) && (decide ((if busyC l = 0 then (busyE l l.length).1 else 0) = (busyE l l.length).1)))) (w := true) [] trivial (fun hgd => have g17_34 : (((((((decide ((if permsE l = 0 then sortC (clP l l.length) else []) = (clR l l.length l.length))) && (decide (permsE l = permsE l))) && (decide ((if firstE [permsE l, rangeE t 0 100000] = 0 then outE l t else []) = (outE l t)))) && (decide (firstE [permsE l, rangeE t 0 100000] = firstE [permsE l, rangeE t 0 100000]))) && (decide ((if firstE [permsE l, rangeE t 0 100000] = 0 then lockedE l t else []) = (lockedE l t)))) && (decide (firstE [permsE l, rangeE t 0 100000] = firstE [permsE l, rangeE t 0 100000]))) && (decide ((if busyC l = 0 then (busyE l l.length).1 else 0) = (busyE l l.length).1))) = true := (by simpa using hgd); (.move rfl)) ?_
      refine VO.cg (r := (((((((decide ((if permsE l = 0 then sortC (clP l l.length) else []) = (clR l l.length l.length))) && (decide (permsE l = permsE l))) && (decide ((if firstE [permsE l, rangeE t 0 100000] = 0 then outE l t else []) = (outE l t)))) && (decide (firstE [permsE l, rangeE t 0 100000] = firstE [permsE l, rangeE t 0 100000]))) && (decide ((if firstE [permsE l, rangeE t 0 100000] = 0 then lockedE l t else []) = (lockedE l t)))) && (decide (firstE [permsE l, rangeE t 0 100000] = firstE [permsE l, rangeE t 0 100000]))) && (decide ((if busyC l = 0 then (busyE l l.length).1 else 0) = (busyE l l.length).1)))) (w := true) [] trivial (fun hgd => have g17_34 : (((((((decide ((if permsE l = 0 then sortC (clP l l.length) else []) = (clR l l.length l.length))) && (decide (permsE l = permsE l))) && (decide ((if firstE [permsE l, rangeE t 0 100000] = 0 then outE l t else []) = (outE l t)))) && (decide (firstE [permsE l, rangeE t 0 100000] = firstE [permsE l, rangeE t 0 100000]))) && (decide ((if firstE [permsE l, rangeE t 0 100000] = 0 then lockedE l t else []) = (lockedE l t)))) && (decide (firstE [permsE l, rangeE t 0 100000] = firstE [permsE l, rangeE t 0 100000]))) && (decide ((if busyC l = 0 then (busyE l l.length).1 else 0) = (busyE l l.length).1))) = true := (by simpa using hgd); (.move rfl)) ?_
      refine VO.cg (r := (((((((decide ((if permsE l = 0 then sortC (clP l l.length) else []) = (clR l l.length l.length))) && (decide (permsE l = permsE l))) && (decide ((if firstE [permsE l, rangeE t 0 100000] = 0 then outE l t else []) = (outE l t)))) && (decide (firstE [permsE l, rangeE t 0 100000] = firstE [permsE l, rangeE t 0 100000]))) && (decide ((if firstE [permsE l, rangeE t 0 100000] = 0 then lockedE l t else []) = (lockedE l t)))) && (decide (firstE [permsE l, rangeE t 0 100000] = firstE [permsE l, rangeE t 0 100000]))) && (decide ((if busyC l = 0 then (busyE l l.length).1 else 0) = (busyE l l.length).1)))) (w := true) [(114, I (if busyC l = 0 then (busyE l l.length).2 else 0)), (115, I ((busyE l l.length).2))] ⟨rfl, rfl, trivial⟩ (fun hgd => have g17_34 : (((((((decide ((if permsE l = 0 then sortC (clP l l.length) else []) = (clR l l.length l.length))) && (decide (permsE l = permsE l))) && (decide ((if firstE [permsE l, rangeE t 0 100000] = 0 then outE l t else []) = (outE l t)))) && (decide (firstE [permsE l, rangeE t 0 100000] = firstE [permsE l, rangeE t 0 100000]))) && (decide ((if firstE [permsE l, rangeE t 0 100000] = 0 then lockedE l t else []) = (lockedE l t)))) && (decide (firstE [permsE l, rangeE t 0 100000] = firstE [permsE l, rangeE t 0 100000]))) && (decide ((if busyC l = 0 then (busyE l l.length).1 else 0) = (busyE l l.length).1))) = true := (by simpa using hgd); (.eql)) ?_
      refine VO.c (.and) ?_
      refine VO.c (.move rfl) ?_
      refine VO.cg (r := ((((((((decide ((if permsE l = 0 then sortC (clP l l.length) else []) = (clR l l.length l.length))) && (decide (permsE l = permsE l))) && (decide ((if firstE [permsE l, rangeE t 0 100000] = 0 then outE l t else []) = (outE l t)))) && (decide (firstE [permsE l, rangeE t 0 100000] = firstE [permsE l, rangeE t 0 100000]))) && (decide ((if firstE [permsE l, rangeE t 0 100000] = 0 then lockedE l t else []) = (lockedE l t)))) && (decide (firstE [permsE l, rangeE t 0 100000] = firstE [permsE l, rangeE t 0 100000]))) && (decide ((if busyC l = 0 then (busyE l l.length).1 else 0) = (busyE l l.length).1))) && (decide ((if busyC l = 0 then (busyE l l.length).2 else 0) = (busyE l l.length).2)))) (w := true) [] trivial (fun hgd => have g17_39 : ((((((((decide ((if permsE l = 0 then sortC (clP l l.length) else []) = (clR l l.length l.length))) && (decide (permsE l = permsE l))) && (decide ((if firstE [permsE l, rangeE t 0 100000] = 0 then outE l t else []) = (outE l t)))) && (decide (firstE [permsE l, rangeE t 0 100000] = firstE [permsE l, rangeE t 0 100000]))) && (decide ((if firstE [permsE l, rangeE t 0 100000] = 0 then lockedE l t else []) = (lockedE l t)))) && (decide (firstE [permsE l, rangeE t 0 100000] = firstE [permsE l, rangeE t 0 100000]))) && (decide ((if busyC l = 0 then (busyE l l.length).1 else 0) = (busyE l l.length).1))) && (decide ((if busyC l = 0 then (busyE l l.length).2 else 0) = (busyE l l.length).2))) = true := (by simpa using hgd); (.move rfl)) ?_
      refine VO.cg (r := ((((((((decide ((if permsE l = 0 then sortC (clP l l.length) else []) = (clR l l.length l.length))) && (decide (permsE l = permsE l))) && (decide ((if firstE [permsE l, rangeE t 0 100000] = 0 then outE l t else []) = (outE l t)))) && (decide (firstE [permsE l, rangeE t 0 100000] = firstE [permsE l, rangeE t 0 100000]))) && (decide ((if firstE [permsE l, rangeE t 0 100000] = 0 then lockedE l t else []) = (lockedE l t)))) && (decide (firstE [permsE l, rangeE t 0 100000] = firstE [permsE l, rangeE t 0 100000]))) && (decide ((if busyC l = 0 then (busyE l l.length).1 else 0) = (busyE l l.length).1))) && (decide ((if busyC l = 0 then (busyE l l.length).2 else 0) = (busyE l l.length).2)))) (w := true) [] trivial (fun hgd => have g17_39 : ((((((((decide ((if permsE l = 0 then sortC (clP l l.length) else []) = (clR l l.length l.length))) && (decide (permsE l = permsE l))) && (decide ((if firstE [permsE l, rangeE t 0 100000] = 0 then outE l t else []) = (outE l t)))) && (decide (firstE [permsE l, rangeE t 0 100000] = firstE [permsE l, rangeE t 0 100000]))) && (decide ((if firstE [permsE l, rangeE t 0 100000] = 0 then lockedE l t else []) = (lockedE l t)))) && (decide (firstE [permsE l, rangeE t 0 100000] = firstE [permsE l, rangeE t 0 100000]))) && (decide ((if busyC l = 0 then (busyE l l.length).1 else 0) = (busyE l l.length).1))) && (decide ((if busyC l = 0 then (busyE l l.length).2 else 0) = (busyE l l.length).2))) = true := (by simpa using hgd); (.move rfl)) ?_
      refine VO.cg (r := ((((((((decide ((if permsE l = 0 then sortC (clP l l.length) else []) = (clR l l.length l.length))) && (decide (permsE l = permsE l))) && (decide ((if firstE [permsE l, rangeE t 0 100000] = 0 then outE l t else []) = (outE l t)))) && (decide (firstE [permsE l, rangeE t 0 100000] = firstE [permsE l, rangeE t 0 100000]))) && (decide ((if firstE [permsE l, rangeE t 0 100000] = 0 then lockedE l t else []) = (lockedE l t)))) && (decide (firstE [permsE l, rangeE t 0 100000] = firstE [permsE l, rangeE t 0 100000]))) && (decide ((if busyC l = 0 then (busyE l l.length).1 else 0) = (busyE l l.length).1))) && (decide ((if busyC l = 0 then (busyE l l.length).2 else 0) = (busyE l l.length).2)))) (w := true) [(119, I (busyC l)), (120, I (whenE (decide ((l.length : Int) = 0)) 12))] ⟨rfl, rfl, trivial⟩ (fun hgd => have g17_39 : ((((((((decide ((if permsE l = 0 then sortC (clP l l.length) else []) = (clR l l.length l.length))) && (decide (permsE l = permsE l))) && (decide ((if firstE [permsE l, rangeE t 0 100000] = 0 then outE l t else []) = (outE l t)))) && (decide (firstE [permsE l, rangeE t 0 100000] = firstE [permsE l, rangeE t 0 100000]))) && (decide ((if firstE [permsE l, rangeE t 0 100000] = 0 then lockedE l t else []) = (lockedE l t)))) && (decide (firstE [permsE l, rangeE t 0 100000] = firstE [permsE l, rangeE t 0 100000]))) && (decide ((if busyC l = 0 then (busyE l l.length).1 else 0) = (busyE l l.length).1))) && (decide ((if busyC l = 0 then (busyE l l.length).2 else 0) = (busyE l l.length).2))) = true := (by simpa using hgd); (.eql)) ?_
      refine VO.c (.and) ?_
      refine VO.c (.move rfl) ?_
      refine VO.callg (r0 := (((((((((decide ((if permsE l = 0 then sortC (clP l l.length) else []) = (clR l l.length l.length))) && (decide (permsE l = permsE l))) && (decide ((if firstE [permsE l, rangeE t 0 100000] = 0 then outE l t else []) = (outE l t)))) && (decide (firstE [permsE l, rangeE t 0 100000] = firstE [permsE l, rangeE t 0 100000]))) && (decide ((if firstE [permsE l, rangeE t 0 100000] = 0 then lockedE l t else []) = (lockedE l t)))) && (decide (firstE [permsE l, rangeE t 0 100000] = firstE [permsE l, rangeE t 0 100000]))) && (decide ((if busyC l = 0 then (busyE l l.length).1 else 0) = (busyE l l.length).1))) && (decide ((if busyC l = 0 then (busyE l l.length).2 else 0) = (busyE l l.length).2))) && (decide (busyC l = whenE (decide ((l.length : Int) = 0)) 12)))) (w := true) [] trivial rfl rfl .same .refl rfl (fun hgd => have g17_44 : (((((((((decide ((if permsE l = 0 then sortC (clP l l.length) else []) = (clR l l.length l.length))) && (decide (permsE l = permsE l))) && (decide ((if firstE [permsE l, rangeE t 0 100000] = 0 then outE l t else []) = (outE l t)))) && (decide (firstE [permsE l, rangeE t 0 100000] = firstE [permsE l, rangeE t 0 100000]))) && (decide ((if firstE [permsE l, rangeE t 0 100000] = 0 then lockedE l t else []) = (lockedE l t)))) && (decide (firstE [permsE l, rangeE t 0 100000] = firstE [permsE l, rangeE t 0 100000]))) && (decide ((if busyC l = 0 then (busyE l l.length).1 else 0) = (busyE l l.length).1))) && (decide ((if busyC l = 0 then (busyE l l.length).2 else 0) = (busyE l l.length).2))) && (decide (busyC l = whenE (decide ((l.length : Int) = 0)) 12))) = true := (by simpa using hgd); VF.call (awakeC_ok )) ?_
      refine VO.c (.and) ?_
      refine VO.c (.assign rfl) ?_
      refine VO.go ?_
      refine VC.ret ?_
      exact VEnd.one rfl evT (pvE (by first | (rw [clash_t c12, busy_1 c12, busy_2 c12, busyC_t c12, if_pos c15, if_pos c15]; simp) | (rw [clash_t c12, busy_1 c12, busy_2 c12, busyC_t c12, if_neg c15, if_neg c15]; simp) | (rw [if_neg c12, busy_0 c12, busy_0 c12, busyC_f c12, if_pos c15, if_pos c15]; simp) | (rw [if_neg c12, busy_0 c12, busy_0 c12, busyC_f c12, if_neg c15, if_neg c15]; simp) | rfl))
    refine VC.skip (VC.seq ?_)
    refine VC.keep [(5, .v y110 (if permsE l = 0 then sortC (clP l l.length) else [])), (6, I (permsE l)), (7, .v (.sl .str) (if firstE [permsE l, rangeE t 0 100000] = 0 then outE l t else [])), (8, I (firstE [permsE l, rangeE t 0 100000])), (9, .v (.sl .str) (if firstE [permsE l, rangeE t 0 100000] = 0 then lockedE l t else [])), (10, I (firstE [permsE l, rangeE t 0 100000])), (11, I (if busyC l = 0 then (busyE l l.length).1 else 0)), (12, I (if busyC l = 0 then (busyE l l.length).2 else 0)), (13, I (busyC l)), (14, I (permsE l)), (15, I (firstE [permsE l, rangeE t 0 100000])), (16, I (whenE (decide ((l.length : Int) = 0)) 12)), (17, .v y117 (clR l l.length l.length)), (18, nilV), (19, nilV), (20, I ((busyE l l.length).1)), (21, I ((busyE l l.length).2))] ⟨rfl, rfl, rfl, rfl, rfl, rfl, rfl, rfl, rfl, rfl, rfl, rfl, rfl, rfl, rfl, rfl, rfl, trivial⟩ ?_
    refine VC.text ?_
    refine VO.c (.move rfl) ?_
    refine VO.call rfl rfl (VF.call (lClashes_ok (by first | assumption | omega | simp))) ?_
    refine VO.c (.move rfl) ?_
    refine VO.call rfl rfl (VF.call (rSameCl_ok (by first | assumption | omega | simp) (by first | assumption | omega | simp))) ?_
    refine VO.c (.move rfl) ?_
    refine VO.cg (r := decide ((if permsE l = 0 then sortC (clP l l.length) else []) = (clR l l.length l.length))) (w := true) [] trivial (fun hgd => have g17_4 : decide ((if permsE l = 0 then sortC (clP l l.length) else []) = (clR l l.length l.length)) = true := (by simpa using hgd); (.move rfl)) ?_
    refine VO.cg (r := decide ((if permsE l = 0 then sortC (clP l l.length) else []) = (clR l l.length l.length))) (w := true) [] trivial (fun hgd => have g17_4 : decide ((if permsE l = 0 then sortC (clP l l.length) else []) = (clR l l.length l.length)) = true := (by simpa using hgd); (.move rfl)) ?_
    refine VO.cg (r := decide ((if permsE l = 0 then sortC (clP l l.length) else []) = (clR l l.length l.length))) (w := true) [(84, I (permsE l)), (85, I (permsE l))] ⟨rfl, rfl, trivial⟩ (fun hgd => have g17_4 : decide ((if permsE l = 0 then sortC (clP l l.length) else []) = (clR l l.length l.length)) = true := (by simpa using hgd); (.eql)) ?_
    refine VO.c (.and) ?_
    refine VO.c (.move rfl) ?_
    refine VO.cg (r := ((decide ((if permsE l = 0 then sortC (clP l l.length) else []) = (clR l l.length l.length))) && (decide (permsE l = permsE l)))) (w := true) [] trivial (fun hgd => have g17_9 : ((decide ((if permsE l = 0 then sortC (clP l l.length) else []) = (clR l l.length l.length))) && (decide (permsE l = permsE l))) = true := (by simpa using hgd); (.move rfl)) ?_
    refine VO.cg (r := ((decide ((if permsE l = 0 then sortC (clP l l.length) else []) = (clR l l.length l.length))) && (decide (permsE l = permsE l)))) (w := true) [] trivial (fun hgd => have g17_9 : ((decide ((if permsE l = 0 then sortC (clP l l.length) else []) = (clR l l.length l.length))) && (decide (permsE l = permsE l))) = true := (by simpa using hgd); (.move rfl)) ?_
    refine VO.callg (r0 := ((decide ((if permsE l = 0 then sortC (clP l l.length) else []) = (clR l l.length l.length))) && (decide (permsE l = permsE l)))) (w := true) [(89, .v (.sl .str) (if firstE [permsE l, rangeE t 0 100000] = 0 then outE l t else [])), (90, nilV)] ⟨rfl, rfl, trivial⟩ rfl rfl .same (.cons .same (.cons .nil .nil)) rfl (fun hgd => have g17_9 : ((decide ((if permsE l = 0 then sortC (clP l l.length) else []) = (clR l l.length l.length))) && (decide (permsE l = permsE l))) = true := (by simpa using hgd); VF.call (rSame_ok (by first | assumption | omega | simp) (by first | assumption | omega | simp))) ?_
    refine VO.c (.and) ?_
    refine VO.c (.move rfl) ?_
    refine VO.cg (r := (((decide ((if permsE l = 0 then sortC (clP l l.length) else []) = (clR l l.length l.length))) && (decide (permsE l = permsE l))) && (decide ((if firstE [permsE l, rangeE t 0 100000] = 0 then outE l t else []) = [])))) (w := true) [] trivial (fun hgd => have g17_14 : (((decide ((if permsE l = 0 then sortC (clP l l.length) else []) = (clR l l.length l.length))) && (decide (permsE l = permsE l))) && (decide ((if firstE [permsE l, rangeE t 0 100000] = 0 then outE l t else []) = []))) = true := (by simpa using hgd); (.move rfl)) ?_
    refine VO.cg (r := (((decide ((if permsE l = 0 then sortC (clP l l.length) else []) = (clR l l.length l.length))) && (decide (permsE l = permsE l))) && (decide ((if firstE [permsE l, rangeE t 0 100000] = 0 then outE l t else []) = [])))) (w := true) [] trivial (fun hgd => have g17_14 : (((decide ((if permsE l = 0 then sortC (clP l l.length) else []) = (clR l l.length l.length))) && (decide (permsE l = permsE l))) && (decide ((if firstE [permsE l, rangeE t 0 100000] = 0 then outE l t else []) = []))) = true := (by simpa using hgd); (.move rfl)) ?_
    refine VO.cg (r := (((decide ((if permsE l = 0 then sortC (clP l l.length) else []) = (clR l l.length l.length))) && (decide (permsE l = permsE l))) && (decide ((if firstE [permsE l, rangeE t 0 100000] = 0 then outE l t else []) = [])))) (w := true) [(94, I (firstE [permsE l, rangeE t 0 100000])), (95, I (firstE [permsE l, rangeE t 0 100000]))] ⟨rfl, rfl, trivial⟩ (fun hgd => have g17_14 : (((decide ((if permsE l = 0 then sortC (clP l l.length) else []) = (clR l l.length l.length))) && (decide (permsE l = permsE l))) && (decide ((if firstE [permsE l, rangeE t 0 100000] = 0 then outE l t else []) = []))) = true := (by simpa using hgd); (.eql)) ?_
    refine VO.c (.and) ?_
    refine VO.c (.move rfl) ?_
    refine VO.cg (r := ((((decide ((if permsE l = 0 then sortC (clP l l.length) else []) = (clR l l.length l.length))) && (decide (permsE l = permsE l))) && (decide ((if firstE [permsE l, rangeE t 0 100000] = 0 then outE l t else []) = []))) && (decide (firstE [permsE l, rangeE t 0 100000] = firstE [permsE l, rangeE t 0 100000])))) (w := true) [] trivial (fun hgd => have g17_19 : ((((decide ((if permsE l = 0 then sortC (clP l l.length) else []) = (clR l l.length l.length))) && (decide (permsE l = permsE l))) && (decide ((if firstE [permsE l, rangeE t 0 100000] = 0 then outE l t else []) = []))) && (decide (firstE [permsE l, rangeE t 0 100000] = firstE [permsE l, rangeE t 0 100000]))) = true := (by simpa using hgd); (.move rfl)) ?_
    refine VO.cg (r := ((((decide ((if permsE l = 0 then sortC (clP l l.length) else []) = (clR l l.length l.length))) && (decide (permsE l = permsE l))) && (decide ((if firstE [permsE l, rangeE t 0 100000] = 0 then outE l t else []) = []))) && (decide (firstE [permsE l, rangeE t 0 100000] = firstE [permsE l, rangeE t 0 100000])))) (w := true) [] trivial (fun hgd => have g17_19 : ((((decide ((if permsE l = 0 then sortC (clP l l.length) else []) = (clR l l.length l.length))) && (decide (permsE l = permsE l))) && (decide ((if firstE [permsE l, rangeE t 0 100000] = 0 then outE l t else []) = []))) && (decide (firstE [permsE l, rangeE t 0 100000] = firstE [permsE l, rangeE t 0 100000]))) = true := (by simpa using hgd); (.move rfl)) ?_
    refine VO.callg (r0 := ((((decide ((if permsE l = 0 then sortC (clP l l.length) else []) = (clR l l.length l.length))) && (decide (permsE l = permsE l))) && (decide ((if firstE [permsE l, rangeE t 0 100000] = 0 then outE l t else []) = []))) && (decide (firstE [permsE l, rangeE t 0 100000] = firstE [permsE l, rangeE t 0 100000])))) (w := true) [(99, .v (.sl .str) (if firstE [permsE l, rangeE t 0 100000] = 0 then lockedE l t else [])), (100, nilV)] ⟨rfl, rfl, trivial⟩ rfl rfl .same (.cons .same (.cons .nil .nil)) rfl (fun hgd => have g17_19 : ((((decide ((if permsE l = 0 then sortC (clP l l.length) else []) = (clR l l.length l.length))) && (decide (permsE l = permsE l))) && (decide ((if firstE [permsE l, rangeE t 0 100000] = 0 then outE l t else []) = []))) && (decide (firstE [permsE l, rangeE t 0 100000] = firstE [permsE l, rangeE t 0 100000]))) = true := (by simpa using hgd); VF.call (rSame_ok (by first | assumption | omega | simp) (by first | assumption | omega | simp))) ?_
    refine VO.c (.and) ?_
    refine VO.c (.move rfl) ?_
    refine VO.cg (r := (((((decide ((if permsE l = 0 then sortC (clP l l.length) else []) = (clR l l.length l.length))) && (decide (permsE l = permsE l))) && (decide ((if firstE [permsE l, rangeE t 0 100000] = 0 then outE l t else []) = []))) && (decide (firstE [permsE l, rangeE t 0 100000] = firstE [permsE l, rangeE t 0 100000]))) && (decide ((if firstE [permsE l, rangeE t 0 100000] = 0 then lockedE l t else []) = [])))) (w := true) [] trivial (fun hgd => have g17_24 : (((((decide ((if permsE l = 0 then sortC (clP l l.length) else []) = (clR l l.length l.length))) && (decide (permsE l = permsE l))) && (decide ((if firstE [permsE l, rangeE t 0 100000] = 0 then outE l t else []) = []))) && (decide (firstE [permsE l, rangeE t 0 100000] = firstE [permsE l, rangeE t 0 100000]))) && (decide ((if firstE [permsE l, rangeE t 0 100000] = 0 then lockedE l t else []) = []))) = true := (by simpa using hgd); (.move rfl)) ?_
    refine VO.cg (r := (((((decide ((if permsE l = 0 then sortC (clP l l.length) else []) = (clR l l.length l.length))) && (decide (permsE l = permsE l))) && (decide ((if firstE [permsE l, rangeE t 0 100000] = 0 then outE l t else []) = []))) && (decide (firstE [permsE l, rangeE t 0 100000] = firstE [permsE l, rangeE t 0 100000]))) && (decide ((if firstE [permsE l, rangeE t 0 100000] = 0 then lockedE l t else []) = [])))) (w := true) [] trivial (fun hgd => have g17_24 : (((((decide ((if permsE l = 0 then sortC (clP l l.length) else []) = (clR l l.length l.length))) && (decide (permsE l = permsE l))) && (decide ((if firstE [permsE l, rangeE t 0 100000] = 0 then outE l t else []) = []))) && (decide (firstE [permsE l, rangeE t 0 100000] = firstE [permsE l, rangeE t 0 100000]))) && (decide ((if firstE [permsE l, rangeE t 0 100000] = 0 then lockedE l t else []) = []))) = true := (by simpa using hgd); (.move rfl)) ?_
    refine VO.cg (r := (((((decide ((if permsE l = 0 then sortC (clP l l.length) else []) = (clR l l.length l.length))) && (decide (permsE l = permsE l))) && (decide ((if firstE [permsE l, rangeE t 0 100000] = 0 then outE l t else []) = []))) && (decide (firstE [permsE l, rangeE t 0 100000] = firstE [permsE l, rangeE t 0 100000]))) && (decide ((if firstE [permsE l, rangeE t 0 100000] = 0 then lockedE l t else []) = [])))) (w := true) [(104, I (firstE [permsE l, rangeE t 0 100000])), (105, I (firstE [permsE l, rangeE t 0 100000]))] ⟨rfl, rfl, trivial⟩ (fun hgd => have g17_24 : (((((decide ((if permsE l = 0 then sortC (clP l l.length) else []) = (clR l l.length l.length))) && (decide (permsE l = permsE l))) && (decide ((if firstE [permsE l, rangeE t 0 100000] = 0 then outE l t else []) = []))) && (decide (firstE [permsE l, rangeE t 0 100000] = firstE [permsE l, rangeE t 0 100000]))) && (decide ((if firstE [permsE l, rangeE t 0 100000] = 0 then lockedE l t else []) = []))) = true := (by simpa using hgd); (.eql)) ?_
    refine VO.c (.and) ?_
    refine VO.c (.move rfl) ?_
    refine VO.cg (r := ((((((decide ((if permsE l = 0 then sortC (clP l l.length) else []) = (clR l l.length l.length))) && (decide (permsE l = permsE l))) && (decide ((if firstE [permsE l, rangeE t 0 100000] = 0 then outE l t else []) = []))) && (decide (firstE [permsE l, rangeE t 0 100000] = firstE [permsE l, rangeE t 0 100000]))) && (decide ((if firstE [permsE l, rangeE t 0 100000] = 0 then lockedE l t else []) = []))) && (decide (firstE [permsE l, rangeE t 0 100000] = firstE [permsE l, rangeE t 0 100000])))) (w := true) [] trivial (fun hgd => have g17_29 : ((((((decide ((if permsE l = 0 then sortC (clP l l.length) else []) = (clR l l.length l.length))) && (decide (permsE l = permsE l))) && (decide ((if firstE [permsE l, rangeE t 0 100000] = 0 then outE l t else []) = []))) && (decide (firstE [permsE l, rangeE t 0 100000] = firstE [permsE l, rangeE t 0 100000]))) && (decide ((if firstE [permsE l, rangeE t 0 100000] = 0 then lockedE l t else []) = []))) && (decide (firstE [permsE l, rangeE t 0 100000] = firstE [permsE l, rangeE t 0 100000]))) = true := (by simpa using hgd); (.move rfl)) ?_
    refine VO.cg (r := ((((((decide ((if permsE l = 0 then sortC (clP l l.length) else []) = (clR l l.length l.length))) && (decide (permsE l = permsE l))) && (decide ((if firstE [permsE l, rangeE t 0 100000] = 0 then outE l t else []) = []))) && (decide (firstE [permsE l, rangeE t 0 100000] = firstE [permsE l, rangeE t 0 100000]))) && (decide ((if firstE [permsE l, rangeE t 0 100000] = 0 then lockedE l t else []) = []))) && (decide (firstE [permsE l, rangeE t 0 100000] = firstE [permsE l, rangeE t 0 100000])))) (w := true) [] trivial (fun hgd => have g17_29 : ((((((decide ((if permsE l = 0 then sortC (clP l l.length) else []) = (clR l l.length l.length))) && (decide (permsE l = permsE l))) && (decide ((if firstE [permsE l, rangeE t 0 100000] = 0 then outE l t else []) = []))) && (decide (firstE [permsE l, rangeE t 0 100000] = firstE [permsE l, rangeE t 0 100000]))) && (decide ((if firstE [permsE l, rangeE t 0 100000] = 0 then lockedE l t else []) = []))) && (decide (firstE [permsE l, rangeE t 0 100000] = firstE [permsE l, rangeE t 0 100000]))) = true := (by simpa using hgd); (.move rfl)) ?_
    refine VO.cg (r := ((((((decide ((if permsE l = 0 then sortC (clP l l.length) else []) = (clR l l.length l.length))) && (decide (permsE l = permsE l))) && (decide ((if firstE [permsE l, rangeE t 0 100000] = 0 then outE l t else []) = []))) && (decide (firstE [permsE l, rangeE t 0 100000] = firstE [permsE l, rangeE t 0 100000]))) && (decide ((if firstE [permsE l, rangeE t 0 100000] = 0 then lockedE l t else []) = []))) && (decide (firstE [permsE l, rangeE t 0 100000] = firstE [permsE l, rangeE t 0 100000])))) (w := true) [(109, I (if busyC l = 0 then (busyE l l.length).1 else 0)), (110, I ((busyE l l.length).1))] ⟨rfl, rfl, trivial⟩ (fun hgd => have g17_29 : ((((((decide ((if permsE l = 0 then sortC (clP l l.length) else []) = (clR l l.length l.length))) && (decide (permsE l = permsE l))) && (decide ((if firstE [permsE l, rangeE t 0 100000] = 0 then outE l t else []) = []))) && (decide (firstE [permsE l, rangeE t 0 100000] = firstE [permsE l, rangeE t 0 100000]))) && (decide ((if firstE [permsE l, rangeE t 0 100000] = 0 then lockedE l t else []) = []))) && (decide (firstE [permsE l, rangeE t 0 100000] = firstE [permsE l, rangeE t 0 100000]))) = true := (by simpa using hgd); (.eql)) ?_
    refine VO.c (.and) ?_
    refine VO.c (.move rfl) ?_
    refine VO.cg (r := (((((((decide ((if permsE l = 0 then sortC (clP l l.length) else []) = (clR l l.length l.length))) && (decide (permsE l = permsE l))) && (decide ((if firstE [permsE l, rangeE t 0 100000] = 0 then outE l t else []) = []))) && (decide (firstE [permsE l, rangeE t 0 100000] = firstE [permsE l, rangeE t 0 100000]))) && (decide ((if firstE [permsE l, rangeE t 0 100000] = 0 then lockedE l t else []) = []))) && (decide (firstE [permsE l, rangeE t 0 100000] = firstE [permsE l, rangeE t 0 100000]))) && (decide ((if busyC l = 0 then (busyE l l.length).1 else 0) = (busyE l l.length).1)))) (w := true) [] trivial (fun hgd => have g17_34 : (((((((decide ((if permsE l = 0 then sortC (clP l l.length) else []) = (clR l l.length l.length))) && (decide (permsE l = permsE l))) && (decide ((if firstE [permsE l, rangeE t 0 100000] = 0 then outE l t else []) = []))) && (decide (firstE [permsE l, rangeE t 0 100000] = firstE [permsE l, rangeE t 0 100000]))) && (decide ((if firstE [permsE l, rangeE t 0 100000] = 0 then lockedE l t else []) = []))) && (decide (firstE [permsE l, rangeE t 0 100000] = firstE [permsE l, rangeE t 0 100000]))) && (decide ((if busyC l = 0 then (busyE l l.length).1 else 0) = (busyE l l.length).1))) = true := (by simpa using hgd); (.move rfl)) ?_
    refine VO.cg (r := (((((((decide ((if permsE l = 0 then sortC (clP l l.length) else []) = (clR l l.length l.length))) && (decide (permsE l = permsE l))) && (decide ((if firstE [permsE l, rangeE t 0 100000] = 0 then outE l t else []) = []))) && (decide (firstE [permsE l, rangeE t 0 100000] = firstE [permsE l, rangeE t 0 100000]))) && (decide ((if firstE [permsE l, rangeE t 0 100000] = 0 then lockedE l t else []) = []))) && (decide (firstE [permsE l, rangeE t 0 100000] = firstE [permsE l, rangeE t 0 100000]))) && (decide ((if busyC l = 0 then (busyE l l.length).1 else 0) = (busyE l l.length).1)))) (w := true) [] trivial (fun hgd => have g17_34 : (((((((decide ((if permsE l = 0 then sortC (clP l l.length) else []) = (clR l l.length l.length))) && (decide (permsE l = permsE l))) && (decide ((if firstE [permsE l, rangeE t 0 100000] = 0 then outE l t else []) = []))) && (decide (firstE [permsE l, rangeE t 0 100000] = firstE [permsE l, rangeE t 0 100000]))) && (decide ((if firstE [permsE l, rangeE t 0 100000] = 0 then lockedE l t else []) = []))) && (decide (firstE [permsE l, rangeE t 0 100000] = firstE [permsE l, rangeE t 0 100000]))) && (decide ((if busyC l = 0 then (busyE l l.length).1 else 0) = (busyE l l.length).1))) = true := (by simpa using hgd); (.move rfl)) ?_
    refine VO.cg (r := (((((((decide ((if permsE l = 0 then sortC (clP l l.length) else []) = (clR l l.length l.length))) && (decide (permsE l = permsE l))) && (decide ((if firstE [permsE l, rangeE t 0 100000] = 0 then outE l t else []) = []))) && (decide (firstE [permsE l, rangeE t 0 100000] = firstE [permsE l, rangeE t 0 100000]))) && (decide ((if firstE [permsE l, rangeE t 0 100000] = 0 then lockedE l t else []) = []))) && (decide (firstE [permsE l, rangeE t 0 100000] = firstE [permsE l, rangeE t 0 100000]))) && (decide ((if busyC l = 0 then (busyE l l.length).1 else 0) = (busyE l l.length).1)))) (w := true) [(114, I (if busyC l = 0 then (busyE l l.length).2 else 0)), (115, I ((busyE l l.length).2))] ⟨rfl, rfl, trivial⟩ (fun hgd => have g17_34 : (((((((decide ((if permsE l = 0 then sortC (clP l l.length) else []) = (clR l l.length l.length))) && (decide (permsE l = permsE l))) && (decide ((if firstE [permsE l, rangeE t 0 100000] = 0 then outE l t else []) = []))) && (decide (firstE [permsE l, rangeE t 0 100000] = firstE [permsE l, rangeE t 0 100000]))) && (decide ((if firstE [permsE l, rangeE t 0 100000] = 0 then lockedE l t else []) = []))) && (decide (firstE [permsE l, rangeE t 0 100000] = firstE [permsE l, rangeE t 0 100000]))) && (decide ((if busyC l = 0 then (busyE l l.length).1 else 0) = (busyE l l.length).1))) = true := (by simpa using hgd); (.eql)) ?_
    refine VO.c (.and) ?_
    refine VO.c (.move rfl) ?_
    refine VO.cg (r := ((((((((decide ((if permsE l = 0 then sortC (clP l l.length) else []) = (clR l l.length l.length))) && (decide (permsE l = permsE l))) && (decide ((if firstE [permsE l, rangeE t 0 100000] = 0 then outE l t else []) = []))) && (decide (firstE [permsE l, rangeE t 0 100000] = firstE [permsE l, rangeE t 0 100000]))) && (decide ((if firstE [permsE l, rangeE t 0 100000] = 0 then lockedE l t else []) = []))) && (decide (firstE [permsE l, rangeE t 0 100000] = firstE [permsE l, rangeE t 0 100000]))) && (decide ((if busyC l = 0 then (busyE l l.length).1 else 0) = (busyE l l.length).1))) && (decide ((if busyC l = 0 then (busyE l l.length).2 else 0) = (busyE l l.length).2)))) (w := true) [] trivial (fun hgd => have g17_39 : ((((((((decide ((if permsE l = 0 then sortC (clP l l.length) else []) = (clR l l.length l.length))) && (decide (permsE l = permsE l))) && (decide ((if firstE [permsE l, rangeE t 0 100000] = 0 then outE l t else []) = []))) && (decide (firstE [permsE l, rangeE t 0 100000] = firstE [permsE l, rangeE t 0 100000]))) && (decide ((if firstE [permsE l, rangeE t 0 100000] = 0 then lockedE l t else []) = []))) && (decide (firstE [permsE l, rangeE t 0 100000] = firstE [permsE l, rangeE t 0 100000]))) && (decide ((if busyC l = 0 then (busyE l l.length).1 else 0) = (busyE l l.length).1))) && (decide ((if busyC l = 0 then (busyE l l.length).2 else 0) = (busyE l l.length).2))) = true := (by simpa using hgd); (.move rfl)) ?_
    refine VO.cg (r := ((((((((decide ((if permsE l = 0 then sortC (clP l l.length) else []) = (clR l l.length l.length))) && (decide (permsE l = permsE l))) && (decide ((if firstE [permsE l, rangeE t 0 100000] = 0 then outE l t else []) = []))) && (decide (firstE [permsE l, rangeE t 0 100000] = firstE [permsE l, rangeE t 0 100000]))) && (decide ((if firstE [permsE l, rangeE t 0 100000] = 0 then lockedE l t else []) = []))) && (decide (firstE [permsE l, rangeE t 0 100000] = firstE [permsE l, rangeE t 0 100000]))) && (decide ((if busyC l = 0 then (busyE l l.length).1 else 0) = (busyE l l.length).1))) && (decide ((if busyC l = 0 then (busyE l l.length).2 else 0) = (busyE l l.length).2)))) (w := true) [] trivial (fun hgd => have g17_39 : ((((((((decide ((if permsE l = 0 then sortC (clP l l.length) else []) = (clR l l.length l.length))) && (decide (permsE l = permsE l))) && (decide ((if firstE [permsE l, rangeE t 0 100000] = 0 then outE l t else []) = []))) && (decide (firstE [permsE l, rangeE t 0 100000] = firstE [permsE l, rangeE t 0 100000]))) && (decide ((if firstE [permsE l, rangeE t 0 100000] = 0 then lockedE l t else []) = []))) && (decide (firstE [permsE l, rangeE t 0 100000] = firstE [permsE l, rangeE t 0 100000]))) && (decide ((if busyC l = 0 then (busyE l l.length).1 else 0) = (busyE l l.length).1))) && (decide ((if busyC l = 0 then (busyE l l.length).2 else 0) = (busyE l l.length).2))) = true := (by simpa using hgd); (.move rfl)) ?_
    refine VO.cg (r := ((((((((decide ((if permsE l = 0 then sortC (clP l l.length) else []) = (clR l l.length l.length))) && (decide (permsE l = permsE l))) && (decide ((if firstE [permsE l, rangeE t 0 100000] = 0 then outE l t else []) = []))) && (decide (firstE [permsE l, rangeE t 0 100000] = firstE [permsE l, rangeE t 0 100000]))) && (decide ((if firstE [permsE l, rangeE t 0 100000] = 0 then lockedE l t else []) = []))) && (decide (firstE [permsE l, rangeE t 0 100000] = firstE [permsE l, rangeE t 0 100000]))) && (decide ((if busyC l = 0 then (busyE l l.length).1 else 0) = (busyE l l.length).1))) && (decide ((if busyC l = 0 then (busyE l l.length).2 else 0) = (busyE l l.length).2)))) (w := true) [(119, I (busyC l)), (120, I (whenE (decide ((l.length : Int) = 0)) 12))] ⟨rfl, rfl, trivial⟩ (fun hgd => have g17_39 : ((((((((decide ((if permsE l = 0 then sortC (clP l l.length) else []) = (clR l l.length l.length))) && (decide (permsE l = permsE l))) && (decide ((if firstE [permsE l, rangeE t 0 100000] = 0 then outE l t else []) = []))) && (decide (firstE [permsE l, rangeE t 0 100000] = firstE [permsE l, rangeE t 0 100000]))) && (decide ((if firstE [permsE l, rangeE t 0 100000] = 0 then lockedE l t else []) = []))) && (decide (firstE [permsE l, rangeE t 0 100000] = firstE [permsE l, rangeE t 0 100000]))) && (decide ((if busyC l = 0 then (busyE l l.length).1 else 0) = (busyE l l.length).1))) && (decide ((if busyC l = 0 then (busyE l l.length).2 else 0) = (busyE l l.length).2))) = true := (by simpa using hgd); (.eql)) ?_
    refine VO.c (.and) ?_
    refine VO.c (.move rfl) ?_
    refine VO.callg (r0 := (((((((((decide ((if permsE l = 0 then sortC (clP l l.length) else []) = (clR l l.length l.length))) && (decide (permsE l = permsE l))) && (decide ((if firstE [permsE l, rangeE t 0 100000] = 0 then outE l t else []) = []))) && (decide (firstE [permsE l, rangeE t 0 100000] = firstE [permsE l, rangeE t 0 100000]))) && (decide ((if firstE [permsE l, rangeE t 0 100000] = 0 then lockedE l t else []) = []))) && (decide (firstE [permsE l, rangeE t 0 100000] = firstE [permsE l, rangeE t 0 100000]))) && (decide ((if busyC l = 0 then (busyE l l.length).1 else 0) = (busyE l l.length).1))) && (decide ((if busyC l = 0 then (busyE l l.length).2 else 0) = (busyE l l.length).2))) && (decide (busyC l = whenE (decide ((l.length : Int) = 0)) 12)))) (w := true) [] trivial rfl rfl .same .refl rfl (fun hgd => have g17_44 : (((((((((decide ((if permsE l = 0 then sortC (clP l l.length) else []) = (clR l l.length l.length))) && (decide (permsE l = permsE l))) && (decide ((if firstE [permsE l, rangeE t 0 100000] = 0 then outE l t else []) = []))) && (decide (firstE [permsE l, rangeE t 0 100000] = firstE [permsE l, rangeE t 0 100000]))) && (decide ((if firstE [permsE l, rangeE t 0 100000] = 0 then lockedE l t else []) = []))) && (decide (firstE [permsE l, rangeE t 0 100000] = firstE [permsE l, rangeE t 0 100000]))) && (decide ((if busyC l = 0 then (busyE l l.length).1 else 0) = (busyE l l.length).1))) && (decide ((if busyC l = 0 then (busyE l l.length).2 else 0) = (busyE l l.length).2))) && (decide (busyC l = whenE (decide ((l.length : Int) = 0)) 12))) = true := (by simpa using hgd); VF.call (awakeC_ok )) ?_
    refine VO.c (.and) ?_
    refine VO.c (.assign rfl) ?_
    refine VO.go ?_
    refine VC.ret ?_
    exact VEnd.one rfl evT (pvE (by first | (rw [clash_t c12, busy_1 c12, busy_2 c12, busyC_t c12, if_pos c15, if_pos c15]; simp) | (rw [clash_t c12, busy_1 c12, busy_2 c12, busyC_t c12, if_neg c15, if_neg c15]; simp) | (rw [if_neg c12, busy_0 c12, busy_0 c12, busyC_f c12, if_pos c15, if_pos c15]; simp) | (rw [if_neg c12, busy_0 c12, busy_0 c12, busyC_f c12, if_neg c15, if_neg c15]; simp) | rfl))
  refine VC.skip (VC.seq (VC.seq (VC.text ?_)))
  refine VO.c (.move rfl) ?_
  refine VO.c (.eql) ?_
  refine VO.go ?_
  refine VC.condD rfl (fun c15 => ?_) (fun c15 => ?_)
  · refine VC.text ?_
    refine VO.c (.move rfl) ?_
    refine VO.c (.move rfl) ?_
    refine VO.call rfl rfl (VF.call (rOut_ok (by first | assumption | omega | simp))) ?_
    refine VO.c (.move rfl) ?_
    refine VO.c (.move rfl) ?_
    refine VO.call rfl rfl (VF.call (rLocked_ok (by first | assumption | omega | simp) (by first | assumption | omega | simp))) ?_
    refine VO.c (.assign rfl) ?_
    refine VO.c (.assign rfl) ?_
    refine VO.go (VC.seq (VC.text ?_))
    refine VO.c (.move rfl) ?_
    refine VO.call rfl rfl (VF.call (lClashes_ok (by first | assumption | omega | simp))) ?_
    refine VO.c (.move rfl) ?_
    refine VO.callC rfl rfl .same (.cons .same (.cons .nil .nil)) rfl (VF.call (rSameCl_ok (by first | assumption | omega | simp) (by first | assumption | omega | simp))) ?_
    refine VO.c (.move rfl) ?_
    refine VO.cg (r := decide ((if permsE l = 0 then sortC (clP l l.length) else []) = [])) (w := true) [] trivial (fun hgd => have g17_4 : decide ((if permsE l = 0 then sortC (clP l l.length) else []) = []) = true := (by simpa using hgd); (.move rfl)) ?_
    refine VO.cg (r := decide ((if permsE l = 0 then sortC (clP l l.length) else []) = [])) (w := true) [] trivial (fun hgd => have g17_4 : decide ((if permsE l = 0 then sortC (clP l l.length) else []) = []) = true := (by simpa using hgd); (.move rfl)) ?_
    refine VO.cg (r := decide ((if permsE l = 0 then sortC (clP l l.length) else []) = [])) (w := true) [(84, I (permsE l)), (85, I (permsE l))] ⟨rfl, rfl, trivial⟩ (fun hgd => have g17_4 : decide ((if permsE l = 0 then sortC (clP l l.length) else []) = []) = true := (by simpa using hgd); (.eql)) ?_
    refine VO.c (.and) ?_
    refine VO.c (.move rfl) ?_
    refine VO.cg (r := ((decide ((if permsE l = 0 then sortC (clP l l.length) else []) = [])) && (decide (permsE l = permsE l)))) (w := true) [] trivial (fun hgd => have g17_9 : ((decide ((if permsE l = 0 then sortC (clP l l.length) else []) = [])) && (decide (permsE l = permsE l))) = true := (by simpa using hgd); (.move rfl)) ?_
    refine VO.cg (r := ((decide ((if permsE l = 0 then sortC (clP l l.length) else []) = [])) && (decide (permsE l = permsE l)))) (w := true) [] trivial (fun hgd => have g17_9 : ((decide ((if permsE l = 0 then sortC (clP l l.length) else []) = [])) && (decide (permsE l = permsE l))) = true := (by simpa using hgd); (.move rfl)) ?_
    refine VO.callg (r0 := ((decide ((if permsE l = 0 then sortC (clP l l.length) else []) = [])) && (decide (permsE l = permsE l)))) (w := true) [(89, .v (.sl .str) (if firstE [permsE l, rangeE t 0 100000] = 0 then outE l t else [])), (90, .v (.sl .str) (outE l t))] ⟨rfl, rfl, trivial⟩ rfl rfl .same .refl rfl (fun hgd => have g17_9 : ((decide ((if permsE l = 0 then sortC (clP l l.length) else []) = [])) && (decide (permsE l = permsE l))) = true := (by simpa using hgd); VF.call (rSame_ok (by first | assumption | omega | simp) (by first | assumption | omega | simp))) ?_
    refine VO.c (.and) ?_
    refine VO.c (.move rfl) ?_
    refine VO.cg (r := (((decide ((if permsE l = 0 then sortC (clP l l.length) else []) = [])) && (decide (permsE l = permsE l))) && (decide ((if firstE [permsE l, rangeE t 0 100000] = 0 then outE l t else []) = (outE l t))))) (w := true) [] trivial (fun hgd => have g17_14 : (((decide ((if permsE l = 0 then sortC (clP l l.length) else []) = [])) && (decide (permsE l = permsE l))) && (decide ((if firstE [permsE l, rangeE t 0 100000] = 0 then outE l t else []) = (outE l t)))) = true := (by simpa using hgd); (.move rfl)) ?_
    refine VO.cg (r := (((decide ((if permsE l = 0 then sortC (clP l l.length) else []) = [])) && (decide (permsE l = permsE l))) && (decide ((if firstE [permsE l, rangeE t 0 100000] = 0 then outE l t else []) = (outE l t))))) (w := true) [] trivial (fun hgd => have g17_14 : (((decide ((if permsE l = 0 then sortC (clP l l.length) else []) = [])) && (decide (permsE l = permsE l))) && (decide ((if firstE [permsE l, rangeE t 0 100000] = 0 then outE l t else []) = (outE l t)))) = true := (by simpa using hgd); (.move rfl)) ?_
    refine VO.cg (r := (((decide ((if permsE l = 0 then sortC (clP l l.length) else []) = [])) && (decide (permsE l = permsE l))) && (decide ((if firstE [permsE l, rangeE t 0 100000] = 0 then outE l t else []) = (outE l t))))) (w := true) [(94, I (firstE [permsE l, rangeE t 0 100000])), (95, I (firstE [permsE l, rangeE t 0 100000]))] ⟨rfl, rfl, trivial⟩ (fun hgd => have g17_14 : (((decide ((if permsE l = 0 then sortC (clP l l.length) else []) = [])) && (decide (permsE l = permsE l))) && (decide ((if firstE [permsE l, rangeE t 0 100000] = 0 then outE l t else []) = (outE l t)))) = true := (by simpa using hgd); (.eql)) ?_
    refine VO.c (.and) ?_
    refine VO.c (.move rfl) ?_
    refine VO.cg (r := ((((decide ((if permsE l = 0 then sortC (clP l l.length) else []) = [])) && (decide (permsE l = permsE l))) && (decide ((if firstE [permsE l, rangeE t 0 100000] = 0 then outE l t else []) = (outE l t)))) && (decide (firstE [permsE l, rangeE t 0 100000] = firstE [permsE l, rangeE t 0 100000])))) (w := true) [] trivial (fun hgd => have g17_19 : ((((decide ((if permsE l = 0 then sortC (clP l l.length) else []) = [])) && (decide (permsE l = permsE l))) && (decide ((if firstE [permsE l, rangeE t 0 100000] = 0 then outE l t else []) = (outE l t)))) && (decide (firstE [permsE l, rangeE t 0 100000] = firstE [permsE l, rangeE t 0 100000]))) = true := (by simpa using hgd); (.move rfl)) ?_
    refine VO.cg (r := ((((decide ((if permsE l = 0 then sortC (clP l l.length) else []) = [])) && (decide (permsE l = permsE l))) && (decide ((if firstE [permsE l, rangeE t 0 100000] = 0 then outE l t else []) = (outE l t)))) && (decide (firstE [permsE l, rangeE t 0 100000] = firstE [permsE l, rangeE t 0 100000])))) (w := true) [] trivial (fun hgd => have g17_19 : ((((decide ((if permsE l = 0 then sortC (clP l l.length) else []) = [])) && (decide (permsE l = permsE l))) && (decide ((if firstE [permsE l, rangeE t 0 100000] = 0 then outE l t else []) = (outE l t)))) && (decide (firstE [permsE l, rangeE t 0 100000] = firstE [permsE l, rangeE t 0 100000]))) = true := (by simpa using hgd); (.move rfl)) ?_
    refine VO.callg (r0 := ((((decide ((if permsE l = 0 then sortC (clP l l.length) else []) = [])) && (decide (permsE l = permsE l))) && (decide ((if firstE [permsE l, rangeE t 0 100000] = 0 then outE l t else []) = (outE l t)))) && (decide (firstE [permsE l, rangeE t 0 100000] = firstE [permsE l, rangeE t 0 100000])))) (w := true) [(99, .v (.sl .str) (if firstE [permsE l, rangeE t 0 100000] = 0 then lockedE l t else [])), (100, .v (.sl .str) (lockedE l t))] ⟨rfl, rfl, trivial⟩ rfl rfl .same .refl rfl (fun hgd => have g17_19 : ((((decide ((if permsE l = 0 then sortC (clP l l.length) else []) = [])) && (decide (permsE l = permsE l))) && (decide ((if firstE [permsE l, rangeE t 0 100000] = 0 then outE l t else []) = (outE l t)))) && (decide (firstE [permsE l, rangeE t 0 100000] = firstE [permsE l, rangeE t 0 100000]))) = true := (by simpa using hgd); VF.call (rSame_ok (by first | assumption | omega | simp) (by first | assumption | omega | simp))) ?_
    refine VO.c (.and) ?_
    refine VO.c (.move rfl) ?_
    refine VO.cg (r := (((((decide ((if permsE l = 0 then sortC (clP l l.length) else []) = [])) && (decide (permsE l = permsE l))) && (decide ((if firstE [permsE l, rangeE t 0 100000] = 0 then outE l t else []) = (outE l t)))) && (decide (firstE [permsE l, rangeE t 0 100000] = firstE [permsE l, rangeE t 0 100000]))) && (decide ((if firstE [permsE l, rangeE t 0 100000] = 0 then lockedE l t else []) = (lockedE l t))))) (w := true) [] trivial (fun hgd => have g17_24 : (((((decide ((if permsE l = 0 then sortC (clP l l.length) else []) = [])) && (decide (permsE l = permsE l))) && (decide ((if firstE [permsE l, rangeE t 0 100000] = 0 then outE l t else []) = (outE l t)))) && (decide (firstE [permsE l, rangeE t 0 100000] = firstE [permsE l, rangeE t 0 100000]))) && (decide ((if firstE [permsE l, rangeE t 0 100000] = 0 then lockedE l t else []) = (lockedE l t)))) = true := (by simpa using hgd); (.move rfl)) ?_
    refine VO.cg (r := (((((decide ((if permsE l = 0 then sortC (clP l l.length) else []) = [])) && (decide (permsE l = permsE l))) && (decide ((if firstE [permsE l, rangeE t 0 100000] = 0 then outE l t else []) = (outE l t)))) && (decide (firstE [permsE l, rangeE t 0 100000] = firstE [permsE l, rangeE t 0 100000]))) && (decide ((if firstE [permsE l, rangeE t 0 100000] = 0 then lockedE l t else []) = (lockedE l t))))) (w := true) [] trivial (fun hgd => have g17_24 : (((((decide ((if permsE l = 0 then sortC (clP l l.length) else []) = [])) && (decide (permsE l = permsE l))) && (decide ((if firstE [permsE l, rangeE t 0 100000] = 0 then outE l t else []) = (outE l t)))) && (decide (firstE [permsE l, rangeE t 0 100000] = firstE [permsE l, rangeE t 0 100000]))) && (decide ((if firstE [permsE l, rangeE t 0 100000] = 0 then lockedE l t else []) = (lockedE l t)))) = true := (by simpa using hgd); (.move rfl)) ?_
    refine VO.cg (r := (((((decide ((if permsE l = 0 then sortC (clP l l.length) else []) = [])) && (decide (permsE l = permsE l))) && (decide ((if firstE [permsE l, rangeE t 0 100000] = 0 then outE l t else []) = (outE l t)))) && (decide (firstE [permsE l, rangeE t 0 100000] = firstE [permsE l, rangeE t 0 100000]))) && (decide ((if firstE [permsE l, rangeE t 0 100000] = 0 then lockedE l t else []) = (lockedE l t))))) (w := true) [(104, I (firstE [permsE l, rangeE t 0 100000])), (105, I (firstE [permsE l, rangeE t 0 100000]))] ⟨rfl, rfl, trivial⟩ (fun hgd => have g17_24 : (((((decide ((if permsE l = 0 then sortC (clP l l.length) else []) = [])) && (decide (permsE l = permsE l))) && (decide ((if firstE [permsE l, rangeE t 0 100000] = 0 then outE l t else []) = (outE l t)))) && (decide (firstE [permsE l, rangeE t 0 100000] = firstE [permsE l, rangeE t 0 100000]))) && (decide ((if firstE [permsE l, rangeE t 0 100000] = 0 then lockedE l t else []) = (lockedE l t)))) = true := (by simpa using hgd); (.eql)) ?_
    refine VO.c (.and) ?_
    refine VO.c (.move rfl) ?_
    refine VO.cg (r := ((((((decide ((if permsE l = 0 then sortC (clP l l.length) else []) = [])) && (decide (permsE l = permsE l))) && (decide ((if firstE [permsE l, rangeE t 0 100000] = 0 then outE l t else []) = (outE l t)))) && (decide (firstE [permsE l, rangeE t 0 100000] = firstE [permsE l, rangeE t 0 100000]))) && (decide ((if firstE [permsE l, rangeE t 0 100000] = 0 then lockedE l t else []) = (lockedE l t)))) && (decide (firstE [permsE l, rangeE t 0 100000] = firstE [permsE l, rangeE t 0 100000])))) (w := true) [] trivial (fun hgd => have g17_29 : ((((((decide ((if permsE l = 0 then sortC (clP l l.length) else []) = [])) && (decide (permsE l = permsE l))) && (decide ((if firstE [permsE l, rangeE t 0 100000] = 0 then outE l t else []) = (outE l t)))) && (decide (firstE [permsE l, rangeE t 0 100000] = firstE [permsE l, rangeE t 0 100000]))) && (decide ((if firstE [permsE l, rangeE t 0 100000] = 0 then lockedE l t else []) = (lockedE l t)))) && (decide (firstE [permsE l, rangeE t 0 100000] = firstE [permsE l, rangeE t 0 100000]))) = true := (by simpa using hgd); (.move rfl)) ?_
    refine VO.cg (r := ((((((decide ((if permsE l = 0 then sortC (clP l l.length) else []) = [])) && (decide (permsE l = permsE l))) && (decide ((if firstE [permsE l, rangeE t 0 100000] = 0 then outE l t else []) = (outE l t)))) && (decide (firstE [permsE l, rangeE t 0 100000] = firstE [permsE l, rangeE t 0 100000]))) && (decide ((if firstE [permsE l, rangeE t 0 100000] = 0 then lockedE l t else []) = (lockedE l t)))) && (decide (firstE [permsE l, rangeE t 0 100000] = firstE [permsE l, rangeE t 0 100000])))) (w := true) [] trivial (fun hgd => have g17_29 : ((((((decide ((if permsE l = 0 then sortC (clP l l.length) else []) = [])) && (decide (permsE l = permsE l))) && (decide ((if firstE [permsE l, rangeE t 0 100000] = 0 then outE l t else []) = (outE l t)))) && (decide (firstE [permsE l, rangeE t 0 100000] = firstE [permsE l, rangeE t 0 100000]))) && (decide ((if firstE [permsE l, rangeE t 0 100000] = 0 then lockedE l t else []) = (lockedE l t)))) && (decide (firstE [permsE l, rangeE t 0 100000] = firstE [permsE l, rangeE t 0 100000]))) = true := (by simpa using hgd); (.move rfl)) ?_
    refine VO.cg (r := ((((((decide ((if permsE l = 0 then sortC (clP l l.length) else []) = [])) && (decide (permsE l = permsE l))) && (decide ((if firstE [permsE l, rangeE t 0 100000] = 0 then outE l t else []) = (outE l t)))) && (decide (firstE [permsE l, rangeE t 0 100000] = firstE [permsE l, rangeE t 0 100000]))) && (decide ((if firstE [permsE l, rangeE t 0 100000] = 0 then lockedE l t else []) = (lockedE l t)))) && (decide (firstE [permsE l, rangeE t 0 100000] = firstE [permsE l, rangeE t 0 100000])))) (w := true) [(109, I (if busyC l = 0 then (busyE l l.length).1 else 0)), (110, I (0 : Int))] ⟨rfl, rfl, trivial⟩ (fun hgd => have g17_29 : ((((((decide ((if permsE l = 0 then sortC (clP l l.length) else []) = [])) && (decide (permsE l = permsE l))) && (decide ((if firstE [permsE l, rangeE t 0 100000] = 0 then outE l t else []) = (outE l t)))) && (decide (firstE [permsE l, rangeE t 0 100000] = firstE [permsE l, rangeE t 0 100000]))) && (decide ((if firstE [permsE l, rangeE t 0 100000] = 0 then lockedE l t else []) = (lockedE l t)))) && (decide (firstE [permsE l, rangeE t 0 100000] = firstE [permsE l, rangeE t 0 100000]))) = true := (by simpa using hgd); (.eql)) ?_
    refine VO.c (.and) ?_
    refine VO.c (.move rfl) ?_
    refine VO.cg (r := (((((((decide ((if permsE l = 0 then sortC (clP l l.length) else []) = [])) && (decide (permsE l = permsE l))) && (decide ((if firstE [permsE l, rangeE t 0 100000] = 0 then outE l t else []) = (outE l t)))) && (decide (firstE [permsE l, rangeE t 0 100000] = firstE [permsE l, rangeE t 0 100000]))) && (decide ((if firstE [permsE l, rangeE t 0 100000] = 0 then lockedE l t else []) = (lockedE l t)))) && (decide (firstE [permsE l, rangeE t 0 100000] = firstE [permsE l, rangeE t 0 100000]))) && (decide ((if busyC l = 0 then (busyE l l.length).1 else 0) = (0 : Int))))) (w := true) [] trivial (fun hgd => have g17_34 : (((((((decide ((if permsE l = 0 then sortC (clP l l.length) else []) = [])) && (decide (permsE l = permsE l))) && (decide ((if firstE [permsE l, rangeE t 0 100000] = 0 then outE l t else []) = (outE l t)))) && (decide (firstE [permsE l, rangeE t 0 100000] = firstE [permsE l, rangeE t 0 100000]))) && (decide ((if firstE [permsE l, rangeE t 0 100000] = 0 then lockedE l t else []) = (lockedE l t)))) && (decide (firstE [permsE l, rangeE t 0 100000] = firstE [permsE l, rangeE t 0 100000]))) && (decide ((if busyC l = 0 then (busyE l l.length).1 else 0) = (0 : Int)))) = true := (by simpa using hgd); (.move rfl)) ?_
    refine VO.cg (r := (((((((decide ((if permsE l = 0 then sortC (clP l l.length) else []) = [])) && (decide (permsE l = permsE l))) && (decide ((if firstE [permsE l, rangeE t 0 100000] = 0 then outE l t else []) = (outE l t)))) && (decide (firstE [permsE l, rangeE t 0 100000] = firstE [permsE l, rangeE t 0 100000]))) && (decide ((if firstE [permsE l, rangeE t 0 100000] = 0 then lockedE l t else []) = (lockedE l t)))) && (decide (firstE [permsE l, rangeE t 0 100000] = firstE [permsE l, rangeE t 0 100000]))) && (decide ((if busyC l = 0 then (busyE l l.length).1 else 0) = (0 : Int))))) (w := true) [] trivial (fun hgd => have g17_34 : (((((((decide ((if permsE l = 0 then sortC (clP l l.length) else []) = [])) && (decide (permsE l = permsE l))) && (decide ((if firstE [permsE l, rangeE t 0 100000] = 0 then outE l t else []) = (outE l t)))) && (decide (firstE [permsE l, rangeE t 0 100000] = firstE [permsE l, rangeE t 0 100000]))) && (decide ((if firstE [permsE l, rangeE t 0 100000] = 0 then lockedE l t else []) = (lockedE l t)))) && (decide (firstE [permsE l, rangeE t 0 100000] = firstE [permsE l, rangeE t 0 100000]))) && (decide ((if busyC l = 0 then (busyE l l.length).1 else 0) = (0 : Int)))) = true := (by simpa using hgd); (.move rfl)) ?_
    refine VO.cg (r := (((((((decide ((if permsE l = 0 then sortC (clP l l.length) else []) = [])) && (decide (permsE l = permsE l))) && (decide ((if firstE [permsE l, rangeE t 0 100000] = 0 then outE l t else []) = (outE l t)))) && (decide (firstE [permsE l, rangeE t 0 100000] = firstE [permsE l, rangeE t 0 100000]))) && (decide ((if firstE [permsE l, rangeE t 0 100000] = 0 then lockedE l t else []) = (lockedE l t)))) && (decide (firstE [permsE l, rangeE t 0 100000] = firstE [permsE l, rangeE t 0 100000]))) && (decide ((if busyC l = 0 then (busyE l l.length).1 else 0) = (0 : Int))))) (w := true) [(114, I (if busyC l = 0 then (busyE l l.length).2 else 0)), (115, I (0 : Int))] ⟨rfl, rfl, trivial⟩ (fun hgd => have g17_34 : (((((((decide ((if permsE l = 0 then sortC (clP l l.length) else []) = [])) && (decide (permsE l = permsE l))) && (decide ((if firstE [permsE l, rangeE t 0 100000] = 0 then outE l t else []) = (outE l t)))) && (decide (firstE [permsE l, rangeE t 0 100000] = firstE [permsE l, rangeE t 0 100000]))) && (decide ((if firstE [permsE l, rangeE t 0 100000] = 0 then lockedE l t else []) = (lockedE l t)))) && (decide (firstE [permsE l, rangeE t 0 100000] = firstE [permsE l, rangeE t 0 100000]))) && (decide ((if busyC l = 0 then (busyE l l.length).1 else 0) = (0 : Int)))) = true := (by simpa using hgd); (.eql)) ?_
    refine VO.c (.and) ?_
    refine VO.c (.move rfl) ?_
    refine VO.cg (r := ((((((((decide ((if permsE l = 0 then sortC (clP l l.length) else []) = [])) && (decide (permsE l = permsE l))) && (decide ((if firstE [permsE l, rangeE t 0 100000] = 0 then outE l t else []) = (outE l t)))) && (decide (firstE [permsE l, rangeE t 0 100000] = firstE [permsE l, rangeE t 0 100000]))) && (decide ((if firstE [permsE l, rangeE t 0 100000] = 0 then lockedE l t else []) = (lockedE l t)))) && (decide (firstE [permsE l, rangeE t 0 100000] = firstE [permsE l, rangeE t 0 100000]))) && (decide ((if busyC l = 0 then (busyE l l.length).1 else 0) = (0 : Int)))) && (decide ((if busyC l = 0 then (busyE l l.length).2 else 0) = (0 : Int))))) (w := true) [] trivial (fun hgd => have g17_39 : ((((((((decide ((if permsE l = 0 then sortC (clP l l.length) else []) = [])) && (decide (permsE l = permsE l))) && (decide ((if firstE [permsE l, rangeE t 0 100000] = 0 then outE l t else []) = (outE l t)))) && (decide (firstE [permsE l, rangeE t 0 100000] = firstE [permsE l, rangeE t 0 100000]))) && (decide ((if firstE [permsE l, rangeE t 0 100000] = 0 then lockedE l t else []) = (lockedE l t)))) && (decide (firstE [permsE l, rangeE t 0 100000] = firstE [permsE l, rangeE t 0 100000]))) && (decide ((if busyC l = 0 then (busyE l l.length).1 else 0) = (0 : Int)))) && (decide ((if busyC l = 0 then (busyE l l.length).2 else 0) = (0 : Int)))) = true := (by simpa using hgd); (.move rfl)) ?_
    refine VO.cg (r := ((((((((decide ((if permsE l = 0 then sortC (clP l l.length) else []) = [])) && (decide (permsE l = permsE l))) && (decide ((if firstE [permsE l, rangeE t 0 100000] = 0 then outE l t else []) = (outE l t)))) && (decide (firstE [permsE l, rangeE t 0 100000] = firstE [permsE l, rangeE t 0 100000]))) && (decide ((if firstE [permsE l, rangeE t 0 100000] = 0 then lockedE l t else []) = (lockedE l t)))) && (decide (firstE [permsE l, rangeE t 0 100000] = firstE [permsE l, rangeE t 0 100000]))) && (decide ((if busyC l = 0 then (busyE l l.length).1 else 0) = (0 : Int)))) && (decide ((if busyC l = 0 then (busyE l l.length).2 else 0) = (0 : Int))))) (w := true) [] trivial (fun hgd => have g17_39 : ((((((((decide ((if permsE l = 0 then sortC (clP l l.length) else []) = [])) && (decide (permsE l = permsE l))) && (decide ((if firstE [permsE l, rangeE t 0 100000] = 0 then outE l t else []) = (outE l t)))) && (decide (firstE [permsE l, rangeE t 0 100000] = firstE [permsE l, rangeE t 0 100000]))) && (decide ((if firstE [permsE l, rangeE t 0 100000] = 0 then lockedE l t else []) = (lockedE l t)))) && (decide (firstE [permsE l, rangeE t 0 100000] = firstE [permsE l, rangeE t 0 100000]))) && (decide ((if busyC l = 0 then (busyE l l.length).1 else 0) = (0 : Int)))) && (decide ((if busyC l = 0 then (busyE l l.length).2 else 0) = (0 : Int)))) = true := (by simpa using hgd); (.move rfl)) ?_
    refine VO.cg (r := ((((((((decide ((if permsE l = 0 then sortC (clP l l.length) else []) = [])) && (decide (permsE l = permsE l))) && (decide ((if firstE [permsE l, rangeE t 0 100000] = 0 then outE l t else []) = (outE l t)))) && (decide (firstE [permsE l, rangeE t 0 100000] = firstE [permsE l, rangeE t 0 100000]))) && (decide ((if firstE [permsE l, rangeE t 0 100000] = 0 then lockedE l t else []) = (lockedE l t)))) && (decide (firstE [permsE l, rangeE t 0 100000] = firstE [permsE l, rangeE t 0 100000]))) && (decide ((if busyC l = 0 then (busyE l l.length).1 else 0) = (0 : Int)))) && (decide ((if busyC l = 0 then (busyE l l.length).2 else 0) = (0 : Int))))) (w := true) [(119, I (busyC l)), (120, I (permsE l))] ⟨rfl, rfl, trivial⟩ (fun hgd => have g17_39 : ((((((((decide ((if permsE l = 0 then sortC (clP l l.length) else []) = [])) && (decide (permsE l = permsE l))) && (decide ((if firstE [permsE l, rangeE t 0 100000] = 0 then outE l t else []) = (outE l t)))) && (decide (firstE [permsE l, rangeE t 0 100000] = firstE [permsE l, rangeE t 0 100000]))) && (decide ((if firstE [permsE l, rangeE t 0 100000] = 0 then lockedE l t else []) = (lockedE l t)))) && (decide (firstE [permsE l, rangeE t 0 100000] = firstE [permsE l, rangeE t 0 100000]))) && (decide ((if busyC l = 0 then (busyE l l.length).1 else 0) = (0 : Int)))) && (decide ((if busyC l = 0 then (busyE l l.length).2 else 0) = (0 : Int)))) = true := (by simpa using hgd); (.eql)) ?_
    refine VO.c (.and) ?_
    refine VO.c (.move rfl) ?_
    refine VO.callg (r0 := (((((((((decide ((if permsE l = 0 then sortC (clP l l.length) else []) = [])) && (decide (permsE l = permsE l))) && (decide ((if firstE [permsE l, rangeE t 0 100000] = 0 then outE l t else []) = (outE l t)))) && (decide (firstE [permsE l, rangeE t 0 100000] = firstE [permsE l, rangeE t 0 100000]))) && (decide ((if firstE [permsE l, rangeE t 0 100000] = 0 then lockedE l t else []) = (lockedE l t)))) && (decide (firstE [permsE l, rangeE t 0 100000] = firstE [permsE l, rangeE t 0 100000]))) && (decide ((if busyC l = 0 then (busyE l l.length).1 else 0) = (0 : Int)))) && (decide ((if busyC l = 0 then (busyE l l.length).2 else 0) = (0 : Int)))) && (decide (busyC l = permsE l)))) (w := true) [] trivial rfl rfl .same .refl rfl (fun hgd => have g17_44 : (((((((((decide ((if permsE l = 0 then sortC (clP l l.length) else []) = [])) && (decide (permsE l = permsE l))) && (decide ((if firstE [permsE l, rangeE t 0 100000] = 0 then outE l t else []) = (outE l t)))) && (decide (firstE [permsE l, rangeE t 0 100000] = firstE [permsE l, rangeE t 0 100000]))) && (decide ((if firstE [permsE l, rangeE t 0 100000] = 0 then lockedE l t else []) = (lockedE l t)))) && (decide (firstE [permsE l, rangeE t 0 100000] = firstE [permsE l, rangeE t 0 100000]))) && (decide ((if busyC l = 0 then (busyE l l.length).1 else 0) = (0 : Int)))) && (decide ((if busyC l = 0 then (busyE l l.length).2 else 0) = (0 : Int)))) && (decide (busyC l = permsE l))) = true := (by simpa using hgd); VF.call (awakeC_ok )) ?_
    refine VO.c (.and) ?_
    refine VO.c (.assign rfl) ?_
    refine VO.go ?_
    refine VC.ret ?_
    exact VEnd.one rfl evT (pvE (by first | (rw [clash_t c12, busy_1 c12, busy_2 c12, busyC_t c12, if_pos c15, if_pos c15]; simp) | (rw [clash_t c12, busy_1 c12, busy_2 c12, busyC_t c12, if_neg c15, if_neg c15]; simp) | (rw [if_neg c12, busy_0 c12, busy_0 c12, busyC_f c12, if_pos c15, if_pos c15]; simp) | (rw [if_neg c12, busy_0 c12, busy_0 c12, busyC_f c12, if_neg c15, if_neg c15]; simp) | rfl))
  refine VC.skip (VC.seq (VC.text ?_))
  refine VO.c (.move rfl) ?_
  refine VO.call rfl rfl (VF.call (lClashes_ok (by first | assumption | omega | simp))) ?_
  refine VO.c (.move rfl) ?_
  refine VO.callC rfl rfl .same (.cons .same (.cons .nil .nil)) rfl (VF.call (rSameCl_ok (by first | assumption | omega | simp) (by first | assumption | omega | simp))) ?_
  refine VO.c (.move rfl) ?_
  refine VO.cg (r := decide ((if permsE l = 0 then sortC (clP l l.length) else []) = [])) (w := true) [] trivial (fun hgd => have g17_4 : decide ((if permsE l = 0 then sortC (clP l l.length) else []) = []) = true := (by simpa using hgd); (.move rfl)) ?_
  refine VO.cg (r := decide ((if permsE l = 0 then sortC (clP l l.length) else []) = [])) (w := true) [] trivial (fun hgd => have g17_4 : decide ((if permsE l = 0 then sortC (clP l l.length) else []) = []) = true := (by simpa using hgd); (.move rfl)) ?_
  refine VO.cg (r := decide ((if permsE l = 0 then sortC (clP l l.length) else []) = [])) (w := true) [(84, I (permsE l)), (85, I (permsE l))] ⟨rfl, rfl, trivial⟩ (fun hgd => have g17_4 : decide ((if permsE l = 0 then sortC (clP l l.length) else []) = []) = true := (by simpa using hgd); (.eql)) ?_
  refine VO.c (.and) ?_
  refine VO.c (.move rfl) ?_
  refine VO.cg (r := ((decide ((if permsE l = 0 then sortC (clP l l.length) else []) = [])) && (decide (permsE l = permsE l)))) (w := true) [] trivial (fun hgd => have g17_9 : ((decide ((if permsE l = 0 then sortC (clP l l.length) else []) = [])) && (decide (permsE l = permsE l))) = true := (by simpa using hgd); (.move rfl)) ?_
  refine VO.cg (r := ((decide ((if permsE l = 0 then sortC (clP l l.length) else []) = [])) && (decide (permsE l = permsE l)))) (w := true) [] trivial (fun hgd => have g17_9 : ((decide ((if permsE l = 0 then sortC (clP l l.length) else []) = [])) && (decide (permsE l = permsE l))) = true := (by simpa using hgd); (.move rfl)) ?_
  refine VO.callg (r0 := ((decide ((if permsE l = 0 then sortC (clP l l.length) else []) = [])) && (decide (permsE l = permsE l)))) (w := true) [(89, .v (.sl .str) (if firstE [permsE l, rangeE t 0 100000] = 0 then outE l t else [])), (90, nilV)] ⟨rfl, rfl, trivial⟩ rfl rfl .same (.cons .same (.cons .nil .nil)) rfl (fun hgd => have g17_9 : ((decide ((if permsE l = 0 then sortC (clP l l.length) else []) = [])) && (decide (permsE l = permsE l))) = true := (by simpa using hgd); VF.call (rSame_ok (by first | assumption | omega | simp) (by first | assumption | omega | simp))) ?_
  refine VO.c (.and) ?_
  refine VO.c (.move rfl) ?_
  refine VO.cg (r := (((decide ((if permsE l = 0 then sortC (clP l l.length) else []) = [])) && (decide (permsE l = permsE l))) && (decide ((if firstE [permsE l, rangeE t 0 100000] = 0 then outE l t else []) = [])))) (w := true) [] trivial (fun hgd => have g17_14 : (((decide ((if permsE l = 0 then sortC (clP l l.length) else []) = [])) && (decide (permsE l = permsE l))) && (decide ((if firstE [permsE l, rangeE t 0 100000] = 0 then outE l t else []) = []))) = true := (by simpa using hgd); (.move rfl)) ?_
  refine VO.cg (r := (((decide ((if permsE l = 0 then sortC (clP l l.length) else []) = [])) && (decide (permsE l = permsE l))) && (decide ((if firstE [permsE l, rangeE t 0 100000] = 0 then outE l t else []) = [])))) (w := true) [] trivial (fun hgd => have g17_14 : (((decide ((if permsE l = 0 then sortC (clP l l.length) else []) = [])) && (decide (permsE l = permsE l))) && (decide ((if firstE [permsE l, rangeE t 0 100000] = 0 then outE l t else []) = []))) = true := (by simpa using hgd); (.move rfl)) ?_
  refine VO.cg (r := (((decide ((if permsE l = 0 then sortC (clP l l.length) else []) = [])) && (decide (permsE l = permsE l))) && (decide ((if firstE [permsE l, rangeE t 0 100000] = 0 then outE l t else []) = [])))) (w := true) [(94, I (firstE [permsE l, rangeE t 0 100000])), (95, I (firstE [permsE l, rangeE t 0 100000]))] ⟨rfl, rfl, trivial⟩ (fun hgd => have g17_14 : (((decide ((if permsE l = 0 then sortC (clP l l.length) else []) = [])) && (decide (permsE l = permsE l))) && (decide ((if firstE [permsE l, rangeE t 0 100000] = 0 then outE l t else []) = []))) = true := (by simpa using hgd); (.eql)) ?_
  refine VO.c (.and) ?_
  refine VO.c (.move rfl) ?_
  refine VO.cg (r := ((((decide ((if permsE l = 0 then sortC (clP l l.length) else []) = [])) && (decide (permsE l = permsE l))) && (decide ((if firstE [permsE l, rangeE t 0 100000] = 0 then outE l t else []) = []))) && (decide (firstE [permsE l, rangeE t 0 100000] = firstE [permsE l, rangeE t 0 100000])))) (w := true) [] trivial (fun hgd => have g17_19 : ((((decide ((if permsE l = 0 then sortC (clP l l.length) else []) = [])) && (decide (permsE l = permsE l))) && (decide ((if firstE [permsE l, rangeE t 0 100000] = 0 then outE l t else []) = []))) && (decide (firstE [permsE l, rangeE t 0 100000] = firstE [permsE l, rangeE t 0 100000]))) = true := (by simpa using hgd); (.move rfl)) ?_
  refine VO.cg (r := ((((decide ((if permsE l = 0 then sortC (clP l l.length) else []) = [])) && (decide (permsE l = permsE l))) && (decide ((if firstE [permsE l, rangeE t 0 100000] = 0 then outE l t else []) = []))) && (decide (firstE [permsE l, rangeE t 0 100000] = firstE [permsE l, rangeE t 0 100000])))) (w := true) [] trivial (fun hgd => have g17_19 : ((((decide ((if permsE l = 0 then sortC (clP l l.length) else []) = [])) && (decide (permsE l = permsE l))) && (decide ((if firstE [permsE l, rangeE t 0 100000] = 0 then outE l t else []) = []))) && (decide (firstE [permsE l, rangeE t 0 100000] = firstE [permsE l, rangeE t 0 100000]))) = true := (by simpa using hgd); (.move rfl)) ?_
  refine VO.callg (r0 := ((((decide ((if permsE l = 0 then sortC (clP l l.length) else []) = [])) && (decide (permsE l = permsE l))) && (decide ((if firstE [permsE l, rangeE t 0 100000] = 0 then outE l t else []) = []))) && (decide (firstE [permsE l, rangeE t 0 100000] = firstE [permsE l, rangeE t 0 100000])))) (w := true) [(99, .v (.sl .str) (if firstE [permsE l, rangeE t 0 100000] = 0 then lockedE l t else [])), (100, nilV)] ⟨rfl, rfl, trivial⟩ rfl rfl .same (.cons .same (.cons .nil .nil)) rfl (fun hgd => have g17_19 : ((((decide ((if permsE l = 0 then sortC (clP l l.length) else []) = [])) && (decide (permsE l = permsE l))) && (decide ((if firstE [permsE l, rangeE t 0 100000] = 0 then outE l t else []) = []))) && (decide (firstE [permsE l, rangeE t 0 100000] = firstE [permsE l, rangeE t 0 100000]))) = true := (by simpa using hgd); VF.call (rSame_ok (by first | assumption | omega | simp) (by first | assumption | omega | simp))) ?_
  refine VO.c (.and) ?_
  refine VO.c (.move rfl) ?_
  refine VO.cg (r := (((((decide ((if permsE l = 0 then sortC (clP l l.length) else []) = [])) && (decide (permsE l = permsE l))) && (decide ((if firstE [permsE l, rangeE t 0 100000] = 0 then outE l t else []) = []))) && (decide (firstE [permsE l, rangeE t 0 100000] = firstE [permsE l, rangeE t 0 100000]))) && (decide ((if firstE [permsE l, rangeE t 0 100000] = 0 then lockedE l t else []) = [])))) (w := true) [] trivial (fun hgd => have g17_24 : (((((decide ((if permsE l = 0 then sortC (clP l l.length) else []) = [])) && (decide (permsE l = permsE l))) && (decide ((if firstE [permsE l, rangeE t 0 100000] = 0 then outE l t else []) = []))) && (decide (firstE [permsE l, rangeE t 0 100000] = firstE [permsE l, rangeE t 0 100000]))) && (decide ((if firstE [permsE l, rangeE t 0 100000] = 0 then lockedE l t else []) = []))) = true := (by simpa using hgd); (.move rfl)) ?_
  refine VO.cg (r := (((((decide ((if permsE l = 0 then sortC (clP l l.length) else []) = [])) && (decide (permsE l = permsE l))) && (decide ((if firstE [permsE l, rangeE t 0 100000] = 0 then outE l t else []) = []))) && (decide (firstE [permsE l, rangeE t 0 100000] = firstE [permsE l, rangeE t 0 100000]))) && (decide ((if firstE [permsE l, rangeE t 0 100000] = 0 then lockedE l t else []) = [])))) (w := true) [] trivial (fun hgd => have g17_24 : (((((decide ((if permsE l = 0 then sortC (clP l l.length) else []) = [])) && (decide (permsE l = permsE l))) && (decide ((if firstE [permsE l, rangeE t 0 100000] = 0 then outE l t else []) = []))) && (decide (firstE [permsE l, rangeE t 0 100000] = firstE [permsE l, rangeE t 0 100000]))) && (decide ((if firstE [permsE l, rangeE t 0 100000] = 0 then lockedE l t else []) = []))) = true := (by simpa using hgd); (.move rfl)) ?_
  refine VO.cg (r := (((((decide ((if permsE l = 0 then sortC (clP l l.length) else []) = [])) && (decide (permsE l = permsE l))) && (decide ((if firstE [permsE l, rangeE t 0 100000] = 0 then outE l t else []) = []))) && (decide (firstE [permsE l, rangeE t 0 100000] = firstE [permsE l, rangeE t 0 100000]))) && (decide ((if firstE [permsE l, rangeE t 0 100000] = 0 then lockedE l t else []) = [])))) (w := true) [(104, I (firstE [permsE l, rangeE t 0 100000])), (105, I (firstE [permsE l, rangeE t 0 100000]))] ⟨rfl, rfl, trivial⟩ (fun hgd => have g17_24 : (((((decide ((if permsE l = 0 then sortC (clP l l.length) else []) = [])) && (decide (permsE l = permsE l))) && (decide ((if firstE [permsE l, rangeE t 0 100000] = 0 then outE l t else []) = []))) && (decide (firstE [permsE l, rangeE t 0 100000] = firstE [permsE l, rangeE t 0 100000]))) && (decide ((if firstE [permsE l, rangeE t 0 100000] = 0 then lockedE l t else []) = []))) = true := (by simpa using hgd); (.eql)) ?_
  refine VO.c (.and) ?_
  refine VO.c (.move rfl) ?_
  refine VO.cg (r := ((((((decide ((if permsE l = 0 then sortC (clP l l.length) else []) = [])) && (decide (permsE l = permsE l))) && (decide ((if firstE [permsE l, rangeE t 0 100000] = 0 then outE l t else []) = []))) && (decide (firstE [permsE l, rangeE t 0 100000] = firstE [permsE l, rangeE t 0 100000]))) && (decide ((if firstE [permsE l, rangeE t 0 100000] = 0 then lockedE l t else []) = []))) && (decide (firstE [permsE l, rangeE t 0 100000] = firstE [permsE l, rangeE t 0 100000])))) (w := true) [] trivial (fun hgd => have g17_29 : ((((((decide ((if permsE l = 0 then sortC (clP l l.length) else []) = [])) && (decide (permsE l = permsE l))) && (decide ((if firstE [permsE l, rangeE t 0 100000] = 0 then outE l t else []) = []))) && (decide (firstE [permsE l, rangeE t 0 100000] = firstE [permsE l, rangeE t 0 100000]))) && (decide ((if firstE [permsE l, rangeE t 0 100000] = 0 then lockedE l t else []) = []))) && (decide (firstE [permsE l, rangeE t 0 100000] = firstE [permsE l, rangeE t 0 100000]))) = true := (by simpa using hgd); (.move rfl)) ?_
  refine VO.cg (r := ((((((decide ((if permsE l = 0 then sortC (clP l l.length) else []) = [])) && (decide (permsE l = permsE l))) && (decide ((if firstE [permsE l, rangeE t 0 100000] = 0 then outE l t else []) = []))) && (decide (firstE [permsE l, rangeE t 0 100000] = firstE [permsE l, rangeE t 0 100000]))) && (decide ((if firstE [permsE l, rangeE t 0 100000] = 0 then lockedE l t else []) = []))) && (decide (firstE [permsE l, rangeE t 0 100000] = firstE [permsE l, rangeE t 0 100000])))) (w := true) [] trivial (fun hgd => have g17_29 : ((((((decide ((if permsE l = 0 then sortC (clP l l.length) else []) = [])) && (decide (permsE l = permsE l))) && (decide ((if firstE [permsE l, rangeE t 0 100000] = 0 then outE l t else []) = []))) && (decide (firstE [permsE l, rangeE t 0 100000] = firstE [permsE l, rangeE t 0 100000]))) && (decide ((if firstE [permsE l, rangeE t 0 100000] = 0 then lockedE l t else []) = []))) && (decide (firstE [permsE l, rangeE t 0 100000] = firstE [permsE l, rangeE t 0 100000]))) = true := (by simpa using hgd); (.move rfl)) ?_
  refine VO.cg (r := ((((((decide ((if permsE l = 0 then sortC (clP l l.length) else []) = [])) && (decide (permsE l = permsE l))) && (decide ((if firstE [permsE l, rangeE t 0 100000] = 0 then outE l t else []) = []))) && (decide (firstE [permsE l, rangeE t 0 100000] = firstE [permsE l, rangeE t 0 100000]))) && (decide ((if firstE [permsE l, rangeE t 0 100000] = 0 then lockedE l t else []) = []))) && (decide (firstE [permsE l, rangeE t 0 100000] = firstE [permsE l, rangeE t 0 100000])))) (w := true) [(109, I (if busyC l = 0 then (busyE l l.length).1 else 0)), (110, I (0 : Int))] ⟨rfl, rfl, trivial⟩ (fun hgd => have g17_29 : ((((((decide ((if permsE l = 0 then sortC (clP l l.length) else []) = [])) && (decide (permsE l = permsE l))) && (decide ((if firstE [permsE l, rangeE t 0 100000] = 0 then outE l t else []) = []))) && (decide (firstE [permsE l, rangeE t 0 100000] = firstE [permsE l, rangeE t 0 100000]))) && (decide ((if firstE [permsE l, rangeE t 0 100000] = 0 then lockedE l t else []) = []))) && (decide (firstE [permsE l, rangeE t 0 100000] = firstE [permsE l, rangeE t 0 100000]))) = true := (by simpa using hgd); (.eql)) ?_
  refine VO.c (.and) ?_
  refine VO.c (.move rfl) ?_
  refine VO.cg (r := (((((((decide ((if permsE l = 0 then sortC (clP l l.length) else []) = [])) && (decide (permsE l = permsE l))) && (decide ((if firstE [permsE l, rangeE t 0 100000] = 0 then outE l t else []) = []))) && (decide (firstE [permsE l, rangeE t 0 100000] = firstE [permsE l, rangeE t 0 100000]))) && (decide ((if firstE [permsE l, rangeE t 0 100000] = 0 then lockedE l t else []) = []))) && (decide (firstE [permsE l, rangeE t 0 100000] = firstE [permsE l, rangeE t 0 100000]))) && (decide ((if busyC l = 0 then (busyE l l.length).1 else 0) = (0 : Int))))) (w := true) [] trivial (fun hgd => have g17_34 : (((((((decide ((if permsE l = 0 then sortC (clP l l.length) else []) = [])) && (decide (permsE l = permsE l))) && (decide ((if firstE [permsE l, rangeE t 0 100000] = 0 then outE l t else []) = []))) && (decide (firstE [permsE l, rangeE t 0 100000] = firstE [permsE l, rangeE t 0 100000]))) && (decide ((if firstE [permsE l, rangeE t 0 100000] = 0 then lockedE l t else []) = []))) && (decide (firstE [permsE l, rangeE t 0 100000] = firstE [permsE l, rangeE t 0 100000]))) && (decide ((if busyC l = 0 then (busyE l l.length).1 else 0) = (0 : Int)))) = true := (by simpa using hgd); (.move rfl)) ?_
  refine VO.cg (r := (((((((decide ((if permsE l = 0 then sortC (clP l l.length) else []) = [])) && (decide (permsE l = permsE l))) && (decide ((if firstE [permsE l, rangeE t 0 100000] = 0 then outE l t else []) = []))) && (decide (firstE [permsE l, rangeE t 0 100000] = firstE [permsE l, rangeE t 0 100000]))) && (decide ((if firstE [permsE l, rangeE t 0 100000] = 0 then lockedE l t else []) = []))) && (decide (firstE [permsE l, rangeE t 0 100000] = firstE [permsE l, rangeE t 0 100000]))) && (decide ((if busyC l = 0 then (busyE l l.length).1 else 0) = (0 : Int))))) (w := true) [] trivial (fun hgd => have g17_34 : (((((((decide ((if permsE l = 0 then sortC (clP l l.length) else []) = [])) && (decide (permsE l = permsE l))) && (decide ((if firstE [permsE l, rangeE t 0 100000] = 0 then outE l t else []) = []))) && (decide (firstE [permsE l, rangeE t 0 100000] = firstE [permsE l, rangeE t 0 100000]))) && (decide ((if firstE [permsE l, rangeE t 0 100000] = 0 then lockedE l t else []) = []))) && (decide (firstE [permsE l, rangeE t 0 100000] = firstE [permsE l, rangeE t 0 100000]))) && (decide ((if busyC l = 0 then (busyE l l.length).1 else 0) = (0 : Int)))) = true := (by simpa using hgd); (.move rfl)) ?_
  refine VO.cg (r := (((((((decide ((if permsE l = 0 then sortC (clP l l.length) else []) = [])) && (decide (permsE l = permsE l))) && (decide ((if firstE [permsE l, rangeE t 0 100000] = 0 then outE l t else []) = []))) && (decide (firstE [permsE l, rangeE t 0 100000] = firstE [permsE l, rangeE t 0 100000]))) && (decide ((if firstE [permsE l, rangeE t 0 100000] = 0 then lockedE l t else []) = []))) && (decide (firstE [permsE l, rangeE t 0 100000] = firstE [permsE l, rangeE t 0 100000]))) && (decide ((if busyC l = 0 then (busyE l l.length).1 else 0) = (0 : Int))))) (w := true) [(114, I (if busyC l = 0 then (busyE l l.length).2 else 0)), (115, I (0 : Int))] ⟨rfl, rfl, trivial⟩ (fun hgd => have g17_34 : (((((((decide ((if permsE l = 0 then sortC (clP l l.length) else []) = [])) && (decide (permsE l = permsE l))) && (decide ((if firstE [permsE l, rangeE t 0 100000] = 0 then outE l t else []) = []))) && (decide (firstE [permsE l, rangeE t 0 100000] = firstE [permsE l, rangeE t 0 100000]))) && (decide ((if firstE [permsE l, rangeE t 0 100000] = 0 then lockedE l t else []) = []))) && (decide (firstE [permsE l, rangeE t 0 100000] = firstE [permsE l, rangeE t 0 100000]))) && (decide ((if busyC l = 0 then (busyE l l.length).1 else 0) = (0 : Int)))) = true := (by simpa using hgd); (.eql)) ?_
  refine VO.c (.and) ?_
  refine VO.c (.move rfl) ?_
  refine VO.cg (r := ((((((((decide ((if permsE l = 0 then sortC (clP l l.length) else []) = [])) && (decide (permsE l = permsE l))) && (decide ((if firstE [permsE l, rangeE t 0 100000] = 0 then outE l t else []) = []))) && (decide (firstE [permsE l, rangeE t 0 100000] = firstE [permsE l, rangeE t 0 100000]))) && (decide ((if firstE [permsE l, rangeE t 0 100000] = 0 then lockedE l t else []) = []))) && (decide (firstE [permsE l, rangeE t 0 100000] = firstE [permsE l, rangeE t 0 100000]))) && (decide ((if busyC l = 0 then (busyE l l.length).1 else 0) = (0 : Int)))) && (decide ((if busyC l = 0 then (busyE l l.length).2 else 0) = (0 : Int))))) (w := true) [] trivial (fun hgd => have g17_39 : ((((((((decide ((if permsE l = 0 then sortC (clP l l.length) else []) = [])) && (decide (permsE l = permsE l))) && (decide ((if firstE [permsE l, rangeE t 0 100000] = 0 then outE l t else []) = []))) && (decide (firstE [permsE l, rangeE t 0 100000] = firstE [permsE l, rangeE t 0 100000]))) && (decide ((if firstE [permsE l, rangeE t 0 100000] = 0 then lockedE l t else []) = []))) && (decide (firstE [permsE l, rangeE t 0 100000] = firstE [permsE l, rangeE t 0 100000]))) && (decide ((if busyC l = 0 then (busyE l l.length).1 else 0) = (0 : Int)))) && (decide ((if busyC l = 0 then (busyE l l.length).2 else 0) = (0 : Int)))) = true := (by simpa using hgd); (.move rfl)) ?_
  refine VO.cg (r := ((((((((decide ((if permsE l = 0 then sortC (clP l l.length) else []) = [])) && (decide (permsE l = permsE l))) && (decide ((if firstE [permsE l, rangeE t 0 100000] = 0 then outE l t else []) = []))) && (decide (firstE [permsE l, rangeE t 0 100000] = firstE [permsE l, rangeE t 0 100000]))) && (decide ((if firstE [permsE l, rangeE t 0 100000] = 0 then lockedE l t else []) = []))) && (decide (firstE [permsE l, rangeE t 0 100000] = firstE [permsE l, rangeE t 0 100000]))) && (decide ((if busyC l = 0 then (busyE l l.length).1 else 0) = (0 : Int)))) && (decide ((if busyC l = 0 then (busyE l l.length).2 else 0) = (0 : Int))))) (w := true) [] trivial (fun hgd => have g17_39 : ((((((((decide ((if permsE l = 0 then sortC (clP l l.length) else []) = [])) && (decide (permsE l = permsE l))) && (decide ((if firstE [permsE l, rangeE t 0 100000] = 0 then outE l t else []) = []))) && (decide (firstE [permsE l, rangeE t 0 100000] = firstE [permsE l, rangeE t 0 100000]))) && (decide ((if firstE [permsE l, rangeE t 0 100000] = 0 then lockedE l t else []) = []))) && (decide (firstE [permsE l, rangeE t 0 100000] = firstE [permsE l, rangeE t 0 100000]))) && (decide ((if busyC l = 0 then (busyE l l.length).1 else 0) = (0 : Int)))) && (decide ((if busyC l = 0 then (busyE l l.length).2 else 0) = (0 : Int)))) = true := (by simpa using hgd); (.move rfl)) ?_
  refine VO.cg (r := ((((((((decide ((if permsE l = 0 then sortC (clP l l.length) else []) = [])) && (decide (permsE l = permsE l))) && (decide ((if firstE [permsE l, rangeE t 0 100000] = 0 then outE l t else []) = []))) && (decide (firstE [permsE l, rangeE t 0 100000] = firstE [permsE l, rangeE t 0 100000]))) && (decide ((if firstE [permsE l, rangeE t 0 100000] = 0 then lockedE l t else []) = []))) && (decide (firstE [permsE l, rangeE t 0 100000] = firstE [permsE l, rangeE t 0 100000]))) && (decide ((if busyC l = 0 then (busyE l l.length).1 else 0) = (0 : Int)))) && (decide ((if busyC l = 0 then (busyE l l.length).2 else 0) = (0 : Int))))) (w := true) [(119, I (busyC l)), (120, I (permsE l))] ⟨rfl, rfl, trivial⟩ (fun hgd => have g17_39 : ((((((((decide ((if permsE l = 0 then sortC (clP l l.length) else []) = [])) && (decide (permsE l = permsE l))) && (decide ((if firstE [permsE l, rangeE t 0 100000] = 0 then outE l t else []) = []))) && (decide (firstE [permsE l, rangeE t 0 100000] = firstE [permsE l, rangeE t 0 100000]))) && (decide ((if firstE [permsE l, rangeE t 0 100000] = 0 then lockedE l t else []) = []))) && (decide (firstE [permsE l, rangeE t 0 100000] = firstE [permsE l, rangeE t 0 100000]))) && (decide ((if busyC l = 0 then (busyE l l.length).1 else 0) = (0 : Int)))) && (decide ((if busyC l = 0 then (busyE l l.length).2 else 0) = (0 : Int)))) = true := (by simpa using hgd); (.eql)) ?_
  refine VO.c (.and) ?_
  refine VO.c (.move rfl) ?_
  refine VO.callg (r0 := (((((((((decide ((if permsE l = 0 then sortC (clP l l.length) else []) = [])) && (decide (permsE l = permsE l))) && (decide ((if firstE [permsE l, rangeE t 0 100000] = 0 then outE l t else []) = []))) && (decide (firstE [permsE l, rangeE t 0 100000] = firstE [permsE l, rangeE t 0 100000]))) && (decide ((if firstE [permsE l, rangeE t 0 100000] = 0 then lockedE l t else []) = []))) && (decide (firstE [permsE l, rangeE t 0 100000] = firstE [permsE l, rangeE t 0 100000]))) && (decide ((if busyC l = 0 then (busyE l l.length).1 else 0) = (0 : Int)))) && (decide ((if busyC l = 0 then (busyE l l.length).2 else 0) = (0 : Int)))) && (decide (busyC l = permsE l)))) (w := true) [] trivial rfl rfl .same .refl rfl (fun hgd => have g17_44 : (((((((((decide ((if permsE l = 0 then sortC (clP l l.length) else []) = [])) && (decide (permsE l = permsE l))) && (decide ((if firstE [permsE l, rangeE t 0 100000] = 0 then outE l t else []) = []))) && (decide (firstE [permsE l, rangeE t 0 100000] = firstE [permsE l, rangeE t 0 100000]))) && (decide ((if firstE [permsE l, rangeE t 0 100000] = 0 then lockedE l t else []) = []))) && (decide (firstE [permsE l, rangeE t 0 100000] = firstE [permsE l, rangeE t 0 100000]))) && (decide ((if busyC l = 0 then (busyE l l.length).1 else 0) = (0 : Int)))) && (decide ((if busyC l = 0 then (busyE l l.length).2 else 0) = (0 : Int)))) && (decide (busyC l = permsE l))) = true := (by simpa using hgd); VF.call (awakeC_ok )) ?_
  refine VO.c (.and) ?_
  refine VO.c (.assign rfl) ?_
  refine VO.go ?_
  refine VC.ret ?_
  exact VEnd.one rfl evT (pvE (by first | (rw [clash_t c12, busy_1 c12, busy_2 c12, busyC_t c12, if_pos c15, if_pos c15]; simp) | (rw [clash_t c12, busy_1 c12, busy_2 c12, busyC_t c12, if_neg c15, if_neg c15]; simp) | (rw [if_neg c12, busy_0 c12, busy_0 c12, busyC_f c12, if_pos c15, if_pos c15]; simp) | (rw [if_neg c12, busy_0 c12, busy_0 c12, busyC_f c12, if_neg c15, if_neg c15]; simp) | rfl))
end Go.Proofs
namespace Go.Fs
open Go.RowKit (Below)
variable {P : Program}
def orcB (fi fj fc : FuncId) (T : TypeId) : FuncId → List Value → Heap → Option (Value × Heap) := fun f xs h =>
  bif Nat.beq f fc then
    match xs with
    | [.pointer (some ⟨b, 0, none⟩)] =>
      match h.get b with
      | some (.row e [p, v] true false) =>
        bif Nat.beq e T then
          match p with
          | .pointer none => some (.tuple #[], h.set b (.row e [.pointer (some ⟨b, 0, none⟩), v] true false))
          | .pointer (some ⟨b', 0, none⟩) => bif Nat.beq b' b then some (.tuple #[], h) else none
          | _ => none
        else none
      | _ => none
    | _ => none
  else orcS fi fj f xs h
theorem orcB_sound {B : Nat} {w0 : World} {fi fj fc : FuncId} {T : TypeId} (hz : w0.drawn = 0) (hS : CallSound P B w0 (orcS fi fj)) (hc : Enters P fc)
    (hF : ∀ (b : Nat) (w : World), w.cell? ⟨b, 0, none⟩ = some (.pointer none) → w.shape? b = some (T, 2) → w.frozen? ⟨b, 0, none⟩ = false →
      Calls P fc #[.pointer (some ⟨b, 0, none⟩)] w fun e w' => e = .returned (.tuple #[]) ∧ w' = w.setCell ⟨b, 0, none⟩ (.pointer (some ⟨b, 0, none⟩)))
    (hU : ∀ (b : Nat) (w : World), w.cell? ⟨b, 0, none⟩ = some (.pointer (some ⟨b, 0, none⟩)) → Calls P fc #[.pointer (some ⟨b, 0, none⟩)] w fun e w' => e = .returned (.tuple #[]) ∧ w' = w) :
    CallSound P B w0 (orcB fi fj fc T) := by
  intro f xs h v h' hf
  unfold orcB at hf
  cases hb : Nat.beq f fc with
  | false =>
    rw [hb] at hf
    exact hS f xs h v h' hf
  | true =>
    have := nbeq hb
    subst this
    rw [hb] at hf
    simp only [cond_true] at hf
    split at hf
    · rename_i b
      split at hf
      · rename_i e p u hg
        obtain ⟨he, hf2⟩ := bif_some hf
        obtain rfl := nbeq he
        refine ⟨hc, fun ρ S w args' hr ha nn => ?_⟩
        obtain ⟨hsb, cur, k1, k2, k3, k4, k5, k6, k7⟩ := hr.objs b _ hg
        have hcl : cur.length = 2 := (k6 rfl).symm
        match cur, hcl with
        | [p', u'], _ =>
        have hp : VR ρ S p p' := k7 0 (by simp)
        have hu : VR ρ S u u' := k7 1 (by simp)
        have hat : (ρ b).at 0 = ⟨(ρ b).block, 0, none⟩ := by unfold Loc.at; rw [k2]
        have harg : args' = [.pointer (some ⟨(ρ b).block, 0, none⟩)] := by
          have h1 := ha.1
          match args', h1 with
          | [a], _ =>
            have h2 : VR ρ S (.pointer (some ⟨b, 0, none⟩)) a := ha.2 0 (by simp)
            rw [h2.ptr_inv.2, hat]
        subst harg
        have hcell : w.cell? ⟨(ρ b).block, 0, none⟩ = some p' := by simp [World.cell?, k1]
        split at hf2
        · simp only [Option.some.injEq, Prod.mk.injEq] at hf2
          obtain ⟨rfl, rfl⟩ := hf2
          obtain rfl := hp.eq_of_af0 rfl
          have hC : CallsIn Fence.wide nn P f #[.pointer (some ⟨(ρ b).block, 0, none⟩)] w _ := callsIn_wide.2 (hF (ρ b).block w hcell (by simp [World.shape?, k1]) (by simp [World.frozen?, k1]))
          refine hC.mono fun e2 w' hret => ?_
          obtain ⟨rfl, rfl⟩ := hret
          refine ⟨ρ, Moved.set hr hg rfl rfl rfl rfl rfl (by simp [World.setCell]) (fun k hk => ?_) ?_, VR.tuple' LR.nil⟩
          · simp only [World.setCell, Array.getElem?_modify]
            rw [if_neg (fun e0 => hk e0.symm)]
          refine ⟨[.pointer (some ⟨(ρ b).block, 0, none⟩), u'], ?_, k2, k3, k4, Nat.le_refl _, fun _ => rfl, fun i hi => ?_⟩
          · simp only [World.setCell, Array.getElem?_modify, if_pos rfl, k1]
            simp
          match i, hi with
          | 0, _ => show VR ρ S (.pointer (some ⟨b, 0, none⟩)) (.pointer (some ⟨(ρ b).block, 0, none⟩)); rw [← hat]; exact .ptr b 0 hsb
          | 1, _ => exact hu
        · rename_i b'
          obtain ⟨hbb, hf3⟩ := bif_some hf2
          obtain rfl := nbeq hbb
          simp only [Option.some.injEq, Prod.mk.injEq] at hf3
          obtain ⟨rfl, rfl⟩ := hf3
          have hp2 := hp.ptr_inv.2
          rw [hat] at hp2
          subst hp2
          have hC : CallsIn Fence.wide nn P f #[.pointer (some ⟨(ρ b').block, 0, none⟩)] w _ := callsIn_wide.2 (hU (ρ b').block w hcell)
          refine hC.mono fun e2 w' hret => ?_
          obtain ⟨rfl, rfl⟩ := hret
          exact ⟨ρ, Moved.same hr, VR.tuple' LR.nil⟩
        cases hf2
      cases hf
    cases hf
end Go.Fs
namespace Go.Fs
open Go.RowKit (Below)
variable {P : Program} {B : Nat} {w0 : World}

def fsStepX (P : Program) (orc : FuncId → List Value → Heap → Option (Value × Heap)) (rec : Rec) : Rec := fun rnd c fr h =>
  match c with
  | .region _ ops true => match drawnX P { next := h.next, low := h.next, objs := h.objs } (fsOp P (callOf P orc rec) (fsYield rec)) ops fr.n ⟨fr.t, { next := h.next, low := h.next, objs := h.objs }, [], [], 0, false⟩ with
    | some s => some (.normal, { t := s.t, n := fr.n, marks := fr.marks }, { next := s.h.next, low := min h.low s.h.low, objs := s.h.objs })
    | none => none
  | c => fsStep P orc rec rnd c fr h
def fsCodeX (P : Program) (orc : FuncId → List Value → Heap → Option (Value × Heap)) : Nat → Rec
  | 0 => fun _ _ _ _ => none
  | n + 1 => fsStepX P orc (fsCodeX P orc n)

theorem HR.low {ρ : Ren} {S : Nat → Prop} {h : Heap} {w : World} (hr : HR P ρ S B w0 h w) (l : Nat) : HR P ρ S B w0 { next := h.next, low := l, objs := h.objs } w :=
  { objs := hr.objs, inj := hr.inj, base := hr.base, ro := hr.ro, ids := hr.ids, pos := hr.pos, below := hr.below, drawn := hr.drawn, size := hr.size }
theorem Moved.lowered {ρ ρ' : Ren} {S : Nat → Prop} {h h' : Heap} {w w' : World} {l : Nat} (m : Moved P B w0 ρ ρ' S { next := h.next, low := l, objs := h.objs } h' w w') :
    Moved P B w0 ρ ρ' S h { next := h'.next, low := min h.low h'.low, objs := h'.objs } w w' where
  agree := m.agree
  next := m.next
  hr := m.hr.low _
  frame := ⟨m.frame.os, m.frame.tape, m.frame.output, m.frame.size, m.frame.block⟩
  low := Nat.min_le_left _ _
  keep := fun i hi hl => m.keep i hi (Nat.lt_of_lt_of_le hl (Nat.min_le_right _ _))
  old := m.old
  fresh := fun i o ho hi => by
    obtain ⟨h1, h2⟩ := m.fresh i o ho hi
    refine ⟨h1, ?_⟩
    rcases h2 with h2 | ⟨j, oj, h3, h4, h5, h6, h7⟩
    · exact .inl h2
    exact .inr ⟨j, oj, h3, h4, h5, Nat.le_trans (Nat.min_le_right _ _) h6, h7⟩
theorem stepX_sound (hP : ProgOk P) {orc : FuncId → List Value → Heap → Option (Value × Heap)} (horc : CallSound P B w0 orc) {m : Nat} {rec : Rec} (hrec : SoundR P B w0 m rec) : SoundR P B w0 (m + 1) (fsStepX P orc rec) := by
  have hcs : CallSnd P B w0 (callOf P orc rec) := call_sound hP horc hrec
  have hys : YieldSound P B w0 (fsYield rec) := yield_sound hrec
  have hold := step_sound hP horc hrec
  intro rnd c fr h e fr' h' hok hf
  cases c with
  | region id ops draw =>
    cases draw with
    | false => exact hold rnd _ fr h e fr' h' hok hf
    | true =>
      intro ρ S w a nn Q hr ht hm hs k
      simp only [fsStepX] at hf
      split at hf
      · rename_i s hrun
        simp only [Option.some.injEq, Prod.mk.injEq] at hf
        obtain ⟨rfl, rfl, rfl⟩ := hf
        refine wpIn_region_draw fun t => ?_
        rw [hP.mixed]
        exact drawn_wpX (h0 := { next := h.next, low := h.next, objs := h.objs }) (call := callOf P orc rec) (yield := fsYield rec) hcs hys hok hrun ((hr.drew _).low _) ht (fun ρ1 w1 a1 m1 ht1 hd1 => k _ _ _ ⟨(Moved.ofDrew m1).lowered, ht1, by rw [hd1]; exact hm.mono fun b hb => ⟨.inl hb, m1.agree b hb⟩⟩) t
      cases hf
  | _ => exact hold rnd _ fr h e fr' h' hok hf

theorem codeX_sound (hP : ProgOk P) {orc : FuncId → List Value → Heap → Option (Value × Heap)} (horc : CallSound P B w0 orc) : ∀ m, SoundR P B w0 m (fsCodeX P orc m)
  | 0 => fun rnd c fr h e fr' h' _ hf => by cases hf
  | m + 1 => stepX_sound hP horc (codeX_sound hP horc m)
theorem fsX_calls (hP : ProgOk P) {orc : FuncId → List Value → Heap → Option (Value × Heap)} (horc : CallSound P B w0 orc) (m : Nat) : CallSound P B w0 (fsEnter P (fsCodeX P orc m)) := enter_sound hP (codeX_sound hP horc m)
theorem fsX_closed (hP : ProgOk P) {w : World} {orc : FuncId → List Value → Heap → Option (Value × Heap)} (horc : CallSound P w.heap.size (wz w) orc) {m : Nat} {f : FuncId} {args : List Value} {v : Value} (ha : args.all af = true)
    (hf : (fsEnter P (fsCodeX P orc m) f args ⟨1, 1, []⟩).map (·.1) = some v) (hv : af v = true) :
    Calls P f args.toArray w fun | .returned v', w' => v' = v ∧ Below w.heap.size w w' | _, _ => False := by
  obtain ⟨⟨v0, h0⟩, h1, h2⟩ := Option.map_eq_some_iff.1 hf
  simp only at h2
  subst h2
  have hr : HR P (fun _ => ⟨0, 0, 0, 0⟩) (fun _ => False) w.heap.size (wz w) ⟨1, 1, []⟩ w :=
    { objs := fun i o hi => (by cases hi), inj := fun i j oi oj hi => (by cases hi), base := fun i o hi => (by cases hi), ro := fun i o hi => (by cases hi), ids := fun b hb => hb.elim, pos := by decide,
      below := z_below (Below.refl _ _), drawn := Nat.zero_le _, size := Nat.le_refl _ }
  have hc := ((fsX_calls hP horc m) f args _ _ _ h1).2 _ _ w args hr ⟨rfl, fun i hi => .of_af (List.all_eq_true.1 ha _ (mem_getD hi))⟩ 0
  refine Calls.mono (callsIn_wide.1 hc) fun e w' he => ?_
  cases e with
  | returned v' =>
    obtain ⟨ρ', m1, hv1⟩ := he
    exact ⟨hv1.eq_of_af hv, below_z m1.hr.below⟩
  | panicked c => exact he.elim
  | outgrown => exact he.elim
theorem awakeX_calls (hP : ProgOk P) {B : Nat} {w0 : World} {O : FuncId → List Value → Heap → Option (Value × Heap)} {fa : FuncId} (hS : ∀ w, Below B w0 w → CallSound P w.heap.size (wz w) O) {m : Nat}
    (hrun : (fsEnter P (fsCodeX P O m) fa [] ⟨1, 1, []⟩).map (·.1) = some (.bool true)) (w : World) (hw : Below B w0 w) :
    Calls P fa #[] w fun | .returned v', w' => v' = .bool true ∧ Below w.heap.size w w' | _, _ => False :=
  fsX_closed hP (hS w hw) (args := []) rfl hrun rfl
end Go.Fs
namespace Go.Fs
variable {P : Program} {orc : FuncId → List Value → Heap → Option (Value × Heap)}
def runPre (P : Program) (orc : FuncId → List Value → Heap → Option (Value × Heap)) : Nat → Nat → Code → Fr → Heap → Option (Nat × Code × Fr × Heap)
  | 0, n, c, fr, h => some (n, c, fr, h)
  | k + 1, n, c, fr, h => match n, c with
    | n + 1, .seq a b => match fsCodeX P orc n none a fr h with
      | some (.normal, fr1, h1) => runPre P orc k n b fr1 h1
      | _ => none
    | _, _ => none
theorem run_via : ∀ {k n : Nat} {c : Code} {fr : Fr} {h : Heap} {n' : Nat} {c' : Code} {fr' : Fr} {h' : Heap}, runPre P orc k n c fr h = some (n', c', fr', h') → fsCodeX P orc n none c fr h = fsCodeX P orc n' none c' fr' h'
  | 0, n, c, fr, h, n', c', fr', h', hr => by
    simp only [runPre, Option.some.injEq, Prod.mk.injEq] at hr
    obtain ⟨rfl, rfl, rfl, rfl⟩ := hr
    rfl
  | k + 1, n, c, fr, h, n', c', fr', h', hr => by
    simp only [runPre] at hr
    split at hr
    · rename_i n a b
      split at hr
      · rename_i fr1 h1 ha
        rw [← run_via hr]
        show fsStep P orc (fsCodeX P orc n) none (.seq a b) fr h = _
        simp only [fsStep, ha]
      cases hr
    cases hr
def endV (P : Program) (fn : Func) (h : Heap) (x : Ex × Fr × Heap) : Option Value :=
  bif x.1.goes then
    match dropMarks x.2.1.marks x.2.2 with
    | some h2 => (fsResults P x.2.1.t h2 fn.results.toList).map tupled
    | none => none
  else none
theorem enter_map {rec : Rec} {f : FuncId} {args : List Value} {h : Heap} {fn : Func} {c : Code} (hf : P.funcs[f]? = some fn) (hc : fn.body = some c) (hn : (Nat.blt 4000 fn.ntmps || Nat.blt fn.ntmps args.length) = false) :
    (fsEnter P rec f args h).map (·.1) = (rec none c ⟨fillTr .leaf 0 args, fn.ntmps, []⟩ { next := h.next, low := h.next, objs := h.objs }).bind (endV P fn h) := by
  unfold fsEnter fsEnterK endV
  simp only [hf, hc, hn, cond_false]
  cases rec none c ⟨fillTr .leaf 0 args, fn.ntmps, []⟩ { next := h.next, low := h.next, objs := h.objs } with
  | none => rfl
  | some x =>
    obtain ⟨e, fr, h1⟩ := x
    simp only [Option.bind_some]
    cases e.goes with
    | false => rfl
    | true =>
      simp only [cond_true]
      cases dropMarks fr.marks h1 with
      | none => rfl
      | some h2 =>
        simp only
        cases fsResults P fr.t h2 fn.results.toList with
        | none => rfl
        | some vs =>
          simp only [Option.map_some]
          generalize (!false && (af (tupled vs) && Nat.ble h.next h2.low)) = q
          cases q <;> rfl
def sufx : Nat → Code → Code
  | 0, c => c
  | k + 1, .seq _ b => sufx k b
  | _ + 1, c => c
def rfOf : Code → Option (Array Tmp × Code × Code)
  | .rangeFunc _ ps a b => some (ps, a, b)
  | .seq a b => (rfOf a).or (rfOf b)
  | .cond _ a b => (rfOf a).or (rfOf b)
  | .block _ b => rfOf b
  | .loop b => rfOf b
  | .scope b => rfOf b
  | _ => none
def rfIn (fn : Func) : Array Tmp × Code × Code := (fn.body.bind rfOf).getD (#[], .skip, .skip)
end Go.Fs
