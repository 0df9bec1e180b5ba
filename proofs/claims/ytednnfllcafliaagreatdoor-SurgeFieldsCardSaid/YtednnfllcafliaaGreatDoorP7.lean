/- Runs told by what the slots tell: slices and nil. No condition. -/
import Derived.Test.YtednnfllcafliaaGreatDoorP6
set_option linter.all false
namespace Go.Proofs
open Go.Fs Ieee
set_option linter.unusedVariables false

/-! ## Names -/
def letterB (c : Int) : Bool := decide (65 ≤ c ∧ c ≤ 90 ∨ 97 ≤ c ∧ c ≤ 122)
def otherB (c : Int) : Bool := decide (48 ≤ c ∧ c ≤ 57 ∨ c = 95)
def byteB (c : Int) (i : Nat) : Bool := letterB c || (decide (i ≠ 0) && otherB c)
def nameB (s : ByteArray) : Bool := decide (s.size ≠ 0 ∧ s.size ≤ 24 ∧ ∀ i, i < s.size → byteB (byteE s i) i = true)
theorem nameB_f {s : ByteArray} {i : Nat} (hi : i < s.size) (h : byteB (byteE s i) i = false) : false = nameB s := by
  refine (decide_eq_false fun hh => ?_).symm
  rw [hh.2.2 i hi] at h; cases h
theorem nameB_t {s : ByteArray} (h1 : s.size ≠ 0) (h2 : s.size ≤ 24) (h : ∀ i, i < s.size → byteB (byteE s i) i = true) : true = nameB s := (decide_eq_true ⟨h1, h2, h⟩).symm
theorem size_empty {s : ByteArray} : s ≠ ByteArray.empty ↔ s.size ≠ 0 := by
  constructor
  · intro h e
    exact h (ByteArray.ext (Array.eq_empty_of_size_eq_zero e))
  · rintro h rfl; exact h rfl
theorem byteB_high {c : Int} {i : Nat} (h : 128 ≤ c) : byteB c i = false := by
  have h1 : letterB c = false := decide_eq_false (by omega)
  have h2 : otherB c = false := decide_eq_false (by omega)
  rw [byteB, h1, h2]; simp
theorem rune_f {s : ByteArray} {p : Nat} (h : byteB ((Utf8.decode s p).1 : Nat) p = false) : byteB (byteE s p) p = false := by
  by_cases hl : (s.get! p).toNat < 128
  · rw [decode_low hl] at h; exact h
  · exact byteB_high (by rw [byteE_nat]; omega)
theorem rune_t {s : ByteArray} {p : Nat} (h : byteB ((Utf8.decode s p).1 : Nat) p = true) : byteB (byteE s p) p = true ∧ (Utf8.decode s p).2 = 1 := by
  by_cases hl : (s.get! p).toNat < 128
  · rw [decode_low hl] at h ⊢; exact ⟨h, rfl⟩
  · have := decode_high hl
    rw [byteB_high (by omega)] at h; cases h
theorem name_end {s : ByteArray} (h : ∀ i, i < s.size → byteB (byteE s i) i = true) : (decide (s ≠ ByteArray.empty) && decide (((s.size : Nat) : Int) ≤ 24)) = nameB s := by
  rw [← Bool.decide_and]
  exact decide_eq_decide.2 ⟨fun hh => ⟨size_empty.1 hh.1, by omega, h⟩, fun hh => ⟨size_empty.2 hh.1, by omega⟩⟩
theorem gName_ok {s : ByteArray} : VF Tryz.prog OA 151 [St s] (B (nameB s)) := by
  refine VF.enter Tryz.func151 rfl (fun _ _ => rfl) rfl ?_
  show VC _ _ _ _ _ [(0, St s)] [] _
  refine VC.seq ?_
  refine VC.text ?_
  refine VO.c (.assign rfl) ?_
  refine VO.go ?_
  refine VC.seq ?_
  refine VC.seq ?_
  refine VC.text ?_
  refine VO.c (.move rfl) ?_
  refine VO.cell (.rng) ?_
  intro ww1
  refine VO.go ?_
  refine VC.block ?_
  refine VC.keep [(0, St s), (8, .raw ww1)] ⟨rfl, rfl, trivial⟩ ?_
  refine VC.loop (I := fun kk ff ss => ∃ (p : Nat), kk = s.size - p ∧ ff = [(0, St s), (8, .raw ww1)] ∧ ss = [(ww1, .it s p)] ∧ (p ≤ s.size) ∧ (∀ i, i < p → byteB (byteE s i) i = true)) ?_ _ _ _ ⟨0, rfl, rfl, rfl, Nat.zero_le _, (by intro i hi; omega)⟩
  rintro kk ff ss ⟨p, hk0, rfl, rfl, hp, hq⟩
  refine VC.seq ?_
  refine VC.text ?_
  refine VO.next rfl (fun h2_0 => ?_) (fun h2_0 => ?_)
  · refine VO.c (.extract) ?_
    refine VO.go ?_
    refine VC.seq ?_
    refine VC.condT rfl ?_
    refine VC.skip ?_
    show VC _ _ _ _ _ _ _ _
    refine VC.block ?_
    refine VC.seq ?_
    refine VC.text ?_
    refine VO.c (.extract) ?_
    refine VO.c (.extract) ?_
    refine VO.c (.assign rfl) ?_
    refine VO.c (.assign rfl) ?_
    refine VO.go ?_
    refine VC.seq ?_
    refine VC.join [(0, St s), (3, I ((p : Nat) : Int)), (4, .v (.int .i32) (((Utf8.decode s p).1 : Nat) : Int)), (5, B (letterB ((Utf8.decode s p).1 : Nat))), (8, .raw ww1)] [(ww1, .it s (p + (Utf8.decode s p).2))] ?_ ?_
    · skip
      refine VC.text ?_
      refine VO.c (.move rfl) ?_
      refine VO.c (.geq) ?_
      refine VO.c (.move rfl) ?_
      refine VO.splitD (x := 15) rfl (fun g4_2 => ?_) (fun g4_2 => ?_)
      · refine VO.c (.move rfl) ?_
        refine VO.c (.leq) ?_
        refine VO.c (.pickT rfl rfl) ?_
        refine VO.c (.move rfl) ?_
        refine VO.splitD (x := 19) rfl (fun g4_6 => ?_) (fun g4_6 => ?_)
        · refine VO.skip ?_
          refine VO.skip ?_
          refine VO.skip ?_
          refine VO.skip ?_
          refine VO.skip ?_
          refine VO.skip ?_
          refine VO.c (.pickT rfl rfl) ?_
          refine VO.c (.assign rfl) ?_
          refine VO.nil ?_
          exact ⟨⟨rfl, rfl, rfl, slE rfl (by rw [Bool.eq_iff_iff]; simp [letterB] <;> omega), rfl, trivial⟩, rfl⟩
        · refine VO.c (.move rfl) ?_
          refine VO.c (.geq) ?_
          refine VO.c (.move rfl) ?_
          refine VO.cg (r := decide ((97 : Int) ≤ (((Utf8.decode s p).1 : Nat) : Int))) (w := true) [] trivial (fun hgd => have g4_9 : (97 : Int) ≤ (((Utf8.decode s p).1 : Nat) : Int) := (by simpa using hgd); (.move rfl)) ?_
          refine VO.cg (r := decide ((97 : Int) ≤ (((Utf8.decode s p).1 : Nat) : Int))) (w := true) [(23, .v (.int .i32) (((Utf8.decode s p).1 : Nat) : Int))] ⟨rfl, trivial⟩ (fun hgd => have g4_9 : (97 : Int) ≤ (((Utf8.decode s p).1 : Nat) : Int) := (by simpa using hgd); (.leq)) ?_
          refine VO.c (.and) ?_
          refine VO.c (.pickF rfl rfl) ?_
          refine VO.c (.assign rfl) ?_
          refine VO.nil ?_
          exact ⟨⟨rfl, rfl, rfl, slE rfl (by rw [Bool.eq_iff_iff]; simp [letterB] <;> omega), rfl, trivial⟩, rfl⟩
      · refine VO.skip ?_
        refine VO.skip ?_
        refine VO.c (.pickF rfl rfl) ?_
        refine VO.c (.move rfl) ?_
        refine VO.c (.move rfl) ?_
        refine VO.c (.geq) ?_
        refine VO.c (.move rfl) ?_
        refine VO.cg (r := decide ((97 : Int) ≤ (((Utf8.decode s p).1 : Nat) : Int))) (w := true) [] trivial (fun hgd => have g4_9 : (97 : Int) ≤ (((Utf8.decode s p).1 : Nat) : Int) := (by simpa using hgd); (.move rfl)) ?_
        refine VO.cg (r := decide ((97 : Int) ≤ (((Utf8.decode s p).1 : Nat) : Int))) (w := true) [(23, .v (.int .i32) (((Utf8.decode s p).1 : Nat) : Int))] ⟨rfl, trivial⟩ (fun hgd => have g4_9 : (97 : Int) ≤ (((Utf8.decode s p).1 : Nat) : Int) := (by simpa using hgd); (.leq)) ?_
        refine VO.c (.and) ?_
        refine VO.c (.pickF rfl rfl) ?_
        refine VO.c (.assign rfl) ?_
        refine VO.nil ?_
        exact ⟨⟨rfl, rfl, rfl, slE rfl (by rw [Bool.eq_iff_iff]; simp [letterB] <;> omega), rfl, trivial⟩, rfl⟩
    show VC _ _ _ _ _ _ _ _
    refine VC.seq ?_
    refine VC.join [(0, St s), (3, I ((p : Nat) : Int)), (5, B (letterB ((Utf8.decode s p).1 : Nat))), (6, B (otherB ((Utf8.decode s p).1 : Nat))), (8, .raw ww1)] [(ww1, .it s (p + (Utf8.decode s p).2))] ?_ ?_
    · skip
      refine VC.text ?_
      refine VO.c (.move rfl) ?_
      refine VO.c (.geq) ?_
      refine VO.c (.move rfl) ?_
      refine VO.splitD (x := 29) rfl (fun g5_2 => ?_) (fun g5_2 => ?_)
      · refine VO.c (.move rfl) ?_
        refine VO.c (.leq) ?_
        refine VO.c (.pickT rfl rfl) ?_
        refine VO.c (.move rfl) ?_
        refine VO.cg (r := decide ((((Utf8.decode s p).1 : Nat) : Int) ≤ (57 : Int))) (w := false) [] trivial (fun hgd => have g5_6 : ¬ ((((Utf8.decode s p).1 : Nat) : Int) ≤ (57 : Int)) := (by simpa using hgd); (.move rfl)) ?_
        refine VO.cg (r := decide ((((Utf8.decode s p).1 : Nat) : Int) ≤ (57 : Int))) (w := false) [(34, .v (.int .i32) (((Utf8.decode s p).1 : Nat) : Int))] ⟨rfl, trivial⟩ (fun hgd => have g5_6 : ¬ ((((Utf8.decode s p).1 : Nat) : Int) ≤ (57 : Int)) := (by simpa using hgd); (.eql)) ?_
        refine VO.c (.or) ?_
        refine VO.c (.assign rfl) ?_
        refine VO.nil ?_
        exact ⟨⟨rfl, rfl, rfl, slE rfl (by rw [Bool.eq_iff_iff]; simp [otherB] <;> omega), rfl, trivial⟩, rfl⟩
      · refine VO.skip ?_
        refine VO.skip ?_
        refine VO.c (.pickF rfl rfl) ?_
        refine VO.c (.move rfl) ?_
        refine VO.c (.move rfl) ?_
        refine VO.c (.eql) ?_
        refine VO.c (.pickF rfl rfl) ?_
        refine VO.c (.assign rfl) ?_
        refine VO.nil ?_
        exact ⟨⟨rfl, rfl, rfl, slE rfl (by rw [Bool.eq_iff_iff]; simp [otherB] <;> omega), rfl, trivial⟩, rfl⟩
    show VC _ _ _ _ _ _ _ _
    refine VC.seq ?_
    refine VC.join [(0, St s), (8, .raw ww1), (46, B (!byteB ((Utf8.decode s p).1 : Nat) p))] [(ww1, .it s (p + (Utf8.decode s p).2))] ?_ ?_
    · skip
      refine VC.text ?_
      refine VO.c (.move rfl) ?_
      refine VO.c (.not) ?_
      refine VO.c (.move rfl) ?_
      refine VO.splitB (x := 39) rfl (fun g6_2 => ?_) (fun g6_2 => ?_)
      · refine VO.c (.move rfl) ?_
        refine VO.c (.eql) ?_
        refine VO.c (.move rfl) ?_
        refine VO.cg (r := decide (((p : Nat) : Int) = (0 : Int))) (w := false) [] trivial (fun hgd => have g6_5 : ¬ (((p : Nat) : Int) = (0 : Int)) := (by simpa using hgd); (.move rfl)) ?_
        refine VO.cg (r := decide (((p : Nat) : Int) = (0 : Int))) (w := false) [(43, B (otherB ((Utf8.decode s p).1 : Nat)))] ⟨rfl, trivial⟩ (fun hgd => have g6_5 : ¬ (((p : Nat) : Int) = (0 : Int)) := (by simpa using hgd); (.not)) ?_
        refine VO.c (.or) ?_
        refine VO.c (.pickT rfl rfl) ?_
        refine VO.nil ?_
        exact ⟨⟨rfl, rfl, slE rfl (by simp [byteB, *]), trivial⟩, rfl⟩
      · refine VO.skip ?_
        refine VO.skip ?_
        refine VO.skip ?_
        refine VO.skip ?_
        refine VO.skip ?_
        refine VO.skip ?_
        refine VO.c (.pickF rfl rfl) ?_
        refine VO.nil ?_
        exact ⟨⟨rfl, rfl, slE rfl (by simp [byteB, *]), trivial⟩, rfl⟩
    show VC _ _ _ _ _ _ _ _
    refine VC.condB rfl (fun c6 => ?_) (fun c6 => ?_)
    · try simp only [Bool.and_eq_true, Bool.or_eq_true, Bool.and_eq_false_iff, Bool.or_eq_false_iff, Bool.not_eq_true', Bool.not_eq_false', decide_eq_true_eq, decide_eq_false_iff_not] at c6
      refine VC.seq ?_
      refine VC.text ?_
      refine VO.c (.assign rfl) ?_
      refine VO.go ?_
      refine VC.ret ?_
      exact VEnd.one rfl evT (pvE (by exact nameB_f h2_0 (rune_f c6)))
    · try simp only [Bool.and_eq_true, Bool.or_eq_true, Bool.and_eq_false_iff, Bool.or_eq_false_iff, Bool.not_eq_true', Bool.not_eq_false', decide_eq_true_eq, decide_eq_false_iff_not] at c6
      refine VC.skip ?_
      refine ⟨_, [(0, St s), (8, .raw ww1)], ?_, ⟨rfl, rfl, trivial⟩, (p + 1), rfl, rfl, (by rw [(rune_t c6).2]), (by omega), (by intro i hi; rcases Nat.lt_succ_iff_lt_or_eq.1 hi with h | h; exact hq i h; subst h; exact (rune_t c6).1)⟩
      omega
  · refine VO.c (.ext0) ?_
    refine VO.go ?_
    refine VC.seq ?_
    refine VC.condF rfl ?_
    refine VC.exit ?_
    show VC _ _ _ _ _ _ _ _
    refine VC.seq ?_
    refine VC.text ?_
    refine VO.c (.move rfl) ?_
    refine VO.c (.sneq) ?_
    refine VO.c (.move rfl) ?_
    refine VO.cg (r := decide (s ≠ ByteArray.empty)) (w := true) [] trivial (fun hgd => have g8_2 : s ≠ ByteArray.empty := (by simpa using hgd); (.move rfl)) ?_
    refine VO.rg (r := decide (s ≠ ByteArray.empty)) (w := true) [(50, St s)] ⟨rfl, trivial⟩ (fun hgd => have g8_2 : s ≠ ByteArray.empty := (by simpa using hgd); (.lenS)) ?_
    refine VO.cg (r := decide (s ≠ ByteArray.empty)) (w := true) [(51, I ((s.size : Nat) : Int))] ⟨rfl, trivial⟩ (fun hgd => have g8_2 : s ≠ ByteArray.empty := (by simpa using hgd); (.leq)) ?_
    refine VO.c (.and) ?_
    refine VO.c (.assign rfl) ?_
    refine VO.go ?_
    refine VC.ret ?_
    exact VEnd.one rfl evT (pvE (by exact name_end (fun i hi => hq i (by omega))))
theorem rName_ok {s : ByteArray} : VF Tryz.prog OA 182 [St s] (B (nameB s)) := by
  refine VF.enter Tryz.func182 rfl (fun _ _ => rfl) rfl ?_
  show VC _ _ _ _ _ [(0, St s)] [] _
  refine VC.seq ?_
  refine VC.text ?_
  refine VO.c (.assign rfl) ?_
  refine VO.go ?_
  refine VC.seq ?_
  refine VC.seq ?_
  refine VC.text ?_
  refine VO.c (.move rfl) ?_
  refine VO.r (.lenS) ?_
  refine VO.c (.eql) ?_
  refine VO.c (.move rfl) ?_
  refine VO.cg (r := decide (((s.size : Nat) : Int) = (0 : Int))) (w := false) [] trivial (fun hgd => have g1_3 : ¬ (((s.size : Nat) : Int) = (0 : Int)) := (by simpa using hgd); (.move rfl)) ?_
  refine VO.rg (r := decide (((s.size : Nat) : Int) = (0 : Int))) (w := false) [(9, St s)] ⟨rfl, trivial⟩ (fun hgd => have g1_3 : ¬ (((s.size : Nat) : Int) = (0 : Int)) := (by simpa using hgd); (.lenS)) ?_
  refine VO.cg (r := decide (((s.size : Nat) : Int) = (0 : Int))) (w := false) [(10, I ((s.size : Nat) : Int))] ⟨rfl, trivial⟩ (fun hgd => have g1_3 : ¬ (((s.size : Nat) : Int) = (0 : Int)) := (by simpa using hgd); (.gtr)) ?_
  refine VO.c (.or) ?_
  refine VO.go ?_
  refine VC.condB rfl (fun c1 => ?_) (fun c1 => ?_)
  · try simp only [Bool.and_eq_true, Bool.or_eq_true, Bool.and_eq_false_iff, Bool.or_eq_false_iff, Bool.not_eq_true', Bool.not_eq_false', decide_eq_true_eq, decide_eq_false_iff_not] at c1
    refine VC.seq ?_
    refine VC.text ?_
    refine VO.c (.assign rfl) ?_
    refine VO.go ?_
    refine VC.ret ?_
    exact VEnd.one rfl evT (pvE (by exact (decide_eq_false fun hh => by have := hh.1; have := hh.2.1; omega).symm))
  · try simp only [Bool.and_eq_true, Bool.or_eq_true, Bool.and_eq_false_iff, Bool.or_eq_false_iff, Bool.not_eq_true', Bool.not_eq_false', decide_eq_true_eq, decide_eq_false_iff_not] at c1
    refine VC.skip ?_
    show VC _ _ _ _ _ _ _ _
    refine VC.seq ?_
    refine VC.seq ?_
    refine VC.text ?_
    refine VO.c (.assign rfl) ?_
    refine VO.go ?_
    refine VC.block ?_
    refine VC.keep [(0, St s), (3, I ((0 : Nat) : Int))] ⟨rfl, rfl, trivial⟩ ?_
    refine VC.loop (I := fun kk ff ss => ∃ (i : Nat), kk = s.size - i ∧ ff = [(0, St s), (3, I ((i : Nat) : Int))] ∧ ss = [] ∧ (i ≤ s.size) ∧ (∀ k, k < i → byteB (byteE s k) k = true)) ?_ _ _ _ ⟨0, rfl, rfl, rfl, Nat.zero_le _, (by intro k hk; omega)⟩
    rintro kk ff ss ⟨i, hk0, rfl, rfl, hi, hq⟩
    refine VC.seq ?_
    refine VC.seq ?_
    refine VC.text ?_
    refine VO.c (.move rfl) ?_
    refine VO.c (.move rfl) ?_
    refine VO.r (.lenS) ?_
    refine VO.c (.lss) ?_
    refine VO.go ?_
    refine VC.condD rfl (fun c4 => ?_) (fun c4 => ?_)
    · refine VC.skip ?_
      show VC _ _ _ _ _ _ _ _
      refine VC.seq ?_
      refine VC.block ?_
      refine VC.seq ?_
      refine VC.text ?_
      refine VO.c (.move rfl) ?_
      refine VO.c (.move rfl) ?_
      refine VO.c (.ixS rfl rfl (by omega) (by omega)) ?_
      refine VO.c (.assign rfl) ?_
      refine VO.go ?_
      refine VC.seq ?_
      refine VC.seq ?_
      refine VC.join [(0, St s), (3, I ((i : Nat) : Int)), (4, .v (.int .u8) (byteE s ((i : Nat) : Int))), (35, B (letterB (byteE s i)))] [] ?_ ?_
      · skip
        refine VC.text ?_
        refine VO.c (.move rfl) ?_
        refine VO.c (.geq) ?_
        refine VO.c (.move rfl) ?_
        refine VO.splitD (x := 24) rfl (fun g7_2 => ?_) (fun g7_2 => ?_)
        · refine VO.c (.move rfl) ?_
          refine VO.c (.leq) ?_
          refine VO.c (.pickT rfl rfl) ?_
          refine VO.c (.move rfl) ?_
          refine VO.splitD (x := 28) rfl (fun g7_6 => ?_) (fun g7_6 => ?_)
          · refine VO.skip ?_
            refine VO.skip ?_
            refine VO.skip ?_
            refine VO.skip ?_
            refine VO.skip ?_
            refine VO.skip ?_
            refine VO.c (.pickT rfl rfl) ?_
            refine VO.nil ?_
            exact ⟨⟨rfl, rfl, rfl, slE rfl (by rw [Bool.eq_iff_iff]; simp [letterB] <;> omega), trivial⟩, rfl⟩
          · refine VO.c (.move rfl) ?_
            refine VO.c (.geq) ?_
            refine VO.c (.move rfl) ?_
            refine VO.cg (r := decide ((65 : Int) ≤ (byteE s ((i : Nat) : Int)))) (w := true) [] trivial (fun hgd => have g7_9 : (65 : Int) ≤ (byteE s ((i : Nat) : Int)) := (by simpa using hgd); (.move rfl)) ?_
            refine VO.cg (r := decide ((65 : Int) ≤ (byteE s ((i : Nat) : Int)))) (w := true) [(32, .v (.int .u8) (byteE s ((i : Nat) : Int)))] ⟨rfl, trivial⟩ (fun hgd => have g7_9 : (65 : Int) ≤ (byteE s ((i : Nat) : Int)) := (by simpa using hgd); (.leq)) ?_
            refine VO.c (.and) ?_
            refine VO.c (.pickF rfl rfl) ?_
            refine VO.nil ?_
            exact ⟨⟨rfl, rfl, rfl, slE rfl (by rw [Bool.eq_iff_iff]; simp [letterB] <;> omega), trivial⟩, rfl⟩
        · refine VO.skip ?_
          refine VO.skip ?_
          refine VO.c (.pickF rfl rfl) ?_
          refine VO.c (.move rfl) ?_
          refine VO.c (.move rfl) ?_
          refine VO.c (.geq) ?_
          refine VO.c (.move rfl) ?_
          refine VO.cg (r := decide ((65 : Int) ≤ (byteE s ((i : Nat) : Int)))) (w := true) [] trivial (fun hgd => have g7_9 : (65 : Int) ≤ (byteE s ((i : Nat) : Int)) := (by simpa using hgd); (.move rfl)) ?_
          refine VO.cg (r := decide ((65 : Int) ≤ (byteE s ((i : Nat) : Int)))) (w := true) [(32, .v (.int .u8) (byteE s ((i : Nat) : Int)))] ⟨rfl, trivial⟩ (fun hgd => have g7_9 : (65 : Int) ≤ (byteE s ((i : Nat) : Int)) := (by simpa using hgd); (.leq)) ?_
          refine VO.c (.and) ?_
          refine VO.c (.pickF rfl rfl) ?_
          refine VO.nil ?_
          exact ⟨⟨rfl, rfl, rfl, slE rfl (by rw [Bool.eq_iff_iff]; simp [letterB] <;> omega), trivial⟩, rfl⟩
      show VC _ _ _ _ _ _ _ _
      refine VC.condB rfl (fun c7 => ?_) (fun c7 => ?_)
      · have hok : byteB (byteE s i) i = true := by rw [byteB, c7] <;> rfl
        refine VC.exit ?_
        show VC _ _ _ _ _ _ _ _
        refine VC.text ?_
        refine VO.c (.move rfl) ?_
        refine VO.c (.add rfl rfl (by omega)) ?_
        refine VO.c (.assign rfl) ?_
        refine VO.nil ?_
        refine ⟨_, [(0, St s), (3, I (((i + 1) : Nat) : Int))], ?_, ⟨rfl, rfl, trivial⟩, (i + 1), rfl, rfl, rfl, (by omega), (by intro k hk; rcases Nat.lt_succ_iff_lt_or_eq.1 hk with h | h; exact hq k h; subst h; exact hok)⟩
        omega
      · refine VC.skip ?_
        show VC _ _ _ _ _ _ _ _
        refine VC.seq ?_
        refine VC.join [(0, St s), (3, I ((i : Nat) : Int)), (49, B (!(decide (i ≠ 0) && otherB (byteE s i))))] [] ?_ ?_
        · skip
          refine VC.text ?_
          refine VO.c (.move rfl) ?_
          refine VO.c (.eql) ?_
          refine VO.c (.move rfl) ?_
          refine VO.splitD (x := 38) rfl (fun g8_2 => ?_) (fun g8_2 => ?_)
          · refine VO.skip ?_
            refine VO.skip ?_
            refine VO.skip ?_
            refine VO.skip ?_
            refine VO.skip ?_
            refine VO.skip ?_
            refine VO.skip ?_
            refine VO.skip ?_
            refine VO.skip ?_
            refine VO.skip ?_
            refine VO.c (.pickT rfl rfl) ?_
            refine VO.nil ?_
            exact ⟨⟨rfl, rfl, slE rfl (by rw [Bool.eq_iff_iff]; simp [otherB] <;> omega), trivial⟩, rfl⟩
          · refine VO.c (.move rfl) ?_
            refine VO.c (.neq) ?_
            refine VO.c (.move rfl) ?_
            refine VO.splitD (x := 41) rfl (fun g8_5 => ?_) (fun g8_5 => ?_)
            · refine VO.c (.move rfl) ?_
              refine VO.c (.lss) ?_
              refine VO.c (.move rfl) ?_
              refine VO.cg (r := decide ((byteE s ((i : Nat) : Int)) < (48 : Int))) (w := false) [] trivial (fun hgd => have g8_8 : ¬ ((byteE s ((i : Nat) : Int)) < (48 : Int)) := (by simpa using hgd); (.move rfl)) ?_
              refine VO.cg (r := decide ((byteE s ((i : Nat) : Int)) < (48 : Int))) (w := false) [(45, .v (.int .u8) (byteE s ((i : Nat) : Int)))] ⟨rfl, trivial⟩ (fun hgd => have g8_8 : ¬ ((byteE s ((i : Nat) : Int)) < (48 : Int)) := (by simpa using hgd); (.gtr)) ?_
              refine VO.c (.or) ?_
              refine VO.c (.pickT rfl rfl) ?_
              refine VO.c (.pickF rfl rfl) ?_
              refine VO.nil ?_
              exact ⟨⟨rfl, rfl, slE rfl (by rw [Bool.eq_iff_iff]; simp [otherB] <;> omega), trivial⟩, rfl⟩
            · refine VO.skip ?_
              refine VO.skip ?_
              refine VO.skip ?_
              refine VO.skip ?_
              refine VO.skip ?_
              refine VO.skip ?_
              refine VO.c (.pickF rfl rfl) ?_
              refine VO.c (.pickF rfl rfl) ?_
              refine VO.nil ?_
              exact ⟨⟨rfl, rfl, slE rfl (by rw [Bool.eq_iff_iff]; simp [otherB] <;> omega), trivial⟩, rfl⟩
        show VC _ _ _ _ _ _ _ _
        refine VC.condB rfl (fun c8 => ?_) (fun c8 => ?_)
        · try simp only [Bool.and_eq_true, Bool.or_eq_true, Bool.and_eq_false_iff, Bool.or_eq_false_iff, Bool.not_eq_true', Bool.not_eq_false', decide_eq_true_eq, decide_eq_false_iff_not] at c8
          refine VC.seq ?_
          refine VC.text ?_
          refine VO.c (.assign rfl) ?_
          refine VO.go ?_
          refine VC.ret ?_
          exact VEnd.one rfl evT (pvE (by exact nameB_f (i := i) (by omega) (by simp only [byteB, c7, Bool.false_or, Bool.and_eq_false_iff, decide_eq_false_iff_not]; exact c8)))
        · try simp only [Bool.and_eq_true, Bool.or_eq_true, Bool.and_eq_false_iff, Bool.or_eq_false_iff, Bool.not_eq_true', Bool.not_eq_false', decide_eq_true_eq, decide_eq_false_iff_not] at c8
          have hok : byteB (byteE s i) i = true := by simp [byteB, *]
          refine VC.skip ?_
          show VC _ _ _ _ _ _ _ _
          refine VC.text ?_
          refine VO.c (.move rfl) ?_
          refine VO.c (.add rfl rfl (by omega)) ?_
          refine VO.c (.assign rfl) ?_
          refine VO.nil ?_
          refine ⟨_, [(0, St s), (3, I (((i + 1) : Nat) : Int))], ?_, ⟨rfl, rfl, trivial⟩, (i + 1), rfl, rfl, rfl, (by omega), (by intro k hk; rcases Nat.lt_succ_iff_lt_or_eq.1 hk with h | h; exact hq k h; subst h; exact hok)⟩
          omega
    · refine VC.exit ?_
      show VC _ _ _ _ _ _ _ _
      refine VC.seq ?_
      refine VC.text ?_
      refine VO.c (.assign rfl) ?_
      refine VO.go ?_
      refine VC.ret ?_
      exact VEnd.one rfl evT (pvE (by exact nameB_t (by omega) (by omega) (fun k hk => hq k (by omega))))
theorem rNameE_ok {s : ByteArray} : VF Tryz.prog OA 152 [St s] (I (whenE (!nameB s) 8)) := by
  refine VF.enter Tryz.func152 rfl (fun _ _ => rfl) rfl ?_
  show VC _ _ _ _ _ [(0, St s)] [] _
  refine VC.seq ?_
  refine VC.text ?_
  refine VO.c (.assign rfl) ?_
  refine VO.go ?_
  refine VC.seq ?_
  refine VC.seq ?_
  refine VC.text ?_
  refine VO.c (.move rfl) ?_
  refine VO.call rfl rfl (VF.call (rName_ok )) ?_
  refine VO.c (.not) ?_
  refine VO.go ?_
  refine VC.condB rfl (fun c1 => ?_) (fun c1 => ?_)
  · try simp only [Bool.and_eq_true, Bool.or_eq_true, Bool.and_eq_false_iff, Bool.or_eq_false_iff, Bool.not_eq_true', Bool.not_eq_false', decide_eq_true_eq, decide_eq_false_iff_not] at c1
    refine VC.seq ?_
    refine VC.text ?_
    refine VO.c (.assign rfl) ?_
    refine VO.go ?_
    refine VC.ret ?_
    exact VEnd.one rfl evT (pvI (by simp [whenE, *]))
  · try simp only [Bool.and_eq_true, Bool.or_eq_true, Bool.and_eq_false_iff, Bool.or_eq_false_iff, Bool.not_eq_true', Bool.not_eq_false', decide_eq_true_eq, decide_eq_false_iff_not] at c1
    refine VC.skip ?_
    show VC _ _ _ _ _ _ _ _
    refine VC.seq ?_
    refine VC.text ?_
    refine VO.c (.assign rfl) ?_
    refine VO.go ?_
    refine VC.ret ?_
    exact VEnd.one rfl evT (pvI (by simp [whenE, *]))
end Go.Proofs
namespace Go.Proofs
open Go.Fs Ieee
set_option linter.unusedVariables false
abbrev y104 : Ty := (.sl (.pair .str (.int .i64)))
abbrev y106 : Ty := (.pair (.int .i64) (.pair (.int .i64) (.pair (.int .i64) (.sl (.pair .str (.int .i64))))))
abbrev y205 : Ty := (.mp .str (.int .i64))
abbrev y210 : Ty := (.pair .str (.int .i64))
theorem vt9 : ValT Tryz.prog 9 .str := valT_of (by kernel_rfl)
theorem vt104 : ValT Tryz.prog 104 y104 := valT_of (by kernel_rfl)
theorem vt210 : ValT Tryz.prog 210 y210 := valT_of (by kernel_rfl)
theorem el104 : ElT Tryz.prog 104 210 y210 := elT_of (by kernel_rfl)
theorem zt4 : ZerT Tryz.prog 4 .bool := zerT_of (z := .bool false) (by kernel_rfl) rfl rfl
theorem zt210 : ZerT Tryz.prog 210 y210 := zerT_of (z := .agg #[.string ByteArray.empty, .int .i64 0]) (by kernel_rfl) rfl rfl
theorem mt205 : MapT Tryz.prog 205 .str (.int .i64) := ⟨9, 3, by kernel_rfl, keyStr (by kernel_rfl), zt3⟩
theorem mt238 : MapT Tryz.prog 238 .str .bool := ⟨9, 4, by kernel_rfl, keyStr (by kernel_rfl), zt4⟩
/-! ## Members -/
abbrev Mems := List (ByteArray × Int)
def nmE (l : Mems) (i : Nat) : ByteArray := (l.map (·.1)).getD i ByteArray.empty
def wgtE (l : Mems) (i : Nat) : Int := (l.map (·.2)).getD i 0
theorem nmE_eq {l : Mems} {i : Nat} (h : i < l.length) : l[i].1 = nmE l i := by simp [nmE, h]
theorem wgtE_eq {l : Mems} {i : Nat} (h : i < l.length) : l[i].2 = wgtE l i := by simp [wgtE, h]
def knownM (l : Mems) : Nat → List (ByteArray × Bool)
  | 0 => []
  | i + 1 => mset (knownM l i) (nmE l i) true
def idxM (l : Mems) : Nat → List (ByteArray × Int)
  | 0 => []
  | i + 1 => mset (idxM l i) (nmE l i) (i : Int)
theorem mget_mset {α β : Type} [DecidableEq α] : ∀ (m : List (α × β)) (x z : α) (y : β), mget (mset m x y) z = if z = x then some y else mget m z
  | [], x, z, y => by simp [mset, mget]
  | (k, v) :: r, x, z, y => by
    by_cases h : x = k
    · subst h
      simp only [mset, if_pos, mget]
      split <;> rfl
    · simp only [mset, if_neg h, mget, mget_mset r x z y]
      by_cases h2 : z = k
      · rw [if_pos h2, if_pos h2, if_neg (fun e => h (e.symm.trans h2))]
      · rw [if_neg h2, if_neg h2]
theorem known_iff {l : Mems} {x : ByteArray} : ∀ (i : Nat), (mget (knownM l i) x).getD false = true ↔ ∃ k, k < i ∧ nmE l k = x
  | 0 => by simp [knownM, mget]
  | i + 1 => by
    rw [knownM, mget_mset]
    by_cases h : x = nmE l i
    · rw [if_pos h]
      simp only [Option.getD_some, true_iff]
      exact ⟨i, by omega, h.symm⟩
    · rw [if_neg h, known_iff i]
      constructor
      · rintro ⟨k, h1, h2⟩; exact ⟨k, by omega, h2⟩
      · rintro ⟨k, h1, h2⟩
        rcases Nat.lt_succ_iff_lt_or_eq.1 h1 with h3 | h3
        · exact ⟨k, h3, h2⟩
        · subst h3; exact absurd h2.symm h
def memE (l : Mems) (i : Nat) : Int := firstE [whenE (!nameB (nmE l i)) 8, rangeE (wgtE l i) 1 1000, whenE ((mget (knownM l i) (nmE l i)).getD false) 9]
theorem memX {l : Mems} {i : Nat} (h : i < l.length) : firstE [whenE (!nameB l[i].1) 8, rangeE l[i].2 1 1000, whenE ((mget (knownM l i) l[i].1).getD false) 9] = memE l i := by rw [nmE_eq h, wgtE_eq h] <;> rfl
def domP (d : Int × Int × Int × Mems) : Int := firstE [rangeE d.1 1 8, rangeE d.2.1 1 8, rangeE d.2.2.1 1 96, whenE (decide ((d.2.2.2.length : Int) = 0)) 12, whenE (decide ((16 : Int) < d.2.2.2.length)) 5]
def domE (d : Int × Int × Int × Mems) : Int := if domP d = 0 then firstE ((List.range d.2.2.2.length).map (memE d.2.2.2)) else domP d
theorem firstE_range {f : Nat → Int} {n i : Nat} (hi : i < n) (hz : ∀ k, k < i → f k = 0) (h : f i ≠ 0) : f i = firstE ((List.range n).map f) := by
  have e : List.range n = List.range i ++ (i :: (List.range' (i + 1) (n - i - 1))) := by
    apply List.ext_getElem
    · simp; omega
    · intro k h1 h2
      rw [List.getElem_append]
      by_cases hk : k < i
      · simp [hk]
      · simp only [List.length_range, hk, dite_false, List.getElem_range, List.getElem_cons]
        by_cases h3 : k - i = 0
        · simp [h3]; omega
        · simp [h3]; omega
  have h0 : firstE ((List.range i).map f) = 0 := firstE_zero.2 fun x hx => by
    obtain ⟨k, h1, rfl⟩ := List.mem_map.1 hx
    exact hz k (List.mem_range.1 h1)
  rw [e, List.map_append, firstE_app, if_pos h0, List.map_cons, firstE]
  simp [h]
theorem firstE_range0 {f : Nat → Int} {n : Nat} (hz : ∀ k, k < n → f k = 0) : 0 = firstE ((List.range n).map f) := (firstE_zero.2 fun x hx => by
  obtain ⟨k, h1, rfl⟩ := List.mem_map.1 hx
  exact hz k (List.mem_range.1 h1)).symm
theorem domP_len {d : Int × Int × Int × Mems} (h : domP d = 0) : d.2.2.2.length ≤ 16 ∧ d.2.2.2.length ≠ 0 := by
  unfold domP at h
  rw [firstE_zero] at h
  constructor
  · have := whenE_zero (by decide) (h _ (List.mem_cons_of_mem _ (List.mem_cons_of_mem _ (List.mem_cons_of_mem _ (List.mem_cons_of_mem _ List.mem_cons_self)))))
    omega
  · have := whenE_zero (by decide) (h _ (List.mem_cons_of_mem _ (List.mem_cons_of_mem _ (List.mem_cons_of_mem _ List.mem_cons_self))))
    omega
theorem sDom_ok {d : Int × Int × Int × (List (ByteArray × Int))} : VF Tryz.prog OA 80 [.v y106 d] (I (domE d)) := by
  refine VF.enter Tryz.func80 rfl (fun _ _ => rfl) rfl ?_
  show VC _ _ _ _ _ [(0, .v y106 d)] [] _
  refine VC.seq ?_
  refine VC.text ?_
  refine VO.new (.box) ?_
  refine VO.c (.assign rfl) ?_
  refine VO.go ?_
  refine VC.seq ?_
  refine VC.seq ?_
  refine VC.drawn ?_
  refine VD.c (.fa (.l .o)) ?_
  refine VD.r [] (.ld vt3) (.inl rfl) ?_
  refine VD.call rfl rfl (VF.call (sWithin_ok )) ?_
  refine VD.c (.fa (.r (.l .o))) ?_
  refine VD.r [] (.ld vt3) (.inl rfl) ?_
  refine VD.call rfl rfl (VF.call (sWithin_ok )) ?_
  refine VD.nw [] ?_
  refine VD.c (.fa (.r (.r (.l .o)))) ?_
  refine VD.r [] (.ld vt3) (.inl rfl) ?_
  refine VD.call rfl rfl (VF.call (sWithin_ok )) ?_
  refine VD.c (.fa (.r (.r (.r .o)))) ?_
  refine VD.r [] (.ld vt104) (.inl rfl) ?_
  refine VD.r [] (.len el104) (.inl rfl) ?_
  refine VD.c (.eql) ?_
  refine VD.nw [] ?_
  refine VD.call rfl rfl (VF.call (sWhen_ok )) ?_
  refine VD.c (.fa (.r (.r (.r .o)))) ?_
  refine VD.r [] (.ld vt104) (.inl rfl) ?_
  refine VD.r [] (.len el104) (.inl rfl) ?_
  refine VD.c (.gtr) ?_
  refine VD.call rfl rfl (VF.call (sWhen_ok )) ?_
  refine VD.new (.lit [rangeE d.1 (1 : Int) (8 : Int), rangeE d.2.1 (1 : Int) (8 : Int), rangeE d.2.2.1 (1 : Int) (96 : Int), whenE (decide (((d.2.2.2.length : Nat) : Int) = (0 : Int))) (12 : Int), whenE (decide ((16 : Int) < ((d.2.2.2.length : Nat) : Int))) (5 : Int)] el179) ?_
  refine VD.nw [27] ?_
  refine VD.callO rfl rfl (VF.call (sFirst_ok (by first | assumption | omega | simp))) ?_
  refine VD.c (.assign rfl) ?_
  refine VD.go ?_
  refine VC.seq ?_
  refine VC.text ?_
  refine VO.c (.move rfl) ?_
  refine VO.c (.neq) ?_
  refine VO.go ?_
  refine VC.condD rfl (fun c2 => ?_) (fun c2 => ?_)
  · have c2' : ¬ domP d = 0 := c2
    refine VC.seq ?_
    refine VC.text ?_
    refine VO.c (.move rfl) ?_
    refine VO.c (.assign rfl) ?_
    refine VO.go ?_
    refine VC.ret ?_
    exact VEnd.one rfl evT (pvI (by rw [domE, if_neg c2'] <;> rfl))
  · have c2' : domP d = 0 := by simpa [domP] using c2
    have hl := (domP_len c2').1
    refine VC.skip ?_
    show VC _ _ _ _ _ _ _ _
    refine VC.seq ?_
    refine VC.text ?_
    refine VO.cell (.mkMap .str .bool) ?_
    intro ww1
    refine VO.c (.assign rfl) ?_
    refine VO.go ?_
    refine VC.seq ?_
    refine VC.seq ?_
    refine VC.text ?_
    refine VO.c (.fa (.r (.r (.r .o)))) ?_
    refine VO.r (.ld vt104) ?_
    refine VO.r (.len el104) ?_
    refine VO.c (.move rfl) ?_
    refine VO.go ?_
    refine VC.block ?_
    refine VC.keep [(4, .raw ww1), (34, .v y104 d.2.2.2), (35, I ((d.2.2.2.length : Nat) : Int)), (36, I ((0 : Nat) : Int))] ⟨rfl, rfl, rfl, rfl, trivial⟩ ?_
    refine VC.loop (I := fun kk ff ss => ∃ (i : Nat), kk = d.2.2.2.length - i ∧ ff = [(4, .raw ww1), (34, .v y104 d.2.2.2), (35, I ((d.2.2.2.length : Nat) : Int)), (36, I ((i : Nat) : Int))] ∧ ss = [(ww1, .mp .str .bool (knownM d.2.2.2 i))] ∧ (i ≤ d.2.2.2.length) ∧ (∀ k, k < i → memE d.2.2.2 k = 0)) ?_ _ _ _ ⟨0, rfl, rfl, rfl, Nat.zero_le _, (by intro k hk; omega)⟩
    rintro kk ff ss ⟨i, hk0, rfl, rfl, hi, hz⟩
    refine VC.seq ?_
    refine VC.text ?_
    refine VO.c (.lss) ?_
    refine VO.go ?_
    refine VC.seq ?_
    refine VC.condD rfl (fun c6 => ?_) (fun c6 => ?_)
    · refine VC.skip ?_
      show VC _ _ _ _ _ _ _ _
      refine VC.seq ?_
      refine VC.block ?_
      refine VC.seq ?_
      refine VC.text ?_
      refine VO.c (.ix (j := i) rfl rfl el104 (by omega)) ?_
      refine VO.r (.ld vt210) ?_
      refine VO.cell (.alloc zt210) ?_
      intro ww2
      refine VO.setV (cs' := [St ((d.2.2.2[i]).1), I ((d.2.2.2[i]).2)]) vt210 .v ?_
      refine VO.shut [(6, .p y210 (d.2.2.2[i]))] (.cons rfl (.var m0 .refl) .nil) ?_
      refine VO.go ?_
      refine VC.seq ?_
      refine VC.seq ?_
      refine VC.drawn ?_
      refine VD.c (.fa (.l .o)) ?_
      refine VD.r [] (.ld vt9) (.inl rfl) ?_
      refine VD.call rfl rfl (VF.call (gName_ok )) ?_
      refine VD.c (.not) ?_
      refine VD.call rfl rfl (VF.call (sWhen_ok )) ?_
      refine VD.c (.fa (.r .o)) ?_
      refine VD.nw [] ?_
      refine VD.r [] (.ld vt3) (.inl rfl) ?_
      refine VD.call rfl rfl (VF.call (sWithin_ok )) ?_
      refine VD.c (.move rfl) ?_
      refine VD.c (.fa (.l .o)) ?_
      refine VD.r [] (.ld vt9) (.inl rfl) ?_
      refine VD.r [(ww1, .mp .str .bool (knownM d.2.2.2 i))] (.lookO mt238 m0) (.inr ⟨rfl, rfl⟩) ?_
      refine VD.call rfl rfl (VF.call (sWhen_ok )) ?_
      refine VD.nw [] ?_
      refine VD.new (.lit [whenE (!(nameB ((d.2.2.2[i]).1))) (8 : Int), rangeE ((d.2.2.2[i]).2) (1 : Int) (1000 : Int), whenE ((mget (knownM d.2.2.2 i) ((d.2.2.2[i]).1)).getD false) (9 : Int)] el179) ?_
      refine VD.callO rfl rfl (VF.call (sFirst_ok (by first | assumption | omega | simp))) ?_
      refine VD.c (.assign rfl) ?_
      refine VD.go ?_
      refine VC.seq ?_
      refine VC.text ?_
      refine VO.c (.move rfl) ?_
      refine VO.c (.neq) ?_
      refine VO.go ?_
      refine VC.condD rfl (fun c9 => ?_) (fun c9 => ?_)
      · have hm : ¬ memE d.2.2.2 i = 0 := by rw [← memX (by omega)]; exact c9
        refine VC.seq ?_
        refine VC.text ?_
        refine VO.c (.move rfl) ?_
        refine VO.c (.assign rfl) ?_
        refine VO.go ?_
        refine VC.ret ?_
        exact VEnd.one rfl evT (pvI (by rw [domE, if_pos c2', ← firstE_range (by omega) hz hm, ← memX (by omega)]))
      · have hm : memE d.2.2.2 i = 0 := by rw [← memX (by omega)]; simpa using c9
        refine VC.skip ?_
        show VC _ _ _ _ _ _ _ _
        refine VC.text ?_
        refine VO.c (.move rfl) ?_
        refine VO.c (.fa (.l .o)) ?_
        refine VO.r (.ld vt9) ?_
        refine VO.mput mt238 ?_
        refine VO.nil ?_
        show VC _ _ _ _ _ _ _ _
        refine VC.text ?_
        refine VO.c (.add rfl rfl (by omega)) ?_
        refine VO.c (.move rfl) ?_
        refine VO.nil ?_
        refine ⟨_, [(4, .raw ww1), (34, .v y104 d.2.2.2), (35, I ((d.2.2.2.length : Nat) : Int)), (36, I (((i + 1) : Nat) : Int))], ?_, ⟨rfl, rfl, rfl, rfl, trivial⟩, (i + 1), rfl, rfl, (by rw [knownM, nmE_eq]), (by omega), (by intro k hk; rcases Nat.lt_succ_iff_lt_or_eq.1 hk with h | h; exact hz k h; subst h; exact hm)⟩
        omega
    · refine VC.exit ?_
      show VC _ _ _ _ _ _ _ _
      refine VC.seq ?_
      refine VC.text ?_
      refine VO.c (.assign rfl) ?_
      refine VO.go ?_
      refine VC.ret ?_
      exact VEnd.one rfl evT (pvI (by rw [domE, if_pos c2']; exact firstE_range0 (fun k hk => hz k (by omega))))
theorem sMems_ok {d : Int × Int × Int × (List (ByteArray × Int))} (hl : d.2.2.2.length ≤ 16) : VF Tryz.prog OA 126 [.v y106 d] (.v y205 (idxM d.2.2.2 d.2.2.2.length)) := by
  refine VF.enter Tryz.func126 rfl (fun _ _ => rfl) rfl ?_
  show VC _ _ _ _ _ [(0, .v y106 d)] [] _
  refine VC.seq ?_
  refine VC.text ?_
  refine VO.new (.box) ?_
  refine VO.c (.assign rfl) ?_
  refine VO.go ?_
  refine VC.seq ?_
  refine VC.text ?_
  refine VO.cell (.mkMap .str (.int .i64)) ?_
  intro ww3
  refine VO.c (.assign rfl) ?_
  refine VO.go ?_
  refine VC.seq ?_
  refine VC.seq ?_
  refine VC.text ?_
  refine VO.c (.fa (.r (.r (.r .o)))) ?_
  refine VO.r (.ld vt104) ?_
  refine VO.r (.len el104) ?_
  refine VO.c (.move rfl) ?_
  refine VO.go ?_
  refine VC.block ?_
  refine VC.keep [(3, .raw ww3), (8, .v y104 d.2.2.2), (9, I ((d.2.2.2.length : Nat) : Int)), (10, I ((0 : Nat) : Int))] ⟨rfl, rfl, rfl, rfl, trivial⟩ ?_
  refine VC.loop (I := fun kk ff ss => ∃ (i : Nat), kk = d.2.2.2.length - i ∧ ff = [(3, .raw ww3), (8, .v y104 d.2.2.2), (9, I ((d.2.2.2.length : Nat) : Int)), (10, I ((i : Nat) : Int))] ∧ ss = [(ww3, .mp .str (.int .i64) (idxM d.2.2.2 i))] ∧ (i ≤ d.2.2.2.length)) ?_ _ _ _ ⟨0, rfl, rfl, rfl, Nat.zero_le _⟩
  rintro kk ff ss ⟨i, hk0, rfl, rfl, hi⟩
  refine VC.seq ?_
  refine VC.text ?_
  refine VO.c (.lss) ?_
  refine VO.go ?_
  refine VC.seq ?_
  refine VC.condD rfl (fun c3 => ?_) (fun c3 => ?_)
  · refine VC.skip ?_
    show VC _ _ _ _ _ _ _ _
    refine VC.seq ?_
    refine VC.block ?_
    refine VC.seq ?_
    refine VC.text ?_
    refine VO.c (.move rfl) ?_
    refine VO.c (.ix (j := i) rfl rfl el104 (by omega)) ?_
    refine VO.r (.ld vt210) ?_
    refine VO.cell (.alloc zt210) ?_
    intro ww4
    refine VO.c (.assign rfl) ?_
    refine VO.setV (cs' := [St ((d.2.2.2[i]).1), I ((d.2.2.2[i]).2)]) vt210 .v ?_
    refine VO.shut [(5, .p y210 (d.2.2.2[i]))] (.cons rfl (.var m0 .refl) .nil) ?_
    refine VO.go ?_
    refine VC.text ?_
    refine VO.c (.move rfl) ?_
    refine VO.c (.fa (.l .o)) ?_
    refine VO.r (.ld vt9) ?_
    refine VO.c (.move rfl) ?_
    refine VO.mput mt205 ?_
    refine VO.nil ?_
    show VC _ _ _ _ _ _ _ _
    refine VC.text ?_
    refine VO.c (.add rfl rfl (by omega)) ?_
    refine VO.c (.move rfl) ?_
    refine VO.nil ?_
    refine ⟨_, [(3, .raw ww3), (8, .v y104 d.2.2.2), (9, I ((d.2.2.2.length : Nat) : Int)), (10, I (((i + 1) : Nat) : Int))], ?_, ⟨rfl, rfl, rfl, rfl, trivial⟩, (i + 1), rfl, rfl, (by rw [idxM, nmE_eq]), (by omega)⟩
    omega
  · refine VC.exit ?_
    show VC _ _ _ _ _ _ _ _
    refine VC.seq ?_
    refine VC.text ?_
    refine VO.c (.move rfl) ?_
    refine VO.c (.assign rfl) ?_
    refine VO.go ?_
    refine VC.ret ?_
    exact VEnd.one rfl (evC (.mp m0)) (pvE (by rw [show i = d.2.2.2.length by omega]))
end Go.Proofs
namespace Go.Proofs
open Go.Fs Ieee
set_option linter.unusedVariables false
abbrev y95 : Ty := (.pair (.int .i64) (.pair (.int .i64) (.pair (.int .i64) (.sl (.pair .str (.int .i64))))))
theorem vt93 : ValT Tryz.prog 93 (.sl (.pair .str (.int .i64))) := valT_of (by kernel_rfl)
theorem el93 : ElT Tryz.prog 93 203 (.pair .str (.int .i64)) := elT_of (by kernel_rfl)
/-! ## The reference's domains -/
theorem mem_pre {l : Mems} {i : Nat} (h : i < l.length) : memE l i = if firstE [whenE (!nameB l[i].1) 8, rangeE l[i].2 1 1000] = 0 then whenE ((mget (knownM l i) (nmE l i)).getD false) 9 else firstE [whenE (!nameB l[i].1) 8, rangeE l[i].2 1 1000] := by
  have e : memE l i = firstE ([whenE (!nameB l[i].1) 8, rangeE l[i].2 1 1000] ++ [whenE ((mget (knownM l i) (nmE l i)).getD false) 9]) := by rw [nmE_eq h, wgtE_eq h] <;> rfl
  rw [e, firstE_app, firstE_one]
theorem mem_nine {l : Mems} {i k : Nat} (h : i < l.length) (hk : k < i) (h0 : firstE [whenE (!nameB l[i].1) 8, rangeE l[i].2 1 1000] = 0) (e : l[k].1 = l[i].1) : memE l i = 9 := by
  rw [mem_pre h, if_pos h0, (known_iff i).2 ⟨k, hk, by rw [← nmE_eq (by omega), ← nmE_eq h]; exact e⟩] <;> rfl
theorem mem_zero {l : Mems} {i : Nat} (h : i < l.length) (h0 : firstE [whenE (!nameB l[i].1) 8, rangeE l[i].2 1 1000] = 0) (e : ∀ k (hk : k < i), ¬ l[k].1 = l[i].1) : memE l i = 0 := by
  rw [mem_pre h, if_pos h0]
  cases hb : (mget (knownM l i) (nmE l i)).getD false with
  | false => rfl
  | true =>
    obtain ⟨k, hk, h2⟩ := (known_iff i).1 hb
    rw [← nmE_eq (by omega), ← nmE_eq h] at h2
    exact absurd h2 (e k hk)
theorem domP_pre {d : Int × Int × Int × Mems} : domP d = if firstE [rangeE d.1 1 8, rangeE d.2.1 1 8, rangeE d.2.2.1 1 96] = 0 then (if (d.2.2.2.length : Int) = 0 then 12 else if (16 : Int) < d.2.2.2.length then 5 else 0) else firstE [rangeE d.1 1 8, rangeE d.2.1 1 8, rangeE d.2.2.1 1 96] := by
  have e : domP d = firstE ([rangeE d.1 1 8, rangeE d.2.1 1 8, rangeE d.2.2.1 1 96] ++ [whenE (decide ((d.2.2.2.length : Int) = 0)) 12, whenE (decide ((16 : Int) < d.2.2.2.length)) 5]) := rfl
  rw [e, firstE_app]
  congr 1
  by_cases h1 : (d.2.2.2.length : Int) = 0
  · rw [whenE_t h1, if_pos h1] <;> rfl
  · rw [whenE_f h1, if_neg h1]
    by_cases h2 : (16 : Int) < d.2.2.2.length
    · rw [whenE_t h2, if_pos h2] <;> rfl
    · rw [whenE_f h2, if_neg h2] <;> rfl
theorem rDom_ok {d : Int × Int × Int × (List (ByteArray × Int))} : VF Tryz.prog OA 81 [.v y95 d] (I (domE d)) := by
  refine VF.enter Tryz.func81 rfl (fun _ _ => rfl) rfl ?_
  show VC _ _ _ _ _ [(0, .v y95 d)] [] _
  refine VC.seq ?_
  refine VC.text ?_
  refine VO.new (.box) ?_
  refine VO.c (.assign rfl) ?_
  refine VO.go ?_
  refine VC.seq ?_
  refine VC.seq ?_
  refine VC.drawn ?_
  refine VD.c (.fa (.l .o)) ?_
  refine VD.r [] (.ld vt3) (.inl rfl) ?_
  refine VD.call rfl rfl (VF.call (rCheckRange_ok )) ?_
  refine VD.c (.fa (.r (.l .o))) ?_
  refine VD.r [] (.ld vt3) (.inl rfl) ?_
  refine VD.call rfl rfl (VF.call (rCheckRange_ok )) ?_
  refine VD.nw [] ?_
  refine VD.c (.fa (.r (.r (.l .o)))) ?_
  refine VD.r [] (.ld vt3) (.inl rfl) ?_
  refine VD.call rfl rfl (VF.call (rCheckRange_ok )) ?_
  refine VD.new (.lit [rangeE d.1 (1 : Int) (8 : Int), rangeE d.2.1 (1 : Int) (8 : Int), rangeE d.2.2.1 (1 : Int) (96 : Int)] el22) ?_
  refine VD.callO rfl rfl (VF.call (rFirst_ok (by first | assumption | omega | simp))) ?_
  refine VD.c (.assign rfl) ?_
  refine VD.go ?_
  refine VC.seq ?_
  refine VC.text ?_
  refine VO.c (.move rfl) ?_
  refine VO.c (.neq) ?_
  refine VO.go ?_
  refine VC.condD rfl (fun c2 => ?_) (fun c2 => ?_)
  · have hp : domP d ≠ 0 := by rw [domP_pre, if_neg c2]; exact c2
    refine VC.seq ?_
    refine VC.text ?_
    refine VO.c (.move rfl) ?_
    refine VO.c (.assign rfl) ?_
    refine VO.go ?_
    refine VC.ret ?_
    exact VEnd.one rfl evT (pvI (by rw [domE, if_neg hp, domP_pre, if_neg c2]))
  · have c2' : firstE [rangeE d.1 1 8, rangeE d.2.1 1 8, rangeE d.2.2.1 1 96] = 0 := by simpa using c2
    refine VC.skip ?_
    show VC _ _ _ _ _ _ _ _
    refine VC.seq ?_
    refine VC.seq ?_
    refine VC.text ?_
    refine VO.c (.fa (.r (.r (.r .o)))) ?_
    refine VO.r (.ld vt93) ?_
    refine VO.r (.len el93) ?_
    refine VO.c (.eql) ?_
    refine VO.go ?_
    refine VC.condD rfl (fun c4 => ?_) (fun c4 => ?_)
    · refine VC.seq ?_
      refine VC.text ?_
      refine VO.c (.assign rfl) ?_
      refine VO.go ?_
      refine VC.ret ?_
      exact VEnd.one rfl evT (pvI (by rw [domE, domP_pre, if_pos c2', if_pos c4] <;> rfl))
    · refine VC.skip ?_
      show VC _ _ _ _ _ _ _ _
      refine VC.seq ?_
      refine VC.seq ?_
      refine VC.text ?_
      refine VO.c (.fa (.r (.r (.r .o)))) ?_
      refine VO.r (.ld vt93) ?_
      refine VO.r (.len el93) ?_
      refine VO.c (.gtr) ?_
      refine VO.go ?_
      refine VC.condD rfl (fun c6 => ?_) (fun c6 => ?_)
      · refine VC.seq ?_
        refine VC.text ?_
        refine VO.c (.assign rfl) ?_
        refine VO.go ?_
        refine VC.ret ?_
        exact VEnd.one rfl evT (pvI (by rw [domE, domP_pre, if_pos c2', if_neg c4, if_pos c6] <;> rfl))
      · have hl : d.2.2.2.length ≤ 16 := by omega
        have hp : domP d = 0 := by rw [domP_pre, if_pos c2', if_neg c4, if_neg c6]
        refine VC.skip ?_
        show VC _ _ _ _ _ _ _ _
        refine VC.seq ?_
        refine VC.seq ?_
        refine VC.text ?_
        refine VO.c (.assign rfl) ?_
        refine VO.go ?_
        refine VC.block ?_
        refine VC.keep [(1, .p y95 d), (4, I ((0 : Nat) : Int))] ⟨rfl, rfl, trivial⟩ ?_
        refine VC.loop (I := fun kk ff ss => ∃ (i : Nat), kk = d.2.2.2.length - i ∧ ff = [(1, .p y95 d), (4, I ((i : Nat) : Int))] ∧ ss = [] ∧ (i ≤ d.2.2.2.length) ∧ (∀ k, k < i → memE d.2.2.2 k = 0)) ?_ _ _ _ ⟨0, rfl, rfl, rfl, Nat.zero_le _, (by intro k hk; omega)⟩
        rintro kk ff ss ⟨i, hk0, rfl, rfl, hi, hz⟩
        refine VC.seq ?_
        refine VC.seq ?_
        refine VC.text ?_
        refine VO.c (.move rfl) ?_
        refine VO.c (.fa (.r (.r (.r .o)))) ?_
        refine VO.r (.ld vt93) ?_
        refine VO.r (.len el93) ?_
        refine VO.c (.lss) ?_
        refine VO.go ?_
        refine VC.condD rfl (fun c9 => ?_) (fun c9 => ?_)
        · have hi' : i < d.2.2.2.length := by omega
          refine VC.skip ?_
          show VC _ _ _ _ _ _ _ _
          refine VC.seq ?_
          refine VC.block ?_
          refine VC.seq ?_
          refine VC.seq ?_
          refine VC.drawn ?_
          refine VD.c (.fa (.r (.r (.r .o)))) ?_
          refine VD.r [] (.ld vt93) (.inl rfl) ?_
          refine VD.c (.move rfl) ?_
          refine VD.c (.ix (j := i) rfl rfl el93 (by omega)) ?_
          refine VD.c (.fa (.l .o)) ?_
          refine VD.r [] (.ld vt9) (.inl rfl) ?_
          refine VD.nw [] ?_
          refine VD.call rfl rfl (VF.call (rNameE_ok )) ?_
          refine VD.c (.fa (.r (.r (.r .o)))) ?_
          refine VD.r [] (.ld vt93) (.inl rfl) ?_
          refine VD.c (.move rfl) ?_
          refine VD.c (.ix (j := i) rfl rfl el93 (by omega)) ?_
          refine VD.c (.fa (.r .o)) ?_
          refine VD.r [] (.ld vt3) (.inl rfl) ?_
          refine VD.nw [] ?_
          refine VD.call rfl rfl (VF.call (rCheckRange_ok )) ?_
          refine VD.new (.lit [whenE (!nameB ((d.2.2.2[i]).1)) 8, rangeE ((d.2.2.2[i]).2) (1 : Int) (1000 : Int)] el22) ?_
          refine VD.callO rfl rfl (VF.call (rFirst_ok (by first | assumption | omega | simp))) ?_
          refine VD.c (.assign rfl) ?_
          refine VD.go ?_
          refine VC.seq ?_
          refine VC.text ?_
          refine VO.c (.move rfl) ?_
          refine VO.c (.neq) ?_
          refine VO.go ?_
          refine VC.condD rfl (fun c12 => ?_) (fun c12 => ?_)
          · have hm : memE d.2.2.2 i ≠ 0 := by rw [mem_pre hi', if_neg c12]; exact c12
            refine VC.seq ?_
            refine VC.text ?_
            refine VO.c (.move rfl) ?_
            refine VO.c (.assign rfl) ?_
            refine VO.go ?_
            refine VC.ret ?_
            exact VEnd.one rfl evT (pvI (by rw [domE, if_pos hp, ← firstE_range hi' hz hm, mem_pre hi', if_neg c12]))
          · have c12' : firstE [whenE (!nameB d.2.2.2[i].1) 8, rangeE d.2.2.2[i].2 1 1000] = 0 := by simpa using c12
            refine VC.skip ?_
            show VC _ _ _ _ _ _ _ _
            refine VC.seq ?_
            refine VC.text ?_
            refine VO.c (.assign rfl) ?_
            refine VO.go ?_
            refine VC.block ?_
            refine VC.keep [(1, .p y95 d), (4, I ((i : Nat) : Int)), (6, I ((0 : Nat) : Int))] ⟨rfl, rfl, rfl, trivial⟩ ?_
            refine VC.loop (I := fun kk ff ss => ∃ (k : Nat), kk = i - k ∧ ff = [(1, .p y95 d), (4, I ((i : Nat) : Int)), (6, I ((k : Nat) : Int))] ∧ ss = [] ∧ (k ≤ i) ∧ (∀ j (hj : j < k) (hj' : j < d.2.2.2.length), ¬ d.2.2.2[j].1 = d.2.2.2[i].1)) ?_ _ _ _ ⟨0, rfl, rfl, rfl, Nat.zero_le _, (by intro j hj; omega)⟩
            rintro kk ff ss ⟨k, hk2, rfl, rfl, hk, hn⟩
            refine VC.seq ?_
            refine VC.seq ?_
            refine VC.text ?_
            refine VO.c (.move rfl) ?_
            refine VO.c (.move rfl) ?_
            refine VO.c (.lss) ?_
            refine VO.go ?_
            refine VC.condD rfl (fun c15 => ?_) (fun c15 => ?_)
            · refine VC.skip ?_
              show VC _ _ _ _ _ _ _ _
              refine VC.seq ?_
              refine VC.block ?_
              refine VC.seq ?_
              refine VC.drawn ?_
              refine VD.c (.fa (.r (.r (.r .o)))) ?_
              refine VD.r [] (.ld vt93) (.inl rfl) ?_
              refine VD.c (.move rfl) ?_
              refine VD.c (.ix (j := k) rfl rfl el93 (by omega)) ?_
              refine VD.c (.fa (.l .o)) ?_
              refine VD.r [] (.ld vt9) (.inl rfl) ?_
              refine VD.nw [] ?_
              refine VD.c (.fa (.r (.r (.r .o)))) ?_
              refine VD.r [] (.ld vt93) (.inl rfl) ?_
              refine VD.c (.move rfl) ?_
              refine VD.c (.ix (j := i) rfl rfl el93 (by omega)) ?_
              refine VD.c (.fa (.l .o)) ?_
              refine VD.r [] (.ld vt9) (.inl rfl) ?_
              refine VD.c (.seql) ?_
              refine VD.go ?_
              refine VC.condD rfl (fun c17 => ?_) (fun c17 => ?_)
              · have hm := mem_nine hi' (show k < i by omega) c12' c17
                refine VC.seq ?_
                refine VC.text ?_
                refine VO.c (.assign rfl) ?_
                refine VO.go ?_
                refine VC.ret ?_
                exact VEnd.one rfl evT (pvI (by rw [domE, if_pos hp, ← firstE_range hi' hz (by rw [hm]; decide), hm]))
              · refine VC.skip ?_
                show VC _ _ _ _ _ _ _ _
                refine VC.text ?_
                refine VO.c (.move rfl) ?_
                refine VO.c (.add rfl rfl (by omega)) ?_
                refine VO.c (.assign rfl) ?_
                refine VO.nil ?_
                refine ⟨_, [(1, .p y95 d), (4, I ((i : Nat) : Int)), (6, I (((k + 1) : Nat) : Int))], ?_, ⟨rfl, rfl, rfl, trivial⟩, (k + 1), rfl, rfl, rfl, (by omega), (by intro j hj hj'; rcases Nat.lt_succ_iff_lt_or_eq.1 hj with h | h; exact hn j h hj'; subst h; exact c17)⟩
                omega
            · refine VC.exit ?_
              show VC _ _ _ _ _ _ _ _
              refine VC.text ?_
              refine VO.c (.move rfl) ?_
              refine VO.c (.add rfl rfl (by omega)) ?_
              refine VO.c (.assign rfl) ?_
              refine VO.nil ?_
              refine ⟨_, [(1, .p y95 d), (4, I (((i + 1) : Nat) : Int))], ?_, ⟨rfl, rfl, trivial⟩, (i + 1), rfl, rfl, rfl, (by omega), (by intro k hk; rcases Nat.lt_succ_iff_lt_or_eq.1 hk with h | h; exact hz k h; subst h; exact mem_zero (by omega) c12' (fun j hj => hn j (by omega) (by omega)))⟩
              omega
        · refine VC.exit ?_
          show VC _ _ _ _ _ _ _ _
          refine VC.seq ?_
          refine VC.text ?_
          refine VO.c (.assign rfl) ?_
          refine VO.go ?_
          refine VC.ret ?_
          exact VEnd.one rfl evT (pvI (by rw [domE, if_pos hp]; exact firstE_range0 (fun k hk => hz k (by omega))))
def memAt (l : Mems) (x : ByteArray) : Int := if l.findIdx (fun m => decide (m.1 = x)) < l.length then (l.findIdx (fun m => decide (m.1 = x)) : Nat) else -1
theorem memAt_some {l : Mems} {x : ByteArray} {i : Nat} (h : i < l.length) (he : l[i].1 = x) (hn : ∀ k (hk : k < i), ¬ l[k].1 = x) : ((i : Nat) : Int) = memAt l x := by
  have e : l.findIdx (fun m => decide (m.1 = x)) = i := (List.findIdx_eq h).2 ⟨decide_eq_true he, fun j hj => decide_eq_false (hn j hj)⟩
  rw [memAt, e, if_pos h]
theorem memAt_none {l : Mems} {x : ByteArray} (hn : ∀ k (hk : k < l.length), ¬ l[k].1 = x) : -1 = memAt l x := by
  have e : l.findIdx (fun m => decide (m.1 = x)) = l.length := List.findIdx_eq_length.2 fun m hm => by
    obtain ⟨k, hk, rfl⟩ := List.getElem_of_mem hm
    exact decide_eq_false (hn k hk)
  rw [memAt, e, if_neg (by omega)]
theorem rMemAt_ok {d : Int × Int × Int × (List (ByteArray × Int))} {x : ByteArray} (hl : d.2.2.2.length ≤ 16) : VF Tryz.prog OA 131 [.v y95 d, St x] (I (memAt d.2.2.2 x)) := by
  refine VF.enter Tryz.func131 rfl (fun _ _ => rfl) rfl ?_
  show VC _ _ _ _ _ [(0, .v y95 d), (1, St x)] [] _
  refine VC.seq ?_
  refine VC.text ?_
  refine VO.new (.box) ?_
  refine VO.c (.assign rfl) ?_
  refine VO.go ?_
  refine VC.seq ?_
  refine VC.seq ?_
  refine VC.text ?_
  refine VO.c (.assign rfl) ?_
  refine VO.go ?_
  refine VC.block ?_
  refine VC.keep [(1, St x), (2, .p y95 d), (5, I ((0 : Nat) : Int))] ⟨rfl, rfl, rfl, trivial⟩ ?_
  refine VC.loop (I := fun kk ff ss => ∃ (i : Nat), kk = d.2.2.2.length - i ∧ ff = [(1, St x), (2, .p y95 d), (5, I ((i : Nat) : Int))] ∧ ss = [] ∧ (i ≤ d.2.2.2.length) ∧ (∀ j (hj : j < i) (hj' : j < d.2.2.2.length), ¬ d.2.2.2[j].1 = x)) ?_ _ _ _ ⟨0, rfl, rfl, rfl, Nat.zero_le _, (by intro j hj; omega)⟩
  rintro kk ff ss ⟨i, hk0, rfl, rfl, hi, hn⟩
  refine VC.seq ?_
  refine VC.seq ?_
  refine VC.text ?_
  refine VO.c (.move rfl) ?_
  refine VO.c (.fa (.r (.r (.r .o)))) ?_
  refine VO.r (.ld vt93) ?_
  refine VO.r (.len el93) ?_
  refine VO.c (.lss) ?_
  refine VO.go ?_
  refine VC.condD rfl (fun c2 => ?_) (fun c2 => ?_)
  · refine VC.skip ?_
    show VC _ _ _ _ _ _ _ _
    refine VC.seq ?_
    refine VC.block ?_
    refine VC.seq ?_
    refine VC.text ?_
    refine VO.c (.fa (.r (.r (.r .o)))) ?_
    refine VO.r (.ld vt93) ?_
    refine VO.c (.move rfl) ?_
    refine VO.c (.ix (j := i) rfl rfl el93 (by omega)) ?_
    refine VO.c (.fa (.l .o)) ?_
    refine VO.r (.ld vt9) ?_
    refine VO.c (.move rfl) ?_
    refine VO.c (.seql) ?_
    refine VO.go ?_
    refine VC.condD rfl (fun c4 => ?_) (fun c4 => ?_)
    · refine VC.seq ?_
      refine VC.text ?_
      refine VO.c (.move rfl) ?_
      refine VO.c (.assign rfl) ?_
      refine VO.go ?_
      refine VC.ret ?_
      exact VEnd.one rfl evT (pvI (by exact memAt_some (by omega) c4 (fun k hk => hn k hk (by omega))))
    · refine VC.skip ?_
      show VC _ _ _ _ _ _ _ _
      refine VC.text ?_
      refine VO.c (.move rfl) ?_
      refine VO.c (.add rfl rfl (by omega)) ?_
      refine VO.c (.assign rfl) ?_
      refine VO.nil ?_
      refine ⟨_, [(1, St x), (2, .p y95 d), (5, I (((i + 1) : Nat) : Int))], ?_, ⟨rfl, rfl, rfl, trivial⟩, (i + 1), rfl, rfl, rfl, (by omega), (by intro j hj hj'; rcases Nat.lt_succ_iff_lt_or_eq.1 hj with h | h; exact hn j h hj'; subst h; exact c4)⟩
      omega
  · refine VC.exit ?_
    show VC _ _ _ _ _ _ _ _
    refine VC.seq ?_
    refine VC.text ?_
    refine VO.c (.assign rfl) ?_
    refine VO.go ?_
    refine VC.ret ?_
    exact VEnd.one rfl evT (pvI (by exact memAt_none (fun k hk => hn k (by omega) hk)))
end Go.Proofs
namespace Go.Proofs
open Go.Fs Ieee
set_option linter.unusedVariables false
abbrev y108 : Ty := (.sl (.pair (.int .i64) (.pair .str (.pair (.int .i64) (.pair (.int .i64) (.sl (.flt .f32)))))))
abbrev y160 : Ty := (.pair (.int .i64) (.pair .str (.pair (.int .i64) (.pair (.int .i64) (.sl (.flt .f32))))))
abbrev y229 : Ty := (.sl (.pair (.pair (.int .i64) (.pair .str (.pair (.int .i64) (.pair (.int .i64) (.sl (.flt .f32)))))) (.int .i64)))
abbrev y232 : Ty := (.pair (.pair (.int .i64) (.pair .str (.pair (.int .i64) (.pair (.int .i64) (.sl (.flt .f32)))))) (.int .i64))
theorem vt106 : ValT Tryz.prog 106 y106 := valT_of (by kernel_rfl)
theorem vt160 : ValT Tryz.prog 160 y160 := valT_of (by kernel_rfl)
theorem vt205 : ValT Tryz.prog 205 y205 := valT_of (by kernel_rfl)
theorem vt232 : ValT Tryz.prog 232 y232 := valT_of (by kernel_rfl)
theorem el108 : ElT Tryz.prog 108 160 y160 := elT_of (by kernel_rfl)
theorem el229 : ElT Tryz.prog 229 232 y232 := elT_of (by kernel_rfl)
theorem zt160 : ZerT Tryz.prog 160 y160 := zerT_of (z := .agg #[.int .i64 0, .string ByteArray.empty, .int .i64 0, .int .i64 0, .slice none 0 0]) (by kernel_rfl) rfl rfl
theorem zt205 : ZerT Tryz.prog 205 y205 := zerT_of (z := .map none) (by kernel_rfl) rfl rfl
theorem zt232 : ZerT Tryz.prog 232 y232 := zerT_of (z := .agg #[.int .i64 0, .string ByteArray.empty, .int .i64 0, .int .i64 0, .slice none 0 0, .int .i64 0]) (by kernel_rfl) rfl rfl
theorem bt232 : BldT Tryz.prog 232 y232 [(0, 5), (5, 1)] := bldT_of zt232 rfl (by kernel_rfl)
/-! ## Pieces and stores -/
abbrev Dom := Int × Int × Int × Mems
abbrev Pc := Int × ByteArray × Int × Int × List Nat
theorem dom_ok {d : Dom} (h : domE d = 0) : (1 ≤ d.1 ∧ d.1 ≤ 8) ∧ (1 ≤ d.2.1 ∧ d.2.1 ≤ 8) ∧ (1 ≤ d.2.2.1 ∧ d.2.2.1 ≤ 96) ∧ d.2.2.2.length ≤ 16 ∧ d.2.2.2.length ≠ 0 ∧ ∀ k, k < d.2.2.2.length → memE d.2.2.2 k = 0 := by
  unfold domE at h
  split at h
  · rename_i h0
    have hl := domP_len h0
    rw [firstE_zero] at h
    unfold domP at h0
    rw [firstE_zero] at h0
    exact ⟨rangeE_zero.1 (h0 _ (by simp)), rangeE_zero.1 (h0 _ (by simp)), rangeE_zero.1 (h0 _ (by simp)), hl.1, hl.2, fun k hk => h _ (List.mem_map_of_mem (List.mem_range.2 hk))⟩
  · contradiction
def hasM (d : Dom) (x : ByteArray) : Option Int := mget (idxM d.2.2.2 d.2.2.2.length) x
def pcPre (d : Dom) (p : Pc) : Int := firstE [rangeE p.1 0 100000, whenE (!(hasM d p.2.1).isSome) 10, rangeE p.2.2.1 0 (d.2.2.1 - 1), rangeE p.2.2.2.1 0 (d.1 - 1), whenE (decide ((p.2.2.2.2.length : Int) ≠ d.2.1)) 2]
def pcE (d : Dom) (p : Pc) : Int := if pcPre d p = 0 then firstE (p.2.2.2.2.map lvlE) else pcPre d p
theorem sTime_ok {t : Int} : VF Tryz.prog OA 125 [I t] (I (rangeE t 0 100000)) := by
  refine VF.enter Tryz.func125 rfl (fun _ _ => rfl) rfl ?_
  show VC _ _ _ _ _ [(0, I t)] [] _
  refine VC.seq ?_
  refine VC.text ?_
  refine VO.c (.assign rfl) ?_
  refine VO.go ?_
  refine VC.seq ?_
  refine VC.text ?_
  refine VO.c (.move rfl) ?_
  refine VO.call rfl rfl (VF.call (sWithin_ok )) ?_
  refine VO.c (.assign rfl) ?_
  refine VO.go ?_
  refine VC.ret ?_
  exact VEnd.one rfl evT (pvI (by first | rfl | simp))
theorem sPc_ok {d : Int × Int × Int × (List (ByteArray × Int))} {p : Int × ByteArray × Int × Int × (List Nat)} (hd : domE d = 0) (hv : p.2.2.2.2.length < 100000) : VF Tryz.prog OA 153 [.v y106 d, .v y160 p] (I (pcE d p)) := by
  refine VF.enter Tryz.func153 rfl (fun _ _ => rfl) rfl ?_
  show VC _ _ _ _ _ [(0, .v y106 d), (1, .v y160 p)] [] _
  refine VC.seq ?_
  refine VC.text ?_
  have hdd := dom_ok hd
  refine VO.new (.box) ?_
  refine VO.new (.box) ?_
  refine VO.c (.assign rfl) ?_
  refine VO.go ?_
  refine VC.seq ?_
  refine VC.drawn ?_
  refine VD.r [] (.ld vt106) (.inl rfl) ?_
  refine VD.call rfl rfl (VF.call (sMems_ok (by omega))) ?_
  refine VD.c (.fa (.r (.l .o))) ?_
  refine VD.r [] (.ld vt9) (.inl rfl) ?_
  refine VD.ro (.lookOk mt205) ?_
  refine VD.c (.move rfl) ?_
  refine VD.nw [8, 13, 10] ?_
  refine VD.c (.extract) ?_
  refine VD.c (.extract) ?_
  refine VD.c (.assign rfl) ?_
  refine VD.c (.assign rfl) ?_
  refine VD.go ?_
  refine VC.seq ?_
  refine VC.seq ?_
  refine VC.drawn ?_
  refine VD.c (.fa (.l .o)) ?_
  refine VD.r [] (.ld vt3) (.inl rfl) ?_
  refine VD.call rfl rfl (VF.call (sTime_ok )) ?_
  refine VD.c (.move rfl) ?_
  refine VD.c (.not) ?_
  refine VD.call rfl rfl (VF.call (sWhen_ok )) ?_
  refine VD.nw [] ?_
  refine VD.c (.fa (.r (.r (.l .o)))) ?_
  refine VD.r [] (.ld vt3) (.inl rfl) ?_
  refine VD.c (.fa (.r (.r (.l .o)))) ?_
  refine VD.r [] (.ld vt3) (.inl rfl) ?_
  refine VD.c (.sub rfl rfl (by omega)) ?_
  refine VD.call rfl rfl (VF.call (sWithin_ok )) ?_
  refine VD.c (.fa (.r (.r (.r (.l .o))))) ?_
  refine VD.nw [] ?_
  refine VD.r [] (.ld vt3) (.inl rfl) ?_
  refine VD.c (.fa (.l .o)) ?_
  refine VD.r [] (.ld vt3) (.inl rfl) ?_
  refine VD.c (.sub rfl rfl (by omega)) ?_
  refine VD.call rfl rfl (VF.call (sWithin_ok )) ?_
  refine VD.c (.fa (.r (.r (.r (.r .o))))) ?_
  refine VD.r [] (.ld vt124) (.inl rfl) ?_
  refine VD.nw [] ?_
  refine VD.r [] (.len el124) (.inl rfl) ?_
  refine VD.c (.fa (.r (.l .o))) ?_
  refine VD.r [] (.ld vt3) (.inl rfl) ?_
  refine VD.c (.neq) ?_
  refine VD.call rfl rfl (VF.call (sWhen_ok )) ?_
  refine VD.new (.lit [rangeE p.1 0 100000, whenE (!((mget (idxM d.2.2.2 d.2.2.2.length) p.2.1).isSome)) (10 : Int), rangeE p.2.2.1 (0 : Int) (d.2.2.1 - (1 : Int)), rangeE p.2.2.2.1 (0 : Int) (d.1 - (1 : Int)), whenE (decide (((p.2.2.2.2.length : Nat) : Int) ≠ d.2.1)) (2 : Int)] el179) ?_
  refine VD.callO rfl rfl (VF.call (sFirst_ok (by first | assumption | omega | simp))) ?_
  refine VD.nw [41] ?_
  refine VD.c (.assign rfl) ?_
  refine VD.go ?_
  refine VC.seq ?_
  refine VC.keep [(3, .p y160 p), (7, I (firstE [rangeE p.1 0 100000, whenE (!((mget (idxM d.2.2.2 d.2.2.2.length) p.2.1).isSome)) (10 : Int), rangeE p.2.2.1 (0 : Int) (d.2.2.1 - (1 : Int)), rangeE p.2.2.2.1 (0 : Int) (d.1 - (1 : Int)), whenE (decide (((p.2.2.2.2.length : Nat) : Int) ≠ d.2.1)) (2 : Int)]))] ⟨rfl, rfl, trivial⟩ ?_
  refine VC.text ?_
  refine VO.c (.move rfl) ?_
  refine VO.c (.neq) ?_
  refine VO.go ?_
  refine VC.condD rfl (fun c3 => ?_) (fun c3 => ?_)
  · have c3' : ¬ pcPre d p = 0 := c3
    refine VC.seq ?_
    refine VC.text ?_
    refine VO.c (.move rfl) ?_
    refine VO.c (.assign rfl) ?_
    refine VO.go ?_
    refine VC.ret ?_
    exact VEnd.one rfl evT (pvI (by rw [pcE, if_neg c3'] <;> rfl))
  · have c3' : pcPre d p = 0 := by simpa [pcPre, hasM] using c3
    refine VC.skip ?_
    show VC _ _ _ _ _ _ _ _
    refine VC.seq ?_
    refine VC.text ?_
    refine VO.c (.fa (.r (.r (.r (.r .o))))) ?_
    refine VO.r (.ld vt124) ?_
    refine VO.call rfl rfl (VF.call (sMapFE_ok (F := lvlE) hv (fun _ _ => VF.call gLv_ok))) ?_
    refine VO.call rfl rfl (VF.call (sFirst_ok (by simp; omega))) ?_
    refine VO.c (.assign rfl) ?_
    refine VO.go ?_
    refine VC.ret ?_
    exact VEnd.one rfl evT (pvI (by rw [pcE, if_pos c3']))
def cmpI (a b : Int) : Int := if a < b then -1 else if b < a then 1 else 0
theorem cCmp_ok {a : Int} {b : Int} : VF Tryz.prog OA 181 [I a, I b] (I (cmpI a b)) := by
  refine VF.enter Tryz.func181 rfl (fun _ _ => rfl) rfl ?_
  show VC _ _ _ _ _ [(0, I a), (1, I b)] [] _
  refine VC.seq ?_
  refine VC.text ?_
  refine VO.c (.assign rfl) ?_
  refine VO.go ?_
  refine VC.seq ?_
  refine VC.text ?_
  refine VO.c (.move rfl) ?_
  refine VO.call rfl rfl (VF.call (cNaN_ok )) ?_
  refine VO.c (.assign rfl) ?_
  refine VO.go ?_
  refine VC.seq ?_
  refine VC.text ?_
  refine VO.c (.move rfl) ?_
  refine VO.call rfl rfl (VF.call (cNaN_ok )) ?_
  refine VO.c (.assign rfl) ?_
  refine VO.go ?_
  refine VC.seq ?_
  refine VC.seq ?_
  refine VC.text ?_
  refine VO.c (.move rfl) ?_
  refine VO.go ?_
  refine VC.condF rfl ?_
  refine VC.skip ?_
  show VC _ _ _ _ _ _ _ _
  refine VC.seq ?_
  refine VC.seq ?_
  refine VC.text ?_
  refine VO.c (.move rfl) ?_
  refine VO.go ?_
  refine VC.condF rfl ?_
  refine VC.skip ?_
  show VC _ _ _ _ _ _ _ _
  refine VC.seq ?_
  refine VC.seq ?_
  refine VC.text ?_
  refine VO.c (.move rfl) ?_
  refine VO.c (.move rfl) ?_
  refine VO.c (.lss) ?_
  refine VO.go ?_
  refine VC.condD rfl (fun c9 => ?_) (fun c9 => ?_)
  · refine VC.seq ?_
    refine VC.text ?_
    refine VO.c (.assign rfl) ?_
    refine VO.go ?_
    refine VC.ret ?_
    exact VEnd.one rfl evT (pvI (by rw [cmpI, if_pos c9]))
  · refine VC.skip ?_
    show VC _ _ _ _ _ _ _ _
    refine VC.seq ?_
    refine VC.seq ?_
    refine VC.text ?_
    refine VO.c (.move rfl) ?_
    refine VO.c (.move rfl) ?_
    refine VO.c (.gtr) ?_
    refine VO.go ?_
    refine VC.condD rfl (fun c11 => ?_) (fun c11 => ?_)
    · refine VC.seq ?_
      refine VC.text ?_
      refine VO.c (.assign rfl) ?_
      refine VO.go ?_
      refine VC.ret ?_
      exact VEnd.one rfl evT (pvI (by rw [cmpI, if_neg c9, if_pos c11]))
    · refine VC.skip ?_
      show VC _ _ _ _ _ _ _ _
      refine VC.seq ?_
      refine VC.text ?_
      refine VO.c (.assign rfl) ?_
      refine VO.go ?_
      refine VC.ret ?_
      exact VEnd.one rfl evT (pvI (by rw [cmpI, if_neg c9, if_neg c11]))
theorem cOr_ok {l : List Int} (hl : l.length < 1000000) : VF Tryz.prog OA 180 [.v y22 l] (I (firstE l)) := by
  refine VF.enter Tryz.func180 rfl (fun _ _ => rfl) rfl ?_
  show VC _ _ _ _ _ [(0, .v y22 l)] [] _
  refine VC.seq ?_
  refine VC.text ?_
  refine VO.c (.assign rfl) ?_
  refine VO.go ?_
  refine VC.seq ?_
  refine VC.text ?_
  refine VO.c (.assign rfl) ?_
  refine VO.go ?_
  refine VC.seq ?_
  refine VC.seq ?_
  refine VC.text ?_
  refine VO.c (.move rfl) ?_
  refine VO.r (.len el22) ?_
  refine VO.c (.move rfl) ?_
  refine VO.go ?_
  refine VC.block ?_
  refine VC.keep [(3, I (0 : Int)), (6, .v y22 l), (7, I ((l.length : Nat) : Int)), (8, I ((0 : Nat) : Int))] ⟨rfl, rfl, rfl, rfl, trivial⟩ ?_
  refine VC.loop (I := fun kk ff ss => ∃ (j : Nat), kk = l.length - j ∧ ff = [(3, I (0 : Int)), (6, .v y22 l), (7, I ((l.length : Nat) : Int)), (8, I ((j : Nat) : Int))] ∧ ss = [] ∧ (j ≤ l.length) ∧ (firstE l = firstE (l.drop j))) ?_ _ _ _ ⟨0, rfl, rfl, rfl, Nat.zero_le _, (by rfl)⟩
  rintro kk ff ss ⟨j, hk0, rfl, rfl, hj, hf⟩
  refine VC.seq ?_
  refine VC.text ?_
  refine VO.c (.lss) ?_
  refine VO.go ?_
  refine VC.seq ?_
  refine VC.condD rfl (fun c3 => ?_) (fun c3 => ?_)
  · refine VC.skip ?_
    show VC _ _ _ _ _ _ _ _
    refine VC.seq ?_
    refine VC.block ?_
    refine VC.seq ?_
    refine VC.text ?_
    refine VO.c (.ix (j := j) rfl rfl el22 (by omega)) ?_
    refine VO.r (.ld vt3) ?_
    refine VO.c (.assign rfl) ?_
    refine VO.go ?_
    refine VC.seq ?_
    refine VC.text ?_
    refine VO.c (.move rfl) ?_
    refine VO.c (.move rfl) ?_
    refine VO.c (.neq) ?_
    refine VO.go ?_
    refine VC.condD rfl (fun c5 => ?_) (fun c5 => ?_)
    · refine VC.seq ?_
      refine VC.text ?_
      refine VO.c (.move rfl) ?_
      refine VO.c (.assign rfl) ?_
      refine VO.go ?_
      refine VC.ret ?_
      exact VEnd.one rfl evT (pvI (by rw [hf, firstE_drop (by omega), if_neg c5]))
    · refine VC.skip ?_
      show VC _ _ _ _ _ _ _ _
      refine VC.text ?_
      refine VO.c (.add rfl rfl (by omega)) ?_
      refine VO.c (.move rfl) ?_
      refine VO.nil ?_
      refine ⟨_, [(3, I (0 : Int)), (6, .v y22 l), (7, I ((l.length : Nat) : Int)), (8, I (((j + 1) : Nat) : Int))], ?_, ⟨rfl, rfl, rfl, rfl, trivial⟩, (j + 1), rfl, rfl, rfl, (by omega), (by rw [hf, firstE_drop (by omega), if_pos (by simpa using c5)])⟩
      omega
  · refine VC.exit ?_
    show VC _ _ _ _ _ _ _ _
    refine VC.seq ?_
    refine VC.text ?_
    refine VO.c (.move rfl) ?_
    refine VO.c (.assign rfl) ?_
    refine VO.go ?_
    refine VC.ret ?_
    exact VEnd.one rfl evT (pvI (by rw [hf, firstE_end (by omega)]))
def cmpP (a b : Pc × Int) : Int := firstE [cmpI a.1.1 b.1.1, cmpI a.2 b.2, cmpI a.1.2.2.1 b.1.2.2.1, cmpI a.1.2.2.2.1 b.1.2.2.2.1]
theorem sCmpP_ok {a : (Int × ByteArray × Int × Int × (List Nat)) × Int} {b : (Int × ByteArray × Int × Int × (List Nat)) × Int} : VF Tryz.prog OA 148 [.v y232 a, .v y232 b] (I (cmpP a b)) := by
  refine VF.enter Tryz.func148 rfl (fun _ _ => rfl) rfl ?_
  show VC _ _ _ _ _ [(0, .v y232 a), (1, .v y232 b)] [] _
  refine VC.seq ?_
  refine VC.text ?_
  refine VO.new (.box) ?_
  refine VO.new (.box) ?_
  refine VO.c (.assign rfl) ?_
  refine VO.go ?_
  refine VC.seq ?_
  refine VC.drawn ?_
  refine VD.c (.fa (.l .o)) ?_
  refine VD.c (.fa (.l .o)) ?_
  refine VD.r [] (.ld vt3) (.inl rfl) ?_
  refine VD.c (.fa (.l .o)) ?_
  refine VD.c (.fa (.l .o)) ?_
  refine VD.r [] (.ld vt3) (.inl rfl) ?_
  refine VD.nw [] ?_
  refine VD.call rfl rfl (VF.call (cCmp_ok )) ?_
  refine VD.c (.fa (.r .o)) ?_
  refine VD.r [] (.ld vt3) (.inl rfl) ?_
  refine VD.c (.fa (.r .o)) ?_
  refine VD.r [] (.ld vt3) (.inl rfl) ?_
  refine VD.call rfl rfl (VF.call (cCmp_ok )) ?_
  refine VD.c (.fa (.l .o)) ?_
  refine VD.nw [] ?_
  refine VD.c (.fa (.r (.r (.l .o)))) ?_
  refine VD.r [] (.ld vt3) (.inl rfl) ?_
  refine VD.c (.fa (.l .o)) ?_
  refine VD.c (.fa (.r (.r (.l .o)))) ?_
  refine VD.r [] (.ld vt3) (.inl rfl) ?_
  refine VD.call rfl rfl (VF.call (cCmp_ok )) ?_
  refine VD.c (.fa (.l .o)) ?_
  refine VD.nw [] ?_
  refine VD.c (.fa (.r (.r (.r (.l .o))))) ?_
  refine VD.r [] (.ld vt3) (.inl rfl) ?_
  refine VD.c (.fa (.l .o)) ?_
  refine VD.c (.fa (.r (.r (.r (.l .o))))) ?_
  refine VD.r [] (.ld vt3) (.inl rfl) ?_
  refine VD.call rfl rfl (VF.call (cCmp_ok )) ?_
  refine VD.new (.lit [cmpI a.1.1 b.1.1, cmpI a.2 b.2, cmpI a.1.2.2.1 b.1.2.2.1, cmpI a.1.2.2.2.1 b.1.2.2.2.1] el22) ?_
  refine VD.nw [31] ?_
  refine VD.callO rfl rfl (VF.call (cOr_ok (by first | assumption | omega | simp))) ?_
  refine VD.c (.assign rfl) ?_
  refine VD.go ?_
  refine VC.ret ?_
  exact VEnd.one rfl evT (pvI (by first | rfl | simp))
theorem sMapPl_ok {F : Int × ByteArray × Int × Int × List Nat → (Int × ByteArray × Int × Int × List Nat) × Int} {l : List (Int × ByteArray × Int × Int × (List Nat))} {f : PV} (hl : l.length < 100000) (hf : ∀ x ∈ l, VCall Tryz.prog OA f [.v y160 x] (.v y232 (F x))) : VF Tryz.prog OA 177 [.v y108 l, f] (.v y229 (l.map F)) := by
  refine VF.enter Tryz.func177 rfl (fun _ _ => rfl) rfl ?_
  show VC _ _ _ _ _ [(0, .v y108 l), (1, f)] [] _
  refine VC.seq ?_
  refine VC.text ?_
  refine VO.c (.assign rfl) ?_
  refine VO.go ?_
  refine VC.seq ?_
  refine VC.text ?_
  refine VO.c (.assign rfl) ?_
  refine VO.go ?_
  refine VC.seq ?_
  refine VC.seq ?_
  refine VC.text ?_
  refine VO.c (.move rfl) ?_
  refine VO.r (.len el108) ?_
  refine VO.c (.move rfl) ?_
  refine VO.go ?_
  refine VC.block ?_
  refine VC.cell0 232 y232 ?_
  refine VC.keep [(1, f), (5, .raw (.slice none 0 0)), (8, .v y108 l), (9, I ((l.length : Nat) : Int)), (10, I ((0 : Nat) : Int))] ⟨rfl, rfl, rfl, rfl, rfl, trivial⟩ ?_
  refine VC.loop (I := fun kk ff ss => ∃ (j : Nat) (out : Value), kk = l.length - j ∧ ff = [(1, f), (5, .raw out), (8, .v y108 l), (9, I ((l.length : Nat) : Int)), (10, I ((j : Nat) : Int))] ∧ ss = [(out, .row 232 y232 ((l.take j).map F))] ∧ (j ≤ l.length)) ?_ _ _ _ ⟨0, (.slice none 0 0), rfl, rfl, rfl, Nat.zero_le _⟩
  rintro kk ff ss ⟨j, out, hk0, rfl, rfl, hj⟩
  refine VC.seq ?_
  refine VC.text ?_
  refine VO.c (.lss) ?_
  refine VO.go ?_
  refine VC.seq ?_
  refine VC.condD rfl (fun c3 => ?_) (fun c3 => ?_)
  · refine VC.skip ?_
    show VC _ _ _ _ _ _ _ _
    refine VC.seq ?_
    refine VC.block ?_
    refine VC.seq ?_
    refine VC.text ?_
    refine VO.c (.ix (j := j) rfl rfl el108 (by omega)) ?_
    refine VO.r (.ld vt160) ?_
    refine VO.cell (.alloc zt160) ?_
    intro ww1
    refine VO.setV (cs' := [I ((l[j]).1), St ((l[j]).2.1), I ((l[j]).2.2.1), I ((l[j]).2.2.2.1), .v y124 ((l[j]).2.2.2.2)]) vt160 .v ?_
    refine VO.shut [(7, .p y160 (l[j]))] (.cons rfl (.var m0 .refl) .nil) ?_
    refine VO.go ?_
    refine VC.text ?_
    refine VO.c (.move rfl) ?_
    refine VO.c (.move rfl) ?_
    refine VO.r (.ld vt160) ?_
    refine VO.call rfl rfl ((hf _ (List.getElem_mem _)) ) ?_
    refine VO.new (.lit [F (l[j])] el229) ?_
    refine VO.app rfl rfl el229 el229 (by simp; omega) ?_
    intro ww2
    refine VO.c (.assign rfl) ?_
    refine VO.nil ?_
    show VC _ _ _ _ _ _ _ _
    refine VC.text ?_
    refine VO.c (.add rfl rfl (by omega)) ?_
    refine VO.c (.move rfl) ?_
    refine VO.nil ?_
    refine ⟨_, [(1, f), (5, .raw ww2), (8, .v y108 l), (9, I ((l.length : Nat) : Int)), (10, I (((j + 1) : Nat) : Int))], ?_, ⟨rfl, rfl, rfl, rfl, rfl, trivial⟩, (j + 1), ww2, rfl, rfl, (by rw [List.take_succ_eq_append_getElem (by omega), List.map_append] <;> rfl), (by omega)⟩
    omega
  · refine VC.exit ?_
    show VC _ _ _ _ _ _ _ _
    refine VC.seq ?_
    refine VC.text ?_
    refine VO.c (.move rfl) ?_
    refine VO.c (.assign rfl) ?_
    refine VO.go ?_
    refine VC.ret ?_
    exact VEnd.one rfl (evC (.row m0)) (pvE (by rw [List.take_of_length_le (by omega)]))
def plE (d : Dom) (p : Pc) : Pc × Int := (p, (hasM d p.2.1).getD 0)
theorem sPl1_ok {p : Int × ByteArray × Int × Int × (List Nat)} {m : List (ByteArray × Int)} : VF Tryz.prog OA 178 [.v y160 p, .p y205 m] (.v y232 (p, (mget m p.2.1).getD 0)) := by
  refine VF.enter Tryz.func178 rfl (fun _ _ => rfl) rfl ?_
  show VC _ _ _ _ _ [(0, .v y160 p), (1, .p y205 m)] [] _
  refine VC.seq ?_
  refine VC.text ?_
  refine VO.new (.box) ?_
  refine VO.cell (.alloc zt232) ?_
  intro ww3
  refine VO.go ?_
  refine VC.seq ?_
  refine VC.text ?_
  refine VO.r (.ld vt160) ?_
  refine VO.r (.ld vt205) ?_
  refine VO.c (.fa (.r (.l .o))) ?_
  refine VO.r (.ld vt9) ?_
  refine VO.r (.look mt205) ?_
  refine VO.c (.build (p, ((mget m p.2.1).getD 0)) bt232) ?_
  refine VO.setV (cs' := [I p.1, St p.2.1, I p.2.2.1, I p.2.2.2.1, .v y124 p.2.2.2.2, I ((mget m p.2.1).getD 0)]) vt232 .v ?_
  refine VO.go ?_
  refine VC.ret ?_
  exact VEnd.one rfl (.cell (x := (p, ((mget m p.2.1).getD 0))) rfl m0 vt232 .refl) (pvE (by first | rfl | simp))
theorem sPl_ok {d : Int × Int × Int × (List (ByteArray × Int))} {l : List (Int × ByteArray × Int × Int × (List Nat))} (hd : d.2.2.2.length ≤ 16) (hl : l.length < 100000) : VF Tryz.prog OA 146 [.v y106 d, .v y108 l] (.v y229 (l.map (plE d))) := by
  refine VF.enter Tryz.func146 rfl (fun _ _ => rfl) rfl ?_
  show VC _ _ _ _ _ [(0, .v y106 d), (1, .v y108 l)] [] _
  refine VC.seq ?_
  refine VC.text ?_
  refine VO.new (.box) ?_
  refine VO.c (.assign rfl) ?_
  refine VO.go ?_
  refine VC.seq ?_
  refine VC.text ?_
  refine VO.r (.ld vt106) ?_
  refine VO.call rfl rfl (VF.call (sMems_ok hd)) ?_
  refine VO.cell (.alloc zt205) ?_
  intro ww4
  refine VO.setV (cs' := [.v y205 (idxM d.2.2.2 d.2.2.2.length)]) vt205 .v ?_
  refine VO.shut [(5, .p y205 (idxM d.2.2.2 d.2.2.2.length))] (.cons rfl (.var m0 .refl) .nil) ?_
  refine VO.go ?_
  refine VC.seq ?_
  refine VC.text ?_
  refine VO.c (.move rfl) ?_
  refine VO.c (.func) ?_
  refine VO.call rfl rfl (VF.call (sMapPl_ok (F := plE d) hl (fun _ _ => VF.clo sPl1_ok))) ?_
  refine VO.c (.assign rfl) ?_
  refine VO.go ?_
  refine VC.ret ?_
  exact VEnd.one rfl evT (pvE (by first | rfl | simp))
def pcA (l : List Pc) (i : Nat) : Pc := l.getD i (0, ByteArray.empty, 0, 0, [])
theorem pcA_eq {l : List Pc} {i : Nat} (h : i < l.length) : l[i] = pcA l i := by simp [pcA, h]
def pieceE (d : Dom) (l : List Pc) (i : Nat) : Int := firstE [pcE d (pcA l i), whenE (decide (0 < i) && decide (0 ≤ cmpP (plE d (pcA l (i - 1))) (plE d (pcA l i)))) 11]
def storeP (d : Dom) (l : List Pc) : Int := firstE [domE d, whenE (decide ((4096 : Int) < l.length)) 5]
def storeE (d : Dom) (l : List Pc) : Int := if storeP d l = 0 then firstE ((List.range l.length).map (pieceE d l)) else storeP d l
theorem storeP_ok {d : Dom} {l : List Pc} (h : storeP d l = 0) : domE d = 0 ∧ l.length ≤ 4096 := by
  unfold storeP at h
  rw [firstE_zero] at h
  have h1 := whenE_zero (by decide) (h _ (List.mem_cons_of_mem _ List.mem_cons_self))
  exact ⟨h _ List.mem_cons_self, by omega⟩
theorem piece_t {d : Dom} {l : List Pc} {i j : Nat} (h : i < l.length) (hi : 0 < i) (hj : j < (l.map (plE d)).length) (hj' : i < (l.map (plE d)).length) (e : j = i - 1) : firstE [pcE d ((l.map (plE d))[i]).1, whenE (decide (0 ≤ cmpP ((l.map (plE d))[j]) ((l.map (plE d))[i]))) 11] = pieceE d l i := by
  subst e
  rw [pieceE, List.getElem_map, List.getElem_map, pcA_eq, pcA_eq, decide_eq_true hi, Bool.true_and] <;> rfl
theorem piece_f {d : Dom} {l : List Pc} {i : Nat} (h : i < l.length) (hi : ¬ 0 < i) (hj' : i < (l.map (plE d)).length) : firstE [pcE d ((l.map (plE d))[i]).1, whenE false 11] = pieceE d l i := by
  rw [pieceE, List.getElem_map, pcA_eq, decide_eq_false hi, Bool.false_and] <;> rfl
theorem sStore_ok {d : Int × Int × Int × (List (ByteArray × Int))} {l : List (Int × ByteArray × Int × Int × (List Nat))} (hl : l.length < 100000) (hv : ∀ p ∈ l, p.2.2.2.2.length < 100000) : VF Tryz.prog OA 85 [.v y106 d, .v y108 l] (I (storeE d l)) := by
  refine VF.enter Tryz.func85 rfl (fun _ _ => rfl) rfl ?_
  show VC _ _ _ _ _ [(0, .v y106 d), (1, .v y108 l)] [] _
  refine VC.seq ?_
  refine VC.text ?_
  refine VO.new (.box) ?_
  refine VO.c (.assign rfl) ?_
  refine VO.go ?_
  refine VC.seq ?_
  refine VC.seq ?_
  refine VC.text ?_
  refine VO.r (.ld vt106) ?_
  refine VO.call rfl rfl (VF.call (sDom_ok )) ?_
  refine VO.c (.move rfl) ?_
  refine VO.r (.len el108) ?_
  refine VO.c (.gtr) ?_
  refine VO.call rfl rfl (VF.call (sWhen_ok )) ?_
  refine VO.new (.lit [domE d, whenE (decide ((4096 : Int) < ((l.length : Nat) : Int))) (5 : Int)] el179) ?_
  refine VO.call rfl rfl (VF.call (sFirst_ok (by first | assumption | omega | simp))) ?_
  refine VO.c (.assign rfl) ?_
  refine VO.go ?_
  refine VC.seq ?_
  refine VC.text ?_
  refine VO.c (.move rfl) ?_
  refine VO.c (.neq) ?_
  refine VO.go ?_
  refine VC.condD rfl (fun c2 => ?_) (fun c2 => ?_)
  · have c2' : ¬ storeP d l = 0 := c2
    refine VC.seq ?_
    refine VC.text ?_
    refine VO.c (.move rfl) ?_
    refine VO.c (.assign rfl) ?_
    refine VO.go ?_
    refine VC.ret ?_
    exact VEnd.one rfl evT (pvI (by rw [storeE, if_neg c2'] <;> rfl))
  · have c2' : storeP d l = 0 := by simpa [storeP] using c2
    have hs := storeP_ok c2'
    have hdd := dom_ok hs.1
    refine VC.skip ?_
    show VC _ _ _ _ _ _ _ _
    refine VC.seq ?_
    refine VC.text ?_
    refine VO.r (.ld vt106) ?_
    refine VO.c (.move rfl) ?_
    refine VO.call rfl rfl (VF.call (sPl_ok (by omega) hl)) ?_
    refine VO.c (.assign rfl) ?_
    refine VO.go ?_
    refine VC.seq ?_
    refine VC.seq ?_
    refine VC.text ?_
    refine VO.c (.move rfl) ?_
    refine VO.r (.len el229) ?_
    refine VO.c (.move rfl) ?_
    refine VO.go ?_
    refine VC.block ?_
    refine VC.keep [(2, .p y106 d), (6, .v y229 (l.map (plE d))), (24, .v y229 (l.map (plE d))), (25, I (((l.map (plE d)).length : Nat) : Int)), (26, I ((0 : Nat) : Int))] ⟨rfl, rfl, rfl, rfl, rfl, trivial⟩ ?_
    refine VC.loop (I := fun kk ff ss => ∃ (i : Nat), kk = l.length - i ∧ ff = [(2, .p y106 d), (6, .v y229 (l.map (plE d))), (24, .v y229 (l.map (plE d))), (25, I (((l.map (plE d)).length : Nat) : Int)), (26, I ((i : Nat) : Int))] ∧ ss = [] ∧ (i ≤ l.length) ∧ (∀ k, k < i → pieceE d l k = 0)) ?_ _ _ _ ⟨0, rfl, rfl, rfl, Nat.zero_le _, (by intro k hk; omega)⟩
    rintro kk ff ss ⟨i, hk0, rfl, rfl, hi, hz⟩
    refine VC.seq ?_
    refine VC.text ?_
    refine VO.c (.lss) ?_
    refine VO.go ?_
    refine VC.seq ?_
    refine VC.condD rfl (fun c6 => ?_) (fun c6 => ?_)
    · have hi' : i < l.length := by simpa using c6
      refine VC.skip ?_
      show VC _ _ _ _ _ _ _ _
      refine VC.seq ?_
      refine VC.block ?_
      refine VC.seq ?_
      refine VC.text ?_
      refine VO.c (.move rfl) ?_
      refine VO.c (.ix (j := i) rfl rfl el229 (by simp; omega)) ?_
      refine VO.r (.ld vt232) ?_
      refine VO.cell (.alloc zt232) ?_
      intro ww5
      refine VO.c (.assign rfl) ?_
      refine VO.setV (cs' := [I ((((l.map (plE d))[i]).1).1), St ((((l.map (plE d))[i]).1).2.1), I ((((l.map (plE d))[i]).1).2.2.1), I ((((l.map (plE d))[i]).1).2.2.2.1), .v y124 ((((l.map (plE d))[i]).1).2.2.2.2), I (((l.map (plE d))[i]).2)]) vt232 .v ?_
      refine VO.shut [(8, .p y232 ((l.map (plE d))[i]))] (.cons rfl (.var m0 .refl) .nil) ?_
      refine VO.go ?_
      refine VC.seq ?_
      refine VC.join [(2, .p y106 d), (6, .v y229 (l.map (plE d))), (9, I (pieceE d l i)), (24, .v y229 (l.map (plE d))), (25, I (((l.map (plE d)).length : Nat) : Int)), (26, I ((i : Nat) : Int))] [] ?_ ?_
      · skip
        refine VC.drawn ?_
        refine VD.r [] (.ld vt106) (.inl rfl) ?_
        refine VD.c (.fa (.l .o)) ?_
        refine VD.r [] (.ld vt160) (.inl rfl) ?_
        refine VD.call rfl rfl (VF.call (sPc_ok hs.1 (by simp only [List.getElem_map]; exact hv _ (List.getElem_mem _)))) ?_
        refine VD.c (.move rfl) ?_
        refine VD.c (.gtr) ?_
        refine VD.nw [] ?_
        refine VD.c (.move rfl) ?_
        refine VD.splitD (x := 37) rfl (fun g8_6 => ?_) (fun g8_6 => ?_)
        · refine VD.c (.move rfl) ?_
          refine VD.c (.move rfl) ?_
          refine VD.c (.sub rfl rfl (by omega)) ?_
          refine VD.r [] (.max) (.inl rfl) ?_
          refine VD.c (.ixZ (k := (max (0 : Int) (((i : Nat) : Int) - (1 : Int)))) rfl rfl el229 (by omega) (by simp; omega)) ?_
          refine VD.nw [] ?_
          refine VD.r [] (.ld vt232) (.inl rfl) ?_
          refine VD.r [] (.ld vt232) (.inl rfl) ?_
          refine VD.call rfl rfl (VF.call (sCmpP_ok )) ?_
          refine VD.c (.geq) ?_
          refine VD.c (.pickT rfl rfl) ?_
          refine VD.call rfl rfl (VF.call (sWhen_ok )) ?_
          refine VD.new (.lit [pcE d (((l.map (plE d))[i]).1), whenE (decide ((0 : Int) ≤ cmpP ((l.map (plE d))[Int.toNat (max (0 : Int) (((i : Nat) : Int) - (1 : Int)))]) ((l.map (plE d))[i]))) (11 : Int)] el179) ?_
          refine VD.nw [49] ?_
          refine VD.callO rfl rfl (VF.call (sFirst_ok (by first | assumption | omega | simp))) ?_
          refine VD.c (.assign rfl) ?_
          refine VD.nil ?_
          exact ⟨⟨rfl, rfl, slI rfl (by first | exact piece_t hi' (by omega) _ _ (by omega) | exact piece_f hi' (by omega) _), rfl, rfl, rfl, trivial⟩, rfl⟩
        · refine VD.skip ?_
          refine VD.skip ?_
          refine VD.skip ?_
          refine VD.skip ?_
          refine VD.skip ?_
          refine VD.nw [] ?_
          refine VD.skip ?_
          refine VD.skip ?_
          refine VD.skip ?_
          refine VD.skip ?_
          refine VD.c (.pickF rfl rfl) ?_
          refine VD.call rfl rfl (VF.call (sWhen_ok )) ?_
          refine VD.new (.lit [pcE d (((l.map (plE d))[i]).1), whenE false (11 : Int)] el179) ?_
          refine VD.nw [49] ?_
          refine VD.callO rfl rfl (VF.call (sFirst_ok (by first | assumption | omega | simp))) ?_
          refine VD.c (.assign rfl) ?_
          refine VD.nil ?_
          exact ⟨⟨rfl, rfl, slI rfl (by first | exact piece_t hi' (by omega) _ _ (by omega) | exact piece_f hi' (by omega) _), rfl, rfl, rfl, trivial⟩, rfl⟩
      show VC _ _ _ _ _ _ _ _
      refine VC.seq ?_
      refine VC.text ?_
      refine VO.c (.move rfl) ?_
      refine VO.c (.neq) ?_
      refine VO.go ?_
      refine VC.condD rfl (fun c9 => ?_) (fun c9 => ?_)
      · refine VC.seq ?_
        refine VC.text ?_
        refine VO.c (.move rfl) ?_
        refine VO.c (.assign rfl) ?_
        refine VO.go ?_
        refine VC.ret ?_
        exact VEnd.one rfl evT (pvI (by rw [storeE, if_pos c2', ← firstE_range hi' hz c9]))
      · refine VC.skip ?_
        show VC _ _ _ _ _ _ _ _
        refine VC.text ?_
        refine VO.c (.add rfl rfl (by omega)) ?_
        refine VO.c (.move rfl) ?_
        refine VO.nil ?_
        refine ⟨_, [(2, .p y106 d), (6, .v y229 (l.map (plE d))), (24, .v y229 (l.map (plE d))), (25, I (((l.map (plE d)).length : Nat) : Int)), (26, I (((i + 1) : Nat) : Int))], ?_, ⟨rfl, rfl, rfl, rfl, rfl, trivial⟩, (i + 1), rfl, rfl, rfl, (by omega), (by intro k hk; rcases Nat.lt_succ_iff_lt_or_eq.1 hk with h | h; exact hz k h; subst h; simpa using c9)⟩
        omega
    · have hi' : l.length ≤ i := by simpa using c6
      refine VC.exit ?_
      show VC _ _ _ _ _ _ _ _
      refine VC.seq ?_
      refine VC.text ?_
      refine VO.c (.assign rfl) ?_
      refine VO.go ?_
      refine VC.ret ?_
      exact VEnd.one rfl evT (pvI (by rw [storeE, if_pos c2']; exact firstE_range0 (fun k hk => hz k (by omega))))
end Go.Proofs
namespace Go.Proofs
open Go.Fs Ieee
set_option linter.unusedVariables false
abbrev y96 : Ty := (.sl (.pair (.int .i64) (.pair .str (.pair (.int .i64) (.pair (.int .i64) (.sl (.flt .f32)))))))
abbrev y152 : Ty := (.pair (.int .i64) (.pair .str (.pair (.int .i64) (.pair (.int .i64) (.sl (.flt .f32))))))
theorem vt95 : ValT Tryz.prog 95 y95 := valT_of (by kernel_rfl)
theorem vt152 : ValT Tryz.prog 152 y152 := valT_of (by kernel_rfl)
theorem el96 : ElT Tryz.prog 96 152 y152 := elT_of (by kernel_rfl)
/-! ## The reference's stores -/
theorem idx_none {l : Mems} {x : ByteArray} : ∀ (i : Nat), mget (idxM l i) x = none → ∀ k, k < i → nmE l k ≠ x
  | 0, _, k, hk => by omega
  | i + 1, h, k, hk => by
    rw [idxM, mget_mset] at h
    split at h
    · cases h
    · rename_i hx
      rcases Nat.lt_succ_iff_lt_or_eq.1 hk with h3 | h3
      · exact idx_none i h k h3
      · subst h3; exact fun e => hx e.symm
theorem idx_some {l : Mems} {x : ByteArray} {v : Int} : ∀ (i : Nat), mget (idxM l i) x = some v → ∃ k, k < i ∧ v = (k : Int) ∧ nmE l k = x
  | 0, h => by cases h
  | i + 1, h => by
    rw [idxM, mget_mset] at h
    split at h
    · rename_i hx
      injection h with h
      exact ⟨i, by omega, h.symm, hx.symm⟩
    · obtain ⟨k, h1, h2, h3⟩ := idx_some i h
      exact ⟨k, by omega, h2, h3⟩
theorem mem_dist {l : Mems} {i k : Nat} (h : memE l i = 0) (hk : k < i) : nmE l k ≠ nmE l i := fun e => by
  unfold memE at h
  rw [firstE_zero] at h
  have h1 := h _ (List.mem_cons_of_mem _ (List.mem_cons_of_mem _ List.mem_cons_self))
  rw [(known_iff i).2 ⟨k, hk, e⟩] at h1
  cases h1
theorem hasM_eq {d : Dom} (hd : domE d = 0) (x : ByteArray) : hasM d x = if memAt d.2.2.2 x < 0 then none else some (memAt d.2.2.2 x) := by
  obtain ⟨_, _, _, _, _, hz⟩ := dom_ok hd
  cases hg : hasM d x with
  | none =>
    have h1 := idx_none _ hg
    rw [← memAt_none fun k hk => by rw [nmE_eq hk]; exact h1 k hk]
    rfl
  | some v =>
    obtain ⟨k, hk, hv, hn⟩ := idx_some _ hg
    rw [← memAt_some hk (by rw [nmE_eq hk]; exact hn) fun j hj => by rw [nmE_eq (by omega), ← hn]; exact mem_dist (hz k hk) hj]
    rw [if_neg (by omega), hv]
theorem pcPre_eq {d : Dom} {p : Pc} (hd : domE d = 0) : pcPre d p = if rangeE p.1 0 100000 ≠ 0 then rangeE p.1 0 100000 else if memAt d.2.2.2 p.2.1 < 0 then 10 else if firstE [rangeE p.2.2.1 0 (d.2.2.1 - 1), rangeE p.2.2.2.1 0 (d.1 - 1)] ≠ 0 then firstE [rangeE p.2.2.1 0 (d.2.2.1 - 1), rangeE p.2.2.2.1 0 (d.1 - 1)] else if (p.2.2.2.2.length : Int) ≠ d.2.1 then 2 else 0 := by
  have e : pcPre d p = firstE ([rangeE p.1 0 100000] ++ ([whenE (!(hasM d p.2.1).isSome) 10] ++ ([rangeE p.2.2.1 0 (d.2.2.1 - 1), rangeE p.2.2.2.1 0 (d.1 - 1)] ++ [whenE (decide ((p.2.2.2.2.length : Int) ≠ d.2.1)) 2]))) := rfl
  rw [e, firstE_app, firstE_one]
  by_cases h1 : rangeE p.1 0 100000 = 0
  · rw [if_pos h1, if_neg (by simpa using h1), firstE_app, firstE_one, hasM_eq hd]
    by_cases h2 : memAt d.2.2.2 p.2.1 < 0
    · rw [if_pos h2, if_pos h2] <;> rfl
    · rw [if_neg h2, if_neg h2]
      show firstE _ = _
      rw [firstE_app]
      by_cases h3 : firstE [rangeE p.2.2.1 0 (d.2.2.1 - 1), rangeE p.2.2.2.1 0 (d.1 - 1)] = 0
      · rw [if_pos h3, if_neg (by simpa using h3), firstE_one]
        by_cases h4 : (p.2.2.2.2.length : Int) ≠ d.2.1
        · rw [whenE_t h4, if_pos h4]
        · rw [whenE_f h4, if_neg h4]
      · rw [if_neg h3, if_pos h3]
  · rw [if_neg h1, if_pos h1]
theorem rPc_ok {d : Int × Int × Int × (List (ByteArray × Int))} {p : Int × ByteArray × Int × Int × (List Nat)} (hd : domE d = 0) (hv : p.2.2.2.2.length < 100000) : VF Tryz.prog OA 129 [.v y95 d, .v y152 p] (I (pcE d p)) := by
  refine VF.enter Tryz.func129 rfl (fun _ _ => rfl) rfl ?_
  show VC _ _ _ _ _ [(0, .v y95 d), (1, .v y152 p)] [] _
  refine VC.seq ?_
  refine VC.text ?_
  have hdd := dom_ok hd
  have hq := pcPre_eq (p := p) hd
  refine VO.new (.box) ?_
  refine VO.new (.box) ?_
  refine VO.c (.assign rfl) ?_
  refine VO.go ?_
  refine VC.seq ?_
  refine VC.seq ?_
  refine VC.text ?_
  refine VO.c (.fa (.l .o)) ?_
  refine VO.r (.ld vt3) ?_
  refine VO.call rfl rfl (VF.call (rCheckRange_ok )) ?_
  refine VO.c (.assign rfl) ?_
  refine VO.go ?_
  refine VC.seq ?_
  refine VC.text ?_
  refine VO.c (.move rfl) ?_
  refine VO.c (.neq) ?_
  refine VO.go ?_
  refine VC.condD rfl (fun c2 => ?_) (fun c2 => ?_)
  · have hn : pcPre d p ≠ 0 := by rw [hq, if_pos c2]; exact c2
    refine VC.seq ?_
    refine VC.text ?_
    refine VO.c (.move rfl) ?_
    refine VO.c (.assign rfl) ?_
    refine VO.go ?_
    refine VC.ret ?_
    exact VEnd.one rfl evT (pvI (by rw [pcE, if_neg hn, hq, if_pos c2]))
  · have c2' : rangeE p.1 0 100000 = 0 := by simpa using c2
    refine VC.skip ?_
    show VC _ _ _ _ _ _ _ _
    refine VC.seq ?_
    refine VC.seq ?_
    refine VC.text ?_
    refine VO.r (.ld vt95) ?_
    refine VO.c (.fa (.r (.l .o))) ?_
    refine VO.r (.ld vt9) ?_
    refine VO.call rfl rfl (VF.call (rMemAt_ok (by omega))) ?_
    refine VO.c (.lss) ?_
    refine VO.go ?_
    refine VC.condD rfl (fun c4 => ?_) (fun c4 => ?_)
    · have hn : pcPre d p = 10 := by rw [hq, if_neg c2, if_pos c4]
      refine VC.seq ?_
      refine VC.text ?_
      refine VO.c (.assign rfl) ?_
      refine VO.go ?_
      refine VC.ret ?_
      exact VEnd.one rfl evT (pvI (by rw [pcE, hn, if_neg (by decide)]))
    · refine VC.skip ?_
      show VC _ _ _ _ _ _ _ _
      refine VC.seq ?_
      refine VC.seq ?_
      refine VC.drawn ?_
      refine VD.c (.fa (.r (.r (.l .o)))) ?_
      refine VD.r [] (.ld vt3) (.inl rfl) ?_
      refine VD.c (.fa (.r (.r (.l .o)))) ?_
      refine VD.r [] (.ld vt3) (.inl rfl) ?_
      refine VD.c (.sub rfl rfl (by omega)) ?_
      refine VD.call rfl rfl (VF.call (rCheckRange_ok )) ?_
      refine VD.nw [] ?_
      refine VD.c (.fa (.r (.r (.r (.l .o))))) ?_
      refine VD.r [] (.ld vt3) (.inl rfl) ?_
      refine VD.c (.fa (.l .o)) ?_
      refine VD.r [] (.ld vt3) (.inl rfl) ?_
      refine VD.c (.sub rfl rfl (by omega)) ?_
      refine VD.call rfl rfl (VF.call (rCheckRange_ok )) ?_
      refine VD.new (.lit [rangeE p.2.2.1 (0 : Int) (d.2.2.1 - (1 : Int)), rangeE p.2.2.2.1 (0 : Int) (d.1 - (1 : Int))] el22) ?_
      refine VD.nw [32] ?_
      refine VD.callO rfl rfl (VF.call (rFirst_ok (by first | assumption | omega | simp))) ?_
      refine VD.c (.assign rfl) ?_
      refine VD.go ?_
      refine VC.seq ?_
      refine VC.text ?_
      refine VO.c (.move rfl) ?_
      refine VO.c (.neq) ?_
      refine VO.go ?_
      refine VC.condD rfl (fun c7 => ?_) (fun c7 => ?_)
      · have hn : pcPre d p = firstE [rangeE p.2.2.1 0 (d.2.2.1 - 1), rangeE p.2.2.2.1 0 (d.1 - 1)] := by rw [hq, if_neg c2, if_neg c4, if_pos c7]
        refine VC.seq ?_
        refine VC.keep [(2, .p y95 d), (3, .p y152 p), (6, I (firstE [rangeE p.2.2.1 (0 : Int) (d.2.2.1 - (1 : Int)), rangeE p.2.2.2.1 (0 : Int) (d.1 - (1 : Int))]))] ⟨rfl, rfl, rfl, trivial⟩ ?_
        refine VC.text ?_
        refine VO.c (.move rfl) ?_
        refine VO.c (.assign rfl) ?_
        refine VO.go ?_
        refine VC.ret ?_
        exact VEnd.one rfl evT (pvI (by rw [pcE, hn, if_neg c7]))
      · refine VC.skip ?_
        show VC _ _ _ _ _ _ _ _
        refine VC.seq ?_
        refine VC.seq ?_
        refine VC.keep [(2, .p y95 d), (3, .p y152 p)] ⟨rfl, rfl, trivial⟩ ?_
        refine VC.text ?_
        refine VO.c (.fa (.r (.r (.r (.r .o))))) ?_
        refine VO.r (.ld vt124) ?_
        refine VO.r (.len el124) ?_
        refine VO.c (.fa (.r (.l .o))) ?_
        refine VO.r (.ld vt3) ?_
        refine VO.c (.neq) ?_
        refine VO.go ?_
        refine VC.condD rfl (fun c9 => ?_) (fun c9 => ?_)
        · have hn : pcPre d p = 2 := by rw [hq, if_neg c2, if_neg c4, if_neg c7, if_pos c9]
          refine VC.seq ?_
          refine VC.text ?_
          refine VO.c (.assign rfl) ?_
          refine VO.go ?_
          refine VC.ret ?_
          exact VEnd.one rfl evT (pvI (by rw [pcE, hn, if_neg (by decide)]))
        · have hn : pcPre d p = 0 := by rw [hq, if_neg c2, if_neg c4, if_neg c7, if_neg c9]
          refine VC.skip ?_
          show VC _ _ _ _ _ _ _ _
          refine VC.seq ?_
          refine VC.seq ?_
          refine VC.text ?_
          refine VO.c (.assign rfl) ?_
          refine VO.go ?_
          refine VC.block ?_
          refine VC.keep [(3, .p y152 p), (7, I ((0 : Nat) : Int))] ⟨rfl, rfl, trivial⟩ ?_
          refine VC.loop (I := fun kk ff ss => ∃ (i : Nat), kk = p.2.2.2.2.length - i ∧ ff = [(3, .p y152 p), (7, I ((i : Nat) : Int))] ∧ ss = [] ∧ (i ≤ p.2.2.2.2.length) ∧ (firstE (p.2.2.2.2.map lvlE) = firstE ((p.2.2.2.2.drop i).map lvlE))) ?_ _ _ _ ⟨0, rfl, rfl, rfl, Nat.zero_le _, (by rfl)⟩
          rintro kk ff ss ⟨i, hk0, rfl, rfl, hi, hf⟩
          refine VC.seq ?_
          refine VC.seq ?_
          refine VC.text ?_
          refine VO.c (.move rfl) ?_
          refine VO.c (.fa (.r (.r (.r (.r .o))))) ?_
          refine VO.r (.ld vt124) ?_
          refine VO.r (.len el124) ?_
          refine VO.c (.lss) ?_
          refine VO.go ?_
          refine VC.condD rfl (fun c12 => ?_) (fun c12 => ?_)
          · refine VC.skip ?_
            show VC _ _ _ _ _ _ _ _
            refine VC.seq ?_
            refine VC.block ?_
            refine VC.seq ?_
            refine VC.text ?_
            refine VO.c (.fa (.r (.r (.r (.r .o))))) ?_
            refine VO.r (.ld vt124) ?_
            refine VO.c (.move rfl) ?_
            refine VO.c (.ix (j := i) rfl rfl el124 (by omega)) ?_
            refine VO.r (.ld vt127) ?_
            refine VO.call rfl rfl (VF.call (rLv_ok )) ?_
            refine VO.c (.assign rfl) ?_
            refine VO.go ?_
            refine VC.seq ?_
            refine VC.text ?_
            refine VO.c (.move rfl) ?_
            refine VO.c (.neq) ?_
            refine VO.go ?_
            refine VC.condD rfl (fun c15 => ?_) (fun c15 => ?_)
            · refine VC.seq ?_
              refine VC.text ?_
              refine VO.c (.move rfl) ?_
              refine VO.c (.assign rfl) ?_
              refine VO.go ?_
              refine VC.ret ?_
              exact VEnd.one rfl evT (pvI (by rw [pcE, if_pos hn, hf, firstE_map_drop (by omega), if_neg c15]))
            · refine VC.skip ?_
              show VC _ _ _ _ _ _ _ _
              refine VC.text ?_
              refine VO.c (.move rfl) ?_
              refine VO.c (.add rfl rfl (by omega)) ?_
              refine VO.c (.assign rfl) ?_
              refine VO.nil ?_
              refine ⟨_, [(3, .p y152 p), (7, I (((i + 1) : Nat) : Int))], ?_, ⟨rfl, rfl, trivial⟩, (i + 1), rfl, rfl, rfl, (by omega), (by rw [hf, firstE_map_drop (by omega), if_pos (by simpa using c15)])⟩
              omega
          · refine VC.exit ?_
            show VC _ _ _ _ _ _ _ _
            refine VC.seq ?_
            refine VC.text ?_
            refine VO.c (.assign rfl) ?_
            refine VO.go ?_
            refine VC.ret ?_
            exact VEnd.one rfl evT (pvI (by rw [pcE, if_pos hn, hf, firstE_map_end (by omega)]))
def befE (d : Dom) (a b : Pc) : Bool := if a.1 ≠ b.1 then decide (a.1 < b.1) else if memAt d.2.2.2 a.2.1 ≠ memAt d.2.2.2 b.2.1 then decide (memAt d.2.2.2 a.2.1 < memAt d.2.2.2 b.2.1) else if a.2.2.1 ≠ b.2.2.1 then decide (a.2.2.1 < b.2.2.1) else decide (a.2.2.2.1 < b.2.2.2.1)
theorem rBef_ok {d : Int × Int × Int × (List (ByteArray × Int))} {a : Int × ByteArray × Int × Int × (List Nat)} {b : Int × ByteArray × Int × Int × (List Nat)} (hd : d.2.2.2.length ≤ 16) : VF Tryz.prog OA 130 [.v y95 d, .v y152 a, .v y152 b] (B (befE d a b)) := by
  refine VF.enter Tryz.func130 rfl (fun _ _ => rfl) rfl ?_
  show VC _ _ _ _ _ [(0, .v y95 d), (1, .v y152 a), (2, .v y152 b)] [] _
  refine VC.seq ?_
  refine VC.text ?_
  refine VO.new (.box) ?_
  refine VO.new (.box) ?_
  refine VO.new (.box) ?_
  refine VO.c (.assign rfl) ?_
  refine VO.go ?_
  refine VC.seq ?_
  refine VC.seq ?_
  refine VC.text ?_
  refine VO.c (.fa (.l .o)) ?_
  refine VO.r (.ld vt3) ?_
  refine VO.c (.fa (.l .o)) ?_
  refine VO.r (.ld vt3) ?_
  refine VO.c (.neq) ?_
  refine VO.go ?_
  refine VC.condD rfl (fun c1 => ?_) (fun c1 => ?_)
  · refine VC.seq ?_
    refine VC.text ?_
    refine VO.c (.fa (.l .o)) ?_
    refine VO.r (.ld vt3) ?_
    refine VO.c (.fa (.l .o)) ?_
    refine VO.r (.ld vt3) ?_
    refine VO.c (.lss) ?_
    refine VO.c (.assign rfl) ?_
    refine VO.go ?_
    refine VC.ret ?_
    exact VEnd.one rfl evT (pvE (by rw [befE, if_pos c1]))
  · refine VC.skip ?_
    show VC _ _ _ _ _ _ _ _
    refine VC.seq ?_
    refine VC.seq ?_
    refine VC.drawn ?_
    refine VD.r [] (.ld vt95) (.inl rfl) ?_
    refine VD.c (.fa (.r (.l .o))) ?_
    refine VD.r [] (.ld vt9) (.inl rfl) ?_
    refine VD.call rfl rfl (VF.call (rMemAt_ok hd)) ?_
    refine VD.r [] (.ld vt95) (.inl rfl) ?_
    refine VD.c (.fa (.r (.l .o))) ?_
    refine VD.nw [] ?_
    refine VD.r [] (.ld vt9) (.inl rfl) ?_
    refine VD.call rfl rfl (VF.call (rMemAt_ok hd)) ?_
    refine VD.c (.assign rfl) ?_
    refine VD.c (.assign rfl) ?_
    refine VD.go ?_
    refine VC.seq ?_
    refine VC.text ?_
    refine VO.c (.move rfl) ?_
    refine VO.c (.move rfl) ?_
    refine VO.c (.neq) ?_
    refine VO.go ?_
    refine VC.condD rfl (fun c4 => ?_) (fun c4 => ?_)
    · refine VC.seq ?_
      refine VC.text ?_
      refine VO.c (.move rfl) ?_
      refine VO.c (.move rfl) ?_
      refine VO.c (.lss) ?_
      refine VO.c (.assign rfl) ?_
      refine VO.go ?_
      refine VC.ret ?_
      exact VEnd.one rfl evT (pvE (by rw [befE, if_neg c1, if_pos c4]))
    · refine VC.skip ?_
      show VC _ _ _ _ _ _ _ _
      refine VC.seq ?_
      refine VC.seq ?_
      refine VC.text ?_
      refine VO.c (.fa (.r (.r (.l .o)))) ?_
      refine VO.r (.ld vt3) ?_
      refine VO.c (.fa (.r (.r (.l .o)))) ?_
      refine VO.r (.ld vt3) ?_
      refine VO.c (.neq) ?_
      refine VO.go ?_
      refine VC.condD rfl (fun c6 => ?_) (fun c6 => ?_)
      · refine VC.seq ?_
        refine VC.text ?_
        refine VO.c (.fa (.r (.r (.l .o)))) ?_
        refine VO.r (.ld vt3) ?_
        refine VO.c (.fa (.r (.r (.l .o)))) ?_
        refine VO.r (.ld vt3) ?_
        refine VO.c (.lss) ?_
        refine VO.c (.assign rfl) ?_
        refine VO.go ?_
        refine VC.ret ?_
        exact VEnd.one rfl evT (pvE (by rw [befE, if_neg c1, if_neg c4, if_pos c6]))
      · refine VC.skip ?_
        show VC _ _ _ _ _ _ _ _
        refine VC.seq ?_
        refine VC.text ?_
        refine VO.c (.fa (.r (.r (.r (.l .o))))) ?_
        refine VO.r (.ld vt3) ?_
        refine VO.c (.fa (.r (.r (.r (.l .o))))) ?_
        refine VO.r (.ld vt3) ?_
        refine VO.c (.lss) ?_
        refine VO.c (.assign rfl) ?_
        refine VO.go ?_
        refine VC.ret ?_
        exact VEnd.one rfl evT (pvE (by rw [befE, if_neg c1, if_neg c4, if_neg c6]))
theorem cmpI_lt {a b : Int} (h : a < b) : cmpI a b = -1 := by rw [cmpI, if_pos h]
theorem cmpI_eq {a b : Int} (h : a = b) : cmpI a b = 0 := by rw [cmpI, if_neg (by omega), if_neg (by omega)]
theorem cmpI_gt {a b : Int} (h : b < a) : cmpI a b = 1 := by rw [cmpI, if_neg (by omega), if_pos h]
theorem firstE_cmp {a b : Int} {r : List Int} : (0 ≤ firstE (cmpI a b :: r)) = (b < a ∨ a = b ∧ 0 ≤ firstE r) := by
  rcases Int.lt_trichotomy a b with h | h | h
  · rw [cmpI_lt h]
    refine propext ⟨fun hh => by simp [firstE] at hh, fun hh => by omega⟩
  · rw [cmpI_eq h]
    refine propext ⟨fun hh => .inr ⟨h, by simpa [firstE] using hh⟩, fun hh => ?_⟩
    rcases hh with hh | hh
    · omega
    · simpa [firstE] using hh.2
  · rw [cmpI_gt h]
    exact propext ⟨fun _ => .inl h, fun _ => by simp [firstE]⟩
theorem pc_known {d : Dom} {p : Pc} (hd : domE d = 0) (h : pcE d p = 0) : (hasM d p.2.1).getD 0 = memAt d.2.2.2 p.2.1 := by
  have h1 : pcPre d p = 0 := by
    unfold pcE at h
    split at h
    · assumption
    · contradiction
  rw [pcPre_eq hd] at h1
  split at h1
  · contradiction
  · split at h1
    · cases h1
    · rename_i h2
      rw [hasM_eq hd, if_neg h2] <;> rfl
theorem cmp_bef {d : Dom} {a b : Pc} (hd : domE d = 0) (ha : pcE d a = 0) (hb : pcE d b = 0) : decide (0 ≤ cmpP (plE d a) (plE d b)) = !befE d a b := by
  have e1 := pc_known hd ha
  have e2 := pc_known hd hb
  rw [Bool.eq_iff_iff, decide_eq_true_iff]
  unfold cmpP plE befE
  simp only [firstE_cmp, e1, e2]
  have e3 : 0 ≤ firstE [] := by decide
  generalize memAt d.2.2.2 a.2.1 = u
  generalize memAt d.2.2.2 b.2.1 = v
  by_cases h1 : a.1 ≠ b.1
  · rw [if_pos h1]; simp; omega
  · rw [if_neg h1]
    by_cases h2 : u ≠ v
    · rw [if_pos h2]; simp; omega
    · rw [if_neg h2]
      by_cases h3 : a.2.2.1 ≠ b.2.2.1
      · rw [if_pos h3]; simp; omega
      · rw [if_neg h3]; simp [e3]; omega
theorem piece_ne {d : Dom} {l : List Pc} {i : Nat} (h : pcE d (pcA l i) ≠ 0) : pieceE d l i = pcE d (pcA l i) := by
  rw [pieceE, firstE, if_neg h]
theorem piece_z {d : Dom} {l : List Pc} {i : Nat} (h : pcE d (pcA l i) = 0) : pieceE d l i = whenE (decide (0 < i) && decide (0 ≤ cmpP (plE d (pcA l (i - 1))) (plE d (pcA l i)))) 11 := by
  rw [pieceE, show ∀ x y : Int, firstE [x, y] = firstE ([x] ++ [y]) from fun _ _ => rfl, firstE_app, firstE_one, if_pos h, firstE_one]
theorem piece_zero {d : Dom} {l : List Pc} {i : Nat} (h : pieceE d l i = 0) : pcE d (pcA l i) = 0 := by
  unfold pieceE at h
  rw [firstE_zero] at h
  exact h _ List.mem_cons_self
theorem storeP_eq {d : Dom} {l : List Pc} : storeP d l = if domE d ≠ 0 then domE d else if (4096 : Int) < l.length then 5 else 0 := by
  rw [storeP, show ∀ x y : Int, firstE [x, y] = firstE ([x] ++ [y]) from fun _ _ => rfl, firstE_app, firstE_one, firstE_one]
  by_cases h : domE d = 0
  · rw [if_pos h, if_neg (by simpa using h)]
    by_cases h2 : (4096 : Int) < l.length
    · rw [whenE_t h2, if_pos h2]
    · rw [whenE_f h2, if_neg h2]
  · rw [if_neg h, if_pos h]
theorem bef_i {d : Dom} {l : List Pc} {i j : Nat} (h : j < l.length) (hi : i < l.length) (e : j = i - 1) : befE d l[j] l[i] = befE d (pcA l (i - 1)) (pcA l i) := by
  subst e; rw [pcA_eq, pcA_eq]
theorem rStore_ok {d : Int × Int × Int × (List (ByteArray × Int))} {l : List (Int × ByteArray × Int × Int × (List Nat))} (hl : l.length < 100000) (hv : ∀ p ∈ l, p.2.2.2.2.length < 100000) : VF Tryz.prog OA 57 [.v y95 d, .v y96 l] (I (storeE d l)) := by
  refine VF.enter Tryz.func57 rfl (fun _ _ => rfl) rfl ?_
  show VC _ _ _ _ _ [(0, .v y95 d), (1, .v y96 l)] [] _
  refine VC.seq ?_
  refine VC.text ?_
  refine VO.new (.box) ?_
  refine VO.c (.assign rfl) ?_
  refine VO.go ?_
  refine VC.seq ?_
  refine VC.seq ?_
  refine VC.text ?_
  refine VO.r (.ld vt95) ?_
  refine VO.call rfl rfl (VF.call (rDom_ok )) ?_
  refine VO.c (.assign rfl) ?_
  refine VO.go ?_
  refine VC.seq ?_
  refine VC.text ?_
  refine VO.c (.move rfl) ?_
  refine VO.c (.neq) ?_
  refine VO.go ?_
  refine VC.condD rfl (fun c2 => ?_) (fun c2 => ?_)
  · have hn : storeP d l = domE d := by rw [storeP_eq, if_pos c2]
    refine VC.seq ?_
    refine VC.text ?_
    refine VO.c (.move rfl) ?_
    refine VO.c (.assign rfl) ?_
    refine VO.go ?_
    refine VC.ret ?_
    exact VEnd.one rfl evT (pvI (by rw [storeE, hn, if_neg c2]))
  · have hd : domE d = 0 := by simpa using c2
    have hdd := dom_ok hd
    refine VC.skip ?_
    show VC _ _ _ _ _ _ _ _
    refine VC.seq ?_
    refine VC.seq ?_
    refine VC.text ?_
    refine VO.c (.move rfl) ?_
    refine VO.r (.len el96) ?_
    refine VO.c (.gtr) ?_
    refine VO.go ?_
    refine VC.condD rfl (fun c4 => ?_) (fun c4 => ?_)
    · have hn : storeP d l = 5 := by rw [storeP_eq, if_neg c2, if_pos c4]
      refine VC.seq ?_
      refine VC.text ?_
      refine VO.c (.assign rfl) ?_
      refine VO.go ?_
      refine VC.ret ?_
      exact VEnd.one rfl evT (pvI (by rw [storeE, hn, if_neg (by decide)]))
    · have hn : storeP d l = 0 := by rw [storeP_eq, if_neg c2, if_neg c4]
      refine VC.skip ?_
      show VC _ _ _ _ _ _ _ _
      refine VC.seq ?_
      refine VC.seq ?_
      refine VC.text ?_
      refine VO.c (.assign rfl) ?_
      refine VO.go ?_
      refine VC.block ?_
      refine VC.keep [(1, .v y96 l), (2, .p y95 d), (6, I ((0 : Nat) : Int))] ⟨rfl, rfl, rfl, trivial⟩ ?_
      refine VC.loop (I := fun kk ff ss => ∃ (i : Nat), kk = l.length - i ∧ ff = [(1, .v y96 l), (2, .p y95 d), (6, I ((i : Nat) : Int))] ∧ ss = [] ∧ (i ≤ l.length) ∧ (∀ k, k < i → pieceE d l k = 0)) ?_ _ _ _ ⟨0, rfl, rfl, rfl, Nat.zero_le _, (by intro k hk; omega)⟩
      rintro kk ff ss ⟨i, hk0, rfl, rfl, hi, hz⟩
      refine VC.seq ?_
      refine VC.seq ?_
      refine VC.text ?_
      refine VO.c (.move rfl) ?_
      refine VO.c (.move rfl) ?_
      refine VO.r (.len el96) ?_
      refine VO.c (.lss) ?_
      refine VO.go ?_
      refine VC.condD rfl (fun c7 => ?_) (fun c7 => ?_)
      · have hi' : i < l.length := by omega
        refine VC.skip ?_
        show VC _ _ _ _ _ _ _ _
        refine VC.seq ?_
        refine VC.block ?_
        refine VC.seq ?_
        refine VC.seq ?_
        refine VC.drawn ?_
        refine VD.r [] (.ld vt95) (.inl rfl) ?_
        refine VD.c (.move rfl) ?_
        refine VD.c (.move rfl) ?_
        refine VD.c (.ix (j := i) rfl rfl el96 (by omega)) ?_
        refine VD.r [] (.ld vt152) (.inl rfl) ?_
        refine VD.call rfl rfl (VF.call (rPc_ok hd (hv _ (List.getElem_mem _)))) ?_
        refine VD.nw [] ?_
        refine VD.c (.assign rfl) ?_
        refine VD.go ?_
        refine VC.seq ?_
        refine VC.text ?_
        refine VO.c (.move rfl) ?_
        refine VO.c (.neq) ?_
        refine VO.go ?_
        refine VC.condD rfl (fun c10 => ?_) (fun c10 => ?_)
        · have c10' : pcE d (pcA l i) ≠ 0 := by rw [← pcA_eq hi']; exact c10
          refine VC.seq ?_
          refine VC.text ?_
          refine VO.c (.move rfl) ?_
          refine VO.c (.assign rfl) ?_
          refine VO.go ?_
          refine VC.ret ?_
          exact VEnd.one rfl evT (pvI (by rw [storeE, if_pos hn, ← firstE_range hi' hz (by rw [piece_ne c10']; exact c10'), piece_ne c10', pcA_eq hi']))
        · have c10' : pcE d (pcA l i) = 0 := by rw [← pcA_eq hi']; simpa using c10
          refine VC.skip ?_
          show VC _ _ _ _ _ _ _ _
          refine VC.seq ?_
          refine VC.join [(1, .v y96 l), (2, .p y95 d), (6, I ((i : Nat) : Int)), (46, B (decide (0 < i) && decide (0 ≤ cmpP (plE d (pcA l (i - 1))) (plE d (pcA l i)))))] [] ?_ ?_
          · skip
            refine VC.drawn ?_
            refine VD.c (.move rfl) ?_
            refine VD.c (.gtr) ?_
            refine VD.c (.move rfl) ?_
            refine VD.splitD (x := 33) rfl (fun g12_2 => ?_) (fun g12_2 => ?_)
            · refine VD.r [] (.ld vt95) (.inl rfl) ?_
              refine VD.c (.move rfl) ?_
              refine VD.nw [] ?_
              refine VD.c (.move rfl) ?_
              refine VD.c (.sub rfl rfl (by omega)) ?_
              refine VD.c (.ixZ (k := (((i : Nat) : Int) - (1 : Int))) rfl rfl el96 (by omega) (by omega)) ?_
              refine VD.r [] (.ld vt152) (.inl rfl) ?_
              refine VD.c (.move rfl) ?_
              refine VD.c (.move rfl) ?_
              refine VD.c (.ix (j := i) rfl rfl el96 (by omega)) ?_
              refine VD.nw [] ?_
              refine VD.r [] (.ld vt152) (.inl rfl) ?_
              refine VD.call rfl rfl (VF.call (rBef_ok hdd.2.2.2.1)) ?_
              refine VD.c (.not) ?_
              refine VD.c (.pickT rfl rfl) ?_
              refine VD.nil ?_
              exact ⟨⟨rfl, rfl, rfl, slE rfl (by first | (rw [cmp_bef hd (piece_zero (hz (i - 1) (by omega))) c10', decide_eq_true (show 0 < i by omega), Bool.true_and, bef_i _ _ (by omega)]) | (rw [decide_eq_false (by omega)]; rfl)), trivial⟩, rfl⟩
            · refine VD.skip ?_
              refine VD.skip ?_
              refine VD.nw [] ?_
              refine VD.skip ?_
              refine VD.skip ?_
              refine VD.skip ?_
              refine VD.skip ?_
              refine VD.skip ?_
              refine VD.skip ?_
              refine VD.skip ?_
              refine VD.nw [] ?_
              refine VD.skip ?_
              refine VD.skip ?_
              refine VD.skip ?_
              refine VD.c (.pickF rfl rfl) ?_
              refine VD.nil ?_
              exact ⟨⟨rfl, rfl, rfl, slE rfl (by first | (rw [cmp_bef hd (piece_zero (hz (i - 1) (by omega))) c10', decide_eq_true (show 0 < i by omega), Bool.true_and, bef_i _ _ (by omega)]) | (rw [decide_eq_false (by omega)]; rfl)), trivial⟩, rfl⟩
          show VC _ _ _ _ _ _ _ _
          refine VC.condB rfl (fun c12 => ?_) (fun c12 => ?_)
          · try simp only [Bool.and_eq_true, Bool.or_eq_true, Bool.and_eq_false_iff, Bool.or_eq_false_iff, Bool.not_eq_true', Bool.not_eq_false', decide_eq_true_eq, decide_eq_false_iff_not] at c12
            have c12' : (decide (0 < i) && decide (0 ≤ cmpP (plE d (pcA l (i - 1))) (plE d (pcA l i)))) = true := by rw [decide_eq_true c12.1, decide_eq_true c12.2] <;> rfl
            refine VC.seq ?_
            refine VC.text ?_
            refine VO.c (.assign rfl) ?_
            refine VO.go ?_
            refine VC.ret ?_
            exact VEnd.one rfl evT (pvI (by rw [storeE, if_pos hn, ← firstE_range hi' hz (by rw [piece_z c10', c12']; decide), piece_z c10', c12'] <;> rfl))
          · try simp only [Bool.and_eq_true, Bool.or_eq_true, Bool.and_eq_false_iff, Bool.or_eq_false_iff, Bool.not_eq_true', Bool.not_eq_false', decide_eq_true_eq, decide_eq_false_iff_not] at c12
            have c12' : (decide (0 < i) && decide (0 ≤ cmpP (plE d (pcA l (i - 1))) (plE d (pcA l i)))) = false := by rw [Bool.eq_false_iff]; simp only [ne_eq, Bool.and_eq_true, decide_eq_true_iff]; omega
            refine VC.skip ?_
            show VC _ _ _ _ _ _ _ _
            refine VC.text ?_
            refine VO.c (.move rfl) ?_
            refine VO.c (.add rfl rfl (by omega)) ?_
            refine VO.c (.assign rfl) ?_
            refine VO.nil ?_
            refine ⟨_, [(1, .v y96 l), (2, .p y95 d), (6, I (((i + 1) : Nat) : Int))], ?_, ⟨rfl, rfl, rfl, trivial⟩, (i + 1), rfl, rfl, rfl, (by omega), (by intro k hk; rcases Nat.lt_succ_iff_lt_or_eq.1 hk with h | h; exact hz k h; subst h; rw [piece_z c10', c12'] <;> rfl)⟩
            omega
      · refine VC.exit ?_
        show VC _ _ _ _ _ _ _ _
        refine VC.seq ?_
        refine VC.text ?_
        refine VO.c (.assign rfl) ?_
        refine VO.go ?_
        refine VC.ret ?_
        exact VEnd.one rfl evT (pvI (by rw [storeE, if_pos hn]; exact firstE_range0 (fun k hk => hz k (by omega))))
end Go.Proofs
namespace Go.Fs
variable {P : Program} {orc : FuncId → List Value → Heap → Option (Value × Heap)} {fl : VL} {σ : Sto} {T T' e ty : TypeId} {τ : Ty} {ops : Array Oper} {n : Nat} {l : List Oper} {K : VL → Sto → Prop} {d : Tmp} {pos : String} {after : Array Edge} {g : Option (Nat × Bool)} {x y : Operand} {xs : List τ.den}
/-- Is a slice nil? Only an empty one may be. -/
theorem VO.isnil (hx : evV fl x = some (.v (.sl τ) xs)) (hy : evV fl y = some (.raw (.slice none 0 0))) (hT : P.underlying T = some (.slice e)) (hp : purely P (do eqGuard .eql T x y (.slice none 0 0) (.slice none 0 0); binOp .eql T (.slice none 0 0) (.slice none 0 0)) = some (.bool true))
    (h1 : xs = [] → VO P orc ops n l ((d, .v .bool true) :: fl) σ K) (h2 : VO P orc ops n l ((d, .v .bool false) :: fl) σ K)
    (hw : wantV ops fl g = some true := by rfl) (hn : (Nat.blt d n && Nat.ble n 4000) = true := by rfl) : VO P orc ops n (⟨some d, .binOp .eql T x y T', ty, pos, after, g⟩ :: l) fl σ K := fun h0 G S0 t h ms Iv0 => by
  obtain ⟨n1, n2⟩ := fits hn
  have a1 : RepV _ _ (.sl τ) (evalO t x) xs := evV_ok Iv0.slots hx
  have a2 : evalO t y = .slice none 0 0 := evV_ok Iv0.slots hy
  have a3 := a1.sl
  rcases a3 with ⟨hv, hl⟩ | ⟨b, o, mk, hv, _⟩
  · have hs : stepO P ⟨some d, .binOp .eql T x y T', ty, pos, after, g⟩ (evalO t) h = some (.bool true, h) := by
      show (if (af (evalO t x) && af (evalO t y)) = true then _ else _) = _
      rw [hv, a2, if_pos (show (af (Value.slice none 0 0) && af (Value.slice none 0 0)) = true from rfl), hp]; rfl
    exact EvO.op (want_ok Iv0.slots hw) hs (put_fits n1 t _) (h1 hl h0 G S0 _ h ms (Iv0.set (show RepPV _ _ (.v .bool true) (.bool true) from RepV.ofBool _) n2))
  · have hs : stepO P ⟨some d, .binOp .eql T x y T', ty, pos, after, g⟩ (evalO t) h = some (.bool false, h) := by
      show (if (af (evalO t x) && af (evalO t y)) = true then _ else ((fsNil P .eql T (evalO t x) (evalO t y)).or _).map _) = _
      rw [hv, a2, if_neg (by exact Bool.false_ne_true), show fsNil P .eql T (.slice (some ⟨b, o, none⟩) xs.length mk) (.slice none 0 0) = some false from by unfold fsNil; simp only [hT]; rfl]
      rfl
    exact EvO.op (want_ok Iv0.slots hw) hs (put_fits n1 t _) (h2 h0 G S0 _ h ms (Iv0.set (show RepPV _ _ (.v .bool false) (.bool false) from RepV.ofBool _) n2))
/-- A struct as a key. -/
theorem keyAggB {K : TypeId} {κ : Ty} (hE : EqT P K κ) (hB : (match P.underlying K with | some td => isAggD td | none => false) = true) (ha : κ.agg = true) (hf : κ.isFlat = true) (hc : ∀ (em : Bool) (x : κ.den), (runPure P (Instr.checkKey em 10000 K (.agg (κ.flatC x).toArray))).isSome = true) : KeyT P K κ := by
  cases h : P.underlying K with
  | none => rw [h] at hB; cases hB
  | some td => rw [h] at hB; exact keyAgg hE h hB ha hf hc
theorem CalmV.shrU {k : IntKind} {p q : Int} (hx : evV fl x = some (.v (.int .i64) p)) (hy : evV fl y = some (.v (.int k) q)) (hq : 0 ≤ q ∧ q ≤ 64) : CalmV P fl σ (.binOp .shr T x y T') (.v (.int .i64) (p.fdiv (2 ^ q.toNat))) :=
  .binI hx hy (u := .int .i64 (p.fdiv (2 ^ q.toNat))) (by have this : min q.toNat IntKind.i64.bits = q.toNat := Nat.min_eq_left (show q.toNat ≤ 64 by omega); show (runPure P (Op.shift .shr .i64 p k q)).bind _ = _; unfold Op.shift; rw [if_neg (by omega)]; simp only [this]; rfl) fun h S => RepV.ofInt _ _
theorem agg_one {w : Value} (h : oneCell w = true) : isAggV w = false := by
  cases w <;> first | rfl | cases h
end Go.Fs
namespace Go.Proofs
open Go.Fs Ieee
set_option linter.unusedVariables false
abbrev y141 : Ty := (.pair .str (.pair (.int .i64) (.int .i64)))
abbrev y208 : Ty := (.mp (.pair .str (.pair (.int .i64) (.int .i64))) (.pair (.int .i64) (.pair .str (.pair (.int .i64) (.pair (.int .i64) (.sl (.flt .f32)))))))
theorem vt141 : ValT Tryz.prog 141 y141 := valT_of (by kernel_rfl)
theorem zt141 : ZerT Tryz.prog 141 y141 := zerT_of (z := .agg #[.string ByteArray.empty, .int .i64 0, .int .i64 0]) (by kernel_rfl) rfl rfl
theorem bt141 : BldT Tryz.prog 141 y141 [(0, 1), (1, 1), (2, 1)] := bldT_of zt141 rfl (by kernel_rfl)
theorem eq141 : EqT Tryz.prog 141 y141 := eqT_of (by kernel_rfl)
theorem mt208 : MapT Tryz.prog 208 y141 y160 := ⟨141, 160, by kernel_rfl, keyAggB eq141 (by kernel_rfl) rfl rfl fun _ _ => by kernel_rfl, zt160⟩
/-! ## The pieces of a run -/
abbrev Sl := ByteArray × Int × Int
def slotE (p : Pc) : Sl := (p.2.1, p.2.2.1, p.2.2.2.1)
def runM (l : List Pc) (n : Int) : Nat → List (Sl × Pc)
  | 0 => []
  | i + 1 => if (pcA l i).1 = n then mset (runM l n i) (slotE (pcA l i)) (pcA l i) else runM l n i
theorem sSlot_ok {p : Int × ByteArray × Int × Int × (List Nat)} : VF Tryz.prog OA 167 [.v y160 p] (.v y141 (slotE p)) := by
  refine VF.enter Tryz.func167 rfl (fun _ _ => rfl) rfl ?_
  show VC _ _ _ _ _ [(0, .v y160 p)] [] _
  refine VC.seq ?_
  refine VC.text ?_
  refine VO.new (.box) ?_
  refine VO.cell (.alloc zt141) ?_
  intro ww1
  refine VO.go ?_
  refine VC.seq ?_
  refine VC.text ?_
  refine VO.c (.fa (.r (.l .o))) ?_
  refine VO.r (.ld vt9) ?_
  refine VO.c (.fa (.r (.r (.l .o)))) ?_
  refine VO.r (.ld vt3) ?_
  refine VO.c (.fa (.r (.r (.r (.l .o))))) ?_
  refine VO.r (.ld vt3) ?_
  refine VO.c (.build (p.2.1, p.2.2.1, p.2.2.2.1) bt141) ?_
  refine VO.setV (cs' := [St p.2.1, I p.2.2.1, I p.2.2.2.1]) vt141 .v ?_
  refine VO.go ?_
  refine VC.ret ?_
  exact VEnd.one rfl (.cell (x := (p.2.1, p.2.2.1, p.2.2.2.1)) rfl m0 vt141 .refl) (pvE (by first | rfl | simp))
theorem sRun_ok {l : List (Int × ByteArray × Int × Int × (List Nat))} {n : Int} (hl : l.length < 100000) : VF Tryz.prog OA 128 [.v y108 l, I n] (.v y208 (runM l n l.length)) := by
  refine VF.enter Tryz.func128 rfl (fun _ _ => rfl) rfl ?_
  show VC _ _ _ _ _ [(0, .v y108 l), (1, I n)] [] _
  refine VC.seq ?_
  refine VC.text ?_
  refine VO.c (.assign rfl) ?_
  refine VO.go ?_
  refine VC.seq ?_
  refine VC.text ?_
  refine VO.cell (.mkMap y141 y160) ?_
  intro ww2
  refine VO.c (.assign rfl) ?_
  refine VO.go ?_
  refine VC.seq ?_
  refine VC.seq ?_
  refine VC.text ?_
  refine VO.c (.move rfl) ?_
  refine VO.r (.len el108) ?_
  refine VO.c (.move rfl) ?_
  refine VO.go ?_
  refine VC.block ?_
  refine VC.keep [(1, I n), (5, .raw ww2), (9, .v y108 l), (10, I ((l.length : Nat) : Int)), (11, I ((0 : Nat) : Int))] ⟨rfl, rfl, rfl, rfl, rfl, trivial⟩ ?_
  refine VC.loop (I := fun kk ff ss => ∃ (i : Nat), kk = l.length - i ∧ ff = [(1, I n), (5, .raw ww2), (9, .v y108 l), (10, I ((l.length : Nat) : Int)), (11, I ((i : Nat) : Int))] ∧ ss = [(ww2, .mp y141 y160 (runM l n i))] ∧ (i ≤ l.length)) ?_ _ _ _ ⟨0, rfl, rfl, rfl, Nat.zero_le _⟩
  rintro kk ff ss ⟨i, hk0, rfl, rfl, hi⟩
  refine VC.seq ?_
  refine VC.text ?_
  refine VO.c (.lss) ?_
  refine VO.go ?_
  refine VC.seq ?_
  refine VC.condD rfl (fun c3 => ?_) (fun c3 => ?_)
  · have hi' : i < l.length := by omega
    refine VC.skip ?_
    show VC _ _ _ _ _ _ _ _
    refine VC.seq ?_
    refine VC.block ?_
    refine VC.seq ?_
    refine VC.text ?_
    refine VO.c (.ix (j := i) rfl rfl el108 (by omega)) ?_
    refine VO.r (.ld vt160) ?_
    refine VO.cell (.alloc zt160) ?_
    intro ww3
    refine VO.setV (cs' := [I ((l[i]).1), St ((l[i]).2.1), I ((l[i]).2.2.1), I ((l[i]).2.2.2.1), .v y124 ((l[i]).2.2.2.2)]) vt160 .v ?_
    refine VO.shut [(7, .p y160 (l[i]))] (.cons rfl (.var m0 .refl) .nil) ?_
    refine VO.go ?_
    refine VC.seq ?_
    refine VC.text ?_
    refine VO.c (.fa (.l .o)) ?_
    refine VO.r (.ld vt3) ?_
    refine VO.c (.move rfl) ?_
    refine VO.c (.eql) ?_
    refine VO.go ?_
    refine VC.condD rfl (fun c5 => ?_) (fun c5 => ?_)
    · refine VC.drawn ?_
      refine VD.c (.move rfl) ?_
      refine VD.r [] (.ld vt160) (.inl rfl) ?_
      refine VD.call rfl rfl (VF.call (sSlot_ok )) ?_
      refine VD.r [] (.ld vt160) (.inl rfl) ?_
      refine VD.mk0 (MakeV.mput mt208 rfl rfl rfl) ?_
      rintro _ _ tl4 ⟨rfl, rfl⟩
      refine VD.nil ?_
      show VC _ _ _ _ _ _ _ _
      refine VC.text ?_
      refine VO.c (.add rfl rfl (by omega)) ?_
      refine VO.c (.move rfl) ?_
      refine VO.nil ?_
      refine ⟨_, [(1, I n), (5, .raw ww2), (9, .v y108 l), (10, I ((l.length : Nat) : Int)), (11, I (((i + 1) : Nat) : Int))], ?_, ⟨rfl, rfl, rfl, rfl, rfl, trivial⟩, (i + 1), rfl, rfl, (by rw [runM, ← pcA_eq hi']; first | rw [if_pos c5] | rw [if_neg c5]), (by omega)⟩
      omega
    · refine VC.skip ?_
      show VC _ _ _ _ _ _ _ _
      refine VC.text ?_
      refine VO.c (.add rfl rfl (by omega)) ?_
      refine VO.c (.move rfl) ?_
      refine VO.nil ?_
      refine ⟨_, [(1, I n), (5, .raw ww2), (9, .v y108 l), (10, I ((l.length : Nat) : Int)), (11, I (((i + 1) : Nat) : Int))], ?_, ⟨rfl, rfl, rfl, rfl, rfl, trivial⟩, (i + 1), rfl, rfl, (by rw [runM, ← pcA_eq hi']; first | rw [if_pos c5] | rw [if_neg c5]), (by omega)⟩
      omega
  · refine VC.exit ?_
    show VC _ _ _ _ _ _ _ _
    refine VC.seq ?_
    refine VC.text ?_
    refine VO.c (.move rfl) ?_
    refine VO.c (.assign rfl) ?_
    refine VO.go ?_
    refine VC.ret ?_
    exact VEnd.one rfl (evC (.mp m0)) (pvE (by rw [show i = l.length by omega]))
theorem clF_ok {l : List Nat} (hl : l.length < 100000) : VF Tryz.prog OA 166 [.v y124 l] (.v y124 l) := by
  refine VF.enter Tryz.func166 rfl (fun _ _ => rfl) rfl ?_
  show VC _ _ _ _ _ [(0, .v y124 l)] [] _
  refine VC.seq ?_
  refine VC.text ?_
  refine VO.c (.assign rfl) ?_
  refine VO.go ?_
  refine VC.seq ?_
  refine VC.seq ?_
  refine VC.text ?_
  refine VO.c (.move rfl) ?_
  refine VO.isnil (e := 127) rfl rfl (by kernel_rfl) (by kernel_rfl) (fun h1_1 => ?_) ?_
  · refine VO.go ?_
    refine VC.condT rfl ?_
    refine VC.seq ?_
    refine VC.text ?_
    refine VO.c (.assign rfl) ?_
    refine VO.go ?_
    refine VC.ret ?_
    exact VEnd.one rfl (evC .nil) (pvE (by rw [h1_1]))
  · refine VO.go ?_
    refine VC.condF rfl ?_
    refine VC.skip ?_
    show VC _ _ _ _ _ _ _ _
    refine VC.seq ?_
    refine VC.text ?_
    refine VO.cell (.lit0 el124) ?_
    intro ww5
    refine VO.c (.move rfl) ?_
    refine VO.app rfl rfl el124 el124 (by simp; omega) ?_
    intro ww6
    refine VO.c (.assign rfl) ?_
    refine VO.go ?_
    refine VC.ret ?_
    exact VEnd.one rfl (evC (.row m0)) (pvE (by first | rfl | simp))
def rowsQ (q : Nat → Option (List Nat)) (n : Nat) : List (List Nat) × Bool := bif (List.range n).all (fun r => (q r).isSome) then ((List.range n).map (fun r => (q r).getD []), true) else ([], false)
theorem rowsQ_t {q : Nat → Option (List Nat)} {n : Nat} (h : ∀ r, r < n → (q r).isSome = true) : rowsQ q n = ((List.range n).map (fun r => (q r).getD []), true) := by
  rw [rowsQ, List.all_eq_true.2 fun r hr => h r (List.mem_range.1 hr)] <;> rfl
theorem rowsQ_f {q : Nat → Option (List Nat)} {n r : Nat} (hr : r < n) (h : (q r).isSome = false) : rowsQ q n = ([], false) := by
  have e : (List.range n).all (fun r => (q r).isSome) = false := Bool.eq_false_iff.2 fun hh => by
    have h2 := List.all_eq_true.1 hh r (List.mem_range.2 hr)
    rw [h] at h2; cases h2
  rw [rowsQ, e] <;> rfl
def hasQ (m : List (Sl × Pc)) (x : ByteArray) (t : Int) (r : Nat) : Option (List Nat) := (mget m (x, t, (r : Int))).map (·.2.2.2.2)
theorem sField2_ok {d : Int × Int × Int × (List (ByteArray × Int))} {m : List ((ByteArray × Int × Int) × (Int × ByteArray × Int × Int × (List Nat)))} {x : ByteArray} {t : Int} (hd : domE d = 0) (hv : ∀ k p, mget m k = some p → p.2.2.2.2.length < 100000) : VF Tryz.prog OA 127 [.v y106 d, .v y208 m, St x, I t] (.tup [.v y101 ((rowsQ (hasQ m x t) d.1.toNat).1), B ((rowsQ (hasQ m x t) d.1.toNat).2)]) := by
  refine VF.enter Tryz.func127 rfl (fun _ _ => rfl) rfl ?_
  show VC _ _ _ _ _ [(0, .v y106 d), (1, .v y208 m), (2, St x), (3, I t)] [] _
  refine VC.seq ?_
  refine VC.text ?_
  have hdd := dom_ok hd
  refine VO.new (.box) ?_
  refine VO.c (.assign rfl) ?_
  refine VO.c (.assign rfl) ?_
  refine VO.go ?_
  refine VC.seq ?_
  refine VC.text ?_
  refine VO.c (.assign rfl) ?_
  refine VO.go ?_
  refine VC.seq ?_
  refine VC.seq ?_
  refine VC.text ?_
  refine VO.c (.fa (.l .o)) ?_
  refine VO.r (.ld vt3) ?_
  refine VO.c (.move rfl) ?_
  refine VO.go ?_
  refine VC.block ?_
  refine VC.cell0 124 y124 ?_
  refine VC.keep [(1, .v y208 m), (2, St x), (3, I t), (10, .raw (.slice none 0 0)), (15, I d.1), (16, I ((0 : Nat) : Int))] ⟨rfl, rfl, rfl, rfl, rfl, rfl, trivial⟩ ?_
  refine VC.loop (I := fun kk ff ss => ∃ (r : Nat) (out : Value), kk = d.1.toNat - r ∧ ff = [(1, .v y208 m), (2, St x), (3, I t), (10, .raw out), (15, I d.1), (16, I ((r : Nat) : Int))] ∧ ss = [(out, .row 124 y124 ((List.range r).map (fun r => (hasQ m x t r).getD [])))] ∧ (r ≤ d.1.toNat) ∧ (∀ k, k < r → (hasQ m x t k).isSome = true)) ?_ _ _ _ ⟨0, (.slice none 0 0), rfl, rfl, rfl, Nat.zero_le _, (by intro k hk; omega)⟩
  rintro kk ff ss ⟨r, out, hk0, rfl, rfl, hr, hq⟩
  refine VC.seq ?_
  refine VC.text ?_
  refine VO.c (.lss) ?_
  refine VO.go ?_
  refine VC.seq ?_
  refine VC.condD rfl (fun c3 => ?_) (fun c3 => ?_)
  · have hr' : r < d.1.toNat := by omega
    refine VC.skip ?_
    show VC _ _ _ _ _ _ _ _
    refine VC.seq ?_
    refine VC.block ?_
    refine VC.seq ?_
    refine VC.text ?_
    refine VO.c (.move rfl) ?_
    refine VO.c (.assign rfl) ?_
    refine VO.go ?_
    refine VC.seq ?_
    refine VC.text ?_
    refine VO.c (.move rfl) ?_
    refine VO.c (.move rfl) ?_
    refine VO.c (.move rfl) ?_
    refine VO.c (.move rfl) ?_
    refine VO.c (.build (x, t, ((r : Nat) : Int)) bt141) ?_
    refine VO.r (.lookOk mt208) ?_
    refine VO.c (.move rfl) ?_
    refine VO.c (.extract) ?_
    refine VO.c (.extract) ?_
    refine VO.cell (.alloc zt160) ?_
    intro ww7
    refine VO.setV (cs' := [I (((mget m (x, t, ((r : Nat) : Int))).getD (0, ByteArray.empty, 0, 0, [])).1), St (((mget m (x, t, ((r : Nat) : Int))).getD (0, ByteArray.empty, 0, 0, [])).2.1), I (((mget m (x, t, ((r : Nat) : Int))).getD (0, ByteArray.empty, 0, 0, [])).2.2.1), I (((mget m (x, t, ((r : Nat) : Int))).getD (0, ByteArray.empty, 0, 0, [])).2.2.2.1), .v y124 (((mget m (x, t, ((r : Nat) : Int))).getD (0, ByteArray.empty, 0, 0, [])).2.2.2.2)]) vt160 .v ?_
    refine VO.shut [(12, .p y160 ((mget m (x, t, ((r : Nat) : Int))).getD (0, ByteArray.empty, 0, 0, [])))] (.cons rfl (.var m0 .refl) .nil) ?_
    refine VO.c (.assign rfl) ?_
    refine VO.go ?_
    refine VC.seq ?_
    refine VC.seq ?_
    refine VC.text ?_
    refine VO.c (.move rfl) ?_
    refine VO.c (.not) ?_
    refine VO.go ?_
    refine VC.condB rfl (fun c6 => ?_) (fun c6 => ?_)
    · try simp only [Bool.and_eq_true, Bool.or_eq_true, Bool.and_eq_false_iff, Bool.or_eq_false_iff, Bool.not_eq_true', Bool.not_eq_false', decide_eq_true_eq, decide_eq_false_iff_not] at c6
      have hs : (hasQ m x t r).isSome = false := by unfold hasQ; cases hg : mget m (x, t, (r : Int)) <;> simp_all
      refine VC.seq ?_
      refine VC.text ?_
      refine VO.c (.assign rfl) ?_
      refine VO.c (.assign rfl) ?_
      refine VO.go ?_
      refine VC.ret ?_
      exact VEnd.two rfl (evC .nil) evT (pvE (by rw [rowsQ_f hr' hs])) (pvE (by rw [rowsQ_f hr' hs]))
    · try simp only [Bool.and_eq_true, Bool.or_eq_true, Bool.and_eq_false_iff, Bool.or_eq_false_iff, Bool.not_eq_true', Bool.not_eq_false', decide_eq_true_eq, decide_eq_false_iff_not] at c6
      have hs : (hasQ m x t r).isSome = true := by unfold hasQ; cases hg : mget m (x, t, (r : Int)) <;> simp_all
      refine VC.skip ?_
      show VC _ _ _ _ _ _ _ _
      refine VC.text ?_
      refine VO.c (.move rfl) ?_
      refine VO.c (.fa (.r (.r (.r (.r .o))))) ?_
      refine VO.r (.ld vt124) ?_
      refine VO.call rfl rfl (VF.call (clF_ok (by cases hg : mget m (x, t, (r : Int)) with | none => simp | some p => exact hv _ _ hg))) ?_
      refine VO.new (.lit [(((mget m (x, t, ((r : Nat) : Int))).getD (0, ByteArray.empty, 0, 0, [])).2.2.2.2)] el101) ?_
      refine VO.app rfl rfl el101 el101 (by simp; omega) ?_
      intro ww8
      refine VO.c (.assign rfl) ?_
      refine VO.nil ?_
      show VC _ _ _ _ _ _ _ _
      refine VC.text ?_
      refine VO.c (.add rfl rfl (by omega)) ?_
      refine VO.c (.move rfl) ?_
      refine VO.nil ?_
      refine ⟨_, [(1, .v y208 m), (2, St x), (3, I t), (10, .raw ww8), (15, I d.1), (16, I (((r + 1) : Nat) : Int))], ?_, ⟨rfl, rfl, rfl, rfl, rfl, rfl, trivial⟩, (r + 1), ww8, rfl, rfl, (by rw [List.range_succ, List.map_append]; unfold hasQ; cases hg : mget m (x, t, (r : Int)) <;> simp_all), (by omega), (by intro k hk; rcases Nat.lt_succ_iff_lt_or_eq.1 hk with h | h; exact hq k h; subst h; exact hs)⟩
      omega
  · refine VC.exit ?_
    show VC _ _ _ _ _ _ _ _
    refine VC.seq ?_
    refine VC.text ?_
    refine VO.c (.move rfl) ?_
    refine VO.c (.assign rfl) ?_
    refine VO.c (.assign rfl) ?_
    refine VO.go ?_
    refine VC.ret ?_
    exact VEnd.two rfl (evC (.row m0)) evT (pvE (by rw [rowsQ_t (fun k hk => hq k (by omega)), show r = d.1.toNat by omega])) (pvE (by rw [rowsQ_t (fun k hk => hq k (by omega))]))
end Go.Proofs
namespace Go.Proofs
open Go.Fs Ieee
set_option linter.unusedVariables false
abbrev y145 : Ty := (.pair .str (.pair (.int .i64) (.int .i64)))
theorem zt145 : ZerT Tryz.prog 145 y145 := zerT_of (z := .agg #[.string ByteArray.empty, .int .i64 0, .int .i64 0]) (by kernel_rfl) rfl rfl
theorem bt145 : BldT Tryz.prog 145 y145 [(0, 1), (1, 1), (2, 1)] := bldT_of zt145 rfl (by kernel_rfl)
/-! ## The field of a member -/
theorem runM_some {l : List Pc} {n : Int} {k : Sl} {p : Pc} : ∀ (i : Nat), mget (runM l n i) k = some p → ∃ j, j < i ∧ p = pcA l j ∧ (pcA l j).1 = n ∧ slotE (pcA l j) = k
  | 0, h => by cases h
  | i + 1, h => by
    rw [runM] at h
    split at h
    · rename_i hn
      rw [mget_mset] at h
      split at h
      · rename_i hk
        injection h with h
        exact ⟨i, by omega, h.symm, hn, hk.symm⟩
      · obtain ⟨j, h1, h2⟩ := runM_some i h
        exact ⟨j, by omega, h2⟩
    · obtain ⟨j, h1, h2⟩ := runM_some i h
      exact ⟨j, by omega, h2⟩
theorem runM_none {l : List Pc} {n : Int} {k : Sl} : ∀ (i : Nat), mget (runM l n i) k = none → ∀ j, j < i → (pcA l j).1 = n → slotE (pcA l j) ≠ k
  | 0, _, j, hj, _ => by omega
  | i + 1, h, j, hj, hn => by
    rw [runM] at h
    rcases Nat.lt_succ_iff_lt_or_eq.1 hj with h3 | h3
    · split at h
      · rw [mget_mset] at h
        split at h
        · cases h
        · exact runM_none i h j h3 hn
      · exact runM_none i h j h3 hn
    · subst h3
      rw [if_pos hn, mget_mset] at h
      split at h
      · cases h
      · rename_i hk; exact fun e => hk e.symm
theorem pcA_mem {l : List Pc} {j : Nat} (h : j < l.length) : pcA l j ∈ l := by rw [← pcA_eq h]; exact List.getElem_mem _
def fieldA (d : Dom) (l : List Pc) (n : Int) : Int := firstE [storeE d l, rangeE n 0 100000]
def fieldB2 (d : Dom) (x : ByteArray) (t : Int) : Int := firstE [whenE (!(hasM d x).isSome) 10, rangeE t 0 (d.2.2.1 - 1)]
def fieldV (d : Dom) (l : List Pc) (n : Int) (x : ByteArray) (t : Int) : List (List Nat) × Int := if fieldA d l n ≠ 0 then ([], fieldA d l n) else if fieldB2 d x t ≠ 0 then ([], fieldB2 d x t) else ((rowsQ (hasQ (runM l n l.length) x t) d.1.toNat).1, whenE (!(rowsQ (hasQ (runM l n l.length) x t) d.1.toNat).2) 7)
theorem store_dom {d : Dom} {l : List Pc} (h : storeE d l = 0) : domE d = 0 ∧ l.length ≤ 4096 ∧ ∀ k, k < l.length → pieceE d l k = 0 := by
  unfold storeE at h
  split at h
  · rename_i h0
    have := storeP_ok h0
    rw [firstE_zero] at h
    exact ⟨this.1, this.2, fun k hk => h _ (List.mem_map_of_mem (List.mem_range.2 hk))⟩
  · contradiction
theorem fieldA_ok {d : Dom} {l : List Pc} {n : Int} (h : fieldA d l n = 0) : storeE d l = 0 ∧ rangeE n 0 100000 = 0 := by
  unfold fieldA at h
  rw [firstE_zero] at h
  exact ⟨h _ (by simp), h _ (by simp)⟩
theorem sFieldX_ok {d : Int × Int × Int × (List (ByteArray × Int))} {l : List (Int × ByteArray × Int × Int × (List Nat))} {n : Int} {x : ByteArray} {t : Int} (hl : l.length < 100000) (hv : ∀ p ∈ l, p.2.2.2.2.length < 100000) : VF Tryz.prog OA 54 [.v y106 d, .v y108 l, I n, St x, I t] (.tup [.v y101 ((fieldV d l n x t).1), I ((fieldV d l n x t).2)]) := by
  refine VF.enter Tryz.func54 rfl (fun _ _ => rfl) rfl ?_
  show VC _ _ _ _ _ [(0, .v y106 d), (1, .v y108 l), (2, I n), (3, St x), (4, I t)] [] _
  refine VC.seq ?_
  refine VC.text ?_
  refine VO.new (.box) ?_
  refine VO.c (.assign rfl) ?_
  refine VO.c (.assign rfl) ?_
  refine VO.go ?_
  refine VC.seq ?_
  refine VC.seq ?_
  refine VC.text ?_
  refine VO.r (.ld vt106) ?_
  refine VO.c (.move rfl) ?_
  refine VO.call rfl rfl (VF.call (sStore_ok hl hv)) ?_
  refine VO.c (.move rfl) ?_
  refine VO.call rfl rfl (VF.call (sTime_ok )) ?_
  refine VO.new (.lit [storeE d l, rangeE n 0 100000] el179) ?_
  refine VO.call rfl rfl (VF.call (sFirst_ok (by first | assumption | omega | simp))) ?_
  refine VO.c (.assign rfl) ?_
  refine VO.go ?_
  refine VC.seq ?_
  refine VC.text ?_
  refine VO.c (.move rfl) ?_
  refine VO.c (.neq) ?_
  refine VO.go ?_
  refine VC.condD rfl (fun c2 => ?_) (fun c2 => ?_)
  · have c2' : fieldA d l n ≠ 0 := c2
    refine VC.seq ?_
    refine VC.text ?_
    refine VO.c (.move rfl) ?_
    refine VO.c (.assign rfl) ?_
    refine VO.c (.assign rfl) ?_
    refine VO.go ?_
    refine VC.ret ?_
    exact VEnd.two rfl (evC .nil) evT (pvE (by rw [fieldV, if_pos c2'])) (pvI (by rw [fieldV, if_pos c2'] <;> rfl))
  · have c2' : ¬ fieldA d l n ≠ 0 := c2
    have hs := fieldA_ok (by simpa using c2')
    have hd := (store_dom hs.1).1
    have hdd := dom_ok hd
    refine VC.skip ?_
    show VC _ _ _ _ _ _ _ _
    refine VC.seq ?_
    refine VC.text ?_
    refine VO.r (.ld vt106) ?_
    refine VO.call rfl rfl (VF.call (sMems_ok hdd.2.2.2.1)) ?_
    refine VO.c (.move rfl) ?_
    refine VO.r (.lookOk mt205) ?_
    refine VO.c (.move rfl) ?_
    refine VO.c (.extract) ?_
    refine VO.c (.extract) ?_
    refine VO.c (.assign rfl) ?_
    refine VO.c (.assign rfl) ?_
    refine VO.go ?_
    refine VC.seq ?_
    refine VC.seq ?_
    refine VC.drawn ?_
    refine VD.c (.move rfl) ?_
    refine VD.c (.not) ?_
    refine VD.call rfl rfl (VF.call (sWhen_ok )) ?_
    refine VD.c (.move rfl) ?_
    refine VD.c (.fa (.r (.r (.l .o)))) ?_
    refine VD.r [] (.ld vt3) (.inl rfl) ?_
    refine VD.nw [] ?_
    refine VD.c (.sub rfl rfl (by omega)) ?_
    refine VD.call rfl rfl (VF.call (sWithin_ok )) ?_
    refine VD.new (.lit [whenE (!((mget (idxM d.2.2.2 d.2.2.2.length) x).isSome)) (10 : Int), rangeE t (0 : Int) (d.2.2.1 - (1 : Int))] el179) ?_
    refine VD.callO rfl rfl (VF.call (sFirst_ok (by first | assumption | omega | simp))) ?_
    refine VD.c (.assign rfl) ?_
    refine VD.go ?_
    refine VC.seq ?_
    refine VC.keep [(1, .v y108 l), (2, I n), (3, St x), (4, I t), (5, .p y106 d), (15, I (firstE [whenE (!((mget (idxM d.2.2.2 d.2.2.2.length) x).isSome)) (10 : Int), rangeE t (0 : Int) (d.2.2.1 - (1 : Int))]))] ⟨rfl, rfl, rfl, rfl, rfl, rfl, trivial⟩ ?_
    refine VC.text ?_
    refine VO.c (.move rfl) ?_
    refine VO.c (.neq) ?_
    refine VO.go ?_
    refine VC.condD rfl (fun c6 => ?_) (fun c6 => ?_)
    · have c6' : fieldB2 d x t ≠ 0 := c6
      refine VC.seq ?_
      refine VC.text ?_
      refine VO.c (.move rfl) ?_
      refine VO.c (.assign rfl) ?_
      refine VO.c (.assign rfl) ?_
      refine VO.go ?_
      refine VC.ret ?_
      exact VEnd.two rfl (evC .nil) evT (pvE (by rw [fieldV, if_neg c2', if_pos c6'])) (pvI (by rw [fieldV, if_neg c2', if_pos c6'] <;> rfl))
    · have c6' : ¬ fieldB2 d x t ≠ 0 := c6
      refine VC.skip ?_
      show VC _ _ _ _ _ _ _ _
      refine VC.seq ?_
      refine VC.drawn ?_
      refine VD.r [] (.ld vt106) (.inl rfl) ?_
      refine VD.c (.move rfl) ?_
      refine VD.c (.move rfl) ?_
      refine VD.call rfl rfl (VF.call (sRun_ok hl)) ?_
      refine VD.c (.move rfl) ?_
      refine VD.c (.move rfl) ?_
      refine VD.nw [52] ?_
      refine VD.callO rfl rfl (VF.call (sField2_ok hd (fun k p hk => by obtain ⟨j, h1, rfl, _⟩ := runM_some _ hk; exact hv _ (pcA_mem h1)))) ?_
      refine VD.c (.move rfl) ?_
      refine VD.c (.extract) ?_
      refine VD.c (.extract) ?_
      refine VD.c (.assign rfl) ?_
      refine VD.c (.assign rfl) ?_
      refine VD.go ?_
      refine VC.seq ?_
      refine VC.text ?_
      refine VO.c (.move rfl) ?_
      refine VO.c (.move rfl) ?_
      refine VO.c (.not) ?_
      refine VO.call rfl rfl (VF.call (sWhen_ok )) ?_
      refine VO.c (.assign rfl) ?_
      refine VO.c (.assign rfl) ?_
      refine VO.go ?_
      refine VC.ret ?_
      exact VEnd.two rfl evT evT (pvE (by rw [fieldV, if_neg c2', if_neg c6'])) (pvI (by rw [fieldV, if_neg c2', if_neg c6']))
def fieldC (d : Dom) (n : Int) (x : ByteArray) (t : Int) : Int := if rangeE n 0 100000 ≠ 0 then rangeE n 0 100000 else if memAt d.2.2.2 x < 0 then 10 else rangeE t 0 (d.2.2.1 - 1)
theorem rFieldC_ok {d : Int × Int × Int × (List (ByteArray × Int))} {n : Int} {x : ByteArray} {t : Int} (hd : domE d = 0) : VF Tryz.prog OA 58 [.v y95 d, I n, St x, I t] (I (fieldC d n x t)) := by
  refine VF.enter Tryz.func58 rfl (fun _ _ => rfl) rfl ?_
  show VC _ _ _ _ _ [(0, .v y95 d), (1, I n), (2, St x), (3, I t)] [] _
  refine VC.seq ?_
  refine VC.text ?_
  have hdd := dom_ok hd
  refine VO.new (.box) ?_
  refine VO.c (.assign rfl) ?_
  refine VO.go ?_
  refine VC.seq ?_
  refine VC.seq ?_
  refine VC.text ?_
  refine VO.c (.move rfl) ?_
  refine VO.call rfl rfl (VF.call (rCheckRange_ok )) ?_
  refine VO.c (.assign rfl) ?_
  refine VO.go ?_
  refine VC.seq ?_
  refine VC.text ?_
  refine VO.c (.move rfl) ?_
  refine VO.c (.neq) ?_
  refine VO.go ?_
  refine VC.condD rfl (fun c2 => ?_) (fun c2 => ?_)
  · refine VC.seq ?_
    refine VC.text ?_
    refine VO.c (.move rfl) ?_
    refine VO.c (.assign rfl) ?_
    refine VO.go ?_
    refine VC.ret ?_
    exact VEnd.one rfl evT (pvI (by rw [fieldC, if_pos c2]))
  · refine VC.skip ?_
    show VC _ _ _ _ _ _ _ _
    refine VC.seq ?_
    refine VC.seq ?_
    refine VC.text ?_
    refine VO.r (.ld vt95) ?_
    refine VO.c (.move rfl) ?_
    refine VO.call rfl rfl (VF.call (rMemAt_ok hdd.2.2.2.1)) ?_
    refine VO.c (.lss) ?_
    refine VO.go ?_
    refine VC.condD rfl (fun c4 => ?_) (fun c4 => ?_)
    · refine VC.seq ?_
      refine VC.text ?_
      refine VO.c (.assign rfl) ?_
      refine VO.go ?_
      refine VC.ret ?_
      exact VEnd.one rfl evT (pvI (by rw [fieldC, if_neg c2, if_pos c4]))
    · refine VC.skip ?_
      show VC _ _ _ _ _ _ _ _
      refine VC.seq ?_
      refine VC.text ?_
      refine VO.c (.move rfl) ?_
      refine VO.c (.fa (.r (.r (.l .o)))) ?_
      refine VO.r (.ld vt3) ?_
      refine VO.c (.sub rfl rfl (by omega)) ?_
      refine VO.call rfl rfl (VF.call (rCheckRange_ok )) ?_
      refine VO.c (.assign rfl) ?_
      refine VO.go ?_
      refine VC.ret ?_
      exact VEnd.one rfl evT (pvI (by rw [fieldC, if_neg c2, if_neg c4]))
def hitB (n : Int) (s : Sl) (p : Pc) : Bool := decide (p.1 = n ∧ p.2.1 = s.1 ∧ p.2.2.1 = s.2.1 ∧ p.2.2.2.1 = s.2.2)
def fndE (l : List Pc) (n : Int) (s : Sl) : Int := if l.findIdx (hitB n s) < l.length then (l.findIdx (hitB n s) : Nat) else -1
theorem rFind_ok {l : List (Int × ByteArray × Int × Int × (List Nat))} {n : Int} {s : ByteArray × Int × Int} (hl : l.length < 100000) : VF Tryz.prog OA 132 [.v y96 l, I n, .v y145 s] (I (fndE l n s)) := by
  refine VF.enter Tryz.func132 rfl (fun _ _ => rfl) rfl ?_
  show VC _ _ _ _ _ [(0, .v y96 l), (1, I n), (2, .v y145 s)] [] _
  refine VC.seq ?_
  refine VC.text ?_
  refine VO.new (.box) ?_
  refine VO.c (.assign rfl) ?_
  refine VO.go ?_
  refine VC.seq ?_
  refine VC.seq ?_
  refine VC.text ?_
  refine VO.c (.assign rfl) ?_
  refine VO.go ?_
  refine VC.block ?_
  refine VC.keep [(0, .v y96 l), (1, I n), (5, .p y145 s), (7, I ((0 : Nat) : Int))] ⟨rfl, rfl, rfl, rfl, trivial⟩ ?_
  refine VC.loop (I := fun kk ff ss => ∃ (i : Nat), kk = l.length - i ∧ ff = [(0, .v y96 l), (1, I n), (5, .p y145 s), (7, I ((i : Nat) : Int))] ∧ ss = [] ∧ (i ≤ l.length) ∧ (∀ j (hj : j < i) (hj' : j < l.length), hitB n s l[j] = false)) ?_ _ _ _ ⟨0, rfl, rfl, rfl, Nat.zero_le _, (by intro j hj; omega)⟩
  rintro kk ff ss ⟨i, hk0, rfl, rfl, hi, hn⟩
  refine VC.seq ?_
  refine VC.seq ?_
  refine VC.text ?_
  refine VO.c (.move rfl) ?_
  refine VO.c (.move rfl) ?_
  refine VO.r (.len el96) ?_
  refine VO.c (.lss) ?_
  refine VO.go ?_
  refine VC.condD rfl (fun c2 => ?_) (fun c2 => ?_)
  · have hi' : i < l.length := by omega
    refine VC.skip ?_
    show VC _ _ _ _ _ _ _ _
    refine VC.seq ?_
    refine VC.block ?_
    refine VC.seq ?_
    refine VC.join [(0, .v y96 l), (1, I n), (5, .p y145 s), (7, I ((i : Nat) : Int)), (50, B (hitB n s l[i]))] [] ?_ ?_
    · skip
      refine VC.drawn ?_
      refine VD.c (.move rfl) ?_
      refine VD.c (.move rfl) ?_
      refine VD.c (.ix (j := i) rfl rfl el96 (by omega)) ?_
      refine VD.c (.fa (.l .o)) ?_
      refine VD.r [] (.ld vt3) (.inl rfl) ?_
      refine VD.c (.move rfl) ?_
      refine VD.nw [] ?_
      refine VD.c (.eql) ?_
      refine VD.c (.move rfl) ?_
      refine VD.splitD (x := 21) rfl (fun g4_7 => ?_) (fun g4_7 => ?_)
      · refine VD.c (.move rfl) ?_
        refine VD.c (.move rfl) ?_
        refine VD.c (.ix (j := i) rfl rfl el96 (by omega)) ?_
        refine VD.c (.fa (.r (.l .o))) ?_
        refine VD.nw [] ?_
        refine VD.r [] (.ld vt9) (.inl rfl) ?_
        refine VD.c (.fa (.l .o)) ?_
        refine VD.r [] (.ld vt9) (.inl rfl) ?_
        refine VD.c (.seql) ?_
        refine VD.c (.pickT rfl rfl) ?_
        refine VD.c (.move rfl) ?_
        refine VD.splitD (x := 31) rfl (fun g4_17 => ?_) (fun g4_17 => ?_)
        · refine VD.nw [] ?_
          refine VD.c (.move rfl) ?_
          refine VD.c (.move rfl) ?_
          refine VD.c (.ix (j := i) rfl rfl el96 (by omega)) ?_
          refine VD.c (.fa (.r (.r (.l .o)))) ?_
          refine VD.r [] (.ld vt3) (.inl rfl) ?_
          refine VD.c (.fa (.r (.l .o))) ?_
          refine VD.r [] (.ld vt3) (.inl rfl) ?_
          refine VD.nw [] ?_
          refine VD.c (.eql) ?_
          refine VD.c (.pickT rfl rfl) ?_
          refine VD.c (.move rfl) ?_
          refine VD.splitD (x := 41) rfl (fun g4_27 => ?_) (fun g4_27 => ?_)
          · refine VD.c (.move rfl) ?_
            refine VD.c (.move rfl) ?_
            refine VD.c (.ix (j := i) rfl rfl el96 (by omega)) ?_
            refine VD.nw [] ?_
            refine VD.c (.fa (.r (.r (.r (.l .o))))) ?_
            refine VD.r [] (.ld vt3) (.inl rfl) ?_
            refine VD.c (.fa (.r (.r .o))) ?_
            refine VD.r [] (.ld vt3) (.inl rfl) ?_
            refine VD.c (.eql) ?_
            refine VD.c (.pickT rfl rfl) ?_
            refine VD.nil ?_
            exact ⟨⟨rfl, rfl, rfl, rfl, slE rfl (by rw [Bool.eq_iff_iff]; simp [hitB, *]), trivial⟩, rfl⟩
          · refine VD.skip ?_
            refine VD.skip ?_
            refine VD.skip ?_
            refine VD.nw [] ?_
            refine VD.skip ?_
            refine VD.skip ?_
            refine VD.skip ?_
            refine VD.skip ?_
            refine VD.skip ?_
            refine VD.c (.pickF rfl rfl) ?_
            refine VD.nil ?_
            exact ⟨⟨rfl, rfl, rfl, rfl, slE rfl (by rw [Bool.eq_iff_iff]; simp [hitB, *]), trivial⟩, rfl⟩
        · refine VD.nw [] ?_
          refine VD.skip ?_
          refine VD.skip ?_
          refine VD.skip ?_
          refine VD.skip ?_
          refine VD.skip ?_
          refine VD.skip ?_
          refine VD.skip ?_
          refine VD.nw [] ?_
          refine VD.skip ?_
          refine VD.c (.pickF rfl rfl) ?_
          refine VD.c (.move rfl) ?_
          refine VD.skip ?_
          refine VD.skip ?_
          refine VD.skip ?_
          refine VD.skip ?_
          refine VD.nw [] ?_
          refine VD.skip ?_
          refine VD.skip ?_
          refine VD.skip ?_
          refine VD.skip ?_
          refine VD.c (.pickF rfl rfl) ?_
          refine VD.nil ?_
          exact ⟨⟨rfl, rfl, rfl, rfl, slE rfl (by rw [Bool.eq_iff_iff]; simp [hitB, *]), trivial⟩, rfl⟩
      · refine VD.skip ?_
        refine VD.skip ?_
        refine VD.skip ?_
        refine VD.skip ?_
        refine VD.nw [] ?_
        refine VD.skip ?_
        refine VD.skip ?_
        refine VD.skip ?_
        refine VD.skip ?_
        refine VD.c (.pickF rfl rfl) ?_
        refine VD.c (.move rfl) ?_
        refine VD.skip ?_
        refine VD.nw [] ?_
        refine VD.skip ?_
        refine VD.skip ?_
        refine VD.skip ?_
        refine VD.skip ?_
        refine VD.skip ?_
        refine VD.skip ?_
        refine VD.skip ?_
        refine VD.nw [] ?_
        refine VD.c (.pickF rfl rfl) ?_
        refine VD.c (.move rfl) ?_
        refine VD.skip ?_
        refine VD.skip ?_
        refine VD.skip ?_
        refine VD.skip ?_
        refine VD.skip ?_
        refine VD.nw [] ?_
        refine VD.skip ?_
        refine VD.skip ?_
        refine VD.skip ?_
        refine VD.c (.pickF rfl rfl) ?_
        refine VD.nil ?_
        exact ⟨⟨rfl, rfl, rfl, rfl, slE rfl (by rw [Bool.eq_iff_iff]; simp [hitB, *]), trivial⟩, rfl⟩
    show VC _ _ _ _ _ _ _ _
    refine VC.condB rfl (fun c4 => ?_) (fun c4 => ?_)
    · refine VC.seq ?_
      refine VC.text ?_
      refine VO.c (.move rfl) ?_
      refine VO.c (.assign rfl) ?_
      refine VO.go ?_
      refine VC.ret ?_
      exact VEnd.one rfl evT (pvI (by rw [fndE, (List.findIdx_eq hi').2 ⟨c4, fun j hj => hn j hj (by omega)⟩, if_pos hi']))
    · refine VC.skip ?_
      show VC _ _ _ _ _ _ _ _
      refine VC.text ?_
      refine VO.c (.move rfl) ?_
      refine VO.c (.add rfl rfl (by omega)) ?_
      refine VO.c (.assign rfl) ?_
      refine VO.nil ?_
      refine ⟨_, [(0, .v y96 l), (1, I n), (5, .p y145 s), (7, I (((i + 1) : Nat) : Int))], ?_, ⟨rfl, rfl, rfl, rfl, trivial⟩, (i + 1), rfl, rfl, rfl, (by omega), (by intro j hj hj'; rcases Nat.lt_succ_iff_lt_or_eq.1 hj with h | h; exact hn j h hj'; subst h; exact c4)⟩
      omega
  · refine VC.exit ?_
    show VC _ _ _ _ _ _ _ _
    refine VC.seq ?_
    refine VC.text ?_
    refine VO.c (.assign rfl) ?_
    refine VO.go ?_
    refine VC.ret ?_
    exact VEnd.one rfl evT (pvI (by rw [fndE, List.findIdx_eq_length.2 (fun p hp => by obtain ⟨k, hk, rfl⟩ := List.getElem_of_mem hp; exact hn k (by omega) hk), if_neg (by omega)]))
def plusZ (x : Nat) : Nat := (single.add x 0).getD 0
theorem u32_0 : u32 0 = some 0 := by decide +kernel
theorem plusZ_ok {x : Nat} (h : lvlE x = 0) : single.add x 0 = some (plusZ x) ∧ lvlE (plusZ x) = 0 ∧ u32 (plusZ x) = u32 x := by
  obtain ⟨h1, h2, h3⟩ := lvl_ok h
  obtain ⟨r, hr, hr2⟩ := add32 h1 u32_0 (by
    rw [Int.add_zero, Int.natAbs_mul]
    exact rep_small (n := (sxE x).natAbs) (j := 145) (by show _ < 2 ^ (23 + 1); omega) (by decide))
  have e : plusZ x = r := by rw [plusZ, hr] <;> rfl
  rw [Int.add_zero] at hr2
  rw [e]
  exact ⟨hr, (lvl_of hr2 h2 h3).1, by rw [hr2, h1]⟩
theorem rPlain_ok {l : List Nat} (hl : l.length < 100000) (hv : ∀ x ∈ l, lvlE x = 0) : VF Tryz.prog OA 133 [.v y124 l] (.v y124 (l.map plusZ)) := by
  refine VF.enter Tryz.func133 rfl (fun _ _ => rfl) rfl ?_
  show VC _ _ _ _ _ [(0, .v y124 l)] [] _
  refine VC.seq ?_
  refine VC.text ?_
  refine VO.c (.assign rfl) ?_
  refine VO.go ?_
  refine VC.seq ?_
  refine VC.text ?_
  refine VO.c (.assign rfl) ?_
  refine VO.go ?_
  refine VC.seq ?_
  refine VC.seq ?_
  refine VC.text ?_
  refine VO.c (.assign rfl) ?_
  refine VO.go ?_
  refine VC.block ?_
  refine VC.cell0 127 (.flt .f32) ?_
  refine VC.keep [(0, .v y124 l), (3, .raw (.slice none 0 0)), (4, I ((0 : Nat) : Int))] ⟨rfl, rfl, rfl, trivial⟩ ?_
  refine VC.loop (I := fun kk ff ss => ∃ (i : Nat) (out : Value), kk = l.length - i ∧ ff = [(0, .v y124 l), (3, .raw out), (4, I ((i : Nat) : Int))] ∧ ss = [(out, .row 127 (.flt .f32) ((l.take i).map plusZ))] ∧ (i ≤ l.length)) ?_ _ _ _ ⟨0, (.slice none 0 0), rfl, rfl, rfl, Nat.zero_le _⟩
  rintro kk ff ss ⟨i, out, hk0, rfl, rfl, hi⟩
  refine VC.seq ?_
  refine VC.seq ?_
  refine VC.text ?_
  refine VO.c (.move rfl) ?_
  refine VO.c (.move rfl) ?_
  refine VO.r (.len el124) ?_
  refine VO.c (.lss) ?_
  refine VO.go ?_
  refine VC.condD rfl (fun c3 => ?_) (fun c3 => ?_)
  · have hp := (plusZ_ok (hv _ (List.getElem_mem (show i < l.length by omega)))).1
    refine VC.skip ?_
    show VC _ _ _ _ _ _ _ _
    refine VC.seq ?_
    refine VC.block ?_
    refine VC.text ?_
    refine VO.c (.move rfl) ?_
    refine VO.c (.move rfl) ?_
    refine VO.c (.move rfl) ?_
    refine VO.c (.ix (j := i) rfl rfl el124 (by omega)) ?_
    refine VO.r (.ld vt127) ?_
    refine VO.c (.fop (add32E hp)) ?_
    refine VO.new (.lit [plusZ l[i]] el124) ?_
    refine VO.app rfl rfl el124 el124 (by simp; omega) ?_
    intro ww1
    refine VO.c (.assign rfl) ?_
    refine VO.nil ?_
    show VC _ _ _ _ _ _ _ _
    refine VC.text ?_
    refine VO.c (.move rfl) ?_
    refine VO.c (.add rfl rfl (by omega)) ?_
    refine VO.c (.assign rfl) ?_
    refine VO.nil ?_
    refine ⟨_, [(0, .v y124 l), (3, .raw ww1), (4, I (((i + 1) : Nat) : Int))], ?_, ⟨rfl, rfl, rfl, trivial⟩, (i + 1), ww1, rfl, rfl, (by rw [List.take_succ_eq_append_getElem (by omega), List.map_append] <;> rfl), (by omega)⟩
    omega
  · refine VC.exit ?_
    show VC _ _ _ _ _ _ _ _
    refine VC.seq ?_
    refine VC.text ?_
    refine VO.c (.move rfl) ?_
    refine VO.c (.assign rfl) ?_
    refine VO.go ?_
    refine VC.ret ?_
    exact VEnd.one rfl (evC (.row m0)) (pvE (by rw [List.take_of_length_le (by omega)]))
def fndQ (l : List Pc) (n : Int) (x : ByteArray) (t : Int) (r : Nat) : Option (List Nat) := if fndE l n (x, t, (r : Int)) < 0 then none else some ((pcA l (fndE l n (x, t, (r : Int))).toNat).2.2.2.2.map plusZ)
theorem fndE_range {l : List Pc} {n : Int} {s : Sl} : -1 ≤ fndE l n s ∧ fndE l n s < l.length := by unfold fndE; split <;> omega
theorem rFieldX_ok {d : Int × Int × Int × (List (ByteArray × Int))} {l : List (Int × ByteArray × Int × Int × (List Nat))} {n : Int} {x : ByteArray} {t : Int} (hd : domE d = 0) (hl : l.length < 100000) (hv : ∀ p ∈ l, p.2.2.2.2.length < 100000 ∧ ∀ x ∈ p.2.2.2.2, lvlE x = 0) : VF Tryz.prog OA 59 [.v y95 d, .v y96 l, I n, St x, I t] (.tup [.v y101 ((rowsQ (fndQ l n x t) d.1.toNat).1), B ((rowsQ (fndQ l n x t) d.1.toNat).2)]) := by
  refine VF.enter Tryz.func59 rfl (fun _ _ => rfl) rfl ?_
  show VC _ _ _ _ _ [(0, .v y95 d), (1, .v y96 l), (2, I n), (3, St x), (4, I t)] [] _
  refine VC.seq ?_
  refine VC.text ?_
  have hdd := dom_ok hd
  refine VO.new (.box) ?_
  refine VO.c (.assign rfl) ?_
  refine VO.c (.assign rfl) ?_
  refine VO.go ?_
  refine VC.seq ?_
  refine VC.text ?_
  refine VO.c (.assign rfl) ?_
  refine VO.go ?_
  refine VC.seq ?_
  refine VC.seq ?_
  refine VC.text ?_
  refine VO.c (.assign rfl) ?_
  refine VO.go ?_
  refine VC.block ?_
  refine VC.cell0 124 y124 ?_
  refine VC.keep [(1, .v y96 l), (2, I n), (3, St x), (4, I t), (5, .p y95 d), (12, .raw (.slice none 0 0)), (13, I ((0 : Nat) : Int))] ⟨rfl, rfl, rfl, rfl, rfl, rfl, rfl, trivial⟩ ?_
  refine VC.loop (I := fun kk ff ss => ∃ (r : Nat) (out : Value), kk = d.1.toNat - r ∧ ff = [(1, .v y96 l), (2, I n), (3, St x), (4, I t), (5, .p y95 d), (12, .raw out), (13, I ((r : Nat) : Int))] ∧ ss = [(out, .row 124 y124 ((List.range r).map (fun r => (fndQ l n x t r).getD [])))] ∧ (r ≤ d.1.toNat) ∧ (∀ k, k < r → (fndQ l n x t k).isSome = true)) ?_ _ _ _ ⟨0, (.slice none 0 0), rfl, rfl, rfl, Nat.zero_le _, (by intro k hk; omega)⟩
  rintro kk ff ss ⟨r, out, hk0, rfl, rfl, hr, hq⟩
  refine VC.seq ?_
  refine VC.seq ?_
  refine VC.text ?_
  refine VO.c (.move rfl) ?_
  refine VO.c (.fa (.l .o)) ?_
  refine VO.r (.ld vt3) ?_
  refine VO.c (.lss) ?_
  refine VO.go ?_
  refine VC.condD rfl (fun c3 => ?_) (fun c3 => ?_)
  · have hr' : r < d.1.toNat := by omega
    have hrg := fndE_range (l := l) (n := n) (s := (x, t, (r : Int)))
    refine VC.skip ?_
    show VC _ _ _ _ _ _ _ _
    refine VC.seq ?_
    refine VC.block ?_
    refine VC.seq ?_
    refine VC.text ?_
    refine VO.c (.move rfl) ?_
    refine VO.c (.move rfl) ?_
    refine VO.c (.move rfl) ?_
    refine VO.c (.move rfl) ?_
    refine VO.c (.move rfl) ?_
    refine VO.c (.build (x, t, ((r : Nat) : Int)) bt145) ?_
    refine VO.call rfl rfl (VF.call (rFind_ok hl)) ?_
    refine VO.c (.assign rfl) ?_
    refine VO.go ?_
    refine VC.seq ?_
    refine VC.seq ?_
    refine VC.text ?_
    refine VO.c (.move rfl) ?_
    refine VO.c (.lss) ?_
    refine VO.go ?_
    refine VC.condD rfl (fun c6 => ?_) (fun c6 => ?_)
    · have hs : fndQ l n x t r = none := by rw [fndQ, if_pos c6]
      refine VC.seq ?_
      refine VC.text ?_
      refine VO.c (.assign rfl) ?_
      refine VO.c (.assign rfl) ?_
      refine VO.go ?_
      refine VC.ret ?_
      exact VEnd.two rfl (evC .nil) evT (pvE (by rw [rowsQ_f hr' (by rw [hs]; rfl)])) (pvE (by rw [rowsQ_f hr' (by rw [hs]; rfl)]))
    · have hlt : (fndE l n (x, t, (r : Int))).toNat < l.length := by omega
      have hs : fndQ l n x t r = some ((pcA l (fndE l n (x, t, (r : Int))).toNat).2.2.2.2.map plusZ) := by rw [fndQ, if_neg c6]
      have hvv := hv _ (pcA_mem hlt)
      refine VC.skip ?_
      show VC _ _ _ _ _ _ _ _
      refine VC.text ?_
      refine VO.c (.move rfl) ?_
      refine VO.c (.move rfl) ?_
      refine VO.c (.move rfl) ?_
      refine VO.c (.ixZ (k := fndE l n (x, t, ((r : Nat) : Int))) rfl rfl el96 (by omega) (by omega)) ?_
      refine VO.c (.fa (.r (.r (.r (.r .o))))) ?_
      refine VO.r (.ld vt124) ?_
      refine VO.call rfl rfl (VF.call (rPlain_ok (by rw [pcA_eq]; exact hvv.1) (by rw [pcA_eq]; exact hvv.2))) ?_
      refine VO.new (.lit [((l[Int.toNat (fndE l n (x, t, ((r : Nat) : Int)))]).2.2.2.2).map plusZ] el101) ?_
      refine VO.app rfl rfl el101 el101 (by simp; omega) ?_
      intro ww2
      refine VO.c (.assign rfl) ?_
      refine VO.nil ?_
      show VC _ _ _ _ _ _ _ _
      refine VC.text ?_
      refine VO.c (.move rfl) ?_
      refine VO.c (.add rfl rfl (by omega)) ?_
      refine VO.c (.assign rfl) ?_
      refine VO.nil ?_
      refine ⟨_, [(1, .v y96 l), (2, I n), (3, St x), (4, I t), (5, .p y95 d), (12, .raw ww2), (13, I (((r + 1) : Nat) : Int))], ?_, ⟨rfl, rfl, rfl, rfl, rfl, rfl, rfl, trivial⟩, (r + 1), ww2, rfl, rfl, (by rw [List.range_succ, List.map_append, List.map_cons, hs, pcA_eq] <;> rfl), (by omega), (by intro k hk; rcases Nat.lt_succ_iff_lt_or_eq.1 hk with h | h; exact hq k h; subst h; rw [hs] <;> rfl)⟩
      omega
  · refine VC.exit ?_
    show VC _ _ _ _ _ _ _ _
    refine VC.seq ?_
    refine VC.text ?_
    refine VO.c (.move rfl) ?_
    refine VO.c (.assign rfl) ?_
    refine VO.c (.assign rfl) ?_
    refine VO.go ?_
    refine VC.ret ?_
    exact VEnd.two rfl (evC (.row m0)) evT (pvE (by rw [rowsQ_t (fun k hk => hq k (by omega)), show r = d.1.toNat by omega])) (pvE (by rw [rowsQ_t (fun k hk => hq k (by omega))]))
end Go.Proofs
namespace Go.Proofs
open Go.Fs Ieee
set_option linter.unusedVariables false
abbrev y93 : Ty := (.sl (.pair .str (.int .i64)))
abbrev y203 : Ty := (.pair .str (.int .i64))
theorem vt203 : ValT Tryz.prog 203 y203 := valT_of (by kernel_rfl)
theorem zt106 : ZerT Tryz.prog 106 y106 := zerT_of (z := .agg #[.int .i64 0, .int .i64 0, .int .i64 0, .slice none 0 0]) (by kernel_rfl) rfl rfl
theorem zt152 : ZerT Tryz.prog 152 y152 := zerT_of (z := .agg #[.int .i64 0, .string ByteArray.empty, .int .i64 0, .int .i64 0, .slice none 0 0]) (by kernel_rfl) rfl rfl
theorem zt203 : ZerT Tryz.prog 203 y203 := zerT_of (z := .agg #[.string ByteArray.empty, .int .i64 0]) (by kernel_rfl) rfl rfl
theorem bt106 : BldT Tryz.prog 106 y106 [(0, 1), (1, 1), (2, 1), (3, 1)] := bldT_of zt106 rfl (by kernel_rfl)
/-! ## What a law asks and says -/
def sameLv (a b : List Nat) : Bool := decide (a.length = b.length ∧ ∀ i, i < a.length → fcmpE .neq .f32 (a.getD i 0) (b.getD i 0) = false)
theorem rSameLv_ok {a : List Nat} {b : List Nat} (ha : a.length < 100000) : VF Tryz.prog OA 134 [.v y124 a, .v y124 b] (B (sameLv a b)) := by
  refine VF.enter Tryz.func134 rfl (fun _ _ => rfl) rfl ?_
  show VC _ _ _ _ _ [(0, .v y124 a), (1, .v y124 b)] [] _
  refine VC.seq ?_
  refine VC.text ?_
  refine VO.c (.assign rfl) ?_
  refine VO.go ?_
  refine VC.seq ?_
  refine VC.seq ?_
  refine VC.text ?_
  refine VO.c (.move rfl) ?_
  refine VO.r (.len el124) ?_
  refine VO.c (.move rfl) ?_
  refine VO.r (.len el124) ?_
  refine VO.c (.neq) ?_
  refine VO.go ?_
  refine VC.condD rfl (fun c1 => ?_) (fun c1 => ?_)
  · have hne : ¬ a.length = b.length := by omega
    refine VC.seq ?_
    refine VC.text ?_
    refine VO.c (.assign rfl) ?_
    refine VO.go ?_
    refine VC.ret ?_
    exact VEnd.one rfl evT (pvE (by exact (decide_eq_false fun hh => hne hh.1).symm))
  · have hle : a.length = b.length := by omega
    refine VC.skip ?_
    show VC _ _ _ _ _ _ _ _
    refine VC.seq ?_
    refine VC.seq ?_
    refine VC.text ?_
    refine VO.c (.assign rfl) ?_
    refine VO.go ?_
    refine VC.block ?_
    refine VC.keep [(0, .v y124 a), (1, .v y124 b), (5, I ((0 : Nat) : Int))] ⟨rfl, rfl, rfl, trivial⟩ ?_
    refine VC.loop (I := fun kk ff ss => ∃ (i : Nat), kk = a.length - i ∧ ff = [(0, .v y124 a), (1, .v y124 b), (5, I ((i : Nat) : Int))] ∧ ss = [] ∧ (i ≤ a.length) ∧ (∀ j, j < i → fcmpE .neq .f32 (a.getD j 0) (b.getD j 0) = false)) ?_ _ _ _ ⟨0, rfl, rfl, rfl, Nat.zero_le _, (by intro j hj; omega)⟩
    rintro kk ff ss ⟨i, hk0, rfl, rfl, hi, hn⟩
    refine VC.seq ?_
    refine VC.seq ?_
    refine VC.text ?_
    refine VO.c (.move rfl) ?_
    refine VO.c (.move rfl) ?_
    refine VO.r (.len el124) ?_
    refine VO.c (.lss) ?_
    refine VO.go ?_
    refine VC.condD rfl (fun c4 => ?_) (fun c4 => ?_)
    · have hi' : i < a.length := by omega
      refine VC.skip ?_
      show VC _ _ _ _ _ _ _ _
      refine VC.seq ?_
      refine VC.block ?_
      refine VC.seq ?_
      refine VC.drawn ?_
      refine VD.c (.move rfl) ?_
      refine VD.c (.move rfl) ?_
      refine VD.c (.ix (j := i) rfl rfl el124 (by omega)) ?_
      refine VD.r [] (.ld vt127) (.inl rfl) ?_
      refine VD.c (.move rfl) ?_
      refine VD.c (.move rfl) ?_
      refine VD.nw [] ?_
      refine VD.c (.ix (j := i) rfl rfl el124 (by omega)) ?_
      refine VD.r [] (.ld vt127) (.inl rfl) ?_
      refine VD.c (.fcmp .neq) ?_
      refine VD.go ?_
      refine VC.condB rfl (fun c6 => ?_) (fun c6 => ?_)
      · have c6' : fcmpE .neq .f32 (a.getD i 0) (b.getD i 0) = true := by simpa [hi', show i < b.length by omega] using c6
        refine VC.seq ?_
        refine VC.text ?_
        refine VO.c (.assign rfl) ?_
        refine VO.go ?_
        refine VC.ret ?_
        exact VEnd.one rfl evT (pvE (by exact (decide_eq_false fun hh => by rw [hh.2 i hi'] at c6'; cases c6').symm))
      · have c6' : fcmpE .neq .f32 (a.getD i 0) (b.getD i 0) = false := by simpa [hi', show i < b.length by omega] using c6
        refine VC.skip ?_
        show VC _ _ _ _ _ _ _ _
        refine VC.text ?_
        refine VO.c (.move rfl) ?_
        refine VO.c (.add rfl rfl (by omega)) ?_
        refine VO.c (.assign rfl) ?_
        refine VO.nil ?_
        refine ⟨_, [(0, .v y124 a), (1, .v y124 b), (5, I (((i + 1) : Nat) : Int))], ?_, ⟨rfl, rfl, rfl, trivial⟩, (i + 1), rfl, rfl, rfl, (by omega), (by intro j hj; rcases Nat.lt_succ_iff_lt_or_eq.1 hj with h | h; exact hn j h; subst h; exact c6')⟩
        omega
    · refine VC.exit ?_
      show VC _ _ _ _ _ _ _ _
      refine VC.seq ?_
      refine VC.text ?_
      refine VO.c (.assign rfl) ?_
      refine VO.go ?_
      refine VC.ret ?_
      exact VEnd.one rfl evT (pvE (by exact (decide_eq_true ⟨hle, fun j hj => hn j (by omega)⟩).symm))
def sameRw (a b : List (List Nat)) : Bool := decide (a.length = b.length ∧ ∀ i, i < a.length → sameLv (a.getD i []) (b.getD i []) = true)
theorem rSameRw_ok {a : List (List Nat)} {b : List (List Nat)} (ha : a.length < 100000) (hr : ∀ r ∈ a, r.length < 100000) : VF Tryz.prog OA 60 [.v y101 a, .v y101 b] (B (sameRw a b)) := by
  refine VF.enter Tryz.func60 rfl (fun _ _ => rfl) rfl ?_
  show VC _ _ _ _ _ [(0, .v y101 a), (1, .v y101 b)] [] _
  refine VC.seq ?_
  refine VC.text ?_
  refine VO.c (.assign rfl) ?_
  refine VO.go ?_
  refine VC.seq ?_
  refine VC.seq ?_
  refine VC.text ?_
  refine VO.c (.move rfl) ?_
  refine VO.r (.len el101) ?_
  refine VO.c (.move rfl) ?_
  refine VO.r (.len el101) ?_
  refine VO.c (.neq) ?_
  refine VO.go ?_
  refine VC.condD rfl (fun c1 => ?_) (fun c1 => ?_)
  · have hne : ¬ a.length = b.length := by omega
    refine VC.seq ?_
    refine VC.text ?_
    refine VO.c (.assign rfl) ?_
    refine VO.go ?_
    refine VC.ret ?_
    exact VEnd.one rfl evT (pvE (by exact (decide_eq_false fun hh => hne hh.1).symm))
  · have hle : a.length = b.length := by omega
    refine VC.skip ?_
    show VC _ _ _ _ _ _ _ _
    refine VC.seq ?_
    refine VC.seq ?_
    refine VC.text ?_
    refine VO.c (.assign rfl) ?_
    refine VO.go ?_
    refine VC.block ?_
    refine VC.keep [(0, .v y101 a), (1, .v y101 b), (5, I ((0 : Nat) : Int))] ⟨rfl, rfl, rfl, trivial⟩ ?_
    refine VC.loop (I := fun kk ff ss => ∃ (i : Nat), kk = a.length - i ∧ ff = [(0, .v y101 a), (1, .v y101 b), (5, I ((i : Nat) : Int))] ∧ ss = [] ∧ (i ≤ a.length) ∧ (∀ j, j < i → sameLv (a.getD j []) (b.getD j []) = true)) ?_ _ _ _ ⟨0, rfl, rfl, rfl, Nat.zero_le _, (by intro j hj; omega)⟩
    rintro kk ff ss ⟨i, hk0, rfl, rfl, hi, hn⟩
    refine VC.seq ?_
    refine VC.seq ?_
    refine VC.text ?_
    refine VO.c (.move rfl) ?_
    refine VO.c (.move rfl) ?_
    refine VO.r (.len el101) ?_
    refine VO.c (.lss) ?_
    refine VO.go ?_
    refine VC.condD rfl (fun c4 => ?_) (fun c4 => ?_)
    · have hi' : i < a.length := by omega
      refine VC.skip ?_
      show VC _ _ _ _ _ _ _ _
      refine VC.seq ?_
      refine VC.block ?_
      refine VC.seq ?_
      refine VC.drawn ?_
      refine VD.c (.move rfl) ?_
      refine VD.c (.move rfl) ?_
      refine VD.c (.ix (j := i) rfl rfl el101 (by omega)) ?_
      refine VD.r [] (.ld vt124) (.inl rfl) ?_
      refine VD.c (.move rfl) ?_
      refine VD.c (.move rfl) ?_
      refine VD.nw [] ?_
      refine VD.c (.ix (j := i) rfl rfl el101 (by omega)) ?_
      refine VD.r [] (.ld vt124) (.inl rfl) ?_
      refine VD.call rfl rfl (VF.call (rSameLv_ok (hr _ (List.getElem_mem _)))) ?_
      refine VD.c (.not) ?_
      refine VD.go ?_
      refine VC.condB rfl (fun c6 => ?_) (fun c6 => ?_)
      · try simp only [Bool.and_eq_true, Bool.or_eq_true, Bool.and_eq_false_iff, Bool.or_eq_false_iff, Bool.not_eq_true', Bool.not_eq_false', decide_eq_true_eq, decide_eq_false_iff_not] at c6
        have c6' : sameLv (a.getD i []) (b.getD i []) = false := by simpa [hi', show i < b.length by omega] using c6
        refine VC.seq ?_
        refine VC.text ?_
        refine VO.c (.assign rfl) ?_
        refine VO.go ?_
        refine VC.ret ?_
        exact VEnd.one rfl evT (pvE (by exact (decide_eq_false fun hh => by rw [hh.2 i hi'] at c6'; cases c6').symm))
      · try simp only [Bool.and_eq_true, Bool.or_eq_true, Bool.and_eq_false_iff, Bool.or_eq_false_iff, Bool.not_eq_true', Bool.not_eq_false', decide_eq_true_eq, decide_eq_false_iff_not] at c6
        have c6' : sameLv (a.getD i []) (b.getD i []) = true := by simpa [hi', show i < b.length by omega] using c6
        refine VC.skip ?_
        show VC _ _ _ _ _ _ _ _
        refine VC.text ?_
        refine VO.c (.move rfl) ?_
        refine VO.c (.add rfl rfl (by omega)) ?_
        refine VO.c (.assign rfl) ?_
        refine VO.nil ?_
        refine ⟨_, [(0, .v y101 a), (1, .v y101 b), (5, I (((i + 1) : Nat) : Int))], ?_, ⟨rfl, rfl, rfl, trivial⟩, (i + 1), rfl, rfl, rfl, (by omega), (by intro j hj; rcases Nat.lt_succ_iff_lt_or_eq.1 hj with h | h; exact hn j h; subst h; exact c6')⟩
        omega
    · refine VC.exit ?_
      show VC _ _ _ _ _ _ _ _
      refine VC.seq ?_
      refine VC.text ?_
      refine VO.c (.assign rfl) ?_
      refine VO.go ?_
      refine VC.ret ?_
      exact VEnd.one rfl evT (pvE (by exact (decide_eq_true ⟨hle, fun j hj => hn j (by omega)⟩).symm))
def shortD (d : Dom) : Bool := decide ((d.2.2.2.length ≤ 3 ∨ d.2.2.2.length = 17) ∧ (∀ i, i < d.2.2.2.length → (nmE d.2.2.2 i).size ≤ 60) ∧ (d.1 ≤ 3 ∨ 8 < d.1) ∧ (d.2.1 ≤ 3 ∨ 8 < d.2.1) ∧ (d.2.2.1 ≤ 3 ∨ 96 < d.2.2.1))
theorem rShortD_ok {d : Int × Int × Int × (List (ByteArray × Int))} (hl : d.2.2.2.length ≤ 9223372036854775807) : VF Tryz.prog OA 52 [.v y95 d] (B (shortD d)) := by
  refine VF.enter Tryz.func52 rfl (fun _ _ => rfl) rfl ?_
  show VC _ _ _ _ _ [(0, .v y95 d)] [] _
  refine VC.seq ?_
  refine VC.text ?_
  refine VO.new (.box) ?_
  refine VO.c (.assign rfl) ?_
  refine VO.go ?_
  refine VC.seq ?_
  refine VC.seq ?_
  refine VC.text ?_
  refine VO.c (.fa (.r (.r (.r .o)))) ?_
  refine VO.r (.ld vt93) ?_
  refine VO.r (.len el93) ?_
  refine VO.c (.gtr) ?_
  refine VO.c (.move rfl) ?_
  refine VO.cg (r := decide ((3 : Int) < ((d.2.2.2.length : Nat) : Int))) (w := true) [] trivial (fun hgd => have g1_4 : (3 : Int) < ((d.2.2.2.length : Nat) : Int) := (by simpa using hgd); (.fa (.r (.r (.r .o))))) ?_
  refine VO.rg (r := decide ((3 : Int) < ((d.2.2.2.length : Nat) : Int))) (w := true) [(9, .p y93 d.2.2.2)] ⟨rfl, trivial⟩ (fun hgd => have g1_4 : (3 : Int) < ((d.2.2.2.length : Nat) : Int) := (by simpa using hgd); (.ld vt93)) ?_
  refine VO.rg (r := decide ((3 : Int) < ((d.2.2.2.length : Nat) : Int))) (w := true) [(10, .v y93 d.2.2.2)] ⟨rfl, trivial⟩ (fun hgd => have g1_4 : (3 : Int) < ((d.2.2.2.length : Nat) : Int) := (by simpa using hgd); (.len el93)) ?_
  refine VO.cg (r := decide ((3 : Int) < ((d.2.2.2.length : Nat) : Int))) (w := true) [(11, I ((d.2.2.2.length : Nat) : Int))] ⟨rfl, trivial⟩ (fun hgd => have g1_4 : (3 : Int) < ((d.2.2.2.length : Nat) : Int) := (by simpa using hgd); (.neq)) ?_
  refine VO.c (.and) ?_
  refine VO.go ?_
  refine VC.condB rfl (fun c1 => ?_) (fun c1 => ?_)
  · try simp only [Bool.and_eq_true, Bool.or_eq_true, Bool.and_eq_false_iff, Bool.or_eq_false_iff, Bool.not_eq_true', Bool.not_eq_false', decide_eq_true_eq, decide_eq_false_iff_not] at c1
    refine VC.seq ?_
    refine VC.text ?_
    refine VO.c (.assign rfl) ?_
    refine VO.go ?_
    refine VC.ret ?_
    exact VEnd.one rfl evT (pvE (by exact (decide_eq_false fun hh => by have := hh.1; omega).symm))
  · try simp only [Bool.and_eq_true, Bool.or_eq_true, Bool.and_eq_false_iff, Bool.or_eq_false_iff, Bool.not_eq_true', Bool.not_eq_false', decide_eq_true_eq, decide_eq_false_iff_not] at c1
    refine VC.skip ?_
    show VC _ _ _ _ _ _ _ _
    refine VC.seq ?_
    refine VC.seq ?_
    refine VC.text ?_
    refine VO.c (.assign rfl) ?_
    refine VO.go ?_
    refine VC.block ?_
    refine VC.keep [(1, .p y95 d), (3, I ((0 : Nat) : Int))] ⟨rfl, rfl, trivial⟩ ?_
    refine VC.loop (I := fun kk ff ss => ∃ (i : Nat), kk = d.2.2.2.length - i ∧ ff = [(1, .p y95 d), (3, I ((i : Nat) : Int))] ∧ ss = [] ∧ (i ≤ d.2.2.2.length) ∧ (∀ j, j < i → (nmE d.2.2.2 j).size ≤ 60)) ?_ _ _ _ ⟨0, rfl, rfl, rfl, Nat.zero_le _, (by intro j hj; omega)⟩
    rintro kk ff ss ⟨i, hk0, rfl, rfl, hi, hn⟩
    refine VC.seq ?_
    refine VC.seq ?_
    refine VC.text ?_
    refine VO.c (.move rfl) ?_
    refine VO.c (.fa (.r (.r (.r .o)))) ?_
    refine VO.r (.ld vt93) ?_
    refine VO.r (.len el93) ?_
    refine VO.c (.lss) ?_
    refine VO.go ?_
    refine VC.condD rfl (fun c4 => ?_) (fun c4 => ?_)
    · have hi' : i < d.2.2.2.length := by omega
      refine VC.skip ?_
      show VC _ _ _ _ _ _ _ _
      refine VC.seq ?_
      refine VC.block ?_
      refine VC.seq ?_
      refine VC.text ?_
      refine VO.c (.fa (.r (.r (.r .o)))) ?_
      refine VO.r (.ld vt93) ?_
      refine VO.c (.move rfl) ?_
      refine VO.c (.ix (j := i) rfl rfl el93 (by omega)) ?_
      refine VO.c (.fa (.l .o)) ?_
      refine VO.r (.ld vt9) ?_
      refine VO.r (.lenS) ?_
      refine VO.c (.gtr) ?_
      refine VO.go ?_
      refine VC.condD rfl (fun c6 => ?_) (fun c6 => ?_)
      · refine VC.seq ?_
        refine VC.text ?_
        refine VO.c (.assign rfl) ?_
        refine VO.go ?_
        refine VC.ret ?_
        exact VEnd.one rfl evT (pvE (by exact (decide_eq_false fun hh => by have := hh.2.1 i hi'; rw [← nmE_eq hi'] at this; omega).symm))
      · refine VC.skip ?_
        show VC _ _ _ _ _ _ _ _
        refine VC.text ?_
        refine VO.c (.move rfl) ?_
        refine VO.c (.add rfl rfl (by omega)) ?_
        refine VO.c (.assign rfl) ?_
        refine VO.nil ?_
        refine ⟨_, [(1, .p y95 d), (3, I (((i + 1) : Nat) : Int))], ?_, ⟨rfl, rfl, trivial⟩, (i + 1), rfl, rfl, rfl, (by omega), (by intro j hj; rcases Nat.lt_succ_iff_lt_or_eq.1 hj with h | h; exact hn j h; subst h; rw [← nmE_eq hi']; omega)⟩
        omega
    · have he : shortD d = decide ((d.1 ≤ 3 ∨ 8 < d.1) ∧ (d.2.1 ≤ 3 ∨ 8 < d.2.1) ∧ (d.2.2.1 ≤ 3 ∨ 96 < d.2.2.1)) := decide_eq_decide.2 ⟨fun h => h.2.2, fun h => ⟨by omega, fun j hj => hn j (by omega), h⟩⟩
      refine VC.exit ?_
      show VC _ _ _ _ _ _ _ _
      refine VC.seq ?_
      refine VC.join [(2, B (shortD d))] [] ?_ ?_
      · skip
        refine VC.text ?_
        refine VO.c (.fa (.l .o)) ?_
        refine VO.r (.ld vt3) ?_
        refine VO.c (.leq) ?_
        refine VO.c (.move rfl) ?_
        refine VO.cg (r := decide (d.1 ≤ (3 : Int))) (w := false) [] trivial (fun hgd => have g8_3 : ¬ (d.1 ≤ (3 : Int)) := (by simpa using hgd); (.fa (.l .o))) ?_
        refine VO.rg (r := decide (d.1 ≤ (3 : Int))) (w := false) [(33, .p (.int .i64) d.1)] ⟨rfl, trivial⟩ (fun hgd => have g8_3 : ¬ (d.1 ≤ (3 : Int)) := (by simpa using hgd); (.ld vt3)) ?_
        refine VO.cg (r := decide (d.1 ≤ (3 : Int))) (w := false) [(34, I d.1)] ⟨rfl, trivial⟩ (fun hgd => have g8_3 : ¬ (d.1 ≤ (3 : Int)) := (by simpa using hgd); (.gtr)) ?_
        refine VO.c (.or) ?_
        refine VO.c (.move rfl) ?_
        refine VO.splitB (x := 37) rfl (fun g8_8 => ?_) (fun g8_8 => ?_)
        · try simp only [Bool.and_eq_true, Bool.or_eq_true, Bool.and_eq_false_iff, Bool.or_eq_false_iff, Bool.not_eq_true', Bool.not_eq_false', decide_eq_true_eq, decide_eq_false_iff_not] at g8_8
          refine VO.c (.fa (.r (.l .o))) ?_
          refine VO.r (.ld vt3) ?_
          refine VO.c (.leq) ?_
          refine VO.c (.move rfl) ?_
          refine VO.cg (r := decide (d.2.1 ≤ (3 : Int))) (w := false) [] trivial (fun hgd => have g8_12 : ¬ (d.2.1 ≤ (3 : Int)) := (by simpa using hgd); (.fa (.r (.l .o)))) ?_
          refine VO.rg (r := decide (d.2.1 ≤ (3 : Int))) (w := false) [(42, .p (.int .i64) d.2.1)] ⟨rfl, trivial⟩ (fun hgd => have g8_12 : ¬ (d.2.1 ≤ (3 : Int)) := (by simpa using hgd); (.ld vt3)) ?_
          refine VO.cg (r := decide (d.2.1 ≤ (3 : Int))) (w := false) [(43, I d.2.1)] ⟨rfl, trivial⟩ (fun hgd => have g8_12 : ¬ (d.2.1 ≤ (3 : Int)) := (by simpa using hgd); (.gtr)) ?_
          refine VO.c (.or) ?_
          refine VO.c (.pickT rfl rfl) ?_
          refine VO.c (.move rfl) ?_
          refine VO.splitB (x := 47) rfl (fun g8_18 => ?_) (fun g8_18 => ?_)
          · try simp only [Bool.and_eq_true, Bool.or_eq_true, Bool.and_eq_false_iff, Bool.or_eq_false_iff, Bool.not_eq_true', Bool.not_eq_false', decide_eq_true_eq, decide_eq_false_iff_not] at g8_18
            refine VO.c (.fa (.r (.r (.l .o)))) ?_
            refine VO.r (.ld vt3) ?_
            refine VO.c (.leq) ?_
            refine VO.c (.move rfl) ?_
            refine VO.cg (r := decide (d.2.2.1 ≤ (3 : Int))) (w := false) [] trivial (fun hgd => have g8_22 : ¬ (d.2.2.1 ≤ (3 : Int)) := (by simpa using hgd); (.fa (.r (.r (.l .o))))) ?_
            refine VO.rg (r := decide (d.2.2.1 ≤ (3 : Int))) (w := false) [(52, .p (.int .i64) d.2.2.1)] ⟨rfl, trivial⟩ (fun hgd => have g8_22 : ¬ (d.2.2.1 ≤ (3 : Int)) := (by simpa using hgd); (.ld vt3)) ?_
            refine VO.cg (r := decide (d.2.2.1 ≤ (3 : Int))) (w := false) [(53, I d.2.2.1)] ⟨rfl, trivial⟩ (fun hgd => have g8_22 : ¬ (d.2.2.1 ≤ (3 : Int)) := (by simpa using hgd); (.gtr)) ?_
            refine VO.c (.or) ?_
            refine VO.c (.pickT rfl rfl) ?_
            refine VO.c (.assign rfl) ?_
            refine VO.nil ?_
            exact ⟨⟨slE rfl (by rw [he, Bool.eq_iff_iff]; simp only [Bool.and_eq_true, Bool.or_eq_true, decide_eq_true_eq, Bool.false_eq_true, true_iff, false_iff] <;> omega), trivial⟩, rfl⟩
          · try simp only [Bool.and_eq_true, Bool.or_eq_true, Bool.and_eq_false_iff, Bool.or_eq_false_iff, Bool.not_eq_true', Bool.not_eq_false', decide_eq_true_eq, decide_eq_false_iff_not] at g8_18
            refine VO.skip ?_
            refine VO.skip ?_
            refine VO.skip ?_
            refine VO.skip ?_
            refine VO.skip ?_
            refine VO.skip ?_
            refine VO.skip ?_
            refine VO.skip ?_
            refine VO.c (.pickF rfl rfl) ?_
            refine VO.c (.assign rfl) ?_
            refine VO.nil ?_
            exact ⟨⟨slE rfl (by rw [he, Bool.eq_iff_iff]; simp only [Bool.and_eq_true, Bool.or_eq_true, decide_eq_true_eq, Bool.false_eq_true, true_iff, false_iff] <;> omega), trivial⟩, rfl⟩
        · try simp only [Bool.and_eq_true, Bool.or_eq_true, Bool.and_eq_false_iff, Bool.or_eq_false_iff, Bool.not_eq_true', Bool.not_eq_false', decide_eq_true_eq, decide_eq_false_iff_not] at g8_8
          refine VO.skip ?_
          refine VO.skip ?_
          refine VO.skip ?_
          refine VO.skip ?_
          refine VO.skip ?_
          refine VO.skip ?_
          refine VO.skip ?_
          refine VO.skip ?_
          refine VO.c (.pickF rfl rfl) ?_
          refine VO.c (.move rfl) ?_
          refine VO.skip ?_
          refine VO.skip ?_
          refine VO.skip ?_
          refine VO.skip ?_
          refine VO.skip ?_
          refine VO.skip ?_
          refine VO.skip ?_
          refine VO.skip ?_
          refine VO.c (.pickF rfl rfl) ?_
          refine VO.c (.assign rfl) ?_
          refine VO.nil ?_
          exact ⟨⟨slE rfl (by rw [he, Bool.eq_iff_iff]; simp only [Bool.and_eq_true, Bool.or_eq_true, decide_eq_true_eq, Bool.false_eq_true, true_iff, false_iff] <;> omega), trivial⟩, rfl⟩
      show VC _ _ _ _ _ _ _ _
      refine VC.ret ?_
      exact VEnd.one rfl evT (pvE (by first | rfl | simp))
def shortS (l : List Pc) (k : Int) : Bool := decide (((l.length : Int) ≤ k ∨ (l.length : Int) = 4097) ∧ ∀ i, i < l.length → (pcA l i).2.1.size ≤ 60 ∧ (pcA l i).2.2.2.2.length ≤ 9)
theorem rShortS_ok {l : List (Int × ByteArray × Int × Int × (List Nat))} {k : Int} (hl : l.length ≤ 9223372036854775807) : VF Tryz.prog OA 53 [.v y96 l, I k] (B (shortS l k)) := by
  refine VF.enter Tryz.func53 rfl (fun _ _ => rfl) rfl ?_
  show VC _ _ _ _ _ [(0, .v y96 l), (1, I k)] [] _
  refine VC.seq ?_
  refine VC.text ?_
  refine VO.c (.assign rfl) ?_
  refine VO.go ?_
  refine VC.seq ?_
  refine VC.seq ?_
  refine VC.text ?_
  refine VO.c (.move rfl) ?_
  refine VO.r (.len el96) ?_
  refine VO.c (.move rfl) ?_
  refine VO.c (.gtr) ?_
  refine VO.c (.move rfl) ?_
  refine VO.cg (r := decide (k < ((l.length : Nat) : Int))) (w := true) [] trivial (fun hgd => have g1_4 : k < ((l.length : Nat) : Int) := (by simpa using hgd); (.move rfl)) ?_
  refine VO.rg (r := decide (k < ((l.length : Nat) : Int))) (w := true) [(11, .v y96 l)] ⟨rfl, trivial⟩ (fun hgd => have g1_4 : k < ((l.length : Nat) : Int) := (by simpa using hgd); (.len el96)) ?_
  refine VO.cg (r := decide (k < ((l.length : Nat) : Int))) (w := true) [(12, I ((l.length : Nat) : Int))] ⟨rfl, trivial⟩ (fun hgd => have g1_4 : k < ((l.length : Nat) : Int) := (by simpa using hgd); (.neq)) ?_
  refine VO.c (.and) ?_
  refine VO.go ?_
  refine VC.condB rfl (fun c1 => ?_) (fun c1 => ?_)
  · try simp only [Bool.and_eq_true, Bool.or_eq_true, Bool.and_eq_false_iff, Bool.or_eq_false_iff, Bool.not_eq_true', Bool.not_eq_false', decide_eq_true_eq, decide_eq_false_iff_not] at c1
    refine VC.seq ?_
    refine VC.text ?_
    refine VO.c (.assign rfl) ?_
    refine VO.go ?_
    refine VC.ret ?_
    exact VEnd.one rfl evT (pvE (by exact (decide_eq_false fun hh => by have := hh.1; omega).symm))
  · try simp only [Bool.and_eq_true, Bool.or_eq_true, Bool.and_eq_false_iff, Bool.or_eq_false_iff, Bool.not_eq_true', Bool.not_eq_false', decide_eq_true_eq, decide_eq_false_iff_not] at c1
    refine VC.skip ?_
    show VC _ _ _ _ _ _ _ _
    refine VC.seq ?_
    refine VC.seq ?_
    refine VC.text ?_
    refine VO.c (.assign rfl) ?_
    refine VO.go ?_
    refine VC.block ?_
    refine VC.keep [(0, .v y96 l), (5, I ((0 : Nat) : Int))] ⟨rfl, rfl, trivial⟩ ?_
    refine VC.loop (I := fun kk ff ss => ∃ (i : Nat), kk = l.length - i ∧ ff = [(0, .v y96 l), (5, I ((i : Nat) : Int))] ∧ ss = [] ∧ (i ≤ l.length) ∧ (∀ j, j < i → (pcA l j).2.1.size ≤ 60 ∧ (pcA l j).2.2.2.2.length ≤ 9)) ?_ _ _ _ ⟨0, rfl, rfl, rfl, Nat.zero_le _, (by intro j hj; omega)⟩
    rintro kk ff ss ⟨i, hk0, rfl, rfl, hi, hn⟩
    refine VC.seq ?_
    refine VC.seq ?_
    refine VC.text ?_
    refine VO.c (.move rfl) ?_
    refine VO.c (.move rfl) ?_
    refine VO.r (.len el96) ?_
    refine VO.c (.lss) ?_
    refine VO.go ?_
    refine VC.condD rfl (fun c4 => ?_) (fun c4 => ?_)
    · have hi' : i < l.length := by omega
      refine VC.skip ?_
      show VC _ _ _ _ _ _ _ _
      refine VC.seq ?_
      refine VC.block ?_
      refine VC.seq ?_
      refine VC.join [(0, .v y96 l), (5, I ((i : Nat) : Int)), (36, B (!decide ((pcA l i).2.1.size ≤ 60 ∧ (pcA l i).2.2.2.2.length ≤ 9)))] [] ?_ ?_
      · skip
        refine VC.text ?_
        refine VO.c (.move rfl) ?_
        refine VO.c (.move rfl) ?_
        refine VO.c (.ix (j := i) rfl rfl el96 (by omega)) ?_
        refine VO.c (.fa (.r (.l .o))) ?_
        refine VO.r (.ld vt9) ?_
        refine VO.r (.lenS) ?_
        refine VO.c (.gtr) ?_
        refine VO.c (.move rfl) ?_
        refine VO.splitD (x := 28) rfl (fun g6_7 => ?_) (fun g6_7 => ?_)
        · refine VO.skip ?_
          refine VO.skip ?_
          refine VO.skip ?_
          refine VO.skip ?_
          refine VO.skip ?_
          refine VO.skip ?_
          refine VO.skip ?_
          refine VO.c (.pickT rfl rfl) ?_
          refine VO.nil ?_
          exact ⟨⟨rfl, rfl, slE rfl (by rw [← pcA_eq hi', Bool.eq_iff_iff]; simp <;> omega), trivial⟩, rfl⟩
        · refine VO.c (.move rfl) ?_
          refine VO.c (.move rfl) ?_
          refine VO.c (.ix (j := i) rfl rfl el96 (by omega)) ?_
          refine VO.c (.fa (.r (.r (.r (.r .o))))) ?_
          refine VO.r (.ld vt124) ?_
          refine VO.r (.len el124) ?_
          refine VO.c (.gtr) ?_
          refine VO.c (.pickF rfl rfl) ?_
          refine VO.nil ?_
          exact ⟨⟨rfl, rfl, slE rfl (by rw [← pcA_eq hi', Bool.eq_iff_iff]; simp <;> omega), trivial⟩, rfl⟩
      show VC _ _ _ _ _ _ _ _
      refine VC.condB rfl (fun c6 => ?_) (fun c6 => ?_)
      · try simp only [Bool.and_eq_true, Bool.or_eq_true, Bool.and_eq_false_iff, Bool.or_eq_false_iff, Bool.not_eq_true', Bool.not_eq_false', decide_eq_true_eq, decide_eq_false_iff_not] at c6
        have c6' : ¬ ((pcA l i).2.1.size ≤ 60 ∧ (pcA l i).2.2.2.2.length ≤ 9) := by omega
        refine VC.seq ?_
        refine VC.text ?_
        refine VO.c (.assign rfl) ?_
        refine VO.go ?_
        refine VC.ret ?_
        exact VEnd.one rfl evT (pvE (by exact (decide_eq_false fun hh => c6' (hh.2 i hi')).symm))
      · try simp only [Bool.and_eq_true, Bool.or_eq_true, Bool.and_eq_false_iff, Bool.or_eq_false_iff, Bool.not_eq_true', Bool.not_eq_false', decide_eq_true_eq, decide_eq_false_iff_not] at c6
        have c6' : (pcA l i).2.1.size ≤ 60 ∧ (pcA l i).2.2.2.2.length ≤ 9 := by omega
        refine VC.skip ?_
        show VC _ _ _ _ _ _ _ _
        refine VC.text ?_
        refine VO.c (.move rfl) ?_
        refine VO.c (.add rfl rfl (by omega)) ?_
        refine VO.c (.assign rfl) ?_
        refine VO.nil ?_
        refine ⟨_, [(0, .v y96 l), (5, I (((i + 1) : Nat) : Int))], ?_, ⟨rfl, rfl, trivial⟩, (i + 1), rfl, rfl, rfl, (by omega), (by intro j hj; rcases Nat.lt_succ_iff_lt_or_eq.1 hj with h | h; exact hn j h; subst h; exact c6')⟩
        omega
    · refine VC.exit ?_
      show VC _ _ _ _ _ _ _ _
      refine VC.seq ?_
      refine VC.text ?_
      refine VO.c (.assign rfl) ?_
      refine VO.go ?_
      refine VC.ret ?_
      exact VEnd.one rfl evT (pvE (by exact (decide_eq_true ⟨by omega, fun j hj => hn j (by omega)⟩).symm))
theorem lDom_ok {d : Int × Int × Int × (List (ByteArray × Int))} (hl : d.2.2.2.length < 100000) : VF Tryz.prog OA 55 [.v y95 d] (.v y106 d) := by
  refine VF.enter Tryz.func55 rfl (fun _ _ => rfl) rfl ?_
  show VC _ _ _ _ _ [(0, .v y95 d)] [] _
  refine VC.seq ?_
  refine VC.text ?_
  refine VO.new (.box) ?_
  refine VO.cell (.alloc zt106) ?_
  intro ww1
  refine VO.go ?_
  refine VC.seq ?_
  refine VC.text ?_
  refine VO.c (.fa (.l .o)) ?_
  refine VO.r (.ld vt3) ?_
  refine VO.c (.fa (.r (.l .o))) ?_
  refine VO.r (.ld vt3) ?_
  refine VO.c (.fa (.r (.r (.l .o)))) ?_
  refine VO.r (.ld vt3) ?_
  refine VO.c (.buildA (cs := [I d.1, I d.2.1, I d.2.2.1, nilV]) bt106 rfl) ?_
  refine VO.cell (.alloc zt106) ?_
  intro ww2
  refine VO.setV (cs' := [I d.1, I d.2.1, I d.2.2.1, nilV]) vt106 (.aggs rfl rfl) ?_
  refine VO.go ?_
  refine VC.seq ?_
  refine VC.seq ?_
  refine VC.text ?_
  refine VO.c (.fa (.r (.r (.r .o)))) ?_
  refine VO.r (.ld vt93) ?_
  refine VO.r (.len el93) ?_
  refine VO.c (.move rfl) ?_
  refine VO.go ?_
  refine VC.block ?_
  refine VC.cell0 210 y210 ?_
  refine VC.keep [(2, .raw ww1), (3, .raw ww2), (14, .v y93 d.2.2.2), (15, I ((d.2.2.2.length : Nat) : Int)), (16, I ((0 : Nat) : Int))] ⟨rfl, rfl, rfl, rfl, rfl, trivial⟩ ?_
  refine VC.loop (I := fun kk ff ss => ∃ (i : Nat) (w : Value), kk = d.2.2.2.length - i ∧ ff = [(2, .raw ww1), (3, .raw ww2), (14, .v y93 d.2.2.2), (15, I ((d.2.2.2.length : Nat) : Int)), (16, I ((i : Nat) : Int))] ∧ ss = [(w, .row 210 y210 (d.2.2.2.take i)), (ww2, .var [I d.1, I d.2.1, I d.2.2.1, .raw w]), (ww1, .var [I (0 : Int), I (0 : Int), I (0 : Int), .v y104 []])] ∧ (i ≤ d.2.2.2.length)) ?_ _ _ _ ⟨0, (.slice none 0 0), rfl, rfl, rfl, Nat.zero_le _⟩
  rintro kk ff ss ⟨i, w, hk0, rfl, rfl, hi⟩
  refine VC.seq ?_
  refine VC.text ?_
  refine VO.c (.lss) ?_
  refine VO.go ?_
  refine VC.seq ?_
  refine VC.condD rfl (fun c3 => ?_) (fun c3 => ?_)
  · refine VC.skip ?_
    show VC _ _ _ _ _ _ _ _
    refine VC.seq ?_
    refine VC.block ?_
    refine VC.seq ?_
    refine VC.text ?_
    refine VO.c (.ix (j := i) rfl rfl el93 (by omega)) ?_
    refine VO.r (.ld vt203) ?_
    refine VO.cell (.alloc zt203) ?_
    intro ww3
    refine VO.setV (cs' := [St ((d.2.2.2[i]).1), I ((d.2.2.2[i]).2)]) vt203 .v ?_
    refine VO.shut [(5, .p y203 (d.2.2.2[i]))] (.cons rfl (.var m0 .refl) .nil) ?_
    refine VO.go ?_
    refine VC.text ?_
    refine VO.c (.faO (k := 3) m1) ?_
    refine VO.r (.ldF (k := 3) m1 vt104) ?_
    refine VO.r (.ld vt203) ?_
    refine VO.new (.lit [d.2.2.2[i]] el104) ?_
    refine VO.app rfl rfl el104 el104 (by simp; omega) ?_
    intro ww4
    refine VO.c (.faO (k := 3) m1) ?_
    refine VO.perm swap1 ?_
    refine VO.one m1 fun ho5 => ?_
    refine VO.setF (cs' := [I d.1, I d.2.1, I d.2.2.1, .raw ww4]) 3 vt104 (.raw rfl (agg_one ho5) ho5) ?_
    refine VO.nil ?_
    show VC _ _ _ _ _ _ _ _
    refine VC.text ?_
    refine VO.c (.add rfl rfl (by omega)) ?_
    refine VO.c (.move rfl) ?_
    refine VO.perm swap2 ?_
    refine VO.perm swap1 ?_
    refine VO.perm swap2 ?_
    refine VO.nil ?_
    refine ⟨_, [(2, .raw ww1), (3, .raw ww2), (14, .v y93 d.2.2.2), (15, I ((d.2.2.2.length : Nat) : Int)), (16, I (((i + 1) : Nat) : Int))], ?_, ⟨rfl, rfl, rfl, rfl, rfl, trivial⟩, (i + 1), ww4, rfl, rfl, (by rw [List.take_succ_eq_append_getElem (by omega)] <;> rfl), (by omega)⟩
    omega
  · refine VC.exit ?_
    show VC _ _ _ _ _ _ _ _
    refine VC.seq ?_
    refine VC.shutL [(w, .row 210 y210 (d.2.2.2.take i)), (ww2, .var [I d.1, I d.2.1, I d.2.2.1, .raw w])] [(3, .p y106 (d.1, d.2.1, d.2.2.1, (d.2.2.2.take i)))] rfl (.cons rfl (.var m1 (.cons .same (.cons .same (.cons .same (.cons (.row m0) .nil))))) .nil) ?_
    refine VC.text ?_
    refine VO.r (.ld vt106) ?_
    refine VO.setV (cs' := [I d.1, I d.2.1, I d.2.2.1, .v y104 (d.2.2.2.take i)]) vt106 .v ?_
    refine VO.go ?_
    refine VC.ret ?_
    exact VEnd.one rfl (.cell (x := (d.1, d.2.1, d.2.2.1, (d.2.2.2.take i))) rfl m0 vt106 .refl) (pvE (by rw [List.take_of_length_le (by omega)]))
theorem lPc_ok {p : Int × ByteArray × Int × Int × (List Nat)} (hl : p.2.2.2.2.length < 100000) : VF Tryz.prog OA 83 [.v y152 p] (.v y160 p) := by
  refine VF.enter Tryz.func83 rfl (fun _ _ => rfl) rfl ?_
  show VC _ _ _ _ _ [(0, .v y152 p)] [] _
  refine VC.seq ?_
  refine VC.text ?_
  refine VO.new (.box) ?_
  refine VO.cell (.alloc zt160) ?_
  intro ww6
  refine VO.go ?_
  refine VC.seq ?_
  refine VC.text ?_
  refine VO.r (.ld vt152) ?_
  refine VO.cell (.alloc zt160) ?_
  intro ww7
  refine VO.setV (cs' := [I p.1, St p.2.1, I p.2.2.1, I p.2.2.2.1, .v y124 p.2.2.2.2]) vt160 .v ?_
  refine VO.go ?_
  refine VC.seq ?_
  refine VC.text ?_
  refine VO.cell (.lit0 el124) ?_
  intro ww8
  refine VO.c (.fa (.r (.r (.r (.r .o))))) ?_
  refine VO.r (.ld vt124) ?_
  refine VO.app rfl rfl el124 el124 (by simp; omega) ?_
  intro ww9
  refine VO.c (.faO (k := 4) m1) ?_
  refine VO.perm swap1 ?_
  refine VO.one m1 fun ho10 => ?_
  refine VO.setF (cs' := [I p.1, St p.2.1, I p.2.2.1, I p.2.2.2.1, .raw ww9]) 4 vt124 (.raw rfl (agg_one ho10) ho10) ?_
  refine VO.go ?_
  refine VC.seq ?_
  refine VC.perm swap1 ?_
  refine VC.shutL [(ww9, .row 127 (.flt .f32) p.2.2.2.2), (ww7, .var [I p.1, St p.2.1, I p.2.2.1, I p.2.2.2.1, .raw ww9])] [(3, .p y160 (p.1, p.2.1, p.2.2.1, p.2.2.2.1, p.2.2.2.2))] rfl (.cons rfl (.var m1 (.cons .same (.cons .same (.cons .same (.cons .same (.cons (.row m0) .nil)))))) .nil) ?_
  refine VC.text ?_
  refine VO.r (.ld vt160) ?_
  refine VO.setV (cs' := [I p.1, St p.2.1, I p.2.2.1, I p.2.2.2.1, .v y124 p.2.2.2.2]) vt160 .v ?_
  refine VO.go ?_
  refine VC.ret ?_
  exact VEnd.one rfl (.cell (x := (p.1, p.2.1, p.2.2.1, p.2.2.2.1, p.2.2.2.2)) rfl m0 vt160 .refl) (pvE (by first | rfl | simp))
theorem lPcs_ok {l : List (Int × ByteArray × Int × Int × (List Nat))} (hl : l.length < 100000) (hr : ∀ r ∈ l, r.2.2.2.2.length < 100000) : VF Tryz.prog OA 56 [.v y96 l] (.v y108 l) := by
  refine VF.enter Tryz.func56 rfl (fun _ _ => rfl) rfl ?_
  show VC _ _ _ _ _ [(0, .v y96 l)] [] _
  refine VC.seq ?_
  refine VC.text ?_
  refine VO.c (.assign rfl) ?_
  refine VO.go ?_
  refine VC.seq ?_
  refine VC.text ?_
  refine VO.c (.assign rfl) ?_
  refine VO.go ?_
  refine VC.seq ?_
  refine VC.seq ?_
  refine VC.text ?_
  refine VO.c (.move rfl) ?_
  refine VO.r (.len el96) ?_
  refine VO.c (.move rfl) ?_
  refine VO.go ?_
  refine VC.block ?_
  refine VC.cell0 160 y160 ?_
  refine VC.keep [(3, .raw (.slice none 0 0)), (6, .v y96 l), (7, I ((l.length : Nat) : Int)), (8, I ((0 : Nat) : Int))] ⟨rfl, rfl, rfl, rfl, trivial⟩ ?_
  refine VC.loop (I := fun kk ff ss => ∃ (j : Nat) (out : Value), kk = l.length - j ∧ ff = [(3, .raw out), (6, .v y96 l), (7, I ((l.length : Nat) : Int)), (8, I ((j : Nat) : Int))] ∧ ss = [(out, .row 160 y160 (l.take j))] ∧ (j ≤ l.length)) ?_ _ _ _ ⟨0, (.slice none 0 0), rfl, rfl, rfl, Nat.zero_le _⟩
  rintro kk ff ss ⟨j, out, hk0, rfl, rfl, hj⟩
  refine VC.seq ?_
  refine VC.text ?_
  refine VO.c (.lss) ?_
  refine VO.go ?_
  refine VC.seq ?_
  refine VC.condD rfl (fun c3 => ?_) (fun c3 => ?_)
  · refine VC.skip ?_
    show VC _ _ _ _ _ _ _ _
    refine VC.seq ?_
    refine VC.block ?_
    refine VC.seq ?_
    refine VC.text ?_
    refine VO.c (.ix (j := j) rfl rfl el96 (by omega)) ?_
    refine VO.r (.ld vt152) ?_
    refine VO.cell (.alloc zt152) ?_
    intro ww11
    refine VO.setV (cs' := [I ((l[j]).1), St ((l[j]).2.1), I ((l[j]).2.2.1), I ((l[j]).2.2.2.1), .v y124 ((l[j]).2.2.2.2)]) vt152 .v ?_
    refine VO.shut [(5, .p y152 (l[j]))] (.cons rfl (.var m0 .refl) .nil) ?_
    refine VO.go ?_
    refine VC.text ?_
    refine VO.c (.move rfl) ?_
    refine VO.r (.ld vt152) ?_
    refine VO.call rfl rfl (VF.call (lPc_ok (hr _ (List.getElem_mem _)))) ?_
    refine VO.new (.lit [(l[j])] el108) ?_
    refine VO.app rfl rfl el108 el108 (by simp; omega) ?_
    intro ww12
    refine VO.c (.assign rfl) ?_
    refine VO.nil ?_
    show VC _ _ _ _ _ _ _ _
    refine VC.text ?_
    refine VO.c (.add rfl rfl (by omega)) ?_
    refine VO.c (.move rfl) ?_
    refine VO.nil ?_
    refine ⟨_, [(3, .raw ww12), (6, .v y96 l), (7, I ((l.length : Nat) : Int)), (8, I (((j + 1) : Nat) : Int))], ?_, ⟨rfl, rfl, rfl, rfl, trivial⟩, (j + 1), ww12, rfl, rfl, (by rw [List.take_succ_eq_append_getElem (by omega)] <;> rfl), (by omega)⟩
    omega
  · refine VC.exit ?_
    show VC _ _ _ _ _ _ _ _
    refine VC.seq ?_
    refine VC.text ?_
    refine VO.c (.move rfl) ?_
    refine VO.c (.assign rfl) ?_
    refine VO.go ?_
    refine VC.ret ?_
    exact VEnd.one rfl (evC (.row m0)) (pvE (by rw [List.take_of_length_le (by omega)]))
end Go.Proofs
