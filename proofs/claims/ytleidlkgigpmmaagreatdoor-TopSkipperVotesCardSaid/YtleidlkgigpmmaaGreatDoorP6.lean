/- Parts of the proof: an evaluator of the model, what it is sound for, and contracts of functions. No condition. -/
import Derived.Test.YtleidlkgigpmmaaGreatDoorP5
import Derived.Test.YtleidlkgigpmmaaGreatDoorP3
import Derived.Test.YtleidlkgigpmmaaGreatDoorChecked
import Derived.ChangeArms
import Derived.Carry
import Derived.RowKit
import Derived.OpenShut
set_option linter.all false
namespace Go.Proofs
open Go.Fs
def OA := orcA 66 66 6
theorem awake_ok : VF Tryz.prog OA 6 [] (B true) := VF.oracle (fun _ => rfl) fun _ _ => ⟨rfl, rfl⟩
abbrev y42 : Ty := (.sl (.int .i64))
abbrev y65 : Ty := (.sl (.int .i64))
theorem vt3 : ValT Tryz.prog 3 (.int .i64) := valT_of (by kernel_rfl)
theorem vt32 : ValT Tryz.prog 32 (.int .i64) := valT_of (by kernel_rfl)
theorem el42 : ElT Tryz.prog 42 3 (.int .i64) := elT_of (by kernel_rfl)
theorem el65 : ElT Tryz.prog 65 32 (.int .i64) := elT_of (by kernel_rfl)
def whenE (c : Bool) (e : Int) : Int := bif c then e else 0
theorem gWhen_ok {c : Bool} {e : Int} : VF Tryz.prog OA 46 [B c, I e] (I (whenE c e)) := by
  refine VF.enter Tryz.func46 rfl (fun _ _ => rfl) rfl ?_; show VC _ _ _ _ _ [(0, B c), (1, I e)] [] _; refine VC.seq (VC.text ?_); refine VO.c (.assign rfl) ?_; refine VO.go (VC.seq (VC.seq (VC.text ?_))); refine VO.c (.move rfl) (VO.go ?_); refine VC.condB rfl (fun c1 => ?_) (fun c1 => ?_)
  · subst c1; refine VC.seq (VC.text ?_); refine VO.c (.move rfl) (VO.c (.assign rfl) (VO.go ?_)); refine VC.ret ?_; exact VEnd.one rfl evT (pvI (by rfl))
  subst c1; refine VC.skip (VC.seq (VC.text ?_)); refine VO.c (.assign rfl) (VO.go ?_); refine VC.ret ?_; exact VEnd.one rfl evT (pvI (by rfl))
def rangeE (n lo hi : Int) : Int := if n < lo ∨ hi < n then 3 else 0
theorem rCheckRange_ok {n : Int} {lo : Int} {hi : Int} : VF Tryz.prog OA 19 [I n, I lo, I hi] (I (rangeE n lo hi)) := by
  refine VF.enter Tryz.func19 rfl (fun _ _ => rfl) rfl ?_; show VC _ _ _ _ _ [(0, I n), (1, I lo), (2, I hi)] [] _; refine VC.seq (VC.text ?_); refine VO.c (.assign rfl) ?_; refine VO.go (VC.seq (VC.seq (VC.text ?_))); refine VO.c (.move rfl) (VO.c (.move rfl) (VO.c (.lss) (VO.c (.move rfl) ?_))); refine VO.cg (r := decide (n < lo)) (w := false) [] trivial (fun _ => (.move rfl)) ?_; refine VO.cg (r := decide (n < lo)) (w := false) [] trivial (fun _ => (.move rfl)) ?_; refine VO.cg (r := decide (n < lo)) (w := false) [(11, I n), (12, I hi)] ⟨rfl, rfl, trivial⟩ (fun _ => (.gtr)) ?_; refine VO.c (.or) (VO.go ?_); refine VC.condB rfl (fun c1 => ?_) (fun c1 => ?_)
  · try simp only [Bool.and_eq_true, Bool.or_eq_true, Bool.and_eq_false_iff, Bool.or_eq_false_iff, Bool.not_eq_true', Bool.not_eq_false', decide_eq_true_eq, decide_eq_false_iff_not] at c1
    refine VC.seq (VC.text ?_); refine VO.c (.assign rfl) (VO.go ?_); refine VC.ret ?_; exact VEnd.one rfl evT (pvI (by simp only [rangeE, ← Bool.decide_or, decide_eq_true_eq, decide_eq_false_iff_not, Bool.or_eq_true, Bool.or_eq_false_iff] at *; first | rw [if_pos (by omega)] | rw [if_neg (by omega)]))
  try simp only [Bool.and_eq_true, Bool.or_eq_true, Bool.and_eq_false_iff, Bool.or_eq_false_iff, Bool.not_eq_true', Bool.not_eq_false', decide_eq_true_eq, decide_eq_false_iff_not] at c1
  refine VC.skip (VC.seq (VC.text ?_)); refine VO.c (.assign rfl) (VO.go ?_); refine VC.ret ?_; exact VEnd.one rfl evT (pvI (by simp only [rangeE, ← Bool.decide_or, decide_eq_true_eq, decide_eq_false_iff_not, Bool.or_eq_true, Bool.or_eq_false_iff] at *; first | rw [if_pos (by omega)] | rw [if_neg (by omega)]))
theorem whenE_range {n lo hi : Int} : whenE (decide (n < lo) || decide (hi < n)) 3 = rangeE n lo hi := by
  unfold whenE rangeE; by_cases h1 : n < lo <;> by_cases h2 : hi < n <;> simp [h1, h2]
theorem gWithin_ok {n : Int} {lo : Int} {hi : Int} : VF Tryz.prog OA 29 [I n, I lo, I hi] (I (rangeE n lo hi)) := by
  refine VF.enter Tryz.func29 rfl (fun _ _ => rfl) rfl ?_; show VC _ _ _ _ _ [(0, I n), (1, I lo), (2, I hi)] [] _; refine VC.seq (VC.text ?_); refine VO.c (.assign rfl) ?_; refine VO.go (VC.seq (VC.text ?_)); refine VO.c (.move rfl) (VO.c (.move rfl) (VO.c (.lss) (VO.c (.move rfl) ?_))); refine VO.cg (r := decide (n < lo)) (w := false) [] trivial (fun _ => (.move rfl)) ?_; refine VO.cg (r := decide (n < lo)) (w := false) [] trivial (fun _ => (.move rfl)) ?_; refine VO.cg (r := decide (n < lo)) (w := false) [(11, I n), (12, I hi)] ⟨rfl, rfl, trivial⟩ (fun _ => (.gtr)) ?_; refine VO.c (.or) ?_; refine VO.call rfl rfl (VF.call (gWhen_ok )) ?_; refine VO.c (.assign rfl) (VO.go ?_); refine VC.ret ?_; exact VEnd.one rfl evT (pvI (by exact whenE_range))
def firstE : List Int → Int
  | [] => 0
  | x :: r => if x = 0 then firstE r else x
theorem firstE_drop {xs : List Int} {j : Nat} (hj : j < xs.length) : firstE (xs.drop j) = if xs[j] = 0 then firstE (xs.drop (j + 1)) else xs[j] := by
  rw [List.drop_eq_getElem_cons hj] <;> rfl
theorem firstE_end {xs : List Int} {j : Nat} (hj : xs.length ≤ j) : firstE (xs.drop j) = 0 := by rw [List.drop_eq_nil_of_le hj] <;> rfl
theorem gFirst_ok {l : List Int} (hl : l.length < 1000000) : VF Tryz.prog OA 26 [.v y65 l] (I (firstE l)) := by
  refine VF.enter Tryz.func26 rfl (fun _ _ => rfl) rfl ?_; show VC _ _ _ _ _ [(0, .v y65 l)] [] _; refine VC.seq (VC.text ?_); refine VO.c (.assign rfl) ?_; refine VO.go (VC.seq (VC.seq (VC.text ?_))); refine VO.c (.move rfl) ?_; refine VO.r (.len el65) ?_; refine VO.c (.move rfl) ?_; refine VO.go (VC.block ?_); refine VC.keep [(5, .v y65 l), (6, I ((l.length : Nat) : Int)), (7, I ((0 : Nat) : Int))] ⟨rfl, rfl, rfl, trivial⟩ ?_; refine VC.loop (I := fun kk ff ss => ∃ (j : Nat), kk = l.length - j ∧ ff = [(5, .v y65 l), (6, I ((l.length : Nat) : Int)), (7, I ((j : Nat) : Int))] ∧ ss = [] ∧ (j ≤ l.length) ∧ (firstE l = firstE (l.drop j))) ?_ _ _ _ ⟨0, rfl, rfl, rfl, Nat.zero_le _, (by rfl)⟩; rintro kk ff ss ⟨j, hk0, rfl, rfl, hj, hf⟩; refine VC.seq (VC.text ?_); refine VO.c (.lss) ?_; refine VO.go (VC.seq ?_); refine VC.condD rfl (fun c2 => ?_) (fun c2 => ?_)
  · refine VC.skip (VC.seq (VC.block (VC.seq (VC.text ?_)))); refine VO.c (.ix (j := j) rfl rfl el65 (by omega)) ?_; refine VO.r (.ld vt32) ?_; refine VO.c (.assign rfl) ?_; refine VO.go (VC.seq (VC.text ?_)); refine VO.c (.move rfl) (VO.c (.neq) (VO.go ?_)); refine VC.condD rfl (fun c4 => ?_) (fun c4 => ?_)
    · refine VC.seq (VC.text ?_); refine VO.c (.move rfl) (VO.c (.assign rfl) (VO.go ?_)); refine VC.ret ?_; exact VEnd.one rfl evT (pvI (by rw [hf, firstE_drop (by omega), if_neg c4]))
    refine VC.skip (VC.text ?_); refine VO.c (.add rfl rfl (by omega)) (VO.c (.move rfl) ?_); refine VO.nil ?_; refine ⟨_, [(5, .v y65 l), (6, I ((l.length : Nat) : Int)), (7, I (((j + 1) : Nat) : Int))], ?_, ⟨rfl, rfl, rfl, trivial⟩, (j + 1), rfl, rfl, rfl, (by omega), (by rw [hf, firstE_drop (by omega), if_pos (by simpa using c4)])⟩; omega
  refine VC.exit (VC.seq (VC.text ?_)); refine VO.c (.assign rfl) (VO.go ?_); refine VC.ret ?_; exact VEnd.one rfl evT (pvI (by rw [hf, firstE_end (by omega)]))
theorem rFirst_ok {l : List Int} (hl : l.length < 1000000) : VF Tryz.prog OA 17 [.v y42 l] (I (firstE l)) := by
  refine VF.enter Tryz.func17 rfl (fun _ _ => rfl) rfl ?_; show VC _ _ _ _ _ [(0, .v y42 l)] [] _; refine VC.seq (VC.text ?_); refine VO.c (.assign rfl) ?_; refine VO.go (VC.seq (VC.seq (VC.text ?_))); refine VO.c (.assign rfl) ?_; refine VO.go (VC.block ?_); refine VC.keep [(0, .v y42 l), (3, I ((0 : Nat) : Int))] ⟨rfl, rfl, trivial⟩ ?_; refine VC.loop (I := fun kk ff ss => ∃ (j : Nat), kk = l.length - j ∧ ff = [(0, .v y42 l), (3, I ((j : Nat) : Int))] ∧ ss = [] ∧ (j ≤ l.length) ∧ (firstE l = firstE (l.drop j))) ?_ _ _ _ ⟨0, rfl, rfl, rfl, Nat.zero_le _, (by rfl)⟩; rintro kk ff ss ⟨j, hk0, rfl, rfl, hj, hf⟩; refine VC.seq (VC.seq (VC.text ?_)); refine VO.c (.move rfl) (VO.c (.move rfl) ?_); refine VO.r (.len el42) ?_; refine VO.c (.lss) (VO.go ?_); refine VC.condD rfl (fun c2 => ?_) (fun c2 => ?_)
  · refine VC.skip (VC.seq (VC.block (VC.seq (VC.text ?_)))); refine VO.c (.move rfl) (VO.c (.move rfl) (VO.c (.ix (j := j) rfl rfl el42 (by omega)) ?_)); refine VO.r (.ld vt3) ?_; refine VO.c (.neq) (VO.go ?_); refine VC.condD rfl (fun c4 => ?_) (fun c4 => ?_)
    · refine VC.seq (VC.text ?_); refine VO.c (.move rfl) (VO.c (.move rfl) (VO.c (.ix (j := j) rfl rfl el42 (by omega)) ?_)); refine VO.r (.ld vt3) ?_; refine VO.c (.assign rfl) (VO.go ?_); refine VC.ret ?_; exact VEnd.one rfl evT (pvI (by rw [hf, firstE_drop (by omega), if_neg c4]))
    refine VC.skip (VC.text ?_); refine VO.c (.move rfl) (VO.c (.add rfl rfl (by omega)) (VO.c (.assign rfl) ?_)); refine VO.nil ?_; refine ⟨_, [(0, .v y42 l), (3, I (((j + 1) : Nat) : Int))], ?_, ⟨rfl, rfl, trivial⟩, (j + 1), rfl, rfl, rfl, (by omega), (by rw [hf, firstE_drop (by omega), if_pos (by simpa using c4)])⟩; omega
  refine VC.exit (VC.seq (VC.text ?_)); refine VO.c (.assign rfl) (VO.go ?_); refine VC.ret ?_; exact VEnd.one rfl evT (pvI (by rw [hf, firstE_end (by omega)]))
end Go.Proofs
namespace Go.Proofs
open Go.Fs Ieee
def letterB (c : Int) : Bool := decide (65 ≤ c ∧ c ≤ 90 ∨ 97 ≤ c ∧ c ≤ 122)
def otherB (c : Int) : Bool := decide (48 ≤ c ∧ c ≤ 57 ∨ c = 95)
def byteB (c : Int) (i : Nat) : Bool := letterB c || (decide (i ≠ 0) && otherB c)
def nameB (s : ByteArray) : Bool := decide (s.size ≠ 0 ∧ s.size ≤ 24 ∧ ∀ i, i < s.size → byteB (byteE s i) i = true)
theorem nameB_f {s : ByteArray} {i : Nat} (hi : i < s.size) (h : byteB (byteE s i) i = false) : false = nameB s := by
  refine (decide_eq_false fun hh => ?_).symm; rw [hh.2.2 i hi] at h; cases h
theorem nameB_t {s : ByteArray} (h1 : s.size ≠ 0) (h2 : s.size ≤ 24) (h : ∀ i, i < s.size → byteB (byteE s i) i = true) : true = nameB s := (decide_eq_true ⟨h1, h2, h⟩).symm
theorem size_empty {s : ByteArray} : s ≠ ByteArray.empty ↔ s.size ≠ 0 := by
  constructor
  · intro h e; exact h (ByteArray.ext (Array.eq_empty_of_size_eq_zero e))
  rintro h rfl; exact h rfl
theorem byteB_high {c : Int} {i : Nat} (h : 128 ≤ c) : byteB c i = false := by
  have h1 : letterB c = false := decide_eq_false (by omega); have h2 : otherB c = false := decide_eq_false (by omega); rw [byteB, h1, h2]; simp
theorem rune_f {s : ByteArray} {p : Nat} (h : byteB ((Utf8.decode s p).1 : Nat) p = false) : byteB (byteE s p) p = false := by
  by_cases hl : (s.get! p).toNat < 128
  · rw [decode_low hl] at h; exact h
  exact byteB_high (by rw [byteE_nat]; omega)
theorem rune_t {s : ByteArray} {p : Nat} (h : byteB ((Utf8.decode s p).1 : Nat) p = true) : byteB (byteE s p) p = true ∧ (Utf8.decode s p).2 = 1 := by
  by_cases hl : (s.get! p).toNat < 128
  · rw [decode_low hl] at h ⊢; exact ⟨h, rfl⟩
  have := Go.Fs.decode_high hl; rw [byteB_high (by omega)] at h; cases h
theorem name_end {s : ByteArray} (h : ∀ i, i < s.size → byteB (byteE s i) i = true) : (decide (s ≠ ByteArray.empty) && decide (((s.size : Nat) : Int) ≤ 24)) = nameB s := by
  rw [← Bool.decide_and]; exact decide_eq_decide.2 ⟨fun hh => ⟨size_empty.1 hh.1, by omega, h⟩, fun hh => ⟨size_empty.2 hh.1, by omega⟩⟩
theorem gName_ok {s : ByteArray} : VF Tryz.prog OA 47 [St s] (B (nameB s)) := by
  refine VF.enter Tryz.func47 rfl (fun _ _ => rfl) rfl ?_; show VC _ _ _ _ _ [(0, St s)] [] _; refine VC.seq (VC.text ?_); refine VO.c (.assign rfl) ?_; refine VO.go (VC.seq (VC.seq (VC.text ?_))); refine VO.c (.move rfl) ?_; refine VO.cell (.rng) ?_; intro ww1; refine VO.go (VC.block ?_); refine VC.keep [(0, St s), (8, .raw ww1)] ⟨rfl, rfl, trivial⟩ ?_; refine VC.loop (I := fun kk ff ss => ∃ (p : Nat), kk = s.size - p ∧ ff = [(0, St s), (8, .raw ww1)] ∧ ss = [(ww1, .it s p)] ∧ (p ≤ s.size) ∧ (∀ i, i < p → byteB (byteE s i) i = true)) ?_ _ _ _ ⟨0, rfl, rfl, rfl, Nat.zero_le _, (by intro i hi; omega)⟩; rintro kk ff ss ⟨p, hk0, rfl, rfl, hp, hq⟩; refine VC.seq (VC.text ?_); refine VO.next rfl (fun h2_0 => ?_) (fun h2_0 => ?_)
  · refine VO.c (.extract) ?_; refine VO.go (VC.seq ?_); refine VC.condT rfl ?_; refine VC.skip (VC.block (VC.seq (VC.text ?_))); refine VO.c (.extract) (VO.c (.extract) (VO.c (.assign rfl) (VO.c (.assign rfl) ?_))); refine VO.go (VC.seq ?_); refine VC.join [(0, St s), (3, I ((p : Nat) : Int)), (4, .v (.int .i32) (((Utf8.decode s p).1 : Nat) : Int)), (5, B (letterB ((Utf8.decode s p).1 : Nat))), (8, .raw ww1)] [(ww1, .it s (p + (Utf8.decode s p).2))] ?_ ?_
    · skip
      refine VC.text ?_; refine VO.c (.move rfl) (VO.c (.geq) (VO.c (.move rfl) ?_)); refine VO.splitD (x := 15) rfl (fun g4_2 => ?_) (fun g4_2 => ?_)
      · refine VO.c (.move rfl) (VO.c (.leq) (VO.c (.pickT rfl rfl) (VO.c (.move rfl) ?_))); refine VO.splitD (x := 19) rfl (fun g4_6 => ?_) (fun g4_6 => ?_)
        · refine VO.skip (VO.skip (VO.skip (VO.skip ?_))); refine VO.skip (VO.skip (VO.c (.pickT rfl rfl) (VO.c (.assign rfl) ?_))); refine VO.nil ?_; exact ⟨⟨rfl, rfl, rfl, slE rfl (by rw [Bool.eq_iff_iff]; simp [letterB] <;> omega), rfl, trivial⟩, rfl⟩
        refine VO.c (.move rfl) (VO.c (.geq) (VO.c (.move rfl) ?_)); refine VO.cg (r := decide ((97 : Int) ≤ (((Utf8.decode s p).1 : Nat) : Int))) (w := true) [] trivial (fun _ => (.move rfl)) ?_; refine VO.cg (r := decide ((97 : Int) ≤ (((Utf8.decode s p).1 : Nat) : Int))) (w := true) [(23, .v (.int .i32) (((Utf8.decode s p).1 : Nat) : Int))] ⟨rfl, trivial⟩ (fun _ => (.leq)) ?_; refine VO.c (.and) (VO.c (.pickF rfl rfl) (VO.c (.assign rfl) ?_)); refine VO.nil ?_; exact ⟨⟨rfl, rfl, rfl, slE rfl (by rw [Bool.eq_iff_iff]; simp [letterB] <;> omega), rfl, trivial⟩, rfl⟩
      refine VO.skip (VO.skip (VO.c (.pickF rfl rfl) (VO.c (.move rfl) ?_))); refine VO.c (.move rfl) (VO.c (.geq) (VO.c (.move rfl) ?_)); refine VO.cg (r := decide ((97 : Int) ≤ (((Utf8.decode s p).1 : Nat) : Int))) (w := true) [] trivial (fun _ => (.move rfl)) ?_; refine VO.cg (r := decide ((97 : Int) ≤ (((Utf8.decode s p).1 : Nat) : Int))) (w := true) [(23, .v (.int .i32) (((Utf8.decode s p).1 : Nat) : Int))] ⟨rfl, trivial⟩ (fun _ => (.leq)) ?_; refine VO.c (.and) (VO.c (.pickF rfl rfl) (VO.c (.assign rfl) ?_)); refine VO.nil ?_; exact ⟨⟨rfl, rfl, rfl, slE rfl (by rw [Bool.eq_iff_iff]; simp [letterB] <;> omega), rfl, trivial⟩, rfl⟩
    refine VC.seq ?_; refine VC.join [(0, St s), (3, I ((p : Nat) : Int)), (5, B (letterB ((Utf8.decode s p).1 : Nat))), (6, B (otherB ((Utf8.decode s p).1 : Nat))), (8, .raw ww1)] [(ww1, .it s (p + (Utf8.decode s p).2))] ?_ ?_
    · skip
      refine VC.text ?_; refine VO.c (.move rfl) (VO.c (.geq) (VO.c (.move rfl) ?_)); refine VO.splitD (x := 29) rfl (fun g5_2 => ?_) (fun g5_2 => ?_)
      · refine VO.c (.move rfl) (VO.c (.leq) (VO.c (.pickT rfl rfl) (VO.c (.move rfl) ?_))); refine VO.cg (r := decide ((((Utf8.decode s p).1 : Nat) : Int) ≤ (57 : Int))) (w := false) [] trivial (fun _ => (.move rfl)) ?_; refine VO.cg (r := decide ((((Utf8.decode s p).1 : Nat) : Int) ≤ (57 : Int))) (w := false) [(34, .v (.int .i32) (((Utf8.decode s p).1 : Nat) : Int))] ⟨rfl, trivial⟩ (fun _ => (.eql)) ?_; refine VO.c (.or) (VO.c (.assign rfl) ?_); refine VO.nil ?_; exact ⟨⟨rfl, rfl, rfl, slE rfl (by rw [Bool.eq_iff_iff]; simp [otherB] <;> omega), rfl, trivial⟩, rfl⟩
      refine VO.skip (VO.skip (VO.c (.pickF rfl rfl) (VO.c (.move rfl) ?_))); refine VO.c (.move rfl) (VO.c (.eql) (VO.c (.pickF rfl rfl) (VO.c (.assign rfl) ?_))); refine VO.nil ?_; exact ⟨⟨rfl, rfl, rfl, slE rfl (by rw [Bool.eq_iff_iff]; simp [otherB] <;> omega), rfl, trivial⟩, rfl⟩
    refine VC.seq ?_; refine VC.join [(0, St s), (8, .raw ww1), (46, B (!byteB ((Utf8.decode s p).1 : Nat) p))] [(ww1, .it s (p + (Utf8.decode s p).2))] ?_ ?_
    · skip
      refine VC.text ?_; refine VO.c (.move rfl) (VO.c (.not) (VO.c (.move rfl) ?_)); refine VO.splitB (x := 39) rfl (fun g6_2 => ?_) (fun g6_2 => ?_)
      · try simp only [Bool.and_eq_true, Bool.or_eq_true, Bool.and_eq_false_iff, Bool.or_eq_false_iff, Bool.not_eq_true', Bool.not_eq_false', decide_eq_true_eq, decide_eq_false_iff_not] at g6_2
        refine VO.c (.move rfl) (VO.c (.eql) (VO.c (.move rfl) ?_)); refine VO.cg (r := decide (((p : Nat) : Int) = (0 : Int))) (w := false) [] trivial (fun _ => (.move rfl)) ?_; refine VO.cg (r := decide (((p : Nat) : Int) = (0 : Int))) (w := false) [(43, B (otherB ((Utf8.decode s p).1 : Nat)))] ⟨rfl, trivial⟩ (fun _ => (.not)) ?_; refine VO.c (.or) (VO.c (.pickT rfl rfl) ?_); refine VO.nil ?_; exact ⟨⟨rfl, rfl, slE rfl (by simp [byteB, *]), trivial⟩, rfl⟩
      try simp only [Bool.and_eq_true, Bool.or_eq_true, Bool.and_eq_false_iff, Bool.or_eq_false_iff, Bool.not_eq_true', Bool.not_eq_false', decide_eq_true_eq, decide_eq_false_iff_not] at g6_2
      refine VO.skip (VO.skip (VO.skip (VO.skip ?_))); refine VO.skip (VO.skip (VO.c (.pickF rfl rfl) ?_)); refine VO.nil ?_; exact ⟨⟨rfl, rfl, slE rfl (by simp [byteB, *]), trivial⟩, rfl⟩
    refine VC.condB rfl (fun c6 => ?_) (fun c6 => ?_)
    · try simp only [Bool.and_eq_true, Bool.or_eq_true, Bool.and_eq_false_iff, Bool.or_eq_false_iff, Bool.not_eq_true', Bool.not_eq_false', decide_eq_true_eq, decide_eq_false_iff_not] at c6
      refine VC.seq (VC.text ?_); refine VO.c (.assign rfl) (VO.go ?_); refine VC.ret ?_; exact VEnd.one rfl evT (pvE (by exact nameB_f h2_0 (rune_f c6)))
    try simp only [Bool.and_eq_true, Bool.or_eq_true, Bool.and_eq_false_iff, Bool.or_eq_false_iff, Bool.not_eq_true', Bool.not_eq_false', decide_eq_true_eq, decide_eq_false_iff_not] at c6
    refine VC.skip ?_; refine ⟨_, [(0, St s), (8, .raw ww1)], ?_, ⟨rfl, rfl, trivial⟩, (p + 1), rfl, rfl, (by rw [(rune_t c6).2]), (by omega), (by intro i hi; rcases Nat.lt_succ_iff_lt_or_eq.1 hi with h | h; exact hq i h; subst h; exact (rune_t c6).1)⟩; omega
  refine VO.c (.ext0) ?_; refine VO.go (VC.seq ?_); refine VC.condF rfl ?_; refine VC.exit (VC.seq (VC.text ?_)); refine VO.c (.move rfl) (VO.c (.sneq) (VO.c (.move rfl) ?_)); refine VO.cg (r := decide (s ≠ ByteArray.empty)) (w := true) [] trivial (fun _ => (.move rfl)) ?_; refine VO.rg (r := decide (s ≠ ByteArray.empty)) (w := true) [(50, St s)] ⟨rfl, trivial⟩ (fun _ => (.lenS)) ?_; refine VO.cg (r := decide (s ≠ ByteArray.empty)) (w := true) [(51, I ((s.size : Nat) : Int))] ⟨rfl, trivial⟩ (fun _ => (.leq)) ?_; refine VO.c (.and) (VO.c (.assign rfl) (VO.go ?_)); refine VC.ret ?_; exact VEnd.one rfl evT (pvE (by exact name_end (fun i hi => hq i (by omega))))
theorem rName_ok {s : ByteArray} : VF Tryz.prog OA 35 [St s] (B (nameB s)) := by
  refine VF.enter Tryz.func35 rfl (fun _ _ => rfl) rfl ?_; show VC _ _ _ _ _ [(0, St s)] [] _; refine VC.seq (VC.text ?_); refine VO.c (.assign rfl) ?_; refine VO.go (VC.seq (VC.seq (VC.text ?_))); refine VO.c (.move rfl) ?_; refine VO.r (.lenS) ?_; refine VO.c (.eql) (VO.c (.move rfl) ?_); refine VO.cg (r := decide (((s.size : Nat) : Int) = (0 : Int))) (w := false) [] trivial (fun _ => (.move rfl)) ?_; refine VO.rg (r := decide (((s.size : Nat) : Int) = (0 : Int))) (w := false) [(9, St s)] ⟨rfl, trivial⟩ (fun _ => (.lenS)) ?_; refine VO.cg (r := decide (((s.size : Nat) : Int) = (0 : Int))) (w := false) [(10, I ((s.size : Nat) : Int))] ⟨rfl, trivial⟩ (fun _ => (.gtr)) ?_; refine VO.c (.or) (VO.go ?_); refine VC.condB rfl (fun c1 => ?_) (fun c1 => ?_)
  · try simp only [Bool.and_eq_true, Bool.or_eq_true, Bool.and_eq_false_iff, Bool.or_eq_false_iff, Bool.not_eq_true', Bool.not_eq_false', decide_eq_true_eq, decide_eq_false_iff_not] at c1
    refine VC.seq (VC.text ?_); refine VO.c (.assign rfl) (VO.go ?_); refine VC.ret ?_; exact VEnd.one rfl evT (pvE (by exact (decide_eq_false fun hh => by have := hh.1; have := hh.2.1; omega).symm))
  try simp only [Bool.and_eq_true, Bool.or_eq_true, Bool.and_eq_false_iff, Bool.or_eq_false_iff, Bool.not_eq_true', Bool.not_eq_false', decide_eq_true_eq, decide_eq_false_iff_not] at c1
  refine VC.skip (VC.seq (VC.seq (VC.text ?_))); refine VO.c (.assign rfl) ?_; refine VO.go (VC.block ?_); refine VC.keep [(0, St s), (3, I ((0 : Nat) : Int))] ⟨rfl, rfl, trivial⟩ ?_; refine VC.loop (I := fun kk ff ss => ∃ (i : Nat), kk = s.size - i ∧ ff = [(0, St s), (3, I ((i : Nat) : Int))] ∧ ss = [] ∧ (i ≤ s.size) ∧ (∀ k, k < i → byteB (byteE s k) k = true)) ?_ _ _ _ ⟨0, rfl, rfl, rfl, Nat.zero_le _, (by intro k hk; omega)⟩; rintro kk ff ss ⟨i, hk0, rfl, rfl, hi, hq⟩; refine VC.seq (VC.seq (VC.text ?_)); refine VO.c (.move rfl) (VO.c (.move rfl) ?_); refine VO.r (.lenS) ?_; refine VO.c (.lss) (VO.go ?_); refine VC.condD rfl (fun c4 => ?_) (fun c4 => ?_)
  · refine VC.skip (VC.seq (VC.block (VC.seq (VC.text ?_)))); refine VO.c (.move rfl) (VO.c (.move rfl) (VO.c (.ixS rfl rfl (by omega) (by omega)) (VO.c (.assign rfl) ?_))); refine VO.go (VC.seq (VC.seq ?_)); refine VC.join [(0, St s), (3, I ((i : Nat) : Int)), (4, .v (.int .u8) (byteE s ((i : Nat) : Int))), (35, B (letterB (byteE s i)))] [] ?_ ?_
    · skip
      refine VC.text ?_; refine VO.c (.move rfl) (VO.c (.geq) (VO.c (.move rfl) ?_)); refine VO.splitD (x := 24) rfl (fun g7_2 => ?_) (fun g7_2 => ?_)
      · refine VO.c (.move rfl) (VO.c (.leq) (VO.c (.pickT rfl rfl) (VO.c (.move rfl) ?_))); refine VO.splitD (x := 28) rfl (fun g7_6 => ?_) (fun g7_6 => ?_)
        · refine VO.skip (VO.skip (VO.skip (VO.skip ?_))); refine VO.skip (VO.skip (VO.c (.pickT rfl rfl) ?_)); refine VO.nil ?_; exact ⟨⟨rfl, rfl, rfl, slE rfl (by rw [Bool.eq_iff_iff]; simp [letterB] <;> omega), trivial⟩, rfl⟩
        refine VO.c (.move rfl) (VO.c (.geq) (VO.c (.move rfl) ?_)); refine VO.cg (r := decide ((65 : Int) ≤ (byteE s ((i : Nat) : Int)))) (w := true) [] trivial (fun _ => (.move rfl)) ?_; refine VO.cg (r := decide ((65 : Int) ≤ (byteE s ((i : Nat) : Int)))) (w := true) [(32, .v (.int .u8) (byteE s ((i : Nat) : Int)))] ⟨rfl, trivial⟩ (fun _ => (.leq)) ?_; refine VO.c (.and) (VO.c (.pickF rfl rfl) ?_); refine VO.nil ?_; exact ⟨⟨rfl, rfl, rfl, slE rfl (by rw [Bool.eq_iff_iff]; simp [letterB] <;> omega), trivial⟩, rfl⟩
      refine VO.skip (VO.skip (VO.c (.pickF rfl rfl) (VO.c (.move rfl) ?_))); refine VO.c (.move rfl) (VO.c (.geq) (VO.c (.move rfl) ?_)); refine VO.cg (r := decide ((65 : Int) ≤ (byteE s ((i : Nat) : Int)))) (w := true) [] trivial (fun _ => (.move rfl)) ?_; refine VO.cg (r := decide ((65 : Int) ≤ (byteE s ((i : Nat) : Int)))) (w := true) [(32, .v (.int .u8) (byteE s ((i : Nat) : Int)))] ⟨rfl, trivial⟩ (fun _ => (.leq)) ?_; refine VO.c (.and) (VO.c (.pickF rfl rfl) ?_); refine VO.nil ?_; exact ⟨⟨rfl, rfl, rfl, slE rfl (by rw [Bool.eq_iff_iff]; simp [letterB] <;> omega), trivial⟩, rfl⟩
    refine VC.condB rfl (fun c7 => ?_) (fun c7 => ?_)
    · have hok : byteB (byteE s i) i = true := by rw [byteB, c7] <;> rfl
      refine VC.exit (VC.text ?_); refine VO.c (.move rfl) (VO.c (.add rfl rfl (by omega)) (VO.c (.assign rfl) ?_)); refine VO.nil ?_; refine ⟨_, [(0, St s), (3, I (((i + 1) : Nat) : Int))], ?_, ⟨rfl, rfl, trivial⟩, (i + 1), rfl, rfl, rfl, (by omega), (by intro k hk; rcases Nat.lt_succ_iff_lt_or_eq.1 hk with h | h; exact hq k h; subst h; exact hok)⟩; omega
    refine VC.skip (VC.seq ?_); refine VC.join [(0, St s), (3, I ((i : Nat) : Int)), (49, B (!(decide (i ≠ 0) && otherB (byteE s i))))] [] ?_ ?_
    · skip
      refine VC.text ?_; refine VO.c (.move rfl) (VO.c (.eql) (VO.c (.move rfl) ?_)); refine VO.splitD (x := 38) rfl (fun g8_2 => ?_) (fun g8_2 => ?_)
      · refine VO.skip (VO.skip (VO.skip (VO.skip ?_))); refine VO.skip (VO.skip (VO.skip (VO.skip ?_))); refine VO.skip (VO.skip (VO.c (.pickT rfl rfl) ?_)); refine VO.nil ?_; exact ⟨⟨rfl, rfl, slE rfl (by rw [Bool.eq_iff_iff]; simp [otherB] <;> omega), trivial⟩, rfl⟩
      refine VO.c (.move rfl) (VO.c (.neq) (VO.c (.move rfl) ?_)); refine VO.splitD (x := 41) rfl (fun g8_5 => ?_) (fun g8_5 => ?_)
      · refine VO.c (.move rfl) (VO.c (.lss) (VO.c (.move rfl) ?_)); refine VO.cg (r := decide ((byteE s ((i : Nat) : Int)) < (48 : Int))) (w := false) [] trivial (fun _ => (.move rfl)) ?_; refine VO.cg (r := decide ((byteE s ((i : Nat) : Int)) < (48 : Int))) (w := false) [(45, .v (.int .u8) (byteE s ((i : Nat) : Int)))] ⟨rfl, trivial⟩ (fun _ => (.gtr)) ?_; refine VO.c (.or) (VO.c (.pickT rfl rfl) (VO.c (.pickF rfl rfl) ?_)); refine VO.nil ?_; exact ⟨⟨rfl, rfl, slE rfl (by rw [Bool.eq_iff_iff]; simp [otherB] <;> omega), trivial⟩, rfl⟩
      refine VO.skip (VO.skip (VO.skip (VO.skip ?_))); refine VO.skip (VO.skip (VO.c (.pickF rfl rfl) (VO.c (.pickF rfl rfl) ?_))); refine VO.nil ?_; exact ⟨⟨rfl, rfl, slE rfl (by rw [Bool.eq_iff_iff]; simp [otherB] <;> omega), trivial⟩, rfl⟩
    refine VC.condB rfl (fun c8 => ?_) (fun c8 => ?_)
    · try simp only [Bool.and_eq_true, Bool.or_eq_true, Bool.and_eq_false_iff, Bool.or_eq_false_iff, Bool.not_eq_true', Bool.not_eq_false', decide_eq_true_eq, decide_eq_false_iff_not] at c8
      refine VC.seq (VC.text ?_); refine VO.c (.assign rfl) (VO.go ?_); refine VC.ret ?_; exact VEnd.one rfl evT (pvE (by exact nameB_f (i := i) (by omega) (by simp only [byteB, c7, Bool.false_or, Bool.and_eq_false_iff, decide_eq_false_iff_not]; exact c8)))
    try simp only [Bool.and_eq_true, Bool.or_eq_true, Bool.and_eq_false_iff, Bool.or_eq_false_iff, Bool.not_eq_true', Bool.not_eq_false', decide_eq_true_eq, decide_eq_false_iff_not] at c8
    have hok : byteB (byteE s i) i = true := by simp [byteB, *]
    refine VC.skip (VC.text ?_); refine VO.c (.move rfl) (VO.c (.add rfl rfl (by omega)) (VO.c (.assign rfl) ?_)); refine VO.nil ?_; refine ⟨_, [(0, St s), (3, I (((i + 1) : Nat) : Int))], ?_, ⟨rfl, rfl, trivial⟩, (i + 1), rfl, rfl, rfl, (by omega), (by intro k hk; rcases Nat.lt_succ_iff_lt_or_eq.1 hk with h | h; exact hq k h; subst h; exact hok)⟩; omega
  refine VC.exit (VC.seq (VC.text ?_)); refine VO.c (.assign rfl) (VO.go ?_); refine VC.ret ?_; exact VEnd.one rfl evT (pvE (by exact nameB_t (by omega) (by omega) (fun k hk => hq k (by omega))))
theorem rNameE_ok {s : ByteArray} : VF Tryz.prog OA 18 [St s] (I (whenE (!nameB s) 8)) := by
  refine VF.enter Tryz.func18 rfl (fun _ _ => rfl) rfl ?_; show VC _ _ _ _ _ [(0, St s)] [] _; refine VC.seq (VC.text ?_); refine VO.c (.assign rfl) ?_; refine VO.go (VC.seq (VC.seq (VC.text ?_))); refine VO.c (.move rfl) ?_; refine VO.call rfl rfl (VF.call (rName_ok )) ?_; refine VO.c (.not) (VO.go ?_); refine VC.condB rfl (fun c1 => ?_) (fun c1 => ?_)
  · try simp only [Bool.and_eq_true, Bool.or_eq_true, Bool.and_eq_false_iff, Bool.or_eq_false_iff, Bool.not_eq_true', Bool.not_eq_false', decide_eq_true_eq, decide_eq_false_iff_not] at c1
    refine VC.seq (VC.text ?_); refine VO.c (.assign rfl) (VO.go ?_); refine VC.ret ?_; exact VEnd.one rfl evT (pvI (by simp [whenE, *]))
  try simp only [Bool.and_eq_true, Bool.or_eq_true, Bool.and_eq_false_iff, Bool.or_eq_false_iff, Bool.not_eq_true', Bool.not_eq_false', decide_eq_true_eq, decide_eq_false_iff_not] at c1
  refine VC.skip (VC.seq (VC.text ?_)); refine VO.c (.assign rfl) (VO.go ?_); refine VC.ret ?_; exact VEnd.one rfl evT (pvI (by simp [whenE, *]))
end Go.Proofs
namespace Go.Proofs
open Go.Fs
abbrev y54 : Ty := (.pair (.int .i64) (.int .i64))
def spanE (p : Int × Int) : Int := if p.1 < 0 ∨ p.2 ≤ p.1 ∨ 100000 < p.2 then 14 else 0
theorem whenE_span {p : Int × Int} : whenE (decide (p.1 < 0) || decide (p.2 ≤ p.1) || decide (100000 < p.2)) 14 = spanE p := by
  unfold whenE spanE; by_cases h1 : p.1 < 0 <;> by_cases h2 : p.2 ≤ p.1 <;> by_cases h3 : 100000 < p.2 <;> simp [h1, h2, h3]
theorem gSpan_ok {p : Int × Int} : VF Tryz.prog OA 68 [.v y54 p] (I (spanE p)) := by
  refine VF.enter Tryz.func68 rfl (fun _ _ => rfl) rfl ?_; show VC _ _ _ _ _ [(0, .v y54 p)] [] _; refine VC.seq (VC.text ?_); refine VO.new (.box) ?_; refine VO.c (.assign rfl) ?_; refine VO.go (VC.seq (VC.text ?_)); refine VO.c (.fa (.l .o)) ?_; refine VO.r (.ld vt3) ?_; refine VO.c (.lss) (VO.c (.move rfl) ?_); refine VO.cg (r := decide (p.1 < (0 : Int))) (w := false) [] trivial (fun _ => (.fa (.l .o))) ?_; refine VO.rg (r := decide (p.1 < (0 : Int))) (w := false) [(7, .p (.int .i64) p.1)] ⟨rfl, trivial⟩ (fun _ => (.ld vt3)) ?_; refine VO.cg (r := decide (p.1 < (0 : Int))) (w := false) [] trivial (fun _ => (.fa (.r (k := 0) .o))) ?_; refine VO.rg (r := decide (p.1 < (0 : Int))) (w := false) [(9, .p (.int .i64) p.2)] ⟨rfl, trivial⟩ (fun _ => (.ld vt3)) ?_; refine VO.cg (r := decide (p.1 < (0 : Int))) (w := false) [(8, I p.1), (10, I p.2)] ⟨rfl, rfl, trivial⟩ (fun _ => (.geq)) ?_; refine VO.c (.or) (VO.c (.move rfl) ?_); refine VO.cg (r := ((decide (p.1 < (0 : Int))) || (decide (p.2 ≤ p.1)))) (w := false) [] trivial (fun _ => (.fa (.r (k := 0) .o))) ?_; refine VO.rg (r := ((decide (p.1 < (0 : Int))) || (decide (p.2 ≤ p.1)))) (w := false) [(14, .p (.int .i64) p.2)] ⟨rfl, trivial⟩ (fun _ => (.ld vt3)) ?_; refine VO.cg (r := ((decide (p.1 < (0 : Int))) || (decide (p.2 ≤ p.1)))) (w := false) [(15, I p.2)] ⟨rfl, trivial⟩ (fun _ => (.gtr)) ?_; refine VO.c (.or) ?_; refine VO.call rfl rfl (VF.call (gWhen_ok )) ?_; refine VO.c (.assign rfl) (VO.go ?_); refine VC.ret ?_; exact VEnd.one rfl evT (pvI (by exact whenE_span))
theorem rSpan_ok {p : Int × Int} : VF Tryz.prog OA 39 [.v y54 p] (I (spanE p)) := by
  refine VF.enter Tryz.func39 rfl (fun _ _ => rfl) rfl ?_; show VC _ _ _ _ _ [(0, .v y54 p)] [] _; refine VC.seq (VC.text ?_); refine VO.new (.box) ?_; refine VO.c (.assign rfl) ?_; refine VO.go (VC.seq (VC.seq (VC.text ?_))); refine VO.c (.fa (.l .o)) ?_; refine VO.r (.ld vt3) ?_; refine VO.c (.lss) (VO.c (.move rfl) ?_); refine VO.cg (r := decide (p.1 < (0 : Int))) (w := false) [] trivial (fun _ => (.fa (.r (k := 0) .o))) ?_; refine VO.rg (r := decide (p.1 < (0 : Int))) (w := false) [(7, .p (.int .i64) p.2)] ⟨rfl, trivial⟩ (fun _ => (.ld vt3)) ?_; refine VO.cg (r := decide (p.1 < (0 : Int))) (w := false) [] trivial (fun _ => (.fa (.l .o))) ?_; refine VO.rg (r := decide (p.1 < (0 : Int))) (w := false) [(9, .p (.int .i64) p.1)] ⟨rfl, trivial⟩ (fun _ => (.ld vt3)) ?_; refine VO.cg (r := decide (p.1 < (0 : Int))) (w := false) [(8, I p.2), (10, I p.1)] ⟨rfl, rfl, trivial⟩ (fun _ => (.leq)) ?_; refine VO.c (.or) (VO.c (.move rfl) ?_); refine VO.cg (r := ((decide (p.1 < (0 : Int))) || (decide (p.2 ≤ p.1)))) (w := false) [] trivial (fun _ => (.fa (.r (k := 0) .o))) ?_; refine VO.rg (r := ((decide (p.1 < (0 : Int))) || (decide (p.2 ≤ p.1)))) (w := false) [(14, .p (.int .i64) p.2)] ⟨rfl, trivial⟩ (fun _ => (.ld vt3)) ?_; refine VO.cg (r := ((decide (p.1 < (0 : Int))) || (decide (p.2 ≤ p.1)))) (w := false) [(15, I p.2)] ⟨rfl, trivial⟩ (fun _ => (.gtr)) ?_; refine VO.c (.or) (VO.go ?_); refine VC.condB rfl (fun c1 => ?_) (fun c1 => ?_)
  · try simp only [Bool.and_eq_true, Bool.or_eq_true, Bool.and_eq_false_iff, Bool.or_eq_false_iff, Bool.not_eq_true', Bool.not_eq_false', decide_eq_true_eq, decide_eq_false_iff_not] at c1
    refine VC.seq (VC.text ?_); refine VO.c (.assign rfl) (VO.go ?_); refine VC.ret ?_; exact VEnd.one rfl evT (pvI (by simp only [spanE, ← Bool.decide_or, decide_eq_true_eq, decide_eq_false_iff_not, Bool.or_eq_true, Bool.or_eq_false_iff] at *; first | rw [if_pos (by omega)] | rw [if_neg (by omega)]))
  try simp only [Bool.and_eq_true, Bool.or_eq_true, Bool.and_eq_false_iff, Bool.or_eq_false_iff, Bool.not_eq_true', Bool.not_eq_false', decide_eq_true_eq, decide_eq_false_iff_not] at c1
  refine VC.skip (VC.seq (VC.text ?_)); refine VO.c (.assign rfl) (VO.go ?_); refine VC.ret ?_; exact VEnd.one rfl evT (pvI (by simp only [spanE, ← Bool.decide_or, decide_eq_true_eq, decide_eq_false_iff_not, Bool.or_eq_true, Bool.or_eq_false_iff] at *; first | rw [if_pos (by omega)] | rw [if_neg (by omega)]))
end Go.Proofs
namespace Go.Proofs.Sp
abbrev Sp := Int × Int
def inL (l : List Sp) (t : Int) : Bool := l.any fun s => decide (s.1 ≤ t) && decide (t < s.2)
def Canon (m : Int) (l : List Sp) : Prop := (∀ s ∈ l, 0 ≤ s.1 ∧ s.1 < s.2 ∧ s.2 ≤ m) ∧ l.Pairwise fun s u => s.2 < u.1
def edgeE (l : List Sp) (d : Int) : List (Int × Int) := l.flatMap fun s => [(s.1, d), (s.2, -d)]
def sumTo : List (Int × Int) → Int → Int
  | [], _ => 0
  | e :: r, t => (if e.1 ≤ t then e.2 else 0) + sumTo r t
def scan1 (p : Int → Bool) (t : Int) (S : Int × List Sp) : Int × List Sp :=
  if p t = true ∧ S.1 < 0 then (t, S.2) else if p t = false ∧ 0 ≤ S.1 then (-1, S.2 ++ [(S.1, t)]) else S
def scanE (p : Int → Bool) : Nat → Int × List Sp
  | 0 => (-1, [])
  | t + 1 => scan1 p t (scanE p t)
def pE (ch : Int → Bool) (L : List (Int × Int)) (t : Int) : Bool := ch (sumTo L t)
structure CombI (ch : Int → Bool) (L l : List (Int × Int)) (st fr : Int) (out : List Sp) (v : Nat) : Prop where
  done : ∃ d, L = d ++ l ∧ ∀ e ∈ d, e.1 < v
  rest : ∀ e ∈ l, (v : Int) ≤ e.1
  state : st = sumTo L ((v : Int) - 1)
  outs : out = (scanE (pE ch L) v).2
  open_ : 0 ≤ (scanE (pE ch L) v).1 ↔ ch st = true
  from_ : ch st = true → fr = (scanE (pE ch L) v).1
theorem inL_app {a b : List Sp} {t : Int} : inL (a ++ b) t = (inL a t || inL b t) := List.any_append
theorem inL_one {x y t : Int} : inL [(x, y)] t = true ↔ x ≤ t ∧ t < y := by simp [inL]
end Go.Proofs.Sp
namespace Go.Proofs.Sp
theorem canon_of {m : Int} {l : List Sp} (h1 : ∀ s ∈ l, 0 ≤ s.1 ∧ s.1 < s.2 ∧ s.2 ≤ m) (h2 : ∀ j (hj : j < l.length), 0 < j → (l[j - 1]'(by omega)).2 < l[j].1) : Canon m l := by
  refine ⟨h1, List.pairwise_iff_getElem.2 fun i j hi hj hij => ?_⟩
  induction j with
  | zero => omega
  | succ j ih =>
    have h3 := h2 (j + 1) hj (by omega); simp only [Nat.add_sub_cancel] at h3; by_cases e : i = j
    · subst e; exact h3
    have h4 := ih (by omega) (by omega); have h5 := h1 _ (List.getElem_mem (show j < l.length by omega)); omega
end Go.Proofs.Sp
namespace Go.Proofs
open Go.Fs
set_option maxHeartbeats 2000000
abbrev y23 : Ty := (.sl (.pair (.int .i64) (.int .i64)))
theorem vt54 : ValT Tryz.prog 54 y54 := valT_of (by kernel_rfl)
theorem el23 : ElT Tryz.prog 23 54 y54 := elT_of (by kernel_rfl)
theorem zt54 : ZerT Tryz.prog 54 y54 := zerT_of (z := .agg #[.int .i64 0, .int .i64 0]) (by kernel_rfl) rfl rfl
theorem eq54 : EqT Tryz.prog 54 y54 := eqT_of (by kernel_rfl)
def firstR (f : Nat → Int) (i n : Nat) : Int := firstE ((List.range' i (n - i)).map f)
theorem firstR_step {f : Nat → Int} {i n : Nat} (h : i < n) : firstR f i n = if f i = 0 then firstR f (i + 1) n else f i := by
  unfold firstR; rw [show n - i = (n - (i + 1)) + 1 by omega, List.range'_succ] <;> rfl
theorem firstR_end {f : Nat → Int} {i n : Nat} (h : n ≤ i) : firstR f i n = 0 := by
  unfold firstR; rw [show n - i = 0 by omega] <;> rfl
theorem getD_at {α : Type} {l : List α} {i : Nat} {d : α} (h : i < l.length) : l.getD i d = l[i] := by rw [List.getD_eq_getElem?_getD, List.getElem?_eq_getElem h] <;> rfl
def spX (l : List (Int × Int)) (j : Nat) : Int × Int := l.getD j (0, 0)
theorem spX_eq {l : List (Int × Int)} {j : Nat} (h : j < l.length) : spX l j = l[j] := getD_at h
def spanAt (l : List (Int × Int)) (j : Nat) : Int := firstE [spanE (spX l j), whenE (decide (0 < (j : Int)) && decide ((spX l j).1 ≤ (spX l (j - 1)).2)) 11]
def spansE (l : List (Int × Int)) : Int := if 2048 < (l.length : Int) then 5 else firstR (spanAt l) 0 l.length
theorem spX_prev {l : List (Int × Int)} {j : Nat} (h0 : 0 < (j : Int)) (h : ((j : Int) - 1).toNat < l.length) : spX l (j - 1) = l[((j : Int) - 1).toNat] := by
  have e : ((j : Int) - 1).toNat = j - 1 := by omega
  rw [spX_eq (by omega)]; simp only [e]
theorem spX_max {l : List (Int × Int)} {j : Nat} (h0 : 0 < (j : Int)) (h : (max 0 ((j : Int) - 1)).toNat < l.length) : spX l (j - 1) = l[(max 0 ((j : Int) - 1)).toNat] := by
  have e : (max 0 ((j : Int) - 1)).toNat = j - 1 := by omega
  rw [spX_eq (by omega)]; simp only [e]
theorem spanAt_bad {l : List (Int × Int)} {j : Nat} (h : j < l.length) (hb : spanE l[j] ≠ 0) : spanAt l j = 14 := by
  unfold spanAt; rw [spX_eq h]
  have : spanE l[j] = 14 := by
    unfold spanE at hb ⊢; split at hb
    · rename_i hc; rw [if_pos hc]
    exact absurd rfl hb
  rw [this] <;> rfl
theorem spanAt_ok {l : List (Int × Int)} {j : Nat} (h : j < l.length) (hb : ¬ spanE l[j] ≠ 0) : spanAt l j = whenE (decide (0 < (j : Int)) && decide (l[j].1 ≤ (spX l (j - 1)).2)) 11 := by
  unfold spanAt; rw [spX_eq h, Classical.not_not.1 hb]; show (if (0 : Int) = 0 then _ else _) = _; rw [if_pos rfl]; unfold firstE; split
  · rename_i hz; rw [hz] <;> rfl
  rfl
theorem spanAt_t {l : List (Int × Int)} {j : Nat} (h : j < l.length) (h0 : 0 < (j : Int)) (hm : (max 0 ((j : Int) - 1)).toNat < l.length) : spanAt l j = firstE [spanE l[j], whenE (decide (l[j].1 ≤ l[(max 0 ((j : Int) - 1)).toNat].2)) 11] := by
  unfold spanAt; rw [spX_eq h, spX_max h0 hm, decide_eq_true h0, Bool.true_and]
theorem spanAt_f {l : List (Int × Int)} {j : Nat} (h : j < l.length) (h0 : ¬ 0 < (j : Int)) : spanAt l j = firstE [spanE l[j], whenE false 11] := by
  unfold spanAt; rw [spX_eq h, decide_eq_false h0, Bool.false_and]
theorem rSpans_ok {l : List (Int × Int)} (hl : l.length < 1000000) : VF Tryz.prog OA 21 [.v y23 l] (I (spansE l)) := by
  refine VF.enter Tryz.func21 rfl (fun _ _ => rfl) rfl ?_; show VC _ _ _ _ _ [(0, .v y23 l)] [] _; refine VC.seq (VC.text ?_); refine VO.c (.assign rfl) ?_; refine VO.go (VC.seq (VC.seq (VC.text ?_))); refine VO.c (.move rfl) ?_; refine VO.r (.len el23) ?_; refine VO.c (.gtr) (VO.go ?_); refine VC.condD rfl (fun c1 => ?_) (fun c1 => ?_)
  · refine VC.seq (VC.text ?_); refine VO.c (.assign rfl) (VO.go ?_); refine VC.ret ?_; exact VEnd.one rfl evT (pvI (by rw [spansE, if_pos c1]))
  refine VC.skip (VC.seq (VC.seq (VC.text ?_))); refine VO.c (.assign rfl) ?_; refine VO.go (VC.block ?_); refine VC.keep [(0, .v y23 l), (3, I ((0 : Nat) : Int))] ⟨rfl, rfl, trivial⟩ ?_; refine VC.loop (I := fun kk ff ss => ∃ (j : Nat), kk = l.length - j ∧ ff = [(0, .v y23 l), (3, I ((j : Nat) : Int))] ∧ ss = [] ∧ (j ≤ l.length) ∧ (spansE l = firstR (spanAt l) j l.length)) ?_ _ _ _ ⟨0, rfl, rfl, rfl, Nat.zero_le _, (by exact if_neg c1)⟩; rintro kk ff ss ⟨j, hk0, rfl, rfl, hj, hw⟩; refine VC.seq (VC.seq (VC.text ?_)); refine VO.c (.move rfl) (VO.c (.move rfl) ?_); refine VO.r (.len el23) ?_; refine VO.c (.lss) (VO.go ?_); refine VC.condD rfl (fun c4 => ?_) (fun c4 => ?_)
  · refine VC.skip (VC.seq (VC.block (VC.seq (VC.seq (VC.text ?_))))); refine VO.c (.move rfl) (VO.c (.move rfl) (VO.c (.ix (j := j) rfl rfl el23 (by omega)) ?_)); refine VO.r (.ld vt54) ?_; refine VO.call rfl rfl (VF.call (rSpan_ok )) ?_; refine VO.c (.neq) (VO.go ?_); refine VC.condD rfl (fun c6 => ?_) (fun c6 => ?_)
    · refine VC.seq (VC.text ?_); refine VO.c (.assign rfl) (VO.go ?_); refine VC.ret ?_; exact VEnd.one rfl evT (pvI (by rw [hw, firstR_step (by omega), spanAt_bad (by omega) c6, if_neg (by decide)]))
    refine VC.skip (VC.seq (VC.drawn ?_)); refine VD.c (.move rfl) (VD.c (.gtr) (VD.c (.move rfl) ?_)); refine VD.splitD (x := 21) rfl (fun g8_2 => ?_) (fun g8_2 => ?_)
    · refine VD.c (.move rfl) (VD.c (.move rfl) (VD.nw [] (VD.c (.ix (j := j) rfl rfl el23 (by omega)) ?_))); refine VD.c (.fa (.l .o)) ?_; refine VD.r [] (.ld vt3) (.inl rfl) ?_; refine VD.c (.move rfl) (VD.c (.move rfl) (VD.c (.sub rfl rfl (by omega)) (VD.c (.ixZ (k := (((j : Nat) : Int) - (1 : Int))) rfl rfl el23 (by omega) (by omega)) ?_))); refine VD.nw [] (VD.c (.fa (.r .o)) ?_); refine VD.r [] (.ld vt3) (.inl rfl) ?_; refine VD.c (.leq) (VD.c (.pickT rfl rfl) (VD.go ?_)); refine VC.condD rfl (fun c8 => ?_) (fun c8 => ?_)
      · refine VC.seq (VC.text ?_); refine VO.c (.assign rfl) (VO.go ?_); refine VC.ret ?_; exact VEnd.one rfl evT (pvI (by rw [hw, firstR_step (by omega), spanAt_ok (by omega) c6, spX_prev g8_2 (by omega), decide_eq_true c8, decide_eq_true g8_2] <;> rfl))
      have hz : spanAt l j = 0 := by rw [spanAt_ok (by omega) c6, spX_prev g8_2 (by omega), decide_eq_false c8, Bool.and_false] <;> rfl
      refine VC.skip (VC.text ?_); refine VO.c (.move rfl) (VO.c (.add rfl rfl (by omega)) (VO.c (.assign rfl) ?_)); refine VO.nil ?_; refine ⟨_, [(0, .v y23 l), (3, I (((j + 1) : Nat) : Int))], ?_, ⟨rfl, rfl, trivial⟩, (j + 1), rfl, rfl, rfl, (by omega), (by rw [hw, firstR_step (by omega), if_pos hz])⟩; omega
    have hz : spanAt l j = 0 := by rw [spanAt_ok (by omega) c6, decide_eq_false (show ¬ 0 < (j : Int) by omega)] <;> rfl
    refine VD.skip (VD.skip (VD.nw [] (VD.skip ?_))); refine VD.skip (VD.skip (VD.skip (VD.skip ?_))); refine VD.skip (VD.skip (VD.nw [] (VD.skip ?_))); refine VD.skip (VD.skip (VD.c (.pickF rfl rfl) (VD.go ?_))); refine VC.condF rfl ?_; refine VC.skip (VC.text ?_); refine VO.c (.move rfl) (VO.c (.add rfl rfl (by omega)) (VO.c (.assign rfl) ?_)); refine VO.nil ?_; refine ⟨_, [(0, .v y23 l), (3, I (((j + 1) : Nat) : Int))], ?_, ⟨rfl, rfl, trivial⟩, (j + 1), rfl, rfl, rfl, (by omega), (by rw [hw, firstR_step (by omega), if_pos hz])⟩; omega
  refine VC.exit (VC.seq (VC.text ?_)); refine VO.c (.assign rfl) (VO.go ?_); refine VC.ret ?_; exact VEnd.one rfl evT (pvI (by rw [hw, firstR_end (by omega)]))
theorem gSpans_ok {l : List (Int × Int)} (hl : l.length < 1000000) : VF Tryz.prog OA 49 [.v y23 l] (I (spansE l)) := by
  refine VF.enter Tryz.func49 rfl (fun _ _ => rfl) rfl ?_; show VC _ _ _ _ _ [(0, .v y23 l)] [] _; refine VC.seq (VC.text ?_); refine VO.c (.assign rfl) ?_; refine VO.go (VC.seq (VC.seq (VC.text ?_))); refine VO.c (.move rfl) ?_; refine VO.r (.len el23) ?_; refine VO.c (.gtr) (VO.go ?_); refine VC.condD rfl (fun c1 => ?_) (fun c1 => ?_)
  · refine VC.seq (VC.text ?_); refine VO.c (.assign rfl) (VO.go ?_); refine VC.ret ?_; exact VEnd.one rfl evT (pvI (by rw [spansE, if_pos c1]))
  refine VC.skip (VC.seq (VC.seq (VC.text ?_))); refine VO.c (.move rfl) ?_; refine VO.r (.len el23) ?_; refine VO.c (.move rfl) ?_; refine VO.go (VC.block ?_); refine VC.keep [(0, .v y23 l), (9, .v y23 l), (10, I ((l.length : Nat) : Int)), (11, I ((0 : Nat) : Int))] ⟨rfl, rfl, rfl, rfl, trivial⟩ ?_; refine VC.loop (I := fun kk ff ss => ∃ (j : Nat), kk = l.length - j ∧ ff = [(0, .v y23 l), (9, .v y23 l), (10, I ((l.length : Nat) : Int)), (11, I ((j : Nat) : Int))] ∧ ss = [] ∧ (j ≤ l.length) ∧ (spansE l = firstR (spanAt l) j l.length)) ?_ _ _ _ ⟨0, rfl, rfl, rfl, Nat.zero_le _, (by exact if_neg c1)⟩; rintro kk ff ss ⟨j, hk0, rfl, rfl, hj, hw⟩; refine VC.seq (VC.text ?_); refine VO.c (.lss) ?_; refine VO.go (VC.seq ?_); refine VC.condD rfl (fun c4 => ?_) (fun c4 => ?_)
  · refine VC.skip (VC.seq (VC.block (VC.seq (VC.text ?_)))); refine VO.c (.move rfl) (VO.c (.ix (j := j) rfl rfl el23 (by omega)) ?_); refine VO.r (.ld vt54) ?_; refine VO.cell (.alloc zt54) ?_; intro ww1; refine VO.c (.assign rfl) ?_; refine VO.setV (cs' := [I ((l[j]).1), I ((l[j]).2)]) vt54 .v ?_; refine VO.shut [(4, .p y54 (l[j]))] (.cons rfl (.var m0 .refl) .nil) ?_; refine VO.go (VC.seq (VC.drawn ?_)); refine VD.r [] (.ld vt54) (.inl rfl) ?_; refine VD.call rfl rfl (VF.call (gSpan_ok )) ?_; refine VD.c (.move rfl) (VD.c (.gtr) (VD.c (.move rfl) ?_)); refine VD.splitD (x := 20) rfl (fun g6_4 => ?_) (fun g6_4 => ?_)
    · have hv := spanAt_t (l := l) (j := j) (by omega) g6_4 (by omega); refine VD.nw [] (VD.c (.fa (.l .o)) ?_); refine VD.r [] (.ld vt3) (.inl rfl) ?_; refine VD.c (.move rfl) (VD.c (.move rfl) (VD.c (.sub rfl rfl (by omega)) ?_)); refine VD.r [] (.max) (.inl rfl) ?_; refine VD.c (.ixZ (k := (max (0 : Int) (((j : Nat) : Int) - (1 : Int)))) rfl rfl el23 (by omega) (by omega)) (VD.nw [] (VD.c (.fa (.r .o)) ?_)); refine VD.r [] (.ld vt3) (.inl rfl) ?_; refine VD.c (.leq) (VD.c (.pickT rfl rfl) ?_); refine VD.call rfl rfl (VF.call (gWhen_ok )) ?_; refine VD.new (.lit [spanE (l[j]), whenE (decide ((l[j]).1 ≤ (l[Int.toNat (max (0 : Int) (((j : Nat) : Int) - (1 : Int)))]).2)) (11 : Int)] el65) ?_; refine VD.callO rfl rfl (VF.call (gFirst_ok (by first | assumption | omega | simp))) ?_; refine VD.nw [33] (VD.c (.assign rfl) ?_); refine VD.go (VC.seq (VC.text ?_)); refine VO.c (.move rfl) (VO.c (.neq) (VO.go ?_)); refine VC.condD rfl (fun c7 => ?_) (fun c7 => ?_)
      · refine VC.seq (VC.text ?_); refine VO.c (.move rfl) (VO.c (.assign rfl) (VO.go ?_)); refine VC.ret ?_; exact VEnd.one rfl evT (pvI (by rw [hw, firstR_step (by omega), hv, if_neg c7]))
      refine VC.skip (VC.text ?_); refine VO.c (.add rfl rfl (by omega)) (VO.c (.move rfl) ?_); refine VO.nil ?_; refine ⟨_, [(0, .v y23 l), (9, .v y23 l), (10, I ((l.length : Nat) : Int)), (11, I (((j + 1) : Nat) : Int))], ?_, ⟨rfl, rfl, rfl, rfl, trivial⟩, (j + 1), rfl, rfl, rfl, (by omega), (by rw [hw, firstR_step (by omega), hv, if_pos (Classical.not_not.1 c7)])⟩; omega
    have hv := spanAt_f (l := l) (j := j) (by omega) g6_4; refine VD.nw [] (VD.skip (VD.skip (VD.skip ?_))); refine VD.skip (VD.skip (VD.skip (VD.skip ?_))); refine VD.nw [] (VD.skip (VD.skip (VD.skip ?_))); refine VD.c (.pickF rfl rfl) ?_; refine VD.call rfl rfl (VF.call (gWhen_ok )) ?_; refine VD.new (.lit [spanE (l[j]), whenE false (11 : Int)] el65) ?_; refine VD.callO rfl rfl (VF.call (gFirst_ok (by first | assumption | omega | simp))) ?_; refine VD.nw [33] (VD.c (.assign rfl) ?_); refine VD.go (VC.seq (VC.text ?_)); refine VO.c (.move rfl) (VO.c (.neq) (VO.go ?_)); refine VC.condD rfl (fun c7 => ?_) (fun c7 => ?_)
    · refine VC.seq (VC.text ?_); refine VO.c (.move rfl) (VO.c (.assign rfl) (VO.go ?_)); refine VC.ret ?_; exact VEnd.one rfl evT (pvI (by rw [hw, firstR_step (by omega), hv, if_neg c7]))
    refine VC.skip (VC.text ?_); refine VO.c (.add rfl rfl (by omega)) (VO.c (.move rfl) ?_); refine VO.nil ?_; refine ⟨_, [(0, .v y23 l), (9, .v y23 l), (10, I ((l.length : Nat) : Int)), (11, I (((j + 1) : Nat) : Int))], ?_, ⟨rfl, rfl, rfl, rfl, trivial⟩, (j + 1), rfl, rfl, rfl, (by omega), (by rw [hw, firstR_step (by omega), hv, if_pos (Classical.not_not.1 c7)])⟩; omega
  refine VC.exit (VC.seq (VC.text ?_)); refine VO.c (.assign rfl) (VO.go ?_); refine VC.ret ?_; exact VEnd.one rfl evT (pvI (by rw [hw, firstR_end (by omega)]))
theorem rSameSp_ok {a : List (Int × Int)} {b : List (Int × Int)} (ha : a.length < 1000000) (hb : b.length < 1000000) : VF Tryz.prog OA 10 [.v y23 a, .v y23 b] (B (decide (a = b))) := by
  refine VF.enter Tryz.func10 rfl (fun _ _ => rfl) rfl ?_; show VC _ _ _ _ _ [(0, .v y23 a), (1, .v y23 b)] [] _; refine VC.seq (VC.text ?_); refine VO.c (.assign rfl) ?_; refine VO.go (VC.seq (VC.seq (VC.text ?_))); refine VO.c (.move rfl) ?_; refine VO.r (.len el23) ?_; refine VO.c (.move rfl) ?_; refine VO.r (.len el23) ?_; refine VO.c (.neq) (VO.go ?_); refine VC.condD rfl (fun c1 => ?_) (fun c1 => ?_)
  · refine VC.seq (VC.text ?_); refine VO.c (.assign rfl) (VO.go ?_); refine VC.ret ?_; exact VEnd.one rfl evT (pvE (by exact (decide_eq_false (fun e => c1 (by rw [e]))).symm))
  refine VC.skip (VC.seq (VC.seq (VC.text ?_))); refine VO.c (.assign rfl) ?_; refine VO.go (VC.block ?_); refine VC.keep [(0, .v y23 a), (1, .v y23 b), (5, I ((0 : Nat) : Int))] ⟨rfl, rfl, rfl, trivial⟩ ?_; refine VC.loop (I := fun kk ff ss => ∃ (j : Nat), kk = a.length - j ∧ ff = [(0, .v y23 a), (1, .v y23 b), (5, I ((j : Nat) : Int))] ∧ ss = [] ∧ (j ≤ a.length) ∧ (a.length = b.length) ∧ (∀ k (h : k < a.length) (h2 : k < b.length), k < j → a[k] = b[k])) ?_ _ _ _ ⟨0, rfl, rfl, rfl, Nat.zero_le _, (by omega), (by exact fun k _ _ h => absurd h (by omega))⟩; rintro kk ff ss ⟨j, hk0, rfl, rfl, hj, hl, hi⟩; refine VC.seq (VC.seq (VC.text ?_)); refine VO.c (.move rfl) (VO.c (.move rfl) ?_); refine VO.r (.len el23) ?_; refine VO.c (.lss) (VO.go ?_); refine VC.condD rfl (fun c4 => ?_) (fun c4 => ?_)
  · refine VC.skip (VC.seq (VC.block (VC.seq (VC.drawn ?_)))); refine VD.c (.move rfl) (VD.c (.move rfl) (VD.c (.ix (j := j) rfl rfl el23 (by omega)) ?_)); refine VD.r [] (.ld vt54) (.inl rfl) ?_; refine VD.c (.move rfl) (VD.c (.move rfl) (VD.nw [] (VD.c (.ix (j := j) rfl rfl el23 (by omega)) ?_))); refine VD.r [] (.ld vt54) (.inl rfl) ?_; refine VD.c (.eneq eq54) (VD.go ?_); refine VC.condD rfl (fun c6 => ?_) (fun c6 => ?_)
    · refine VC.seq (VC.text ?_); refine VO.c (.assign rfl) (VO.go ?_); refine VC.ret ?_; exact VEnd.one rfl evT (pvE (by exact (decide_eq_false (fun h => c6 (List.getElem_of_eq h _))).symm))
    refine VC.skip (VC.text ?_); refine VO.c (.move rfl) (VO.c (.add rfl rfl (by omega)) (VO.c (.assign rfl) ?_)); refine VO.nil ?_; refine ⟨_, [(0, .v y23 a), (1, .v y23 b), (5, I (((j + 1) : Nat) : Int))], ?_, ⟨rfl, rfl, rfl, trivial⟩, (j + 1), rfl, rfl, rfl, (by omega), (by omega), (by exact fun k h h2 h3 => if e : k = j then (by subst e; exact Classical.not_not.1 c6) else hi k h h2 (by omega))⟩; omega
  refine VC.exit (VC.seq (VC.text ?_)); refine VO.c (.assign rfl) (VO.go ?_); refine VC.ret ?_; exact VEnd.one rfl evT (pvE (by exact (decide_eq_true (List.ext_getElem hl (fun k h h2 => hi k h h2 (by omega)))).symm))
theorem rShortSp_ok {l : List (Int × Int)} {n : Int} : VF Tryz.prog OA 16 [.v y23 l, I n] (B (decide ((l.length : Int) ≤ n) || decide ((l.length : Int) = 2049))) := by
  refine VF.enter Tryz.func16 rfl (fun _ _ => rfl) rfl ?_; show VC _ _ _ _ _ [(0, .v y23 l), (1, I n)] [] _; refine VC.seq (VC.text ?_); refine VO.c (.assign rfl) ?_; refine VO.go (VC.seq (VC.text ?_)); refine VO.c (.move rfl) ?_; refine VO.r (.len el23) ?_; refine VO.c (.move rfl) (VO.c (.leq) (VO.c (.move rfl) ?_)); refine VO.cg (r := decide (((l.length : Nat) : Int) ≤ n)) (w := false) [] trivial (fun _ => (.move rfl)) ?_; refine VO.rg (r := decide (((l.length : Nat) : Int) ≤ n)) (w := false) [(10, .v y23 l)] ⟨rfl, trivial⟩ (fun _ => (.len el23)) ?_; refine VO.cg (r := decide (((l.length : Nat) : Int) ≤ n)) (w := false) [(11, I ((l.length : Nat) : Int))] ⟨rfl, trivial⟩ (fun _ => (.eql)) ?_; refine VO.c (.or) (VO.c (.assign rfl) (VO.go ?_)); refine VC.ret ?_; exact VEnd.one rfl evT (pvE (by first | rfl | simp [*]))
end Go.Proofs
namespace Go.Fs
variable {P : Program} {fl : VL} {σ : Sto} {T T' : TypeId} {x y : Operand}
end Go.Fs
namespace Go.Proofs
open Go.Fs
set_option maxHeartbeats 2000000
def upTo (l : List (Int × Int)) (i : Nat) (t : Int) (u : Int) : Bool := Sp.inL (l.take i) u || (decide ((spX l i).1 ≤ u) && decide (u < t))
theorem upTo_0 {l : List (Int × Int)} {i : Nat} {t u : Int} (h : t ≤ (spX l i).1) : upTo l i t u = Sp.inL (l.take i) u := by
  unfold upTo; by_cases h1 : (spX l i).1 ≤ u
  · rw [decide_eq_false (show ¬ u < t by omega)]; simp
  rw [decide_eq_false h1]; simp
theorem upTo_end {l : List (Int × Int)} {i : Nat} {t u : Int} (hi : i < l.length) (h : t = l[i].2) : upTo l i t u = Sp.inL (l.take (i + 1)) u := by
  unfold upTo; rw [List.take_succ_eq_append_getElem hi, Sp.inL_app, spX_eq hi, h]; simp [Sp.inL]
theorem upTo_self {l : List (Int × Int)} {i t : Nat} (h : (spX l i).1 ≤ t) : upTo l i ((t + 1 : Nat) : Int) t = true := by
  unfold upTo; rw [decide_eq_true h, decide_eq_true (show (t : Int) < ((t + 1 : Nat) : Int) by omega)]; simp
theorem upTo_other {l : List (Int × Int)} {i t u : Nat} (h : u ≠ t) : upTo l i ((t + 1 : Nat) : Int) u = upTo l i t u := by
  unfold upTo; congr 2; exact decide_eq_decide.2 (by omega)
end Go.Proofs
namespace Go.Proofs
open Go.Fs
set_option maxHeartbeats 2000000
@[irreducible] def zeros : List Int := List.replicate 100001 0
end Go.Proofs
namespace Go.Fs
variable {P : Program} {fl : VL} {σ : Sto} {T : TypeId} {x y : Operand} {τ : Ty}
end Go.Fs
namespace Go.Proofs
open Go.Fs
set_option maxHeartbeats 2000000
end Go.Proofs
namespace Go.Proofs.Sp
structure EdgesOf (a b : List Sp) (L : List (Int × Int)) : Prop where
  ca : Canon 100000 a
  cb : Canon 100000 b
  perm : L.Perm (edgeE a 1 ++ edgeE b 2)
  sorted : L.Pairwise fun x y => x.1 ≤ y.1
end Go.Proofs.Sp
namespace Go.Proofs
open Go.Fs
set_option maxHeartbeats 2000000
theorem firstE_zero {l : List Int} : firstE l = 0 ↔ ∀ x ∈ l, x = 0 := by
  induction l with
  | nil => exact ⟨fun _ x hx => (by cases hx), fun _ => rfl⟩
  | cons y l ih =>
    rw [firstE]; by_cases h : y = 0
    · rw [if_pos h, ih]; exact ⟨fun h2 x hx => (by rcases List.mem_cons.1 hx with rfl | hx; exact h; exact h2 x hx), fun h2 x hx => h2 x (List.mem_cons_of_mem _ hx)⟩
    rw [if_neg h]; exact ⟨fun h2 => absurd h2 h, fun h2 => h2 y List.mem_cons_self⟩
theorem firstR_zero {f : Nat → Int} {n : Nat} (h : firstR f 0 n = 0) {i : Nat} (hi : i < n) : f i = 0 :=
  firstE_zero.1 h _ (List.mem_map.2 ⟨i, by rw [List.mem_range'_1]; omega, rfl⟩)
theorem spanE_zero {p : Int × Int} : spanE p = 0 ↔ 0 ≤ p.1 ∧ p.1 < p.2 ∧ p.2 ≤ 100000 := by
  unfold spanE; split
  · rename_i h; exact ⟨fun h2 => absurd h2 (by decide), fun h2 => by omega⟩
  exact ⟨fun _ => by omega, fun _ => rfl⟩
theorem whenE_zero {c : Bool} {e : Int} (he : e ≠ 0) : whenE c e = 0 ↔ c = false := by
  cases c
  · exact ⟨fun _ => rfl, fun _ => rfl⟩
  exact ⟨fun h => absurd h he, fun h => by cases h⟩
theorem spans_canon {l : List (Int × Int)} (h : spansE l = 0) : Sp.Canon 100000 l ∧ l.length ≤ 2048 := by
  unfold spansE at h; split at h
  · exact absurd h (by decide)
  rename_i hn; have hz : ∀ j, j < l.length → spanAt l j = 0 := fun j hj => firstR_zero h hj
  have hz1 : ∀ j (hj : j < l.length), 0 ≤ l[j].1 ∧ l[j].1 < l[j].2 ∧ l[j].2 ≤ 100000 := fun j hj => by
    have := firstE_zero.1 (hz j hj) _ List.mem_cons_self; rw [spX_eq hj] at this; exact spanE_zero.1 this
  refine ⟨Sp.canon_of (fun s hs => ?_) fun j hj h0 => ?_, by omega⟩
  · obtain ⟨j, hj, rfl⟩ := List.mem_iff_getElem.1 hs; exact hz1 j hj
  have h1 := firstE_zero.1 (hz j hj) _ (List.mem_cons_of_mem _ List.mem_cons_self); have h2 := (whenE_zero (by decide)).1 h1; rw [spX_eq hj, spX_eq (show j - 1 < l.length by omega), decide_eq_true (show (0 : Int) < (j : Int) by omega), Bool.true_and, decide_eq_false_iff_not] at h2; omega
end Go.Proofs
namespace Go.Proofs
open Go.Fs
set_option maxHeartbeats 2000000
theorem four {P : Int → Prop} (h0 : P 0) (h1 : P 1) (h2 : P 2) (h3 : P 3) : ∀ n : Int, 0 ≤ n ∧ n < 4 → P n := fun n hn => by
  have h : n = 0 ∨ n = 1 ∨ n = 2 ∨ n = 3 := by omega
  rcases h with rfl | rfl | rfl | rfl <;> assumption
theorem rHas_ok {l : List (Int × Int)} {t : Int} (hl : l.length < 1000000) : VF Tryz.prog OA 22 [.v y23 l, I t] (B (Sp.inL l t)) := by
  refine VF.enter Tryz.func22 rfl (fun _ _ => rfl) rfl ?_; show VC _ _ _ _ _ [(0, .v y23 l), (1, I t)] [] _; refine VC.seq (VC.text ?_); refine VO.c (.assign rfl) ?_; refine VO.go (VC.seq (VC.seq (VC.text ?_))); refine VO.c (.assign rfl) ?_; refine VO.go (VC.block ?_); refine VC.keep [(0, .v y23 l), (1, I t), (5, I ((0 : Nat) : Int))] ⟨rfl, rfl, rfl, trivial⟩ ?_; refine VC.loop (I := fun kk ff ss => ∃ (j : Nat), kk = l.length - j ∧ ff = [(0, .v y23 l), (1, I t), (5, I ((j : Nat) : Int))] ∧ ss = [] ∧ (j ≤ l.length) ∧ (∀ k (h : k < l.length), k < j → ¬ (l[k].1 ≤ t ∧ t < l[k].2))) ?_ _ _ _ ⟨0, rfl, rfl, rfl, Nat.zero_le _, (by exact fun k _ h => absurd h (by omega))⟩; rintro kk ff ss ⟨j, hk0, rfl, rfl, hj, hi⟩; refine VC.seq (VC.seq (VC.text ?_)); refine VO.c (.move rfl) (VO.c (.move rfl) ?_); refine VO.r (.len el23) ?_; refine VO.c (.lss) (VO.go ?_); refine VC.condD rfl (fun c2 => ?_) (fun c2 => ?_)
  · have hjl : j < l.length := by omega
    refine VC.skip (VC.seq (VC.block (VC.seq (VC.text ?_)))); refine VO.c (.move rfl) (VO.c (.move rfl) (VO.c (.move rfl) (VO.c (.ix (j := j) rfl rfl el23 (by omega)) ?_))); refine VO.c (.fa (.l .o)) ?_; refine VO.r (.ld vt3) ?_; refine VO.c (.geq) (VO.c (.move rfl) ?_); refine VO.cg (r := decide ((l[j]).1 ≤ t)) (w := true) [] trivial (fun _ => (.move rfl)) ?_; refine VO.cg (r := decide ((l[j]).1 ≤ t)) (w := true) [] trivial (fun _ => (.move rfl)) ?_; refine VO.cg (r := decide ((l[j]).1 ≤ t)) (w := true) [] trivial (fun _ => (.move rfl)) ?_; refine VO.cg (r := decide ((l[j]).1 ≤ t)) (w := true) [(21, .v y23 l), (22, I ((j : Nat) : Int))] ⟨rfl, rfl, trivial⟩ (fun hgd => have g4_7 : (l[j]).1 ≤ t := (by simpa using hgd); (.ixD (j := j) rfl rfl (0, 0) el23 (by omega))) ?_; refine VO.cg (r := decide ((l[j]).1 ≤ t)) (w := true) [(23, .p y54 (l.getD j (0, 0)))] ⟨rfl, trivial⟩ (fun _ => (.fa (.r (k := 0) .o))) ?_; refine VO.rg (r := decide ((l[j]).1 ≤ t)) (w := true) [(24, .p (.int .i64) ((l.getD j (0, 0)).2))] ⟨rfl, trivial⟩ (fun _ => (.ld vt3)) ?_; refine VO.cg (r := decide ((l[j]).1 ≤ t)) (w := true) [(20, I t), (25, I ((l.getD j (0, 0)).2))] ⟨rfl, rfl, trivial⟩ (fun _ => (.lss)) ?_; refine VO.c (.and) (VO.go ?_); refine VC.condB rfl (fun c4 => ?_) (fun c4 => ?_)
    · try simp only [Bool.and_eq_true, Bool.or_eq_true, Bool.and_eq_false_iff, Bool.or_eq_false_iff, Bool.not_eq_true', Bool.not_eq_false', decide_eq_true_eq, decide_eq_false_iff_not] at c4
      refine VC.seq (VC.text ?_); refine VO.c (.assign rfl) (VO.go ?_); refine VC.ret ?_; exact VEnd.one rfl evT (pvE (by rw [getD_at hjl] at c4; exact (List.any_eq_true.2 ⟨_, List.getElem_mem hjl, by rw [decide_eq_true c4.1, decide_eq_true c4.2]; rfl⟩).symm))
    try simp only [Bool.and_eq_true, Bool.or_eq_true, Bool.and_eq_false_iff, Bool.or_eq_false_iff, Bool.not_eq_true', Bool.not_eq_false', decide_eq_true_eq, decide_eq_false_iff_not] at c4
    have hno : ¬ (l[j].1 ≤ t ∧ t < l[j].2) := by rw [getD_at hjl] at c4; omega
    refine VC.skip (VC.text ?_); refine VO.c (.move rfl) (VO.c (.add rfl rfl (by omega)) (VO.c (.assign rfl) ?_)); refine VO.nil ?_; refine ⟨_, [(0, .v y23 l), (1, I t), (5, I (((j + 1) : Nat) : Int))], ?_, ⟨rfl, rfl, rfl, trivial⟩, (j + 1), rfl, rfl, rfl, (by omega), (by exact fun k h h3 => if e : k = j then (by subst e; exact hno) else hi k h (by omega))⟩; omega
  refine VC.exit (VC.seq (VC.text ?_)); refine VO.c (.assign rfl) (VO.go ?_); refine VC.ret ?_; exact VEnd.one rfl evT (pvE (by exact (List.any_eq_false.2 fun x hx => by obtain ⟨k, h, rfl⟩ := List.mem_iff_getElem.1 hx; have := hi k h (by omega); simp; omega).symm))
end Go.Proofs
namespace Go.Proofs
open Go.Fs Ieee
theorem w16 : u32 1098907648 = some (16 * 713623846352979940529142984724747568191373312) := by decide +kernel
theorem u32z : u32 0 = some 0 := by decide +kernel
theorem w64 : u32 1115684864 = some 45671926166590716193865151022383844364247891968 := by decide +kernel
theorem wm64 : u32 3263168512 = some (-45671926166590716193865151022383844364247891968) := by decide +kernel
theorem fitN {n : Int} (h : -100000 ≤ n ∧ n ≤ 100000) : fit n := ⟨by omega, by omega⟩
theorem t16_fit {u : Int} (h : u.natAbs ≤ 45671926166590716193865151022383844364247891968) : -1024 ≤ (16 * u).tdiv 713623846352979940529142984724747568191373312 ∧ (16 * u).tdiv 713623846352979940529142984724747568191373312 ≤ 1024 := by
  have h1 := Int.mul_tdiv_add_tmod (16 * u) 713623846352979940529142984724747568191373312; have h2 := Int.tmod_lt_of_pos (16 * u) (show (0 : Int) < 713623846352979940529142984724747568191373312 by decide)
  have h3 : -713623846352979940529142984724747568191373312 < (16 * u).tmod 713623846352979940529142984724747568191373312 := by
    have h4 := Int.tmod_lt_of_pos (-(16 * u)) (show (0 : Int) < 713623846352979940529142984724747568191373312 by decide); rw [Int.neg_tmod] at h4; omega
  omega
theorem gSix_ok {u : Int} {x : Nat} (hu : u32 x = some u) (h0 : u.natAbs ≤ 45671926166590716193865151022383844364247891968) : VF Tryz.prog OA 31 [.v (.flt .f32) x] (I ((16 * u).tdiv 713623846352979940529142984724747568191373312)) := by
  refine VF.enter Tryz.func31 rfl (fun _ _ => rfl) rfl ?_; show VC _ _ _ _ _ [(0, .v (.flt .f32) x)] [] _; refine VC.seq (VC.text ?_); refine VO.c (.assign rfl) ?_; refine VO.go (VC.seq (VC.text ?_)); refine VO.c (.move rfl) ?_; obtain ⟨r, hr, hr2⟩ := mul16 w16 hu h0; have hf := t16_fit h0; refine VO.c (.fop (mul32E hr)) (VO.c (.cvFI (toInt32E (toInt32 hr2)) (fitN (by omega))) (VO.c (.assign rfl) (VO.go ?_))); refine VC.ret ?_; exact VEnd.one rfl evT (pvI (by first | rfl | simp))
theorem gLvF_ok {u : Int} {x : Nat} (hu : u32 x = some u) : VF Tryz.prog OA 67 [.v (.flt .f32) x] (I (lvlE x)) := by
  refine VF.enter Tryz.func67 rfl (fun _ _ => rfl) rfl ?_; show VC _ _ _ _ _ [(0, .v (.flt .f32) x)] [] _; refine VC.seq (VC.text ?_); refine VO.c (.assign rfl) ?_; refine VO.go (VC.seq (VC.seq (VC.text ?_))); refine VO.c (.move rfl) (VO.c (.move rfl) ?_); obtain ⟨r, hr, hr0⟩ := sub_self32 hu; refine VO.c (.fop (sub32E hr)) (VO.c (.fcmpD (b := .neq) (fcmp32 hr0 u32z).2.1) (VO.go ?_)); refine VC.condD rfl (fun c1 => ?_) (fun c1 => ?_)
  · exact absurd rfl c1
  refine VC.skip (VC.seq (VC.seq (VC.text ?_))); refine VO.c (.move rfl) (VO.c (.fcmpD (b := .lss) (fcmp32 hu wm64).2.2.1) (VO.c (.move rfl) ?_)); refine VO.cg (r := decide (u < -45671926166590716193865151022383844364247891968)) (w := false) [] trivial (fun _ => (.move rfl)) ?_; refine VO.cg (r := decide (u < -45671926166590716193865151022383844364247891968)) (w := false) [(10, .v (.flt .f32) x)] ⟨rfl, trivial⟩ (fun _ => (.fcmpD (b := .gtr) (fcmp32 hu w64).2.2.2.2.1)) ?_; refine VO.c (.or) (VO.go ?_); refine VC.condB rfl (fun c3 => ?_) (fun c3 => ?_)
  · try simp only [Bool.and_eq_true, Bool.or_eq_true, Bool.and_eq_false_iff, Bool.or_eq_false_iff, Bool.not_eq_true', Bool.not_eq_false', decide_eq_true_eq, decide_eq_false_iff_not] at c3
    refine VC.seq (VC.text ?_); refine VO.c (.assign rfl) (VO.go ?_); refine VC.ret ?_; exact VEnd.one rfl evT (pvI (by unfold lvlE; rw [hu]; simp only; rw [if_neg (by omega)]))
  try simp only [Bool.and_eq_true, Bool.or_eq_true, Bool.and_eq_false_iff, Bool.or_eq_false_iff, Bool.not_eq_true', Bool.not_eq_false', decide_eq_true_eq, decide_eq_false_iff_not] at c3
  refine VC.skip (VC.seq (VC.text ?_)); refine VO.c (.move rfl) ?_
  have hb : -45671926166590716193865151022383844364247891968 ≤ u ∧ u ≤ 45671926166590716193865151022383844364247891968 := by omega
  have hf := t16_fit (u := u) (by omega); obtain ⟨r2, hr2, hr3⟩ := mul16 w16 hu (by omega); have hi := ofInt32 (n := (16 * u).tdiv 713623846352979940529142984724747568191373312) (by omega); refine VO.call rfl rfl (VF.call (gSix_ok (u := u) hu (by omega))) ?_; refine VO.c (.cvIF .f32) (VO.c (.move rfl) (VO.c (.fop (mul32E hr2)) (VO.c (.fcmpD (b := .neq) (fcmp32 hi hr3).2.1) ?_))); refine VO.call rfl rfl (VF.call (gWhen_ok )) ?_; refine VO.c (.assign rfl) (VO.go ?_); refine VC.ret ?_; exact VEnd.one rfl evT (pvI (by unfold lvlE whenE; rw [hu]; simp only; have hw := whole_iff32 hb; by_cases h1 : u % 44601490397061246283071436545296723011960832 = 0 <;> simp [h1, hw, hb]))
theorem gLvN_ok {x : Nat} (hu : u32 x = none) : VF Tryz.prog OA 67 [.v (.flt .f32) x] (I (lvlE x)) := by
  refine VF.enter Tryz.func67 rfl (fun _ _ => rfl) rfl ?_; show VC _ _ _ _ _ [(0, .v (.flt .f32) x)] [] _; refine VC.seq (VC.text ?_); refine VO.c (.assign rfl) ?_; refine VO.go (VC.seq (VC.seq (VC.text ?_))); refine VO.c (.move rfl) (VO.c (.move rfl) (VO.c (.fnan (nan32E hu)) (VO.c (.fnancmp (r := true) rfl) ?_))); refine VO.go ?_; refine VC.condT rfl ?_; refine VC.seq (VC.text ?_); refine VO.c (.assign rfl) (VO.go ?_); refine VC.ret ?_; exact VEnd.one rfl evT (pvI (by unfold lvlE; rw [hu]))
theorem gLv_ok {x : Nat} : VF Tryz.prog OA 67 [.v (.flt .f32) x] (I (lvlE x)) := by
  cases hu : u32 x with
  | none => exact gLvN_ok hu
  | some u => exact gLvF_ok hu
theorem v16 : u64 4625196817309499392 = some ((16 : Int) * ((713623846352979940529142984724747568191373312 * kW : Nat) : Int)) := by decide +kernel
theorem v64 : u64 4634204016564240384 = some ((45671926166590716193865151022383844364247891968 : Int) * ((kW : Nat) : Int)) := by decide +kernel
theorem vm64 : u64 13857576053419016192 = some ((-45671926166590716193865151022383844364247891968 : Int) * ((kW : Nat) : Int)) := by decide +kernel
theorem ord_self {f : Format} {x : Nat} {u : Int} (h : f.units x = some u) : f.order x x = some .eq := by
  rw [Format.order_units h h, compare_int, if_neg (by omega), if_pos rfl]
theorem xBits_ok {b : Nat} : VF Tryz.prog OA 85 [.v (.flt .f64) b] (.v (.int .u64) ((b : Nat) : Int)) :=
  VF.extFlt (e := Extern.MathFloatBits.float64bits) Tryz.func85 (fun _ _ => rfl) (by kernel_rfl) (by kernel_rfl) (by kernel_rfl) (w := .int .u64 ((b : Nat) : Int)) rfl fun _ _ => RepV.ofInt _ _
theorem xFrom_ok {n : Nat} : VF Tryz.prog OA 84 [.v (.int .u64) ((n : Nat) : Int)] (.v (.flt .f64) n) :=
  VF.extInt (e := Extern.MathFloatBits.float64frombits) Tryz.func84 (fun _ _ => rfl) (by kernel_rfl) (by kernel_rfl) (by kernel_rfl) (w := .float .f64 n) rfl fun _ _ => RepV.ofFlt _ _
theorem xFloor_ok {y : Nat} (hy : ∃ u, u64 y = some u) : VF Tryz.prog OA 61 [.v (.flt .f64) y] (.v (.flt .f64) (double.write ((double.read y).integral .down))) := by
  obtain ⟨u, hu⟩ := hy; obtain ⟨s, m, p, h1, _, _⟩ := Format.units_inv hu; exact VF.extFlt (e := Extern.MathFloor.toIntegral "math.archFloor" .down) Tryz.func61 (fun _ _ => rfl) (by kernel_rfl) (by kernel_rfl) (by kernel_rfl) (w := .float .f64 (double.write ((double.read y).integral .down))) (floor_run h1) fun _ _ => RepV.ofFlt _ _
theorem mFloor_ok {y : Nat} (hy : ∃ u, u64 y = some u) : VF Tryz.prog OA 38 [.v (.flt .f64) y] (.v (.flt .f64) (double.write ((double.read y).integral .down))) := by
  refine VF.enter Tryz.func38 rfl (fun _ _ => rfl) rfl ?_; show VC _ _ _ _ _ [(0, .v (.flt .f64) y)] [] _; refine VC.seq (VC.text ?_); refine VO.c (.assign rfl) ?_; refine VO.go (VC.seq ?_); refine VC.condT rfl ?_; refine VC.seq (VC.text ?_); refine VO.c (.move rfl) ?_; refine VO.call rfl rfl (VF.call (xFloor_ok (by first | assumption | omega | simp))) ?_; refine VO.c (.assign rfl) (VO.go ?_); refine VC.ret ?_; exact VEnd.one rfl evT (pvE (by first | rfl | simp))
theorem mNaN_ok {y : Nat} (hy : double.order y y = some .eq) : VF Tryz.prog OA 36 [.v (.flt .f64) y] (B false) := by
  refine VF.enter Tryz.func36 rfl (fun _ _ => rfl) rfl ?_; show VC _ _ _ _ _ [(0, .v (.flt .f64) y)] [] _; refine VC.seq (VC.text ?_); refine VO.c (.assign rfl) ?_; refine VO.go (VC.seq (VC.text ?_)); refine VO.c (.move rfl) (VO.c (.move rfl) (VO.c (.fcmpD (b := .neq) (r := false) (fneq_self hy)) (VO.c (.assign rfl) ?_))); refine VO.go ?_; refine VC.ret ?_; exact VEnd.one rfl evT (pvE (by first | rfl | simp))
theorem mAbs_ok {b : Nat} : VF Tryz.prog OA 60 [.v (.flt .f64) b] (.v (.flt .f64) (b % 9223372036854775808)) := by
  refine VF.enter Tryz.func60 rfl (fun _ _ => rfl) rfl ?_; show VC _ _ _ _ _ [(0, .v (.flt .f64) b)] [] _; refine VC.seq (VC.text ?_); refine VO.c (.assign rfl) ?_; refine VO.go (VC.seq (VC.text ?_)); refine VO.c (.move rfl) ?_; refine VO.call rfl rfl (VF.call (xBits_ok )) ?_; refine VO.c (.clr63 rfl rfl) ?_; refine VO.call rfl rfl (VF.call (xFrom_ok )) ?_; refine VO.c (.assign rfl) (VO.go ?_); refine VC.ret ?_; exact VEnd.one rfl evT (pvE (by first | rfl | simp))
theorem mInf_ok {y : Nat} {s : Int} (hs : s = 0) : VF Tryz.prog OA 37 [.v (.flt .f64) y, I s] (B (fcmpE .gtr .f64 (y % 9223372036854775808) 9218868437227405311)) := by
  refine VF.enter Tryz.func37 rfl (fun _ _ => rfl) rfl ?_; show VC _ _ _ _ _ [(0, .v (.flt .f64) y), (1, I s)] [] _; refine VC.seq (VC.text ?_); refine VO.c (.assign rfl) ?_; refine VO.go (VC.seq (VC.seq (VC.text ?_))); refine VO.c (.move rfl) (VO.c (.eql) (VO.go ?_)); refine VC.condD rfl (fun c1 => ?_) (fun c1 => ?_)
  · refine VC.text ?_; refine VO.c (.move rfl) ?_; refine VO.call rfl rfl (VF.call (mAbs_ok )) ?_; refine VO.c (.assign rfl) ?_; refine VO.go (VC.seq (VC.text ?_)); refine VO.c (.move rfl) (VO.c (.fcmp .gtr) (VO.c (.assign rfl) (VO.go ?_))); refine VC.ret ?_; exact VEnd.one rfl evT (pvE (by first | rfl | simp))
  exact absurd hs c1
theorem neW {r : Nat} {u : Int} (hr : u64 r = some (16 * (u * (kW : Nat)))) (hg : (decide (45671926166590716193865151022383844364247891968 < u) || decide (u < -45671926166590716193865151022383844364247891968)) = false) : fcmpE .neq .f64 r (double.write ((double.read r).integral .down)) = decide (u % 44601490397061246283071436545296723011960832 ≠ 0) := by
  have hb : -45671926166590716193865151022383844364247891968 ≤ u ∧ u ≤ 45671926166590716193865151022383844364247891968 := by simp at hg; omega
  rw [(fcmp64 hr (floorw hr hb)).2.1]; exact decide_eq_decide.2 (not_congr whole_iff)
theorem rLvF_ok {u : Int} {x : Nat} (hu : u32 x = some u) : VF Tryz.prog OA 20 [.v (.flt .f32) x] (I (lvlE x)) := by
  refine VF.enter Tryz.func20 rfl (fun _ _ => rfl) rfl ?_; show VC _ _ _ _ _ [(0, .v (.flt .f32) x)] [] _; refine VC.seq (VC.text ?_); refine VO.c (.assign rfl) ?_; refine VO.go (VC.seq (VC.text ?_)); refine VO.c (.move rfl) ?_; have hb := u32_bound hu; have hy := widen hu hb; obtain ⟨r, hr, hr2⟩ := mul16w v16 hu hy hb; refine VO.c (.widen hu hy) (VO.c (.assign rfl) ?_); refine VO.go (VC.seq (VC.seq (VC.text ?_))); refine VO.c (.move rfl) ?_; refine VO.call rfl rfl (VF.call (mNaN_ok (ord_self hy))) ?_; refine VO.c (.move rfl) (VO.c (.move rfl) ?_); refine VO.call rfl rfl (VF.call (mInf_ok rfl)) ?_; refine VO.c (.pickF rfl rfl) (VO.go ?_); refine VC.condB rfl (fun c2 => ?_) (fun c2 => ?_)
  · rw [(fcmp64 (units_clr hy) top64).2.2.2.2.1] at c2; simp at c2; have := top_bound hb; omega
  refine VC.skip (VC.seq (VC.seq (VC.text ?_))); refine VO.c (.move rfl) (VO.c (.fcmpD (b := .gtr) (r := decide (45671926166590716193865151022383844364247891968 < u)) ((fcmp64 hy v64).2.2.2.2.1.trans (decide_eq_decide.2 (Int.mul_lt_mul_right kW_int)))) (VO.c (.move rfl) ?_)); refine VO.cg (r := decide (45671926166590716193865151022383844364247891968 < u)) (w := false) [] trivial (fun _ => (.move rfl)) ?_; refine VO.cg (r := decide (45671926166590716193865151022383844364247891968 < u)) (w := false) [(15, .v (.flt .f64) (double.write (single.read x)))] ⟨rfl, trivial⟩ (fun _ => (.fcmpD (b := .lss) (r := decide (u < -45671926166590716193865151022383844364247891968)) ((fcmp64 hy vm64).2.2.1.trans (decide_eq_decide.2 (Int.mul_lt_mul_right kW_int))))) ?_; refine VO.c (.or) (VO.c (.move rfl) ?_); refine VO.cg (r := ((decide (45671926166590716193865151022383844364247891968 < u)) || (decide (u < -45671926166590716193865151022383844364247891968)))) (w := false) [] trivial (fun _ => (.move rfl)) ?_; refine VO.cg (r := ((decide (45671926166590716193865151022383844364247891968 < u)) || (decide (u < -45671926166590716193865151022383844364247891968)))) (w := false) [(19, .v (.flt .f64) (double.write (single.read x)))] ⟨rfl, trivial⟩ (fun _ => (.fop (mul64E hr))) ?_; refine VO.cg (r := ((decide (45671926166590716193865151022383844364247891968 < u)) || (decide (u < -45671926166590716193865151022383844364247891968)))) (w := false) [] trivial (fun _ => (.move rfl)) ?_; refine VO.cg (r := ((decide (45671926166590716193865151022383844364247891968 < u)) || (decide (u < -45671926166590716193865151022383844364247891968)))) (w := false) [(21, .v (.flt .f64) (double.write (single.read x)))] ⟨rfl, trivial⟩ (fun _ => (.fop (mul64E hr))) ?_; refine VO.callg (r0 := ((decide (45671926166590716193865151022383844364247891968 < u)) || (decide (u < -45671926166590716193865151022383844364247891968)))) (w := false) [(22, .v (.flt .f64) r)] ⟨rfl, trivial⟩ rfl rfl .same .refl rfl (fun _ => VF.call (mFloor_ok ⟨_, hr2⟩)) ?_; refine VO.cg (r := ((decide (45671926166590716193865151022383844364247891968 < u)) || (decide (u < -45671926166590716193865151022383844364247891968)))) (w := false) [(20, .v (.flt .f64) r), (23, .v (.flt .f64) (double.write ((double.read r).integral .down)))] ⟨rfl, rfl, trivial⟩ (fun hgd => have g4_6 : ((decide (45671926166590716193865151022383844364247891968 < u)) || (decide (u < -45671926166590716193865151022383844364247891968))) = false := (by simpa using hgd); (.fcmpD (b := .neq) (neW hr2 g4_6))) ?_; refine VO.c (.or) (VO.go ?_); refine VC.condB rfl (fun c4 => ?_) (fun c4 => ?_)
  · try simp only [Bool.and_eq_true, Bool.or_eq_true, Bool.and_eq_false_iff, Bool.or_eq_false_iff, Bool.not_eq_true', Bool.not_eq_false', decide_eq_true_eq, decide_eq_false_iff_not] at c4
    refine VC.seq (VC.text ?_); refine VO.c (.assign rfl) (VO.go ?_); refine VC.ret ?_; exact VEnd.one rfl evT (pvI (by unfold lvlE; rw [hu]; simp only; rw [if_neg]; omega))
  try simp only [Bool.and_eq_true, Bool.or_eq_true, Bool.and_eq_false_iff, Bool.or_eq_false_iff, Bool.not_eq_true', Bool.not_eq_false', decide_eq_true_eq, decide_eq_false_iff_not] at c4
  refine VC.skip (VC.seq (VC.text ?_)); refine VO.c (.assign rfl) (VO.go ?_); refine VC.ret ?_; exact VEnd.one rfl evT (pvI (by unfold lvlE; rw [hu]; simp only; rw [if_pos]; omega))
theorem rLvI_ok {s : Bool} {x : Nat} (hu : single.read x = .infinity s) : VF Tryz.prog OA 20 [.v (.flt .f32) x] (I (lvlE x)) := by
  refine VF.enter Tryz.func20 rfl (fun _ _ => rfl) rfl ?_; show VC _ _ _ _ _ [(0, .v (.flt .f32) x)] [] _; refine VC.seq (VC.text ?_); refine VO.c (.assign rfl) ?_; refine VO.go (VC.seq (VC.text ?_)); refine VO.c (.move rfl) (VO.c (.widenI hu) (VO.c (.assign rfl) ?_)); refine VO.go (VC.seq (VC.seq (VC.text ?_))); refine VO.c (.move rfl) ?_; refine VO.call rfl rfl (VF.call (mNaN_ok (by cases s <;> decide +kernel))) ?_; refine VO.c (.move rfl) (VO.c (.move rfl) ?_); refine VO.call rfl rfl (VF.call (mInf_ok rfl)) ?_; refine VO.c (.pickF rfl rfl) (VO.go ?_); refine VC.condB rfl (fun c2 => ?_) (fun c2 => ?_)
  · refine VC.seq (VC.text ?_); refine VO.c (.assign rfl) (VO.go ?_); refine VC.ret ?_; exact VEnd.one rfl evT (pvI (by unfold lvlE u32 Format.units; rw [hu]))
  exact absurd c2 (by cases s <;> decide +kernel)
theorem mNaNJ_ok : VF Tryz.prog OA 36 [.raw (nanJ .f64)] (B true) := by
  refine VF.enter Tryz.func36 rfl (fun _ _ => rfl) rfl ?_; show VC _ _ _ _ _ [(0, .raw (nanJ .f64))] [] _; refine VC.seq (VC.text ?_); refine VO.c (.assign rfl) ?_; refine VO.go (VC.seq (VC.text ?_)); refine VO.c (.move rfl) (VO.c (.move rfl) (VO.c (.fnancmp2 (k := .f64) (r := true) rfl) (VO.c (.assign rfl) ?_))); refine VO.go ?_; refine VC.ret ?_; exact VEnd.one rfl evT rfl
theorem rLvN_ok {s : Bool} {m : Nat} {x : Nat} (hu : single.read x = .nan s m) : VF Tryz.prog OA 20 [.v (.flt .f32) x] (I (lvlE x)) := by
  refine VF.enter Tryz.func20 rfl (fun _ _ => rfl) rfl ?_; show VC _ _ _ _ _ [(0, .v (.flt .f32) x)] [] _; refine VC.seq (VC.text ?_); refine VO.c (.assign rfl) ?_; refine VO.go (VC.seq (VC.text ?_)); refine VO.c (.move rfl) (VO.c (.widenN hu) (VO.c (.assign rfl) ?_)); refine VO.go (VC.seq (VC.seq (VC.text ?_))); refine VO.c (.move rfl) ?_; refine VO.call rfl rfl (VF.call (mNaNJ_ok )) ?_; refine VO.c (.move rfl) (VO.skip (VO.skip (VO.c (.pickT rfl rfl) ?_))); refine VO.go ?_; refine VC.condT rfl ?_; refine VC.seq (VC.text ?_); refine VO.c (.assign rfl) (VO.go ?_); refine VC.ret ?_; exact VEnd.one rfl evT (pvI (by unfold lvlE u32 Format.units; rw [hu]))
theorem rLv_ok {x : Nat} : VF Tryz.prog OA 20 [.v (.flt .f32) x] (I (lvlE x)) := by
  cases hu : u32 x with
  | some u => exact rLvF_ok hu
  | none =>
    rcases Format.units_none hu with ⟨s, h⟩ | ⟨s, m, h⟩
    · exact rLvI_ok h
    exact rLvN_ok h
theorem sxW {x r : Nat} (hx : lvlE x = 0) (hr : u64 r = some (16 * ((sxE x * 44601490397061246283071436545296723011960832) * (kW : Nat)))) : (double.read r).toInt .zero = some (sxE x) := by
  rw [Format.toInt_units hr (by decide), n1074, cast_mk]; have hk := kW_int; generalize (kW : Int) = k at hk
  have e : 16 * (sxE x * 44601490397061246283071436545296723011960832 * k) = sxE x * (713623846352979940529142984724747568191373312 * k) := by
    rw [← Int.mul_assoc, ← Int.mul_assoc, ← Int.mul_assoc]; congr 1; omega
  rw [e, Int.mul_tdiv_cancel _ (by omega)]
theorem rSix_ok {x : Nat} (hx : lvlE x = 0) : VF Tryz.prog OA 11 [.v (.flt .f32) x] (I (sxE x)) := by
  refine VF.enter Tryz.func11 rfl (fun _ _ => rfl) rfl ?_; show VC _ _ _ _ _ [(0, .v (.flt .f32) x)] [] _; refine VC.seq (VC.text ?_); refine VO.c (.assign rfl) ?_; refine VO.go (VC.seq (VC.text ?_)); refine VO.c (.move rfl) ?_; obtain ⟨hu, h0, h1⟩ := lvl_ok hx; have hb := u32_bound hu; have hy := widen hu hb; obtain ⟨r, hr, hr2⟩ := mul16w v16 hu hy hb; refine VO.c (.widen hu hy) (VO.c (.fop (mul64E hr)) (VO.c (.cvFI (toInt64E (sxW hx hr2)) (fitN (by omega))) (VO.c (.assign rfl) ?_))); refine VO.go ?_; refine VC.ret ?_; exact VEnd.one rfl evT (pvI (by first | rfl | simp))
theorem gSixL_ok {x : Nat} (hx : lvlE x = 0) : VF Tryz.prog OA 31 [.v (.flt .f32) x] (I (sxE x)) := by
  refine VF.enter Tryz.func31 rfl (fun _ _ => rfl) rfl ?_; show VC _ _ _ _ _ [(0, .v (.flt .f32) x)] [] _; refine VC.seq (VC.text ?_); refine VO.c (.assign rfl) ?_; refine VO.go (VC.seq (VC.text ?_)); refine VO.c (.move rfl) ?_; obtain ⟨hu, h0, h1⟩ := lvl_ok hx; obtain ⟨r, hr, hr2⟩ := mul16 w16 hu (by omega); have hs := sx_tdiv (u := sxE x * 44601490397061246283071436545296723011960832) rfl; have ht := toInt32 hr2; rw [hs] at ht; refine VO.c (.fop (mul32E hr)) (VO.c (.cvFI (toInt32E ht) (fitN (by omega))) (VO.c (.assign rfl) (VO.go ?_))); refine VC.ret ?_; exact VEnd.one rfl evT (pvI (by first | rfl | simp))
end Go.Proofs
namespace Go.Proofs
open Go.Fs Ieee
set_option maxHeartbeats 2000000
abbrev y22 : Ty := (.sl (.flt .f32))
abbrev y25 : Ty := (.pair .str (.pair (.int .i64) (.pair (.sl (.flt .f32)) (.sl (.pair (.int .i64) (.int .i64))))))
abbrev y30 : Ty := (.pair .str (.pair (.int .i64) (.pair (.sl (.flt .f32)) (.sl (.pair (.int .i64) (.int .i64))))))
theorem vt9 : ValT Tryz.prog 9 .str := valT_of (by kernel_rfl)
theorem vt22 : ValT Tryz.prog 22 y22 := valT_of (by kernel_rfl)
theorem vt23 : ValT Tryz.prog 23 y23 := valT_of (by kernel_rfl)
theorem vt39 : ValT Tryz.prog 39 (.flt .f32) := valT_of (by kernel_rfl)
theorem el22 : ElT Tryz.prog 22 39 (.flt .f32) := elT_of (by kernel_rfl)
abbrev Rec1 := ByteArray × Int × List Nat × List (Int × Int)
def idxE {α : Type} (F : α → Bool) : List α → Int → Int
  | [], _ => -1
  | x :: l, k => if F x = true then k else idxE F l (k + 1)
theorem idxE_drop {α : Type} {F : α → Bool} {l : List α} {j : Nat} (hj : j < l.length) : idxE F (l.drop j) (j : Nat) = if F l[j] = true then ((j : Nat) : Int) else idxE F (l.drop (j + 1)) ((j + 1 : Nat) : Int) := by
  rw [List.drop_eq_getElem_cons hj] <;> rfl
theorem idxE_end {α : Type} {F : α → Bool} {l : List α} {j : Nat} {k : Int} (hj : l.length ≤ j) : idxE F (l.drop j) k = -1 := by rw [List.drop_eq_nil_of_le hj] <;> rfl
theorem idxE_any {α : Type} {F : α → Bool} : ∀ {l : List α} {k : Int}, 0 ≤ k → ((0 ≤ idxE F l k) ↔ l.any F = true)
  | [], k, _ => by simp [idxE]
  | x :: l, k, h => by
    unfold idxE; rw [List.any_cons]; by_cases hx : F x = true
    · rw [if_pos hx, hx]; simp [h]
    rw [if_neg hx, idxE_any (l := l) (by omega)]; simp [hx]
theorem zIndexFl_ok {F : Nat → Bool} {l : List Nat} {f : PV} (hl : l.length < 1000000) (hf : ∀ x ∈ l, VCall Tryz.prog OA f [.v (.flt .f32) x] (B (F x))) : VF Tryz.prog OA 70 [.v y22 l, f] (I (idxE F l 0)) := by
  refine VF.enter Tryz.func70 rfl (fun _ _ => rfl) rfl ?_; show VC _ _ _ _ _ [(0, .v y22 l), (1, f)] [] _; refine VC.seq (VC.text ?_); refine VO.c (.assign rfl) ?_; refine VO.go (VC.seq (VC.seq (VC.text ?_))); refine VO.c (.move rfl) ?_; refine VO.r (.len el22) ?_; refine VO.c (.move rfl) ?_; refine VO.go (VC.block ?_); refine VC.keep [(0, .v y22 l), (1, f), (7, I ((l.length : Nat) : Int)), (8, I ((0 : Nat) : Int))] ⟨rfl, rfl, rfl, rfl, trivial⟩ ?_; refine VC.loop (I := fun kk ff ss => ∃ (j : Nat), kk = l.length - j ∧ ff = [(0, .v y22 l), (1, f), (7, I ((l.length : Nat) : Int)), (8, I ((j : Nat) : Int))] ∧ ss = [] ∧ (j ≤ l.length) ∧ (idxE F l 0 = idxE F (l.drop j) (j : Nat))) ?_ _ _ _ ⟨0, rfl, rfl, rfl, Nat.zero_le _, (by rfl)⟩; rintro kk ff ss ⟨j, hk0, rfl, rfl, hj, hi⟩; refine VC.seq (VC.text ?_); refine VO.c (.lss) ?_; refine VO.go (VC.seq ?_); refine VC.condD rfl (fun c2 => ?_) (fun c2 => ?_)
  · refine VC.skip (VC.seq (VC.block (VC.seq (VC.text ?_)))); refine VO.c (.move rfl) (VO.c (.assign rfl) ?_); refine VO.go (VC.seq (VC.text ?_)); refine VO.c (.move rfl) (VO.c (.move rfl) (VO.c (.move rfl) (VO.c (.ix (j := j) rfl rfl el22 (by omega)) ?_))); refine VO.r (.ld vt39) ?_; refine VO.call rfl rfl ((hf _ (List.getElem_mem _)) ) ?_; refine VO.go ?_; refine VC.condB rfl (fun c4 => ?_) (fun c4 => ?_)
    · refine VC.seq (VC.text ?_); refine VO.c (.move rfl) (VO.c (.assign rfl) (VO.go ?_)); refine VC.ret ?_; exact VEnd.one rfl evT (pvI (by rw [hi, idxE_drop (by omega), if_pos c4]))
    refine VC.skip (VC.text ?_); refine VO.c (.add rfl rfl (by omega)) (VO.c (.move rfl) ?_); refine VO.nil ?_; refine ⟨_, [(0, .v y22 l), (1, f), (7, I ((l.length : Nat) : Int)), (8, I (((j + 1) : Nat) : Int))], ?_, ⟨rfl, rfl, rfl, rfl, trivial⟩, (j + 1), rfl, rfl, rfl, (by omega), (by rw [hi, idxE_drop (by omega), if_neg (by rw [c4]; decide)])⟩; omega
  refine VC.exit (VC.seq (VC.text ?_)); refine VO.c (.assign rfl) (VO.go ?_); refine VC.ret ?_; exact VEnd.one rfl evT (pvI (by rw [hi, idxE_end (by omega)]))
theorem zContFl_ok {F : Nat → Bool} {l : List Nat} {f : PV} (hl : l.length < 1000000) (hf : ∀ x ∈ l, VCall Tryz.prog OA f [.v (.flt .f32) x] (B (F x))) : VF Tryz.prog OA 53 [.v y22 l, f] (B (l.any F)) := by
  refine VF.enter Tryz.func53 rfl (fun _ _ => rfl) rfl ?_; show VC _ _ _ _ _ [(0, .v y22 l), (1, f)] [] _; refine VC.seq (VC.text ?_); refine VO.c (.assign rfl) ?_; refine VO.go (VC.seq (VC.text ?_)); refine VO.c (.move rfl) (VO.c (.move rfl) ?_); refine VO.call rfl rfl (VF.call (zIndexFl_ok (F := F) hl hf)) ?_; refine VO.c (.geq) (VO.c (.assign rfl) (VO.go ?_)); refine VC.ret ?_; exact VEnd.one rfl evT (pvE (by have h9 := idxE_any (F := F) (l := l) (k := 0) (by omega); cases h8 : l.any F <;> simp_all))
theorem zIndexSp_ok {F : Int × Int → Bool} {l : List (Int × Int)} {f : PV} (hl : l.length < 1000000) (hf : ∀ x ∈ l, VCall Tryz.prog OA f [.v y54 x] (B (F x))) : VF Tryz.prog OA 69 [.v y23 l, f] (I (idxE F l 0)) := by
  refine VF.enter Tryz.func69 rfl (fun _ _ => rfl) rfl ?_; show VC _ _ _ _ _ [(0, .v y23 l), (1, f)] [] _; refine VC.seq (VC.text ?_); refine VO.c (.assign rfl) ?_; refine VO.go (VC.seq (VC.seq (VC.text ?_))); refine VO.c (.move rfl) ?_; refine VO.r (.len el23) ?_; refine VO.c (.move rfl) ?_; refine VO.go (VC.block ?_); refine VC.keep [(0, .v y23 l), (1, f), (7, I ((l.length : Nat) : Int)), (8, I ((0 : Nat) : Int))] ⟨rfl, rfl, rfl, rfl, trivial⟩ ?_; refine VC.loop (I := fun kk ff ss => ∃ (j : Nat), kk = l.length - j ∧ ff = [(0, .v y23 l), (1, f), (7, I ((l.length : Nat) : Int)), (8, I ((j : Nat) : Int))] ∧ ss = [] ∧ (j ≤ l.length) ∧ (idxE F l 0 = idxE F (l.drop j) (j : Nat))) ?_ _ _ _ ⟨0, rfl, rfl, rfl, Nat.zero_le _, (by rfl)⟩; rintro kk ff ss ⟨j, hk0, rfl, rfl, hj, hi⟩; refine VC.seq (VC.text ?_); refine VO.c (.lss) ?_; refine VO.go (VC.seq ?_); refine VC.condD rfl (fun c2 => ?_) (fun c2 => ?_)
  · refine VC.skip (VC.seq (VC.block (VC.seq (VC.text ?_)))); refine VO.c (.move rfl) (VO.c (.assign rfl) ?_); refine VO.go (VC.seq (VC.text ?_)); refine VO.c (.move rfl) (VO.c (.move rfl) (VO.c (.move rfl) (VO.c (.ix (j := j) rfl rfl el23 (by omega)) ?_))); refine VO.r (.ld vt54) ?_; refine VO.call rfl rfl ((hf _ (List.getElem_mem _)) ) ?_; refine VO.go ?_; refine VC.condB rfl (fun c4 => ?_) (fun c4 => ?_)
    · refine VC.seq (VC.text ?_); refine VO.c (.move rfl) (VO.c (.assign rfl) (VO.go ?_)); refine VC.ret ?_; exact VEnd.one rfl evT (pvI (by rw [hi, idxE_drop (by omega), if_pos c4]))
    refine VC.skip (VC.text ?_); refine VO.c (.add rfl rfl (by omega)) (VO.c (.move rfl) ?_); refine VO.nil ?_; refine ⟨_, [(0, .v y23 l), (1, f), (7, I ((l.length : Nat) : Int)), (8, I (((j + 1) : Nat) : Int))], ?_, ⟨rfl, rfl, rfl, rfl, trivial⟩, (j + 1), rfl, rfl, rfl, (by omega), (by rw [hi, idxE_drop (by omega), if_neg (by rw [c4]; decide)])⟩; omega
  refine VC.exit (VC.seq (VC.text ?_)); refine VO.c (.assign rfl) (VO.go ?_); refine VC.ret ?_; exact VEnd.one rfl evT (pvI (by rw [hi, idxE_end (by omega)]))
theorem zContSp_ok {F : Int × Int → Bool} {l : List (Int × Int)} {f : PV} (hl : l.length < 1000000) (hf : ∀ x ∈ l, VCall Tryz.prog OA f [.v y54 x] (B (F x))) : VF Tryz.prog OA 50 [.v y23 l, f] (B (l.any F)) := by
  refine VF.enter Tryz.func50 rfl (fun _ _ => rfl) rfl ?_; show VC _ _ _ _ _ [(0, .v y23 l), (1, f)] [] _; refine VC.seq (VC.text ?_); refine VO.c (.assign rfl) ?_; refine VO.go (VC.seq (VC.text ?_)); refine VO.c (.move rfl) (VO.c (.move rfl) ?_); refine VO.call rfl rfl (VF.call (zIndexSp_ok (F := F) hl hf)) ?_; refine VO.c (.geq) (VO.c (.assign rfl) (VO.go ?_)); refine VC.ret ?_; exact VEnd.one rfl evT (pvE (by have h9 := idxE_any (F := F) (l := l) (k := 0) (by omega); cases h8 : l.any F <;> simp_all))
def lvlsE (l : List Nat) : Int := firstE (l.map lvlE)
theorem lvls_drop {l : List Nat} {j : Nat} (hj : j < l.length) : lvlsE (l.drop j) = if lvlE l[j] = 0 then lvlsE (l.drop (j + 1)) else lvlE l[j] := by
  unfold lvlsE; rw [List.drop_eq_getElem_cons hj] <;> rfl
theorem lvls_end {l : List Nat} {j : Nat} (hj : l.length ≤ j) : lvlsE (l.drop j) = 0 := by rw [List.drop_eq_nil_of_le hj] <;> rfl
theorem gLvls_ok {l : List Nat} (hl : l.length < 1000000) : VF Tryz.prog OA 48 [.v y22 l] (I (lvlsE l)) := by
  refine VF.enter Tryz.func48 rfl (fun _ _ => rfl) rfl ?_; show VC _ _ _ _ _ [(0, .v y22 l)] [] _; refine VC.seq (VC.text ?_); refine VO.c (.assign rfl) (VO.go ?_); refine VC.scope ?_; refine VC.seq (VC.text ?_); refine VO.c (.assign rfl) ?_; refine VO.go (VC.seq ?_); refine VC.label ?_; refine VC.seq (VC.seq (VC.text ?_)); refine VO.c (.move rfl) ?_; refine VO.r (.len el22) ?_; refine VO.c (.move rfl) ?_; refine VO.go (VC.block ?_); refine VC.keep [(3, I 0), (6, .v y22 l), (7, I ((l.length : Nat) : Int)), (8, I ((0 : Nat) : Int))] ⟨rfl, rfl, rfl, rfl, trivial⟩ ?_; refine VC.loop (I := fun kk ff ss => ∃ (j : Nat), kk = l.length - j ∧ ff = [(3, I 0), (6, .v y22 l), (7, I ((l.length : Nat) : Int)), (8, I ((j : Nat) : Int))] ∧ ss = [] ∧ (j ≤ l.length) ∧ (lvlsE l = lvlsE (l.drop j))) ?_ _ _ _ ⟨0, rfl, rfl, rfl, Nat.zero_le _, (by rfl)⟩; rintro kk ff ss ⟨j, hk0, rfl, rfl, hj, hf⟩; refine VC.seq (VC.text ?_); refine VO.c (.lss) ?_; refine VO.go (VC.seq ?_); refine VC.condD rfl (fun c3 => ?_) (fun c3 => ?_)
  · refine VC.skip (VC.seq (VC.block (VC.seq (VC.text ?_)))); refine VO.c (.ix (j := j) rfl rfl el22 (by omega)) ?_; refine VO.r (.ld vt39) ?_; refine VO.c (.assign rfl) ?_; refine VO.go (VC.seq (VC.text ?_)); refine VO.c (.move rfl) ?_; refine VO.call rfl rfl (VF.call (gLv_ok )) ?_; refine VO.c (.assign rfl) ?_; refine VO.go (VC.seq (VC.text ?_)); refine VO.c (.move rfl) (VO.c (.neq) (VO.go ?_)); refine VC.condD rfl (fun c6 => ?_) (fun c6 => ?_)
    · refine VC.exit (VC.seq (VC.text ?_)); refine VO.c (.move rfl) (VO.c (.assign rfl) (VO.go ?_)); refine VC.ret ?_; exact VEnd.one rfl evT (pvI (by first | (rw [hf, lvls_drop (by omega), if_neg c6]; done) | rw [hf, lvls_end (by omega)]))
    refine VC.skip (VC.text ?_); refine VO.c (.add rfl rfl (by omega)) (VO.c (.move rfl) ?_); refine VO.nil ?_; refine ⟨_, [(3, I 0), (6, .v y22 l), (7, I ((l.length : Nat) : Int)), (8, I (((j + 1) : Nat) : Int))], ?_, ⟨slI rfl (by simpa using c6), rfl, rfl, rfl, trivial⟩, (j + 1), rfl, rfl, rfl, (by omega), (by rw [hf, lvls_drop (by omega), if_pos (by simpa using c6)])⟩; omega
  refine VC.exit (VC.seq (VC.text ?_)); refine VO.c (.move rfl) (VO.c (.assign rfl) (VO.go ?_)); refine VC.ret ?_; exact VEnd.one rfl evT (pvI (by first | (rw [hf, lvls_drop (by omega), if_neg c6]; done) | rw [hf, lvls_end (by omega)]))
def nzE (x : Nat) : Bool := fcmpE .neq .f32 x 0
def beyB (r : Rec1) : Bool := r.2.2.2.any fun s => decide ((r.2.2.1.length : Int) < s.2)
def fillB (r : Rec1) : Bool := r.2.2.2.any fun s => ((r.2.2.1.take s.2.toNat).drop s.1.toNat).any nzE
def headE (r : Rec1) : Int := firstE [whenE (!nameB r.1) 8, rangeE r.2.1 0 100000, whenE (decide ((4096 : Int) < (r.2.2.1.length : Nat))) 5]
def bodyE (r : Rec1) : Int := firstE [lvlsE r.2.2.1, spansE r.2.2.2]
def recE (r : Rec1) : Int := if headE r ≠ 0 then headE r else if bodyE r ≠ 0 then bodyE r else if beyB r = true then 14 else whenE (fillB r) 1
theorem gRec1_ok {s : Int × Int} {r : ByteArray × Int × (List Nat) × (List (Int × Int))} : VF Tryz.prog OA 51 [.v y54 s, .p y30 r] (B (decide ((r.2.2.1.length : Int) < s.2))) := by
  refine VF.enter Tryz.func51 rfl (fun _ _ => rfl) rfl ?_; show VC _ _ _ _ _ [(0, .v y54 s), (1, .p y30 r)] [] _; refine VC.seq (VC.text ?_); refine VO.new (.box) ?_; refine VO.c (.assign rfl) ?_; refine VO.go (VC.seq (VC.text ?_)); refine VO.c (.fa (.r .o)) ?_; refine VO.r (.ld vt3) ?_; refine VO.c (.fa (.r (.r (.l .o)))) ?_; refine VO.r (.ld vt22) ?_; refine VO.r (.len el22) ?_; refine VO.c (.gtr) (VO.c (.assign rfl) (VO.go ?_)); refine VC.ret ?_; exact VEnd.one rfl evT (pvE (by rfl))
theorem gRec21_ok {x : Nat} : VF Tryz.prog OA 54 [.v (.flt .f32) x] (B (nzE x)) := by
  refine VF.enter Tryz.func54 rfl (fun _ _ => rfl) rfl ?_; show VC _ _ _ _ _ [(0, .v (.flt .f32) x)] [] _; refine VC.seq (VC.text ?_); refine VO.c (.assign rfl) ?_; refine VO.go (VC.seq (VC.text ?_)); refine VO.c (.move rfl) (VO.c (.fcmp .neq) (VO.c (.assign rfl) (VO.go ?_))); refine VC.ret ?_; exact VEnd.one rfl evT (pvE (by rfl))
theorem gRec2_ok {s : Int × Int} {r : ByteArray × Int × (List Nat) × (List (Int × Int))} (hs : 0 ≤ s.1 ∧ s.1 ≤ s.2 ∧ s.2 ≤ (r.2.2.1.length : Nat)) (hl : r.2.2.1.length < 1000000) : VF Tryz.prog OA 52 [.v y54 s, .p y30 r] (B (((r.2.2.1.take s.2.toNat).drop s.1.toNat).any nzE)) := by
  refine VF.enter Tryz.func52 rfl (fun _ _ => rfl) rfl ?_; show VC _ _ _ _ _ [(0, .v y54 s), (1, .p y30 r)] [] _; refine VC.seq (VC.text ?_); refine VO.new (.box) ?_; refine VO.c (.assign rfl) ?_; refine VO.go (VC.seq (VC.text ?_)); refine VO.c (.fa (.r (.r (.l .o)))) ?_; refine VO.r (.ld vt22) ?_; refine VO.c (.fa (.l .o)) ?_; refine VO.r (.ld vt3) ?_; refine VO.c (.fa (.r .o)) ?_; refine VO.r (.ld vt3) ?_; refine VO.r (.cut rfl rfl rfl el22 (by exact hs)) ?_; refine VO.call rfl rfl (VF.call (zContFl_ok (F := nzE) (by simp; omega) (fun _ _ => VF.call gRec21_ok))) ?_; refine VO.c (.assign rfl) (VO.go ?_); refine VC.ret ?_; exact VEnd.one rfl evT (pvE (by rfl))
theorem bey_f {r : Rec1} (h : beyB r = false) : ∀ s ∈ r.2.2.2, s.2 ≤ (r.2.2.1.length : Nat) := fun s hs => by
  have := List.any_eq_false.1 h s hs; simp at this; omega
theorem bodyE_zero {r : Rec1} : bodyE r = 0 ↔ lvlsE r.2.2.1 = 0 ∧ spansE r.2.2.2 = 0 := by
  unfold bodyE; rw [firstE_zero]; simp
theorem gRec_ok {r : ByteArray × Int × (List Nat) × (List (Int × Int))} (hl : r.2.2.1.length < 1000000) (hg : r.2.2.2.length < 1000000) : VF Tryz.prog OA 28 [.v y30 r] (I (recE r)) := by
  refine VF.enter Tryz.func28 rfl (fun _ _ => rfl) rfl ?_; show VC _ _ _ _ _ [(0, .v y30 r)] [] _; refine VC.seq (VC.text ?_); refine VO.new (.box) ?_; refine VO.c (.assign rfl) ?_; refine VO.go (VC.seq (VC.seq (VC.drawn ?_))); refine VD.c (.fa (.l .o)) ?_; refine VD.r [] (.ld vt9) (.inl rfl) ?_; refine VD.call rfl rfl (VF.call (gName_ok )) ?_; refine VD.c (.not) ?_; refine VD.call rfl rfl (VF.call (gWhen_ok )) ?_; refine VD.c (.fa (.r (.l .o))) (VD.nw [] ?_); refine VD.r [] (.ld vt3) (.inl rfl) ?_; refine VD.call rfl rfl (VF.call (gWithin_ok )) ?_; refine VD.c (.fa (.r (.r (.l .o)))) ?_; refine VD.r [] (.ld vt22) (.inl rfl) ?_; refine VD.r [] (.len el22) (.inl rfl) ?_; refine VD.c (.gtr) ?_; refine VD.call rfl rfl (VF.call (gWhen_ok )) ?_; refine VD.nw [] ?_; refine VD.new (.lit [whenE (!(nameB r.1)) (8 : Int), rangeE r.2.1 (0 : Int) (100000 : Int), whenE (decide ((4096 : Int) < ((r.2.2.1.length : Nat) : Int))) (5 : Int)] el65) ?_; refine VD.callO rfl rfl (VF.call (gFirst_ok (by first | assumption | omega | simp))) ?_; rw [show firstE [whenE (!nameB r.1) 8, rangeE r.2.1 0 100000, whenE (decide ((4096 : Int) < (r.2.2.1.length : Nat))) 5] = headE r from rfl]; refine VD.c (.assign rfl) ?_; refine VD.go (VC.seq (VC.text ?_)); refine VO.c (.move rfl) (VO.c (.neq) (VO.go ?_)); refine VC.condD rfl (fun c2 => ?_) (fun c2 => ?_)
  · refine VC.seq (VC.text ?_); refine VO.c (.move rfl) (VO.c (.assign rfl) (VO.go ?_)); refine VC.ret ?_; exact VEnd.one rfl evT (pvI (by rw [recE, if_pos c2]))
  refine VC.skip (VC.seq (VC.seq (VC.drawn ?_))); refine VD.c (.fa (.r (.r (.l .o)))) ?_; refine VD.r [] (.ld vt22) (.inl rfl) ?_; refine VD.call rfl rfl (VF.call (gLvls_ok (by first | assumption | omega | simp))) ?_; refine VD.c (.fa (.r (.r (.r .o)))) ?_; refine VD.r [] (.ld vt23) (.inl rfl) ?_; refine VD.call rfl rfl (VF.call (gSpans_ok (by first | assumption | omega | simp))) ?_; refine VD.nw [] ?_; refine VD.new (.lit [lvlsE r.2.2.1, spansE r.2.2.2] el65) ?_; refine VD.callO rfl rfl (VF.call (gFirst_ok (by first | assumption | omega | simp))) ?_; rw [show firstE [lvlsE r.2.2.1, spansE r.2.2.2] = bodyE r from rfl]; refine VD.c (.assign rfl) ?_; refine VD.go (VC.seq (VC.text ?_)); refine VO.c (.move rfl) (VO.c (.neq) (VO.go ?_)); refine VC.condD rfl (fun c5 => ?_) (fun c5 => ?_)
  · refine VC.seq ?_; refine VC.keep [(1, .p y30 r), (4, I (bodyE r))] ⟨rfl, rfl, trivial⟩ ?_; refine VC.text ?_; refine VO.c (.move rfl) (VO.c (.assign rfl) (VO.go ?_)); refine VC.ret ?_; exact VEnd.one rfl evT (pvI (by rw [recE, if_neg c2, if_pos c5]))
  have hb0 := bodyE_zero.1 (Classical.not_not.1 c5); have hcan := (spans_canon hb0.2).1.1; refine VC.skip (VC.seq ?_); refine VC.keep [(1, .p y30 r)] ⟨rfl, trivial⟩ ?_; refine VC.text ?_; refine VO.c (.fa (.r (.r (.r .o)))) ?_; refine VO.r (.ld vt23) ?_; refine VO.c (.func) ?_; refine VO.call rfl rfl (VF.call (zContSp_ok (F := fun s => decide ((r.2.2.1.length : Int) < s.2)) hg (fun _ _ => VF.clo gRec1_ok))) ?_; rw [show (r.2.2.2.any fun s => decide ((r.2.2.1.length : Int) < s.2)) = beyB r from rfl]; refine VO.c (.assign rfl) ?_; refine VO.go (VC.seq (VC.seq (VC.text ?_))); refine VO.c (.move rfl) (VO.go ?_); refine VC.condB rfl (fun c8 => ?_) (fun c8 => ?_)
  · refine VC.seq (VC.text ?_); refine VO.c (.assign rfl) (VO.go ?_); refine VC.ret ?_; exact VEnd.one rfl evT (pvI (by rw [recE, if_neg c2, if_neg c5, if_pos c8]))
  have hbf := bey_f c8
  have hsp : ∀ s ∈ r.2.2.2, 0 ≤ s.1 ∧ s.1 ≤ s.2 ∧ s.2 ≤ (r.2.2.1.length : Nat) := fun s hs => by have := hcan s hs; have := hbf s hs; omega
  refine VC.skip (VC.seq (VC.text ?_)); refine VO.c (.fa (.r (.r (.r .o)))) ?_; refine VO.r (.ld vt23) ?_; refine VO.c (.func) ?_; refine VO.call rfl rfl (VF.call (zContSp_ok (F := fun s => ((r.2.2.1.take s.2.toNat).drop s.1.toNat).any nzE) hg (fun s hs => VF.clo (gRec2_ok (hsp s hs) hl)))) ?_; refine VO.c (.assign rfl) ?_; refine VO.go (VC.seq (VC.text ?_)); refine VO.c (.move rfl) ?_; refine VO.call rfl rfl (VF.call (gWhen_ok )) ?_; refine VO.c (.assign rfl) (VO.go ?_); refine VC.ret ?_; exact VEnd.one rfl evT (pvI (by rw [recE, if_neg c2, if_neg c5, if_neg (by rw [c8]; decide)] <;> rfl))
theorem head_two {r : Rec1} : headE r = if firstE [whenE (!nameB r.1) 8, rangeE r.2.1 0 100000] = 0 then whenE (decide ((4096 : Int) < (r.2.2.1.length : Nat))) 5 else firstE [whenE (!nameB r.1) 8, rangeE r.2.1 0 100000] := by
  unfold headE; show (if _ = 0 then (if _ = 0 then (if _ = 0 then 0 else _) else _) else _) = if (if _ = 0 then (if _ = 0 then 0 else _) else _) = 0 then _ else (if _ = 0 then (if _ = 0 then 0 else _) else _); split
  · split
    · rw [if_pos rfl]; split
      · rename_i h; exact h.symm
      rfl
    rename_i h; first | rfl | (rw [if_neg h]; done)
  rename_i h; first | rfl | (rw [if_neg h]; done)
theorem body_lv {r : Rec1} (h : lvlsE r.2.2.1 ≠ 0) : bodyE r = lvlsE r.2.2.1 := by
  unfold bodyE; show (if _ = 0 then _ else _) = _; rw [if_neg h]
theorem body_sp {r : Rec1} (h : lvlsE r.2.2.1 = 0) : bodyE r = spansE r.2.2.2 := by
  unfold bodyE; show (if _ = 0 then (if _ = 0 then 0 else _) else _) = _; rw [if_pos h]; split
  · rename_i h2; exact h2.symm
  rfl
theorem fill_t {r : Rec1} (hsp : ∀ s ∈ r.2.2.2, 0 ≤ s.1 ∧ s.1 ≤ s.2 ∧ s.2 ≤ (r.2.2.1.length : Nat)) {i : Nat} (hi : i < r.2.2.1.length) (h1 : nzE r.2.2.1[i] = true) (h2 : Sp.inL r.2.2.2 i = true) : fillB r = true := by
  obtain ⟨s, hs, h3⟩ := List.any_eq_true.1 h2; simp only [Bool.and_eq_true, decide_eq_true_eq] at h3; have h4 := hsp s hs; refine List.any_eq_true.2 ⟨s, hs, List.any_eq_true.2 ⟨r.2.2.1[i], ?_, h1⟩⟩; refine List.mem_iff_getElem.2 ⟨i - s.1.toNat, by rw [List.length_drop, List.length_take]; omega, ?_⟩; rw [List.getElem_drop, List.getElem_take]; simp only [show s.1.toNat + (i - s.1.toNat) = i by omega]
theorem fill_f {r : Rec1} (h : ∀ i (hi : i < r.2.2.1.length), ¬ (nzE r.2.2.1[i] = true ∧ Sp.inL r.2.2.2 i = true)) (hsp : ∀ s ∈ r.2.2.2, 0 ≤ s.1 ∧ s.1 ≤ s.2 ∧ s.2 ≤ (r.2.2.1.length : Nat)) : fillB r = false := by
  refine List.any_eq_false.2 fun s hs => ?_; rw [Bool.not_eq_true]; refine List.any_eq_false.2 fun x hx => ?_; obtain ⟨k, hk, rfl⟩ := List.mem_iff_getElem.1 hx; rw [List.length_drop, List.length_take] at hk; rw [List.getElem_drop, List.getElem_take]; have h4 := hsp s hs; intro h1; refine h (s.1.toNat + k) (by omega) ⟨h1, List.any_eq_true.2 ⟨s, hs, ?_⟩⟩; simp only [Bool.and_eq_true, decide_eq_true_eq]; omega
theorem rRec_ok {r : ByteArray × Int × (List Nat) × (List (Int × Int))} (hl : r.2.2.1.length < 1000000) (hg : r.2.2.2.length < 1000000) : VF Tryz.prog OA 5 [.v y25 r] (I (recE r)) := by
  refine VF.enter Tryz.func5 rfl (fun _ _ => rfl) rfl ?_; show VC _ _ _ _ _ [(0, .v y25 r)] [] _; refine VC.seq (VC.text ?_); refine VO.new (.box) ?_; refine VO.c (.assign rfl) ?_; refine VO.go (VC.seq (VC.seq (VC.drawn ?_))); refine VD.c (.fa (.l .o)) ?_; refine VD.r [] (.ld vt9) (.inl rfl) ?_; refine VD.call rfl rfl (VF.call (rNameE_ok )) ?_; refine VD.c (.fa (.r (.l .o))) ?_; refine VD.r [] (.ld vt3) (.inl rfl) ?_; refine VD.call rfl rfl (VF.call (rCheckRange_ok )) ?_; refine VD.nw [] ?_; refine VD.new (.lit [whenE (!nameB r.1) 8, rangeE r.2.1 (0 : Int) (100000 : Int)] el42) ?_; refine VD.callO rfl rfl (VF.call (rFirst_ok (by first | assumption | omega | simp))) ?_; refine VD.c (.assign rfl) ?_; refine VD.go (VC.seq (VC.text ?_)); refine VO.c (.move rfl) (VO.c (.neq) (VO.go ?_)); refine VC.condD rfl (fun c2 => ?_) (fun c2 => ?_)
  · refine VC.seq (VC.text ?_); refine VO.c (.move rfl) (VO.c (.assign rfl) (VO.go ?_)); refine VC.ret ?_; exact VEnd.one rfl evT (pvI (by rw [recE, head_two, if_neg c2, if_pos c2]))
  have ha0 := Classical.not_not.1 c2; refine VC.skip (VC.seq (VC.seq (VC.text ?_))); refine VO.c (.fa (.r (.r (.l .o)))) ?_; refine VO.r (.ld vt22) ?_; refine VO.r (.len el22) ?_; refine VO.c (.gtr) (VO.go ?_); refine VC.condD rfl (fun c4 => ?_) (fun c4 => ?_)
  · refine VC.seq (VC.text ?_); refine VO.c (.assign rfl) (VO.go ?_); refine VC.ret ?_; exact VEnd.one rfl evT (pvI (by rw [recE, head_two, if_pos ha0, decide_eq_true c4] <;> rfl))
  have hh : headE r = 0 := by rw [head_two, if_pos ha0, decide_eq_false c4] <;> rfl
  refine VC.skip (VC.seq (VC.seq (VC.text ?_))); refine VO.c (.assign rfl) ?_; refine VO.go (VC.block ?_); refine VC.keep [(1, .p y25 r), (4, I ((0 : Nat) : Int))] ⟨rfl, rfl, trivial⟩ ?_; refine VC.loop (I := fun kk ff ss => ∃ (j : Nat), kk = r.2.2.1.length - j ∧ ff = [(1, .p y25 r), (4, I ((j : Nat) : Int))] ∧ ss = [] ∧ (j ≤ r.2.2.1.length) ∧ (lvlsE r.2.2.1 = lvlsE (r.2.2.1.drop j))) ?_ _ _ _ ⟨0, rfl, rfl, rfl, Nat.zero_le _, (by rfl)⟩; rintro kk ff ss ⟨j, hk0, rfl, rfl, hj, hf⟩; refine VC.seq (VC.seq (VC.text ?_)); refine VO.c (.move rfl) (VO.c (.fa (.r (.r (.l .o)))) ?_); refine VO.r (.ld vt22) ?_; refine VO.r (.len el22) ?_; refine VO.c (.lss) (VO.go ?_); refine VC.condD rfl (fun c7 => ?_) (fun c7 => ?_)
  · refine VC.skip (VC.seq (VC.block (VC.seq (VC.text ?_)))); refine VO.c (.fa (.r (.r (.l .o)))) ?_; refine VO.r (.ld vt22) ?_; refine VO.c (.move rfl) (VO.c (.ix (j := j) rfl rfl el22 (by omega)) ?_); refine VO.r (.ld vt39) ?_; refine VO.call rfl rfl (VF.call (rLv_ok )) ?_; refine VO.c (.assign rfl) ?_; refine VO.go (VC.seq (VC.text ?_)); refine VO.c (.move rfl) (VO.c (.neq) (VO.go ?_)); refine VC.condD rfl (fun c10 => ?_) (fun c10 => ?_)
    · refine VC.seq (VC.text ?_); refine VO.c (.move rfl) (VO.c (.assign rfl) (VO.go ?_)); refine VC.ret ?_; exact VEnd.one rfl evT (pvI (by rw [recE, if_neg (fun h => h hh), body_lv (by rw [hf, lvls_drop (by omega), if_neg c10]; exact c10), hf, lvls_drop (by omega), if_neg c10, if_pos c10]))
    refine VC.skip (VC.text ?_); refine VO.c (.move rfl) (VO.c (.add rfl rfl (by omega)) (VO.c (.assign rfl) ?_)); refine VO.nil ?_; refine ⟨_, [(1, .p y25 r), (4, I (((j + 1) : Nat) : Int))], ?_, ⟨rfl, rfl, trivial⟩, (j + 1), rfl, rfl, rfl, (by omega), (by rw [hf, lvls_drop (by omega), if_pos (by simpa using c10)])⟩; omega
  have hlv : lvlsE r.2.2.1 = 0 := by rw [hf, lvls_end (by omega)]
  refine VC.exit (VC.seq (VC.seq (VC.text ?_))); refine VO.c (.fa (.r (.r (.r .o)))) ?_; refine VO.r (.ld vt23) ?_; refine VO.call rfl rfl (VF.call (rSpans_ok (by first | assumption | omega | simp))) ?_; refine VO.c (.assign rfl) ?_; refine VO.go (VC.seq (VC.text ?_)); refine VO.c (.move rfl) (VO.c (.neq) (VO.go ?_)); refine VC.condD rfl (fun c13 => ?_) (fun c13 => ?_)
  · refine VC.seq (VC.text ?_); refine VO.c (.move rfl) (VO.c (.assign rfl) (VO.go ?_)); refine VC.ret ?_; exact VEnd.one rfl evT (pvI (by rw [recE, if_neg (fun h => h hh), body_sp hlv, if_pos c13]))
  have hs0 := Classical.not_not.1 c13; have hb0 : bodyE r = 0 := bodyE_zero.2 ⟨hlv, hs0⟩; have hcan := (spans_canon hs0).1.1; refine VC.skip (VC.seq (VC.seq (VC.text ?_))); refine VO.c (.assign rfl) ?_; refine VO.go (VC.block ?_); refine VC.keep [(1, .p y25 r), (7, I ((0 : Nat) : Int))] ⟨rfl, rfl, trivial⟩ ?_; refine VC.loop (I := fun kk ff ss => ∃ (k : Nat), kk = r.2.2.2.length - k ∧ ff = [(1, .p y25 r), (7, I ((k : Nat) : Int))] ∧ ss = [] ∧ (k ≤ r.2.2.2.length) ∧ (∀ q (h : q < r.2.2.2.length), q < k → ¬ (r.2.2.1.length : Int) < r.2.2.2[q].2)) ?_ _ _ _ ⟨0, rfl, rfl, rfl, Nat.zero_le _, (by exact fun q _ h => absurd h (by omega))⟩; rintro kk ff ss ⟨k, hk2, rfl, rfl, hk, hi⟩; refine VC.seq (VC.seq (VC.text ?_)); refine VO.c (.move rfl) (VO.c (.fa (.r (.r (.r .o)))) ?_); refine VO.r (.ld vt23) ?_; refine VO.r (.len el23) ?_; refine VO.c (.lss) (VO.go ?_); refine VC.condD rfl (fun c16 => ?_) (fun c16 => ?_)
  · refine VC.skip (VC.seq (VC.block (VC.seq (VC.drawn ?_)))); refine VD.c (.fa (.r (.r (.r .o)))) ?_; refine VD.r [] (.ld vt23) (.inl rfl) ?_; refine VD.c (.move rfl) (VD.c (.ix (j := k) rfl rfl el23 (by omega)) (VD.c (.fa (.r .o)) ?_)); refine VD.r [] (.ld vt3) (.inl rfl) ?_; refine VD.nw [] (VD.c (.fa (.r (.r (.l .o)))) ?_); refine VD.r [] (.ld vt22) (.inl rfl) ?_; refine VD.r [] (.len el22) (.inl rfl) ?_; refine VD.c (.gtr) (VD.go ?_); refine VC.condD rfl (fun c18 => ?_) (fun c18 => ?_)
    · refine VC.seq (VC.text ?_); refine VO.c (.assign rfl) (VO.go ?_); refine VC.ret ?_; exact VEnd.one rfl evT (pvI (by rw [recE, if_neg (fun h => h hh), if_neg (fun h => h hb0), if_pos (show beyB r = true from List.any_eq_true.2 ⟨_, List.getElem_mem (show k < r.2.2.2.length by omega), decide_eq_true c18⟩)]))
    refine VC.skip (VC.text ?_); refine VO.c (.move rfl) (VO.c (.add rfl rfl (by omega)) (VO.c (.assign rfl) ?_)); refine VO.nil ?_; refine ⟨_, [(1, .p y25 r), (7, I (((k + 1) : Nat) : Int))], ?_, ⟨rfl, rfl, trivial⟩, (k + 1), rfl, rfl, rfl, (by omega), (by exact fun q h h3 => if e : q = k then (by subst e; exact c18) else hi q h (by omega))⟩; omega
  have hbe : beyB r = false := List.any_eq_false.2 fun s hs => by
    obtain ⟨q, hq, rfl⟩ := List.mem_iff_getElem.1 hs; simpa using hi q hq (by omega)
  have hbf := bey_f hbe
  have hsp : ∀ s ∈ r.2.2.2, 0 ≤ s.1 ∧ s.1 ≤ s.2 ∧ s.2 ≤ (r.2.2.1.length : Nat) := fun s hs => by have := hcan s hs; have := hbf s hs; omega
  refine VC.exit (VC.seq (VC.seq (VC.text ?_))); refine VO.c (.assign rfl) ?_; refine VO.go (VC.block ?_); refine VC.keep [(1, .p y25 r), (8, I ((0 : Nat) : Int))] ⟨rfl, rfl, trivial⟩ ?_; refine VC.loop (I := fun kk ff ss => ∃ (i : Nat), kk = r.2.2.1.length - i ∧ ff = [(1, .p y25 r), (8, I ((i : Nat) : Int))] ∧ ss = [] ∧ (i ≤ r.2.2.1.length) ∧ (∀ q (h : q < r.2.2.1.length), q < i → ¬ (nzE r.2.2.1[q] = true ∧ Sp.inL r.2.2.2 q = true))) ?_ _ _ _ ⟨0, rfl, rfl, rfl, Nat.zero_le _, (by exact fun q _ h => absurd h (by omega))⟩; rintro kk ff ss ⟨i, hk4, rfl, rfl, hi4, hno⟩; refine VC.seq (VC.seq (VC.text ?_)); refine VO.c (.move rfl) (VO.c (.fa (.r (.r (.l .o)))) ?_); refine VO.r (.ld vt22) ?_; refine VO.r (.len el22) ?_; refine VO.c (.lss) (VO.go ?_); refine VC.condD rfl (fun c21 => ?_) (fun c21 => ?_)
  · refine VC.skip (VC.seq (VC.block (VC.seq (VC.text ?_)))); refine VO.c (.fa (.r (.r (.l .o)))) ?_; refine VO.r (.ld vt22) ?_; refine VO.c (.move rfl) (VO.c (.ix (j := i) rfl rfl el22 (by omega)) ?_); refine VO.r (.ld vt39) ?_; refine VO.c (.fcmp .neq) (VO.c (.move rfl) ?_); refine VO.cg (r := (fcmpE .neq .f32 (r.2.2.1[i]) (0 : Nat))) (w := true) [] trivial (fun _ => (.fa (.r (.r (.r (k := 0) .o))))) ?_; refine VO.rg (r := (fcmpE .neq .f32 (r.2.2.1[i]) (0 : Nat))) (w := true) [(77, .p y23 r.2.2.2)] ⟨rfl, trivial⟩ (fun _ => (.ld vt23)) ?_; refine VO.cg (r := (fcmpE .neq .f32 (r.2.2.1[i]) (0 : Nat))) (w := true) [] trivial (fun _ => (.move rfl)) ?_; refine VO.callg (r0 := (fcmpE .neq .f32 (r.2.2.1[i]) (0 : Nat))) (w := true) [(78, .v y23 r.2.2.2), (79, I ((i : Nat) : Int))] ⟨rfl, rfl, trivial⟩ rfl rfl .same .refl rfl (fun hgd => have g23_6 : (fcmpE .neq .f32 (r.2.2.1[i]) (0 : Nat)) = true := (by simpa using hgd); VF.call (rHas_ok (by first | assumption | omega | simp))) ?_; refine VO.c (.and) (VO.go ?_); refine VC.condB rfl (fun c23 => ?_) (fun c23 => ?_)
    · try simp only [Bool.and_eq_true, Bool.or_eq_true, Bool.and_eq_false_iff, Bool.or_eq_false_iff, Bool.not_eq_true', Bool.not_eq_false', decide_eq_true_eq, decide_eq_false_iff_not] at c23
      refine VC.seq (VC.text ?_); refine VO.c (.assign rfl) (VO.go ?_); refine VC.ret ?_; exact VEnd.one rfl evT (pvI (by rw [recE, if_neg (fun h => h hh), if_neg (fun h => h hb0), if_neg (by rw [hbe]; decide), fill_t hsp (show i < r.2.2.1.length by omega) c23.1 c23.2] <;> rfl))
    try simp only [Bool.and_eq_true, Bool.or_eq_true, Bool.and_eq_false_iff, Bool.or_eq_false_iff, Bool.not_eq_true', Bool.not_eq_false', decide_eq_true_eq, decide_eq_false_iff_not] at c23
    have hnq : ¬ (nzE r.2.2.1[i] = true ∧ Sp.inL r.2.2.2 i = true) := fun h2 => by
      rcases c23 with h | h
      · exact absurd (h2.1.symm.trans h) (by decide)
      rw [h2.2] at h; cases h
    refine VC.skip (VC.text ?_); refine VO.c (.move rfl) (VO.c (.add rfl rfl (by omega)) (VO.c (.assign rfl) ?_)); refine VO.nil ?_; refine ⟨_, [(1, .p y25 r), (8, I (((i + 1) : Nat) : Int))], ?_, ⟨rfl, rfl, trivial⟩, (i + 1), rfl, rfl, rfl, (by omega), (by exact fun q h h3 => if e : q = i then (by subst e; exact hnq) else hno q h (by omega))⟩; omega
  refine VC.exit (VC.seq (VC.text ?_)); refine VO.c (.assign rfl) (VO.go ?_); refine VC.ret ?_; exact VEnd.one rfl evT (pvI (by rw [recE, if_neg (fun h => h hh), if_neg (fun h => h hb0), if_neg (by rw [hbe]; decide), fill_f (fun q h => hno q h (by omega)) hsp] <;> rfl))
end Go.Proofs
namespace Go.Fs
section
variable {P : Program} {orc : FuncId → List Value → Heap → Option (Value × Heap)} {fl : VL} {σ : Sto} {T : TypeId} {x y z : Operand} {κ ν : Ty} {kvs : List (κ.den × ν.den)} {k : κ.den} {w : Value} [DecidableEq κ.den] {ops : Array Oper} {n : Nat} {l : List Oper} {K : VL → Sto → Prop} {ty : TypeId} {pos : String} {after : Array Edge} {g : Option (Nat × Bool)}
end
end Go.Fs
namespace Go.Fs
variable {P : Program} {h : Heap} {S : List Nat} {σ : Sto} {t : Tr} {fl : VL} {x : Operand} {T e : TypeId} {τ : Ty}
theorem FreshO.alloc0 (hZ : ZerT P e (.sl τ)) : FreshO P fl (.alloc e) (.var [.raw (.slice none 0 0)]) :=
  ⟨rfl, fun h S t hs hok hS => by
    obtain ⟨z, h1, h2, h3⟩ := hZ.zero; obtain ⟨z1, z2⟩ := zero_rep h S (.sl τ); obtain ⟨a1, a2⟩ := af_cells (u := z) (by rw [h2]; exact z2); refine ⟨fun k => .pointer (some ⟨k, 0, none⟩), .row e z.cells.toList true false, fun _ => rfl, fun S' hN hm => ?_, fun H _ _ _ _ _ => ?_⟩
    · exact ⟨h.next, e, _, rfl, hm, by rw [Heap.get_push, if_pos rfl], by rw [h2]; exact ⟨_, _, rfl, rfl, rfl⟩, a2⟩
    show (match (P.info? e).bind (·.zero) with | some z => if af z then fsBox e z H else none | none => none) = _; rw [h1]; simp only [a1, if_true]; unfold fsBox
    rw [if_pos a2]⟩
end Go.Fs
namespace Go.Fs
variable {P : Program} {σ : Sto} {fl : VL} {x y : Operand} {T T' : TypeId} {p q : Bool}
end Go.Fs
namespace Go.Proofs
open Go.Fs Ieee
set_option maxHeartbeats 2000000
end Go.Proofs
namespace Go.Fs
open Go.RowKit (Below)
variable {P : Program} {H : Type} {enc : TypeId × Value → H} {w : World} {base : Nat} {sp : Nat → Bool} {held : Bool}
def fsB (P : Program) (ty : TypeId → Ty → Bool) : List Field → Nat → Ty → Bool
  | [f], off, .pair a .unit => Nat.beq f.offset off && Nat.beq (P.cellsOf f.type) a.size && ty f.type a
  | [f], off, τ => Nat.beq f.offset off && Nat.beq (P.cellsOf f.type) τ.size && ty f.type τ
  | f :: fs, off, .pair a b => Nat.beq f.offset off && Nat.beq (P.cellsOf f.type) a.size && ty f.type a && fsB P ty fs (off + a.size) b
  | _, _, _ => false
def arrFs (P : Program) (m : Nat) (e : TypeId) : List Field := (List.range m).map fun i => { name := "", type := e, offset := i * P.cellsOf e, embedded := false, tag := "", pkgPath := "", byteOffset := 0 }
def tyB (P : Program) : Nat → TypeId → Ty → Bool
  | 0, _, _ => false
  | n + 1, t, τ =>
    match P.underlying t, τ with
    | some (.int k), .int k' => decide (k = k')
    | some .bool, .bool => true
    | some .string, .str => true
    | some (.float k), .flt k' => decide (k = k')
    | some (.slice te), .sl e => Nat.beq (P.cellsOf te) e.size && Nat.blt 0 e.size && tyB P n te e
    | some (.struct fs), .pair a b => Nat.beq (P.cellsOf t) (Ty.pair a b).size && fsB P (tyB P n) fs.toList 0 (.pair a b)
    | some (.array m e), .pair a b => Nat.beq (P.cellsOf t) (Ty.pair a b).size && fsB P (tyB P n) (arrFs P m e) 0 (.pair a b)
    | _, _ => false
def Wf : (τ : Ty) → τ.den → Prop
  | .int k, n => (Lit.int k n).wf = true
  | .bool, _ => True
  | .str, s => s.size ≤ maxLen
  | .flt k, n => (Lit.float k n).wf = true
  | .sl e, xs => List.length xs ≤ maxLen ∧ ∀ x ∈ (xs : List e.den), Wf e x
  | .pair a b, x => Wf a x.1 ∧ Wf b x.2
  | .unit, _ => True
  | .mp _ _, _ => True
  | .fn, _ => True
  | .hnd, _ => True
structure Got (P : Program) (w : World) (ρ : Ren) (S : Nat → Prop) (h : Heap) (ρ' : Ren) (S' : Nat → Prop) (h' : Heap) : Prop where
  hr : HR P ρ' S' w.heap.size (wz w) h' w
  agree : ∀ b, S b → S' b ∧ ρ' b = ρ b
  aft : After h h'
theorem Got.refl {ρ : Ren} {S : Nat → Prop} {h : Heap} (hr : HR P ρ S w.heap.size (wz w) h w) : Got P w ρ S h ρ S h := ⟨hr, fun _ hb => ⟨hb, rfl⟩, After.refl h⟩
theorem Got.trans {ρ ρ1 ρ2 : Ren} {S S1 S2 : Nat → Prop} {h h1 h2 : Heap} (a : Got P w ρ S h ρ1 S1 h1) (b : Got P w ρ1 S1 h1 ρ2 S2 h2) : Got P w ρ S h ρ2 S2 h2 :=
  ⟨b.hr, fun i hi => let ⟨h3, h4⟩ := a.agree i hi; let ⟨h5, h6⟩ := b.agree i h3; ⟨h5, h6.trans h4⟩, a.aft.trans b.aft⟩
theorem Got.ok {ρ ρ1 : Ren} {S S1 : Nat → Prop} {h h1 : Heap} (a : Got P w ρ S h ρ1 S1 h1) : HOk h1 := fun b o hg => (a.hr.ids b (a.hr.objs b o hg).1).1
theorem Got.row {ρ : Ren} {S : Nat → Prop} {h : Heap} (hr : HR P ρ S w.heap.size (wz w) h w) {te : TypeId} {cs : List Value} {a : Addr} (ha : a.block < w.heap.size) (hc : ∀ i, i < cs.length → ∃ v, w.cell? ⟨a.block, a.off + i, none⟩ = some v ∧ VR ρ S (cs.getD i undef) v) :
    Got P w ρ S h (fun b => if b = h.next then (.clean a.block a.off 0 (P.cellsOf te)) else ρ b) (fun b => S b ∨ b = h.next) (h.push (.row te cs false false)) := by
  have hag : ∀ b, S b → (S b ∨ b = h.next) ∧ (fun b => if b = h.next then (Loc.clean a.block a.off 0 (P.cellsOf te)) else ρ b) b = ρ b := fun b hb => by
    have := (hr.ids b hb).1; exact ⟨.inl hb, by simp only; rw [if_neg (by omega)]⟩
  have hold : ∀ i o, (h.push (.row te cs false false)).get i = some o → (i = h.next ∧ o = .row te cs false false) ∨ (i ≠ h.next ∧ h.get i = some o) := fun i o hg => by
    rw [Heap.get_push] at hg; by_cases hi : i = h.next
    · rw [if_pos hi] at hg; exact .inl ⟨hi, (Option.some.inj hg).symm⟩
    rw [if_neg hi] at hg; exact .inr ⟨hi, hg⟩
  refine ⟨⟨fun i o hg => ?_, fun i j oi oj hi hj oi1 oj1 he => ?_, fun i o hg ho => ?_, fun i o hg ho => ?_, fun b hb => ?_, Nat.succ_pos _, z_below (Below.refl _ _), Nat.zero_le _, Nat.le_refl _⟩, hag, After.push h _⟩
  · rcases hold i o hg with ⟨rfl, rfl⟩ | ⟨hi, hg'⟩
    · refine ⟨.inr rfl, ?_⟩; simp only [if_true]; refine ⟨rfl, fun i hi => ?_⟩; obtain ⟨v, h1, h2⟩ := hc i hi; exact ⟨v, h1, h2.mono hag⟩
    obtain ⟨h1, h2⟩ := hr.objs i o hg'; refine ⟨.inl h1, ?_⟩; simp only [if_neg hi]; exact h2.mono hag
  · rcases hold i oi hi with ⟨rfl, rfl⟩ | ⟨hi', hgi⟩
    · cases oi1
    rcases hold j oj hj with ⟨rfl, rfl⟩ | ⟨hj', hgj⟩
    · cases oj1
    simp only [if_neg hi', if_neg hj'] at he; exact hr.inj i j oi oj hgi hgj oi1 oj1 he
  · rcases hold i o hg with ⟨rfl, rfl⟩ | ⟨hi, hg'⟩
    · cases ho
    simp only [if_neg hi]; exact hr.base i o hg' ho
  · rcases hold i o hg with ⟨rfl, rfl⟩ | ⟨hi, hg'⟩
    · simp only [if_true]; exact ha
    simp only [if_neg hi]; exact hr.ro i o hg' ho
  have hn : (h.push (.row te cs false false)).next = h.next + 1 := rfl; rw [hn]; rcases hb with hb | rfl
  · have := hr.ids b hb; exact ⟨by omega, this.2⟩
  have := hr.pos; exact ⟨by omega, by omega⟩
theorem trod_float {fuel : Nat} {t : TypeId} {cs : List Value} {x : DataW H × List MemPlace} {k : FloatKind} (ht : P.underlying t = some (.float k)) (h : DataW.trod enc P w base sp held fuel t cs = some x) : ∃ n, cs = [.float k n] ∧ (Lit.float k n).wf = true := by
  cases fuel with
  | zero => simp [DataW.trod] at h
  | succ n =>
    unfold DataW.trod at h; rw [ht] at h; split at h <;> simp_all
theorem mapM_all {α β : Type} (f : α → Option β) : ∀ (l : List α) (r : List β), l.mapM f = some r → l.length = r.length ∧ ∀ i (hi : i < l.length) (hr : i < r.length), f l[i] = some r[i]
  | [], r, h => by
    simp only [List.mapM_nil] at h; obtain rfl := Option.some.inj h
    exact ⟨rfl, fun i hi => absurd hi (by simp)⟩
  | a :: l, r, h => by
    rw [List.mapM_cons] at h
    cases hf : f a with
    | none => rw [hf] at h; cases h
    | some b =>
      rw [hf] at h
      cases hl : l.mapM f with
      | none => rw [hl] at h; cases h
      | some bs =>
        rw [hl] at h; obtain rfl := Option.some.inj h; obtain ⟨h1, h2⟩ := mapM_all f l bs hl; refine ⟨by simp [h1], fun i hi hr => ?_⟩
        cases i with
        | zero => exact hf
        | succ i => exact h2 i (by simpa using hi) (by simpa using hr)
theorem cells_some {a : Addr} {n : Nat} {cs : List Value} (h : w.cells? base a n = some cs) : cs.length = n ∧ ∀ i, i < n → w.cell? (a.add i) = some (cs.getD i undef) := by
  unfold World.cells? at h; split at h
  · obtain ⟨h1, h2⟩ := mapM_all _ _ _ h; rw [List.length_range] at h1; refine ⟨h1.symm, fun i hi => ?_⟩; have := h2 i (by simpa using hi) (by omega); rw [List.getElem_range] at this; rw [this]; simp [List.getD, show i < cs.length by omega]
  cases h
theorem cell_some {a : Addr} {v : Value} (h : w.cell? a = some v) : a.spot = none ∧ a.block < w.heap.size := by
  unfold World.cell? at h; split at h
  · rename_i c _ _ hb; refine ⟨?_, (Array.getElem?_eq_some_iff.1 hb).1⟩
    cases hs : a.spot with
    | none => rfl
    | some s => rw [hs] at h; cases h
  cases h
def Tells (P : Program) (w : World) (τ : Ty) (cs : List Value) : Prop := ∀ (ρ : Ren) (S : Nat → Prop) (h : Heap), HR P ρ S w.heap.size (wz w) h w →
  ∃ ρ' S' h' cs' x, Got P w ρ S h ρ' S' h' ∧ LR ρ' S' cs' cs ∧ RepC h' [] τ cs' x ∧ Wf τ x
theorem LR.one {ρ : Ren} {S : Nat → Prop} {v v' : Value} (h : VR ρ S v v') : LR ρ S [v] [v'] := LR.cons h LR.nil
theorem tells_elems {e : Ty} (a : Addr) (len : Nat) (hcs : ∀ i, i < len → ∃ cs, (∀ j, j < e.size → w.cell? (a.add (i * e.size + j)) = some (cs.getD j undef)) ∧ cs.length = e.size ∧ Tells P w e cs) :
    ∀ (ρ : Ren) (S : Nat → Prop) (h : Heap), HR P ρ S w.heap.size (wz w) h w → ∃ ρ' S' h' rs xs, Got P w ρ S h ρ' S' h' ∧ rs.length = len * e.size ∧ List.length xs = len ∧ (∀ i, i < len * e.size → ∃ v, w.cell? (a.add i) = some v ∧ VR ρ' S' (rs.getD i undef) v) ∧
      Elems h' [] e rs xs ∧ ∀ x ∈ (xs : List e.den), Wf e x := by
  induction len with
  | zero =>
    intro ρ S h hr
    exact ⟨ρ, S, h, [], [], Got.refl hr, by simp, rfl, fun i hi => by omega, Elems.nil, fun x hx => by cases hx⟩
  | succ n ih =>
    intro ρ S h hr; obtain ⟨ρ1, S1, h1, rs, xs, g1, l1, l2, c1, e1, w1⟩ := ih (fun i hi => hcs i (by omega)) ρ S h hr; obtain ⟨cs, k1, k2, k3⟩ := hcs n (by omega); obtain ⟨ρ2, S2, h2, cs', x, g2, lr, rc, wf⟩ := k3 ρ1 S1 h1 g1.hr; have hN : Goes h1 [] h2 [] := g2.aft.nx g1.ok; have hl : cs'.length = e.size := rc.len
    have hel : Elems h2 [] e cs' [x] := by
      refine ⟨by simpa using hl, fun i hi => ?_⟩
      obtain rfl : i = 0 := by simpa using hi
      simp only [Nat.zero_mul, List.drop_zero, List.getElem_cons_zero]; rw [List.take_of_length_le (by omega)]; exact rc
    refine ⟨ρ2, S2, h2, rs ++ cs', xs ++ [x], g1.trans g2, by rw [List.length_append, l1, hl, Nat.add_mul]; omega, by simp [l2], fun i hi => ?_, (e1.nx hN).append hel, fun y hy => ?_⟩
    · rw [Nat.add_mul, Nat.one_mul] at hi; by_cases hin : i < n * e.size
      · obtain ⟨v, hv1, hv2⟩ := c1 i hin; refine ⟨v, hv1, ?_⟩; rw [List.getD_eq_getElem?_getD, List.getElem?_append_left (by omega), ← List.getD_eq_getElem?_getD]; exact hv2.mono g2.agree
      have hj : i - n * e.size < e.size := by omega
      refine ⟨cs.getD (i - n * e.size) undef, ?_, ?_⟩
      · have := k1 (i - n * e.size) hj
        rwa [show n * e.size + (i - n * e.size) = i by omega] at this
      rw [List.getD_eq_getElem?_getD, List.getElem?_append_right (by omega), l1, ← List.getD_eq_getElem?_getD]; exact lr.getD _
    rcases List.mem_append.1 hy with hy | hy
    · exact w1 y hy
    obtain rfl := List.mem_singleton.1 hy; exact wf
theorem Addr.add_spot {a : Addr} (h : a.spot = none) (n : Nat) : a.add n = ⟨a.block, a.off + n, none⟩ := by
  obtain ⟨b, o, s⟩ := a; simp only at h; subst h; unfold Addr.add; by_cases hn : n = 0
  · subst hn; simp
  simp [hn]
theorem tells_fields {n : Nat} (ih : ∀ (t : TypeId) (τ : Ty), tyB P n t τ = true → ∀ (fuel : Nat) (cs : List Value) (x : DataW H × List MemPlace), DataW.trod enc P w base sp held fuel t cs = some x → Tells P w τ cs) :
    ∀ (fs : List Field) (off : Nat) (τ : Ty) (cs : List Value) (m : Nat), fsB P (tyB P n) fs off τ = true → cs.length = off + τ.size → (∀ f ∈ fs, ∃ x, DataW.trod enc P w base sp held m f.type ((cs.drop f.offset).take (P.cellsOf f.type)) = some x) → Tells P w τ (cs.drop off) := by
  have one : ∀ (f : Field) (off : Nat) (τ : Ty) (cs : List Value) (m : Nat), f.offset = off → P.cellsOf f.type = τ.size → tyB P n f.type τ = true → off + τ.size ≤ cs.length → (∃ x, DataW.trod enc P w base sp held m f.type ((cs.drop f.offset).take (P.cellsOf f.type)) = some x) → Tells P w τ ((cs.drop off).take τ.size) := by
    intro f off τ cs m h1 h2 h3 h4 ⟨x, hx⟩; rw [h1, h2] at hx; exact ih f.type τ h3 m _ x hx
  intro fs
  induction fs with
  | nil => intro off τ cs m hb; cases hb
  | cons f fs ihf =>
    intro off τ cs m hb hl hall; have hf := hall f List.mem_cons_self
    cases fs with
    | nil =>
      by_cases hs : ∃ a, τ = .pair a .unit
      · obtain ⟨a, rfl⟩ := hs; have hb' : (Nat.beq f.offset off && Nat.beq (P.cellsOf f.type) a.size && tyB P n f.type a) = true := hb; obtain ⟨hb', h3⟩ := band hb'; obtain ⟨h1, h2⟩ := band hb'
        have hs : (Ty.pair a .unit).size = a.size := by simp [Ty.size]
        rw [hs] at hl; have := one f off a cs m (nbeq h1) (nbeq h2) h3 (by omega) hf; intro ρ S h hr; obtain ⟨ρ', S', h', cs', x, g, lr, rc, wf⟩ := this ρ S h hr; have e1 : (cs.drop off).take a.size = cs.drop off := List.take_of_length_le (by rw [List.length_drop]; omega); rw [e1] at lr; have hcl := rc.len; exact ⟨ρ', S', h', cs', (x, ()), g, lr, ⟨by rw [List.take_of_length_le (by omega)]; exact rc, by rw [List.drop_eq_nil_of_le (by omega)]; rfl⟩, wf, trivial⟩
      have hb' : (Nat.beq f.offset off && Nat.beq (P.cellsOf f.type) τ.size && tyB P n f.type τ) = true := by
        cases τ with
        | pair a b =>
          cases b with
          | unit => exact absurd ⟨a, rfl⟩ hs
          | _ => exact hb
        | _ => exact hb
      obtain ⟨hb', h3⟩ := band hb'; obtain ⟨h1, h2⟩ := band hb'; have := one f off τ cs m (nbeq h1) (nbeq h2) h3 (by omega) hf; have e1 : (cs.drop off).take τ.size = cs.drop off := List.take_of_length_le (by rw [List.length_drop]; omega)
      rwa [e1] at this
    | cons g fs =>
      cases τ with
      | pair a b =>
        have hb' : (Nat.beq f.offset off && Nat.beq (P.cellsOf f.type) a.size && tyB P n f.type a && fsB P (tyB P n) (g :: fs) (off + a.size) b) = true := hb; obtain ⟨hb', h4⟩ := band hb'; obtain ⟨hb', h3⟩ := band hb'; obtain ⟨h1, h2⟩ := band hb'; have hs : (Ty.pair a b).size = a.size + b.size := rfl; rw [hs] at hl; have ha := one f off a cs m (nbeq h1) (nbeq h2) h3 (by omega) hf; have hrest := ihf (off + a.size) b cs m h4 (by omega) (fun g hg => hall g (List.mem_cons_of_mem _ hg)); intro ρ S h hr; obtain ⟨ρ1, S1, h1', cs1, x1, g1, lr1, rc1, wf1⟩ := ha ρ S h hr; obtain ⟨ρ2, S2, h2', cs2, x2, g2, lr2, rc2, wf2⟩ := hrest ρ1 S1 h1' g1.hr; have hN : Goes h1' [] h2' [] := g2.aft.nx g1.ok; have hc1 := rc1.len; refine ⟨ρ2, S2, h2', cs1 ++ cs2, (x1, x2), g1.trans g2, ?_, ⟨?_, ?_⟩, wf1, wf2⟩
        · have := (lr1.mono g2.agree).append lr2
          rwa [show (cs.drop off).take a.size ++ cs.drop (off + a.size) = cs.drop off from by rw [← List.drop_drop, List.take_append_drop]] at this
        · rw [List.take_left' hc1]; exact rc1.nx hN
        rw [List.drop_left' hc1]; exact rc2
      | _ => cases hb
theorem tells : ∀ (n : Nat) (t : TypeId) (τ : Ty), tyB P n t τ = true → ∀ (fuel : Nat) (cs : List Value) (x : DataW H × List MemPlace), DataW.trod enc P w base sp held fuel t cs = some x → Tells P w τ cs := by
  intro n
  induction n with
  | zero => intro t τ h; cases h
  | succ n ih =>
    intro t τ hb fuel cs x hx; unfold tyB at hb; split at hb
    · rename_i k k' hu; obtain rfl : k = k' := of_decide_eq_true hb; obtain ⟨m, rfl, _, hwf⟩ := DataW.trod_int hu hx; exact fun ρ S h hr => ⟨ρ, S, h, _, m, Got.refl hr, LR.one (.lit rfl), rfl, hwf⟩
    · rename_i hu; obtain ⟨b, rfl, _⟩ := DataW.trod_bool hu hx; exact fun ρ S h hr => ⟨ρ, S, h, _, b, Got.refl hr, LR.one (.lit rfl), rfl, trivial⟩
    · rename_i hu; obtain ⟨s, rfl, _, hs⟩ := DataW.trod_string hu hx; exact fun ρ S h hr => ⟨ρ, S, h, _, s, Got.refl hr, LR.one (.lit rfl), rfl, hs⟩
    · rename_i k k' hu; obtain rfl : k = k' := of_decide_eq_true hb; obtain ⟨m, rfl, hwf⟩ := trod_float hu hx; exact fun ρ S h hr => ⟨ρ, S, h, _, m, Got.refl hr, LR.one (.lit rfl), rfl, hwf⟩
    · rename_i te e hu; obtain ⟨hb, h3⟩ := band hb; obtain ⟨h1, h2⟩ := band hb; have hce := nbeq h1; have hpos := nblt h2; rcases DataW.trod_slice hu hx with ⟨rfl, _⟩ | ⟨a, len, cap, elems, rest, m, _, rfl, _, hba, hlc, hcap, hlen, hel, _⟩
      · exact fun ρ S h hr => ⟨ρ, S, h, [.slice none 0 0], [], Got.refl hr, LR.one (.lit rfl), ⟨_, rfl, .inl ⟨rfl, rfl⟩⟩, Nat.zero_le _, fun x hx => by cases hx⟩
      by_cases h0 : len = 0
      · subst h0; exact fun ρ S h hr => ⟨ρ, S, h, [.slice (some ⟨0, 0, none⟩) 0 2], [], Got.refl hr, LR.one (.slice 0 0 0 2 cap a (Nat.zero_le _) (fun h => by cases h) (fun _ => rfl) (fun h => absurd rfl h)), ⟨_, rfl, .inr ⟨0, 0, 2, rfl, .inl rfl⟩⟩, Nat.zero_le _, fun x hx => by cases hx⟩
      have hcs : ∀ i, i < len → ∃ cs, (∀ j, j < e.size → w.cell? (a.add (i * e.size + j)) = some (cs.getD j undef)) ∧ cs.length = e.size ∧ Tells P w e cs := by
        intro i hi; have := hel i hi; rw [List.getElem?_eq_getElem (by omega)] at this; rw [hce] at this
        cases hc : w.cells? base (a.add (i * e.size)) e.size with
        | none => rw [hc] at this; cases this
        | some cs =>
          rw [hc] at this; obtain ⟨k1, k2⟩ := cells_some hc; refine ⟨cs, fun j hj => ?_, k1, ih te e h3 m cs _ this⟩; rw [← k2 j hj]; congr 1; obtain ⟨b, o, s⟩ := a; unfold Addr.add; by_cases hx1 : i * e.size = 0
          · simp [hx1]
          by_cases hx2 : j = 0
          · subst hx2; simp [hx1]
          simp [hx1, hx2, Nat.add_assoc]
      have hfirst : a.spot = none ∧ a.block < w.heap.size := by
        obtain ⟨cs, k1, _⟩ := hcs 0 (by omega); have := k1 0 hpos; rw [Nat.zero_mul, Nat.zero_add] at this; have h4 := cell_some this; simpa [Addr.add] using h4
      intro ρ S h hr; obtain ⟨ρ1, S1, h1', rs, xs, g1, l1, l2, c1, e1, w1⟩ := tells_elems (P := P) a len hcs ρ S h hr
      have hrow := Got.row (te := te) g1.hr (cs := rs) (a := a) hfirst.2 (fun i hi => by
        have := c1 i (by omega)
        rwa [Addr.add_spot hfirst.1] at this)
      have hsl : SlV (h1'.push (.row te rs false false)) [] e (.slice (some ⟨h1'.next, 0, none⟩) (List.length xs) 2) xs := (e1.nx (hrow.aft.nx g1.ok)).slv (by rw [Heap.get_push, if_pos rfl]) (by simp); refine ⟨_, _, _, [.slice (some ⟨h1'.next, 0, none⟩) (List.length xs) 2], xs, g1.trans hrow, ?_, ⟨_, rfl, hsl⟩, by omega, w1⟩; rw [l2]; refine LR.one (.slice h1'.next 0 len 2 cap a hlc (fun h => by cases h) (fun h5 => by have := g1.hr.pos; omega) fun _ => ⟨.inr rfl, ?_, fun h => by cases h⟩); simp only [if_true, Loc.at, Nat.add_zero]; obtain ⟨b, o, s⟩ := a; simp only at hfirst; rw [hfirst.1]
    · rename_i fs a b hu; obtain ⟨h1, h2⟩ := band hb; obtain ⟨xs, m, _, _, hl, hsz, hall⟩ := DataW.trod_struct hu hx
      have hcl : cs.length = (Ty.pair a b).size := by rw [hl, nbeq h1]
      have := tells_fields ih fs.toList 0 (.pair a b) cs m h2 (by omega) (fun f hf => by
        obtain ⟨i, hi, rfl⟩ := List.getElem_of_mem hf
        have hi' : i < fs.size := by simpa using hi
        have := hall i fs[i] (by simp [hi']); rw [List.getElem?_eq_getElem (by omega)] at this
        exact ⟨_, by simpa using this⟩)
      simpa using this
    · rename_i m e a b hu; obtain ⟨h1, h2⟩ := band hb; obtain ⟨xs, m', _, _, hl, hsz, hall⟩ := DataW.trod_array hu hx
      have hcl : cs.length = (Ty.pair a b).size := by rw [hl, nbeq h1]
      have := tells_fields ih (arrFs P m e) 0 (.pair a b) cs m' h2 (by omega) (fun f hf => by
        obtain ⟨i, hi, rfl⟩ := List.mem_map.1 hf; have hi' : i < m := List.mem_range.1 hi; have := hall i hi'; rw [List.getElem?_eq_getElem (by omega)] at this
        exact ⟨_, this⟩)
      simpa using this
    cases hb
theorem okWide_agg {n : Nat} {r : Reach} {b0 : Nat} {t : TypeId} {τ : Ty} {v : Value} (hb : tyB P n t τ = true) (hval : Value.okWide P w r b0 t v) : isAggV v = τ.agg := by
  cases n with
  | zero => cases hb
  | succ n =>
    unfold tyB at hb; unfold Value.okWide at hval; split at hb
    · rename_i k k' hu; rw [hu] at hval; simp only [Cell.okWide, hu, Cell.ok] at hval; cases v <;> simp_all [isAggV, Ty.agg]
    · rename_i hu; rw [hu] at hval; simp only [Cell.okWide, hu, Cell.ok] at hval; cases v <;> simp_all [isAggV, Ty.agg]
    · rename_i hu; rw [hu] at hval; simp only [Cell.okWide, hu, Cell.ok] at hval; cases v <;> simp_all [isAggV, Ty.agg]
    · rename_i k k' hu; rw [hu] at hval; simp only [Cell.okWide, hu, Cell.ok] at hval; cases v <;> simp_all [isAggV, Ty.agg]
    · rename_i te e hu; rw [hu] at hval; simp only [Cell.okWide, hu, Cell.ok] at hval; cases v <;> simp_all [isAggV, Ty.agg]
    · rename_i fs a b hu; rw [hu] at hval; obtain ⟨cs, rfl, _⟩ := hval; rfl
    · rename_i m e a b hu; rw [hu] at hval; obtain ⟨cs, rfl, _⟩ := hval; rfl
    cases hb
theorem tell_arg {ρ : Ren} {S : Nat → Prop} {h : Heap} (hr : HR P ρ S w.heap.size (wz w) h w) {n : Nat} {r : Reach} {b0 : Nat} {t : TypeId} {τ : Ty} {v : Value} {d : DataW H} {ps : List MemPlace} (hb : tyB P n t τ = true) (hval : Value.okWide P w r b0 t v) (hd : DataW.Trod enc P w base sp held t v d ps) :
    ∃ ρ' S' h' v' x, Got P w ρ S h ρ' S' h' ∧ VR ρ' S' v' v ∧ RepV h' [] τ v' x ∧ Wf τ x := by
  have hag := okWide_agg hb hval; obtain ⟨fuel, hf⟩ := hd; obtain ⟨ρ', S', h', cs', x, g, lr, rc, wf⟩ := tells n t τ hb fuel _ _ hf ρ S h hr
  cases hτ : τ.agg with
  | true =>
    rw [hτ] at hag
    cases v with
    | agg cs =>
      refine ⟨ρ', S', h', .agg cs'.toArray, x, g, VR.agg' (by simpa [Value.cells] using lr), ⟨hτ.symm, by simpa [Value.cells] using rc⟩, wf⟩
    | _ => cases hag
  | false =>
    rw [hτ] at hag; rw [cells_one hag] at lr; obtain ⟨u, rfl, hu⟩ := rc.one hτ; have := lr.2 0 (by simp); exact ⟨ρ', S', h', u, x, g, by simpa using this, hu, wf⟩
theorem hr_empty (hw : 0 ≤ w.heap.size) : HR P (fun _ => Loc.clean 0 0 0 0) (fun _ => False) w.heap.size (wz w) ⟨1, 1, []⟩ w where
  objs := fun i o h => by cases h
  inj := fun i j oi oj h => by cases h
  base := fun i o h => by cases h
  ro := fun i o h => by cases h
  ids := fun b hb => hb.elim
  pos := Nat.one_pos
  below := z_below (Below.refl _ _)
  drawn := Nat.zero_le _
  size := Nat.le_refl _
section
open Go.WideElems Go.ChangeShapes
theorem trodAll_below (hl : laidOutB P = true) {W W' : World} (hb : Below W.heap.size W W') : ∀ {ts : List TypeId} {vs : List Value} {ds : List (DataW H)} {ps : List MemPlace}, (ts.all fun t => P.readableRec t && decide (t < P.types.size)) = true →
    DataW.TrodAll enc P W 0 (fun _ => true) true ts vs ds ps → (∀ x ∈ ps, x.block < W.heap.size) → DataW.TrodAll enc P W' 0 (fun b => decide (b < W.heap.size)) true ts vs ds ps
  | [], [], [], _, _, h, _ => h
  | [], _ :: _, _, _, _, h, _ => h.elim
  | [], [], _ :: _, _, _, h, _ => h.elim
  | _ :: _, [], _, _, _, h, _ => h.elim
  | _ :: _, _ :: _, [], _, _, h, _ => h.elim
  | t :: ts, v :: vs, d :: ds, ps, ha, h, hp => by
    obtain ⟨p, q, h1, h2, rfl⟩ := h; simp only [List.all_cons, Bool.and_eq_true, decide_eq_true_eq] at ha; exact ⟨p, q, Go.RowKit.Below.trod hl ha.1.1 ha.1.2 h1 hb (fun x hx => hp x (List.mem_append_left _ hx)), trodAll_below hl hb (by simpa using ha.2) h2 (fun x hx => hp x (List.mem_append_right _ hx)), rfl⟩
theorem law_post {f : Func} {s : ChangeSpec} {tb : TypeId} (hl : laidOutB P = true) (hrd : (f.params.toList.all fun t => P.readableRec t && decide (t < P.types.size)) = true) (hres : f.resultTypes = #[tb]) (htb : P.underlying tb = some .bool) (hvars : s.vars = []) {W W' : World} {args : Array Value} {ds gs : List (DataW H)}
    {before : List MemPlace} (hW : DataW.Whole enc P f.params.toList s.vars false W args.toList ds gs before) (hr : (s.fn H (ds ++ gs)).results = [.lit (.bool true)]) (ha : (s.fn H (ds ++ gs)).args = ds) (hv : (s.fn H (ds ++ gs)).vars = []) (hb : Below W.heap.size W W') :
    s.post enc P f false true false false W args (.bool true) W' := by
  have hlt := hW.lt; have hW' := hW; obtain ⟨p, q, hA, hV, rfl, _, _⟩ := hW; rw [hvars] at hV; have hV' : gs = [] ∧ q = [] := trodVars_none hV; obtain ⟨rfl, rfl⟩ := hV'; refine ⟨ds, [], p ++ [], [], p, [], hW', ?_, ?_, ?_, hb.frame _, fun h => by cases h⟩
  · rw [hr, hres]; exact trodAll_mk1 (Go.RowKit.shut_bool htb _)
  · rw [ha]; exact trodAll_below hl hb hrd hA fun x hx => hlt x (List.mem_append_left _ hx)
  rw [hvars, hv]; exact rfl
end
theorem law_calls3 (hP : ProgOk P) {orc : FuncId → List Value → Heap → Option (Value × Heap)} {W : World} (horc : CallSound P W.heap.size (wz W) orc) {f : FuncId} (hen : Enters P f) {fn : Func} {n : Nat} {t0 t1 t2 : TypeId} {τ0 τ1 τ2 : Ty} (hp : fn.params = #[t0, t1, t2]) (hb0 : tyB P n t0 τ0 = true) (hb1 : tyB P n t1 τ1 = true) (hb2 : tyB P n t2 τ2 = true)
    (hE : ∀ (h : Heap) (v0 v1 v2 : Value) (x0 : τ0.den) (x1 : τ1.den) (x2 : τ2.den), HOk h → RepV h [] τ0 v0 x0 → RepV h [] τ1 v1 x1 → RepV h [] τ2 v2 x2 → Wf τ0 x0 → Wf τ1 x1 → Wf τ2 x2 → EvF P orc f [v0, v1, v2] h fun r h' => r = .bool true ∧ h' = h)
    {args : Array Value} {ds : List (DataW H)} {ps : List MemPlace} (hval : ∀ (j : Nat) t v, fn.params[j]? = some t → args[j]? = some v → Value.okWide P W .any base t v) (hA : DataW.TrodAll enc P W 0 sp held fn.params.toList args.toList ds ps) :
    Calls P f args W fun | .returned v', w' => v' = .bool true ∧ Below W.heap.size W w' | _, _ => False := by
  rw [hp] at hA hval; obtain ⟨v0, vs0, d0, ds0, p0, q0, ha, rfl, rfl, k0, r0⟩ := Go.ChangeShapes.trodAll_cons hA; obtain ⟨v1, vs1, d1, ds1, p1, q1, rfl, rfl, rfl, k1, r1⟩ := Go.ChangeShapes.trodAll_cons r0; obtain ⟨v2, vs2, d2, ds2, p2, q2, rfl, rfl, rfl, k2, r2⟩ := Go.ChangeShapes.trodAll_cons r1; obtain ⟨rfl, rfl, rfl⟩ := Go.ChangeShapes.trodAll_nil r2
  obtain rfl : args = #[v0, v1, v2] := by cases args; simp_all
  obtain ⟨ρ0, S0, h0, u0, x0, g0, c0, e0, w0⟩ := tell_arg (hr_empty (P := P) (w := W) (Nat.zero_le _)) hb0 (hval 0 t0 v0 rfl rfl) k0; obtain ⟨ρ1, S1, h1, u1, x1, g1, c1, e1, w1⟩ := tell_arg g0.hr hb1 (hval 1 t1 v1 rfl rfl) k1; obtain ⟨ρ2, S2, h2, u2, x2, g2, c2, e2, w2⟩ := tell_arg g1.hr hb2 (hval 2 t2 v2 rfl rfl) k2; have hR := hE h2 u0 u1 u2 x0 x1 x2 g2.ok ((e0.nx (g1.aft.nx g0.ok)).nx (g2.aft.nx g1.ok)) (e1.nx (g2.aft.nx g1.ok)) e2 w0 w1 w2; refine (fs_open (args' := [v0, v1, v2]) hP horc hen g2.hr (LR.cons ((c0.mono g1.agree).mono g2.agree) (LR.cons (c1.mono g2.agree) (LR.one c2))) (EvF.mono hR fun v h' h => h.1) rfl).mono fun e w' he => ?_
  cases e with
  | returned v => exact ⟨he.1, below_z he.2⟩
  | panicked c => exact he
  | outgrown => exact he
end Go.Fs
namespace Go.Proofs
open Go.Fs Ieee
set_option maxHeartbeats 2000000
def shortE (r : Rec1) : Bool := decide ((r.1.size : Int) ≤ 60) && (decide ((r.2.2.1.length : Int) ≤ 40) || decide ((r.2.2.1.length : Int) = 4097)) && (decide ((r.2.2.2.length : Int) ≤ 8) || decide ((r.2.2.2.length : Int) = 2049))
theorem shortE_t {r : Rec1} (h : shortE r = true) : r.1.size ≤ 60 ∧ (r.2.2.1.length ≤ 40 ∨ r.2.2.1.length = 4097) ∧ (r.2.2.2.length ≤ 8 ∨ r.2.2.2.length = 2049) := by
  unfold shortE at h; simp only [Bool.and_eq_true, Bool.or_eq_true, decide_eq_true_eq] at h; omega
theorem rShort_ok {r : ByteArray × Int × (List Nat) × (List (Int × Int))} : VF Tryz.prog OA 4 [.v y25 r] (B (shortE r)) := by
  refine VF.enter Tryz.func4 rfl (fun _ _ => rfl) rfl ?_; show VC _ _ _ _ _ [(0, .v y25 r)] [] _; refine VC.seq (VC.text ?_); refine VO.new (.box) ?_; refine VO.c (.assign rfl) ?_; refine VO.go (VC.seq (VC.text ?_)); refine VO.c (.fa (.l .o)) ?_; refine VO.r (.ld vt9) ?_; refine VO.r (.lenS) ?_; refine VO.c (.leq) (VO.c (.move rfl) ?_); refine VO.splitD (x := 7) rfl (fun g1_4 => ?_) (fun g1_4 => ?_)
  · refine VO.c (.fa (.r (.r (.l .o)))) ?_; refine VO.r (.ld vt22) ?_; refine VO.r (.len el22) ?_; refine VO.c (.leq) (VO.c (.move rfl) ?_); refine VO.splitD (x := 12) rfl (fun g1_9 => ?_) (fun g1_9 => ?_)
    · refine VO.skip (VO.skip (VO.skip (VO.skip ?_))); refine VO.c (.pickT rfl rfl) (VO.c (.pickT rfl rfl) (VO.c (.move rfl) (VO.c (.fa (.r (.r (.r .o)))) ?_))); refine VO.r (.ld vt23) ?_; refine VO.call rfl rfl (VF.call (rShortSp_ok )) ?_; refine VO.c (.pickT rfl rfl) (VO.c (.assign rfl) (VO.go ?_)); refine VC.ret ?_; exact VEnd.one rfl evT (pvE (by simp_all [shortE] <;> omega))
    refine VO.c (.fa (.r (.r (.l .o)))) ?_; refine VO.r (.ld vt22) ?_; refine VO.r (.len el22) ?_; refine VO.c (.eql) (VO.c (.pickF rfl rfl) (VO.c (.pickT rfl rfl) (VO.c (.move rfl) ?_))); refine VO.splitD (x := 19) rfl (fun g1_16 => ?_) (fun g1_16 => ?_)
    · refine VO.c (.fa (.r (.r (.r .o)))) ?_; refine VO.r (.ld vt23) ?_; refine VO.call rfl rfl (VF.call (rShortSp_ok )) ?_; refine VO.c (.pickT rfl rfl) (VO.c (.assign rfl) (VO.go ?_)); refine VC.ret ?_; exact VEnd.one rfl evT (pvE (by simp_all [shortE] <;> omega))
    refine VO.skip (VO.skip (VO.skip (VO.c (.pickF rfl rfl) ?_))); refine VO.c (.assign rfl) (VO.go ?_); refine VC.ret ?_; exact VEnd.one rfl evT (pvE (by simp_all [shortE] <;> omega))
  refine VO.skip (VO.skip (VO.skip (VO.skip ?_))); refine VO.skip (VO.skip (VO.skip (VO.skip ?_))); refine VO.skip (VO.skip (VO.c (.pickF rfl rfl) (VO.c (.move rfl) ?_))); refine VO.skip (VO.skip (VO.skip (VO.c (.pickF rfl rfl) ?_))); refine VO.c (.assign rfl) (VO.go ?_); refine VC.ret ?_; exact VEnd.one rfl evT (pvE (by simp_all [shortE] <;> omega))
end Go.Proofs
namespace Go.Fs
section
variable {P : Program} {fl : VL} {σ : Sto} {T T' : TypeId} {x y : Operand} {p q : Int}
theorem CalmV.mulU (hx : evV fl x = some (.v (.int .u64) p)) (hy : evV fl y = some (.v (.int .u64) q)) (h0 : 0 ≤ p * q ∧ p * q < 18446744073709551616) : CalmV P fl σ (.binOp .mul T x y T') (.v (.int .u64) (p * q)) :=
  .binI hx hy (u := .int .u64 (IntKind.u64.wrap (p * q))) rfl fun h S => by rw [wrapU64 h0]; exact RepV.ofInt _ _
theorem CalmV.addU (hx : evV fl x = some (.v (.int .u64) p)) (hy : evV fl y = some (.v (.int .u64) q)) (h0 : 0 ≤ p + q ∧ p + q < 18446744073709551616) : CalmV P fl σ (.binOp .add T x y T') (.v (.int .u64) (p + q)) :=
  .binI hx hy (u := .int .u64 (IntKind.u64.wrap (p + q))) rfl fun h S => by rw [wrapU64 h0]; exact RepV.ofInt _ _
theorem and_mask {p : Int} (h : 0 ≤ p ∧ p < 4294967296) : ((BitVec.ofInt 64 p &&& BitVec.ofInt 64 4294967295).toNat : Int) = p := by
  obtain ⟨n, rfl⟩ := Int.eq_ofNat_of_zero_le h.1
  have hn : n < 2 ^ 32 := by have := h.2; omega
  have e1 : (BitVec.ofInt 64 (n : Int)).toNat = n := by
    rw [BitVec.toNat_ofInt]; omega
  have e2 : (BitVec.ofInt 64 4294967295).toNat = 2 ^ 32 - 1 := by decide
  rw [BitVec.toNat_and, e1, e2, Nat.and_two_pow_sub_one_eq_mod, Nat.mod_eq_of_lt hn]
theorem CalmV.andM (hx : evV fl x = some (.v (.int .u64) p)) (hy : evV fl y = some (.v (.int .u64) 4294967295)) (h0 : 0 ≤ p ∧ p < 4294967296) : CalmV P fl σ (.binOp .and T x y T') (.v (.int .u64) p) :=
  .binI hx hy (u := .int .u64 (IntKind.u64.wrap ((BitVec.ofInt 64 p &&& BitVec.ofInt 64 4294967295).toNat : Int))) rfl fun h S => by rw [and_mask h0, wrapU64 ⟨h0.1, by omega⟩]; exact RepV.ofInt _ _
theorem fdiv0 {p : Int} (h : 0 ≤ p ∧ p < 4294967296) : p.fdiv (2 ^ (32 : Int).toNat) = 0 := by
  have e : (2 ^ (32 : Int).toNat : Int) = 4294967296 := by decide
  rw [e, Int.fdiv_eq_ediv_of_nonneg _ (by decide)]; omega
end
variable {P : Program} {orc : FuncId → List Value → Heap → Option (Value × Heap)} {h h' h0 h1 h2 : Heap} {S S' S0 B G : List Nat} {σ σ' σr : Sto} {t t' : Tr} {ms : List Nat} {fl : VL} {ops : Array Oper} {n i mem : Nat} {l : List Oper} {K : VL → Sto → Prop}
  {d : Tmp} {ty : TypeId} {pos : String} {after : Array Edge} {op : Op} {v pv : PV} {g : Option (Nat × Bool)} {x y z : Operand} {T T' e : TypeId} {τ τ' : Ty} {w : Value}
theorem Elems.takeE {rs : List Value} {xs : List τ.den} {k : Nat} (he : Elems h S τ rs xs) (hk : k ≤ xs.length) : Elems h S τ (rs.take (k * τ.size)) (xs.take k) := by
  have hrl := he.1; have hk2 : k * τ.size ≤ xs.length * τ.size := Nat.mul_le_mul_right _ hk; refine ⟨by rw [List.length_take, List.length_take, Nat.min_eq_left hk, Nat.min_eq_left (by omega)], fun i hi => ?_⟩
  have hi1 : i < k := by rw [List.length_take] at hi; omega
  have h2 : (i + 1) * τ.size ≤ k * τ.size := Nat.mul_le_mul_right _ hi1; rw [Nat.add_mul, Nat.one_mul] at h2; rw [List.drop_take, List.take_take, Nat.min_eq_left (by omega), List.getElem_take]; exact he.2 i (by omega)
theorem Elems.dropE {rs : List Value} {xs : List τ.den} {k : Nat} (he : Elems h S τ rs xs) : Elems h S τ (rs.drop (k * τ.size)) (xs.drop k) := by
  have hrl := he.1; refine ⟨by rw [List.length_drop, List.length_drop, hrl, Nat.sub_mul], fun i hi => ?_⟩; rw [List.length_drop] at hi; rw [List.drop_drop, List.getElem_drop, ← Nat.add_mul]; exact he.2 (k + i) (by omega)
theorem Elems.spliceE {rs vs : List Value} {xs ys : List τ.den} {k : Nat} (he : Elems h S τ rs xs) (hv : Elems h S τ vs ys) (hk : k + ys.length ≤ xs.length) : Elems h S τ (splice rs (k * τ.size) vs) (xs.take k ++ ys ++ xs.drop (k + ys.length)) := by
  unfold splice; rw [hv.1, ← Nat.add_mul]; exact ((he.takeE (by omega)).append hv).append he.dropE
theorem made_splice {rs vs : List Value} {xs ys : List τ.den} {k b : Nat} {m : Bool} (L : Lc S0 h ((w, .row e τ xs) :: σ) t fl) (h3 : w = .slice (some ⟨b, 0, none⟩) xs.length 0) (h4 : b ∈ own ((w, Cell.row e τ xs) :: σ)) (h5 : h.get b = some (.row e rs true m)) (h6 : Elems h (own ((w, Cell.row e τ xs) :: σ) ++ S0) τ rs xs) (hv : Elems h (own ((w, Cell.row e τ xs) :: σ) ++ S0) τ vs ys) (hk : k + ys.length ≤ xs.length) :
    Made S0 h (h.set b (.row e (splice rs (k * τ.size) vs) true m)) ((w, .row e τ xs) :: σ) ((w, .row e τ (xs.take k ++ ys ++ xs.drop (k + ys.length))) :: σ) := by
  have hbk : blk w = [b] := by rw [h3]; rfl
  refine Made.head L (Aft.set h5 (by rw [hbk]; simp)) (fun b hb => .inl hb) (by rw [hbk]; simp) fun hN => ?_; refine .inr ⟨b, _, m, ?_, ?_, by rw [Heap.get_set h5, if_pos rfl], (h6.nx hN).spliceE (hv.nx hN) hk⟩
  · rw [List.length_append, List.length_append, List.length_take, List.length_drop, Nat.min_eq_left (by omega), show k + ys.length + (xs.length - (k + ys.length)) = xs.length by omega]; exact h3
  rw [own_cons]; exact List.mem_append_left _ (List.mem_append_left _ (by rw [hbk]; simp))
theorem MakeV.copyP {xs ys : List τ.den} (hT : ElT P T e τ) (hl : ys.length ≤ xs.length) (hp : 0 < ys.length) (hx : evV fl x = some (.raw w)) (hy : evV fl y = some (.v (.sl τ) ys)) :
    MakeV P fl ((w, .row e τ xs) :: σ) (.call { callee := .builtin .copy, args := #[x, y], argTypes := #[T, T'] }) fun v σ' => v = .v (.int .i64) ((ys.length : Nat) : Int) ∧ σ' = (w, .row e τ (xs.take 0 ++ ys ++ xs.drop (0 + ys.length))) :: σ :=
  ⟨rfl, fun S0 h t L => by
    have h1 : evalO t x = w := evV_ok L.slots hx; have hu := (evV_ok L.slots hy : RepV h _ (.sl τ) (evalO t y) ys).sl; obtain ⟨i, z, hi1, hi2, hi3, hi3', hi4, hi5, hi6⟩ := hT.sl.info; obtain ⟨c1, vs, c2, c3⟩ := hu.cellsOf hT.sl.pos; have hmin : Nat.min ys.length xs.length = ys.length := Nat.min_eq_left hl; have hvl : vs.length = ys.length * τ.size := c3.1; have hvo : vs.all oneCell = true := Elems.allOne _ _ c3; rcases L.cells _ List.mem_cons_self with ⟨_, rfl⟩ | ⟨b, rs, m, h3, h4, h5, h6⟩
    · have hl0 : ys.length ≤ 0 := hl; omega
    have hw : w = _ := h3; have hrl := h6.1; have hM := made_splice (k := 0) L h3 (by rw [own_cons]; exact List.mem_append_left _ (by rw [hw]; exact List.mem_cons_self)) h5 h6 c3 (by omega); rw [Nat.zero_mul] at hM; refine ⟨.int .i64 ((ys.length : Nat) : Int), h.set b (.row e (splice rs 0 vs) true m), .v (.int .i64) ((ys.length : Nat) : Int), _, ⟨rfl, rfl⟩, hM, RepV.ofInt _ _, fun _ _ _ _ _ => ?_⟩; show (fsCopy P #[T, T'] (evalO t x) (evalO t y) h) = _; have e2 : Nat.beq (ys.length * τ.size) 0 = false := beq_no (Nat.ne_of_gt (Nat.mul_pos hp hT.sl.pos))
    have e3 : Nat.ble (0 + ys.length * τ.size) rs.length = true := by rw [Nat.ble_eq, hrl, Nat.zero_add]; exact Nat.mul_le_mul_right _ hl
    have e4 : Nat.beq vs.length (ys.length * τ.size) = true := by rw [hvl]; exact Nat.beq_refl _
    rw [h1, hw]; simp only [fsCopy, List.getElem?_toArray, List.getElem?_cons_zero, hT.sl.sl, hi1, c1, show ∀ q m, lenV (.slice q xs.length m) = some xs.length from fun _ _ => rfl, hi2]
    simp only [show Nat.min ys.length xs.length = ys.length from hmin, c2, e4, hvo, Bool.and_self, cond_true, e2, cond_false, h5, e3]⟩
theorem VO.copyP {xs ys : List τ.den} (hx : evV fl x = some (.raw w)) (hy : evV fl y = some (.v (.sl τ) ys)) (hT : ElT P T e τ) (hl : ys.length ≤ xs.length) (hp : 0 < ys.length) (hk : VO P orc ops n l ((d, .v (.int .i64) ((ys.length : Nat) : Int)) :: fl) ((w, .row e τ (xs.take 0 ++ ys ++ xs.drop (0 + ys.length))) :: σ) K) (hw : wantV ops fl g = some true := by rfl) (hn : (Nat.blt d n && Nat.ble n 4000) = true := by rfl) :
    VO P orc ops n (⟨some d, .call { callee := .builtin .copy, args := #[x, y], argTypes := #[T, T'] }, ty, pos, after, g⟩ :: l) fl ((w, .row e τ xs) :: σ) K :=
  VO.mk (MakeV.copyP hT hl hp hx hy) (by rintro _ _ ⟨rfl, rfl⟩; exact hk) hw hn
def rowHead (w : Value) (k : Nat) : Value :=
  match w with
  | .slice (some ⟨b, o, none⟩) _ mk => .slice (some ⟨b, o, none⟩) k mk
  | u => u
theorem ReadV.headO {xs : List τ.den} {k : Nat} {hi : Operand} (hx : evV fl x = some (.raw w)) (hl : evV fl hi = some (.v (.int .i64) ((k : Nat) : Int))) (hm : (w, Cell.row e τ xs) ∈ σ) (hT : ElT P T e τ) (h0 : 0 < xs.length) (hk : k ≤ xs.length) : ReadV P fl σ (.slice T x none (some hi) none) (.raw (rowHead w k)) :=
  ⟨rfl, fun h S t hs hc => by
    have h1 : evalO t x = w := hs x (by simp [Op.operands]) _ hx; have h2 := RepV.int (hs hi (by simp [Op.operands]) _ hl); rcases hc _ hm with ⟨_, rfl⟩ | ⟨b, rs, m, h3, h4, h5, h6⟩
    · simp at h0
    have hw : w = _ := h3; refine ⟨_, rfl, fun H hH _ _ _ _ _ => ?_⟩; show (fsSlice P T (evalO t x) none (some (evalO t hi)) none H).map _ = _; obtain ⟨i, z, hi1, hi2, _⟩ := hT.sl.info
    have e1 : Nat.ble k xs.length = true := by rw [Nat.ble_eq]; exact hk
    have e2 : Nat.ble 0 k = true := by rw [Nat.ble_eq]; exact Nat.zero_le _
    have h0' : (0 : Int) ≤ (k : Nat) := Int.natCast_nonneg _; rw [h1, h2, hw]; simp [fsSlice, hT.sl.sl, hi1, boundOf, if_pos h0', Int.toNat_natCast, e1, e2, markOf, cutAt, rowHead]
    rfl⟩
theorem MakeV.copyS {xs : List τ.den} {k : Nat} (hT : ElT P T e τ) (hk : k < xs.length) (h0 : 0 < k) (hx : evV fl x = some (.raw (rowFrom w τ.size k))) (hy : evV fl y = some (.raw (rowHead w k))) :
    MakeV P fl ((w, .row e τ xs) :: σ) (.call { callee := .builtin .copy, args := #[x, y], argTypes := #[T, T'] }) fun v σ' => v = .v (.int .i64) ((min k (xs.length - k) : Nat) : Int) ∧ σ' = (w, .row e τ (xs.take k ++ xs.take (min k (xs.length - k)) ++ xs.drop (k + (xs.take (min k (xs.length - k))).length))) :: σ :=
  ⟨rfl, fun S0 h t L => by
    have h1 : evalO t x = rowFrom w τ.size k := evV_ok L.slots hx; have h2 : evalO t y = rowHead w k := evV_ok L.slots hy; obtain ⟨i, z, hi1, hi2, hi3, hi3', hi4, hi5, hi6⟩ := hT.sl.info; rcases L.cells _ List.mem_cons_self with ⟨_, rfl⟩ | ⟨b, rs, m, h3, h4, h5, h6⟩
    · simp at hk
    have hw : w = _ := h3; have hrl := h6.1
    have hm1 : min k (xs.length - k) ≤ xs.length := by omega
    have hyl : (xs.take (min k (xs.length - k))).length = min k (xs.length - k) := by rw [List.length_take]; omega
    have hv := h6.takeE hm1; have hM := made_splice (k := k) L h3 (by rw [own_cons]; exact List.mem_append_left _ (by rw [hw]; exact List.mem_cons_self)) h5 h6 hv (by rw [hyl]; omega); refine ⟨.int .i64 ((min k (xs.length - k) : Nat) : Int), h.set b (.row e (splice rs (k * τ.size) (rs.take (min k (xs.length - k) * τ.size))) true m), .v (.int .i64) ((min k (xs.length - k) : Nat) : Int), _, ⟨rfl, rfl⟩, hM, RepV.ofInt _ _, fun _ _ _ _ _ => ?_⟩; show (fsCopy P #[T, T'] (evalO t x) (evalO t y) h) = _
    have hpos : 0 < min k (xs.length - k) := by omega
    have e2 : Nat.beq (min k (xs.length - k) * τ.size) 0 = false := beq_no (Nat.ne_of_gt (Nat.mul_pos hpos hT.sl.pos))
    have e3 : Nat.ble (0 + min k (xs.length - k) * τ.size) rs.length = true := by rw [Nat.ble_eq, hrl, Nat.zero_add]; exact Nat.mul_le_mul_right _ hm1
    have e4 : Nat.beq (rs.take (min k (xs.length - k) * τ.size)).length (min k (xs.length - k) * τ.size) = true := by rw [hv.1, hyl]; exact Nat.beq_refl _
    have e5 : Nat.ble (min k (xs.length - k)) k = true := by rw [Nat.ble_eq]; omega
    have e6 : Nat.ble (0 + k * τ.size + min k (xs.length - k) * τ.size) rs.length = true := by rw [Nat.ble_eq, hrl, Nat.zero_add, ← Nat.add_mul]; exact Nat.mul_le_mul_right _ (by omega)
    have e7 : (rs.take (min k (xs.length - k) * τ.size)).all oneCell = true := Elems.allOne _ _ hv; have hmin : Nat.min k (xs.length - k) = min k (xs.length - k) := rfl; rw [h1, h2, hw, rest_eq hk]; simp only [fsCopy, List.getElem?_toArray, List.getElem?_cons_zero, hT.sl.sl, hi1, rowHead, show ∀ q n m, lenV (.slice q n m) = some n from fun _ _ _ => rfl, hi2, cellsOf, hmin, e5, cond_true, e2, cond_false, h5, List.drop_zero, Nat.zero_add]; rw [Nat.zero_add] at e3 e6
    simp only [e3, cond_true, e4, e7, Bool.and_self, e6]⟩
theorem MakeV.copyZ {ys : List τ.den} (hT : ElT P T e τ) (hx : evV fl x = some (.raw w)) (hy : evV fl y = some (.v (.sl τ) ys)) :
    MakeV P fl ((w, .row e τ []) :: σ) (.call { callee := .builtin .copy, args := #[x, y], argTypes := #[T, T'] }) fun v σ' => v = .v (.int .i64) ((0 : Nat) : Int) ∧ σ' = (w, .row e τ []) :: σ :=
  ⟨rfl, fun S0 h t L => by
    have h1 : evalO t x = w := evV_ok L.slots hx; have hu := (evV_ok L.slots hy : RepV h _ (.sl τ) (evalO t y) ys).sl; obtain ⟨i, z, hi1, hi2, hi3, hi3', hi4, hi5, hi6⟩ := hT.sl.info
    have c1 : ∃ m, lenV (evalO t y) = some m ∧ Fs.cellsOf τ.size 0 (evalO t y) h = some [] := by
      rcases hu with ⟨hv, _⟩ | ⟨b, o, mk, hv, _⟩
      · rw [hv]; exact ⟨0, rfl, rfl⟩
      rw [hv]; refine ⟨ys.length, rfl, ?_⟩
      have e1 : Nat.ble 0 ys.length = true := by rw [Nat.ble_eq]; exact Nat.zero_le _
      simp only [Fs.cellsOf, e1, cond_true, Nat.zero_mul]; rfl
    obtain ⟨m, c1, c2⟩ := c1; have hmin : Nat.min m 0 = 0 := Nat.min_zero _; refine ⟨.int .i64 ((0 : Nat) : Int), h, .v (.int .i64) ((0 : Nat) : Int), _, ⟨rfl, rfl⟩, Made.same L (Aft.refl _ _), RepV.ofInt _ _, fun _ _ _ _ _ => ?_⟩; show (fsCopy P #[T, T'] (evalO t x) (evalO t y) h) = _; rcases L.cells _ List.mem_cons_self with ⟨hw, _⟩ | ⟨b, rs, m', h3, h4, h5, h6⟩
    · have hw' : w = .slice none 0 0 := hw; rw [h1, hw']; simp only [fsCopy, List.getElem?_toArray, List.getElem?_cons_zero, hT.sl.sl, hi1, c1, show lenV (.slice none 0 0) = some 0 from rfl, hi2, hmin, c2, List.length_nil, Nat.zero_mul]; rfl
    have hw : w = .slice (some ⟨b, 0, none⟩) 0 0 := h3; rw [h1, hw]; simp only [fsCopy, List.getElem?_toArray, List.getElem?_cons_zero, hT.sl.sl, hi1, c1, show ∀ q m, lenV (.slice q 0 m) = some 0 from fun _ _ => rfl, hi2, hmin, c2, List.length_nil, Nat.zero_mul]
    rfl⟩
theorem VO.copyZ {xs ys : List τ.den} (hx : evV fl x = some (.raw w)) (hy : evV fl y = some (.v (.sl τ) ys)) (hT : ElT P T e τ) (hl : xs = []) (hk : VO P orc ops n l ((d, .v (.int .i64) ((0 : Nat) : Int)) :: fl) ((w, .row e τ []) :: σ) K) (hw : wantV ops fl g = some true := by rfl) (hn : (Nat.blt d n && Nat.ble n 4000) = true := by rfl) :
    VO P orc ops n (⟨some d, .call { callee := .builtin .copy, args := #[x, y], argTypes := #[T, T'] }, ty, pos, after, g⟩ :: l) fl ((w, .row e τ xs) :: σ) K := by
  subst hl; exact VO.mk (MakeV.copyZ hT hx hy) (by rintro _ _ ⟨rfl, rfl⟩; exact hk) hw hn
end Go.Fs
namespace Go.Proofs
open Go.Fs Ieee
set_option maxHeartbeats 2000000
theorem el70 : ElT Tryz.prog 70 4 .bool := elT_of (by kernel_rfl)
theorem zt4 : ZerT Tryz.prog 4 .bool := zerT_of (z := .bool false) (by kernel_rfl) rfl rfl
theorem bMul64_ok {x : Int} {y : Int} (hx : 0 ≤ x ∧ x < 4294967296) (hy : 0 ≤ y ∧ y < 4294967296) (hp : 0 ≤ x * y ∧ x * y < 4294967296) : VF Tryz.prog OA 96 [.v (.int .u64) x, .v (.int .u64) y] (.tup [.v (.int .u64) 0, .v (.int .u64) (x * y)]) := by
  refine VF.enter Tryz.func96 rfl (fun _ _ => rfl) rfl ?_; show VC _ _ _ _ _ [(0, .v (.int .u64) x), (1, .v (.int .u64) y)] [] _; refine VC.seq (VC.text ?_); refine VO.c (.assign rfl) (VO.c (.assign rfl) ?_); refine VO.go (VC.seq (VC.text ?_)); refine VO.c (.move rfl) (VO.c (.andM rfl rfl hx) (VO.c (.assign rfl) ?_)); refine VO.go (VC.seq (VC.text ?_)); refine VO.c (.move rfl) (VO.c (.shrUU rfl rfl (by decide)) ?_); rw [fdiv0 hx]; refine VO.c (.assign rfl) ?_; refine VO.go (VC.seq (VC.text ?_)); refine VO.c (.move rfl) (VO.c (.andM rfl rfl hy) (VO.c (.assign rfl) ?_)); refine VO.go (VC.seq (VC.text ?_)); refine VO.c (.move rfl) (VO.c (.shrUU rfl rfl (by decide)) ?_); rw [fdiv0 hy]; refine VO.c (.assign rfl) ?_; refine VO.go (VC.seq (VC.text ?_)); refine VO.c (.move rfl) (VO.c (.move rfl) (VO.c (.mulU rfl rfl (by omega)) (VO.c (.assign rfl) ?_))); refine VO.go (VC.seq (VC.text ?_)); refine VO.c (.move rfl) (VO.c (.move rfl) (VO.c (.mulU (p := 0) rfl rfl (by omega)) (VO.c (.move rfl) ?_))); refine VO.c (.shrUU rfl rfl (by decide)) ?_; rw [fdiv0 hp]; refine VO.c (.addU rfl rfl (by omega)) ?_; rw [show (0 : Int) * y + 0 = 0 by omega]; refine VO.c (.assign rfl) ?_; refine VO.go (VC.seq (VC.text ?_)); refine VO.c (.move rfl) (VO.c (.andM (p := 0) rfl rfl (by decide)) (VO.c (.assign rfl) ?_)); refine VO.go (VC.seq (VC.text ?_)); refine VO.c (.move rfl) (VO.c (.shrUU rfl rfl (by decide)) ?_); rw [fdiv0 (p := 0) (by decide)]; refine VO.c (.assign rfl) ?_; refine VO.go (VC.seq ?_); refine VC.keep [(0, .v (.int .u64) x), (1, .v (.int .u64) y), (6, .v (.int .u64) x), (7, .v (.int .u64) 0), (9, .v (.int .u64) 0), (12, .v (.int .u64) 0), (13, .v (.int .u64) 0)] ⟨rfl, rfl, rfl, rfl, rfl, rfl, rfl, trivial⟩ ?_; refine VC.text ?_; refine VO.c (.move rfl) (VO.c (.move rfl) (VO.c (.move rfl) (VO.c (.mulU (q := 0) rfl rfl (by omega)) ?_))); refine VO.c (.addU rfl rfl (by omega)) ?_; rw [show (0 : Int) + x * 0 = 0 by omega]; refine VO.c (.assign rfl) ?_; refine VO.go (VC.seq (VC.text ?_)); refine VO.c (.move rfl) (VO.c (.move rfl) (VO.c (.mulU (p := 0) (q := 0) rfl rfl (by decide)) (VO.c (.move rfl) ?_))); refine VO.c (.addU rfl rfl (by decide)) ?_; rw [show (0 : Int) * 0 + 0 = 0 by rfl]; refine VO.c (.move rfl) (VO.c (.shrUU rfl rfl (by decide)) ?_); rw [fdiv0 (p := 0) (by decide)]; refine VO.c (.addU rfl rfl (by decide)) ?_; rw [show (0 : Int) + 0 = 0 by rfl]; refine VO.c (.assign rfl) ?_; refine VO.go (VC.seq (VC.text ?_)); refine VO.c (.move rfl) (VO.c (.move rfl) (VO.c (.mulU rfl rfl (by omega)) (VO.c (.assign rfl) ?_))); refine VO.go ?_; refine VC.ret ?_; exact VEnd.two rfl evT evT (pvI (by rfl)) (pvI (by rfl))
theorem bMul_ok {x : Int} {y : Int} (hx : 0 ≤ x ∧ x < 4294967296) (hy : 0 ≤ y ∧ y < 4294967296) (hp : 0 ≤ x * y ∧ x * y < 4294967296) : VF Tryz.prog OA 71 [.v (.int .u64) x, .v (.int .u64) y] (.tup [.v (.int .u64) 0, .v (.int .u64) (x * y)]) := by
  refine VF.enter Tryz.func71 rfl (fun _ _ => rfl) rfl ?_; show VC _ _ _ _ _ [(0, .v (.int .u64) x), (1, .v (.int .u64) y)] [] _; refine VC.seq (VC.text ?_); refine VO.c (.assign rfl) (VO.c (.assign rfl) ?_); refine VO.go (VC.seq ?_); refine VC.condF rfl ?_; refine VC.skip (VC.seq (VC.text ?_)); refine VO.c (.move rfl) (VO.c (.move rfl) ?_); refine VO.call rfl rfl (VF.call (bMul64_ok (by first | assumption | omega | simp) (by first | assumption | omega | simp) (by first | assumption | omega | simp))) ?_; refine VO.c (.move rfl) (VO.c (.extract) (VO.c (.extract) (VO.c (.assign rfl) ?_))); refine VO.c (.assign rfl) ?_; refine VO.go (VC.seq (VC.text ?_)); refine VO.c (.move rfl) (VO.c (.move rfl) (VO.c (.assign rfl) (VO.c (.assign rfl) ?_))); refine VO.go ?_; refine VC.ret ?_; exact VEnd.two rfl evT evT (pvI (by rfl)) (pvI (by rfl))
def repB (n c : Nat) : List Bool := List.replicate c true ++ List.replicate (n - c) false
theorem repB_len {n c : Nat} (h : c ≤ n) : (repB n c).length = n := by simp [repB]; omega
theorem repB_first {n : Nat} {x : List Bool} (hx : x = [true]) (h : 0 < n) : (List.replicate n false).take 0 ++ x ++ (List.replicate n false).drop (0 + x.length) = repB n 1 := by
  subst hx; simp [repB]
theorem repB_next {n c : Nat} (h : c < n) (h0 : 0 < c) : (repB n c).take c ++ (repB n c).take (min c ((repB n c).length - c)) ++ (repB n c).drop (c + ((repB n c).take (min c ((repB n c).length - c))).length) = repB n (c + min c (n - c)) := by
  have hl := repB_len (n := n) (c := c) (by omega); rw [hl]
  have e1 : (repB n c).take c = List.replicate c true := by
    unfold repB; rw [List.take_append_of_le_length (by simp), List.take_of_length_le (by simp)]
  have e2 : (repB n c).take (min c (n - c)) = List.replicate (min c (n - c)) true := by
    unfold repB; rw [List.take_append_of_le_length (by simp; omega), List.take_replicate]; congr 1; omega
  have e3 : (repB n c).drop (c + min c (n - c)) = List.replicate (n - (c + min c (n - c))) false := by
    unfold repB; rw [List.drop_append, List.drop_of_length_le (by simp), List.length_replicate, List.drop_replicate, List.nil_append]; congr 1; omega
  rw [e1, e2, List.length_replicate, e3, List.replicate_append_replicate]; rfl
theorem zRep1_ok {x : List Bool} {n : Nat} (hx : x = [true]) (hn : n ≤ 4096) (h0 : 0 < n) : VFG Tryz.prog OA 55 [.v (.sl .bool) x, I ((n : Nat) : Int)] [] (fun r g => ∃ w, r = .raw w ∧ g = [(w, .row 4 .bool (List.replicate n true))]) := by
  refine VFG.enter Tryz.func55 rfl (fun _ _ => rfl) rfl ?_; show VC _ _ _ _ _ [(0, .v (.sl .bool) x), (1, I ((n : Nat) : Int))] [] _; refine VC.seq (VC.text ?_); refine VO.c (.assign rfl) ?_; refine VO.go (VC.seq (VC.seq (VC.text ?_))); refine VO.c (.move rfl) (VO.c (.lss) (VO.go ?_)); refine VC.condD rfl (fun c1 => ?_) (fun c1 => ?_)
  · exact absurd c1 (by omega)
  have hx1 : x.length = 1 := by rw [hx] <;> rfl
  have hxn : ((x.length : Nat) : Int) * ((n : Nat) : Int) = ((n : Nat) : Int) := by rw [hx1]; omega
  refine VC.skip (VC.seq (VC.text ?_)); refine VO.c (.move rfl) ?_; refine VO.r (.len el70) ?_; refine VO.c (.convI rfl .u64 (by exact wrapU64 (by omega))) (VO.c (.move rfl) (VO.c (.convI rfl .u64 (by exact wrapU64 (by omega))) ?_)); refine VO.call rfl rfl (VF.call (bMul_ok (by omega) (by omega) (by rw [hxn]; omega))) ?_; refine VO.c (.move rfl) (VO.c (.extract) (VO.c (.extract) ?_)); rw [hxn]; refine VO.c (.assign rfl) (VO.c (.assign rfl) ?_); refine VO.go (VC.seq (VC.seq (VC.text ?_))); refine VO.c (.move rfl) (VO.c (.gtr) (VO.c (.move rfl) ?_)); refine VO.cg (r := decide ((0 : Int) < 0)) (w := false) [] trivial (fun _ => (.move rfl)) ?_; refine VO.cg (r := decide ((0 : Int) < 0)) (w := false) [(24, .v (.int .u64) ((n : Nat) : Int))] ⟨rfl, trivial⟩ (fun _ => (.gtr)) ?_; refine VO.c (.or) (VO.go ?_); refine VC.condB rfl (fun c4 => ?_) (fun c4 => ?_)
  · try simp only [Bool.and_eq_true, Bool.or_eq_true, Bool.and_eq_false_iff, Bool.or_eq_false_iff, Bool.not_eq_true', Bool.not_eq_false', decide_eq_true_eq, decide_eq_false_iff_not] at c4
    exact absurd c4 (by omega)
  try simp only [Bool.and_eq_true, Bool.or_eq_true, Bool.and_eq_false_iff, Bool.or_eq_false_iff, Bool.not_eq_true', Bool.not_eq_false', decide_eq_true_eq, decide_eq_false_iff_not] at c4
  refine VC.skip (VC.seq (VC.text ?_)); refine VO.c (.move rfl) (VO.c (.convI rfl .i64 (by exact wrap64 (by omega) (by omega))) ?_); refine VO.cell (.make (k := n) rfl rfl el70 zt4 (by omega)) ?_; intro ww1; refine VO.c (.assign rfl) ?_; refine VO.go (VC.seq (VC.text ?_)); refine VO.c (.move rfl) (VO.c (.move rfl) ?_); refine VO.copyP rfl rfl el70 (by simp; omega) (by omega) ?_; rw [show (zeroD Ty.bool : Bool) = false from rfl, repB_first hx h0, hx1]; refine VO.c (.assign rfl) ?_; refine VO.go (VC.seq (VC.block ?_)); refine VC.keep [(7, .raw ww1), (8, I ((1 : Nat) : Int))] ⟨rfl, rfl, trivial⟩ ?_; refine VC.loop (I := fun kk ff ss => ∃ (c : Nat), kk = n - c ∧ ff = [(7, .raw ww1), (8, I ((c : Nat) : Int))] ∧ ss = [(ww1, .row 4 .bool (repB n c))] ∧ (1 ≤ c ∧ c ≤ n)) ?_ _ _ _ ⟨1, rfl, rfl, rfl, (by omega)⟩; rintro kk ff ss ⟨c, hk0, rfl, rfl, hc⟩; refine VC.seq (VC.seq (VC.text ?_)); refine VO.c (.move rfl) (VO.c (.move rfl) ?_); refine VO.r (.lenO m0 el70) ?_; refine VO.c (.lss) (VO.go ?_); refine VC.condD rfl (fun c8 => ?_) (fun c8 => ?_)
  · have hrl := repB_len (n := n) (c := c) hc.2
    have hcn : c < n := by omega
    refine VC.skip (VC.block (VC.drawn ?_)); refine VD.c (.move rfl) (VD.c (.move rfl) (VD.c (.move rfl) ?_)); refine VD.r [(ww1, .row 4 .bool (repB n c))] (.restO (k := c) rfl rfl m0 el70 (by omega) (by omega)) (.inr ⟨rfl, rfl⟩) ?_; refine VD.c (.move rfl) (VD.c (.move rfl) (VD.nw [] ?_)); refine VD.r [(ww1, .row 4 .bool (repB n c))] (.headO (k := c) rfl rfl m0 el70 (by omega) (by omega)) (.inr ⟨rfl, rfl⟩) ?_; refine VD.mk (MakeV.copyS (k := c) el70 (by omega) (by omega) rfl rfl) ?_; rintro _ _ tl2 ⟨rfl, rfl⟩; rw [repB_next hcn hc.1, hrl]; refine VD.c (.add rfl rfl (by omega)) (VD.c (.assign rfl) ?_); refine VD.nil ?_; refine ⟨_, [(7, .raw ww1), (8, I (((c + min c (n - c)) : Nat) : Int))], ?_, ⟨rfl, rfl, trivial⟩, (c + min c (n - c)), rfl, rfl, (by simp), (by omega)⟩; omega
  refine VC.exit (VC.seq (VC.text ?_)); refine VO.c (.move rfl) (VO.c (.assign rfl) (VO.go ?_)); refine VC.ret ?_; exact VEndG.row rfl evT ⟨ww1, rfl, (by rw [show c = n by (have hrl2 := repB_len (n := n) (c := c) hc.2; omega)]; simp [repB])⟩
theorem zRep0_ok {x : List Bool} {n : Nat} (hx : x = [true]) (h0 : n = 0) : VFG Tryz.prog OA 55 [.v (.sl .bool) x, I ((n : Nat) : Int)] [] (fun r g => ∃ w, r = .raw w ∧ g = [(w, .row 4 .bool [])]) := by
  refine VFG.enter Tryz.func55 rfl (fun _ _ => rfl) rfl ?_; show VC _ _ _ _ _ [(0, .v (.sl .bool) x), (1, I ((n : Nat) : Int))] [] _; refine VC.seq (VC.text ?_); refine VO.c (.assign rfl) ?_; refine VO.go (VC.seq (VC.seq (VC.text ?_))); refine VO.c (.move rfl) (VO.c (.lss) (VO.go ?_)); refine VC.condD rfl (fun c1 => ?_) (fun c1 => ?_)
  · exact absurd c1 (by omega)
  have hx1 : x.length = 1 := by rw [hx] <;> rfl
  have hxn : ((x.length : Nat) : Int) * ((n : Nat) : Int) = ((n : Nat) : Int) := by rw [hx1]; omega
  refine VC.skip (VC.seq (VC.text ?_)); refine VO.c (.move rfl) ?_; refine VO.r (.len el70) ?_; refine VO.c (.convI rfl .u64 (by exact wrapU64 (by omega))) (VO.c (.move rfl) (VO.c (.convI rfl .u64 (by exact wrapU64 (by omega))) ?_)); refine VO.call rfl rfl (VF.call (bMul_ok (by omega) (by omega) (by rw [hxn]; omega))) ?_; refine VO.c (.move rfl) (VO.c (.extract) (VO.c (.extract) ?_)); rw [hxn]; refine VO.c (.assign rfl) (VO.c (.assign rfl) ?_); refine VO.go (VC.seq (VC.seq (VC.text ?_))); refine VO.c (.move rfl) (VO.c (.gtr) (VO.c (.move rfl) ?_)); refine VO.cg (r := decide ((0 : Int) < 0)) (w := false) [] trivial (fun _ => (.move rfl)) ?_; refine VO.cg (r := decide ((0 : Int) < 0)) (w := false) [(24, .v (.int .u64) ((n : Nat) : Int))] ⟨rfl, trivial⟩ (fun _ => (.gtr)) ?_; refine VO.c (.or) (VO.go ?_); refine VC.condB rfl (fun c4 => ?_) (fun c4 => ?_)
  · try simp only [Bool.and_eq_true, Bool.or_eq_true, Bool.and_eq_false_iff, Bool.or_eq_false_iff, Bool.not_eq_true', Bool.not_eq_false', decide_eq_true_eq, decide_eq_false_iff_not] at c4
    exact absurd c4 (by omega)
  try simp only [Bool.and_eq_true, Bool.or_eq_true, Bool.and_eq_false_iff, Bool.or_eq_false_iff, Bool.not_eq_true', Bool.not_eq_false', decide_eq_true_eq, decide_eq_false_iff_not] at c4
  refine VC.skip (VC.seq (VC.text ?_)); refine VO.c (.move rfl) (VO.c (.convI rfl .i64 (by exact wrap64 (by omega) (by omega))) ?_); refine VO.cell (.make (k := n) rfl rfl el70 zt4 (by omega)) ?_; intro ww3; refine VO.c (.assign rfl) ?_; refine VO.go (VC.seq (VC.text ?_)); refine VO.c (.move rfl) (VO.c (.move rfl) ?_); refine VO.copyZ rfl rfl el70 (by rw [h0] <;> rfl) ?_; refine VO.c (.assign rfl) ?_; refine VO.go (VC.seq (VC.block ?_)); refine VC.keep [(7, .raw ww3), (8, I ((0 : Nat) : Int))] ⟨rfl, rfl, trivial⟩ ?_; refine VC.loop (I := fun kk ff ss => ∃ (c : Nat), kk = 0 ∧ ff = [(7, .raw ww3), (8, I ((c : Nat) : Int))] ∧ ss = [(ww3, .row 4 .bool [])] ∧ (c = 0)) ?_ _ _ _ ⟨0, rfl, rfl, rfl, (by rfl)⟩; rintro kk ff ss ⟨c, hk0, rfl, rfl, hc⟩; refine VC.seq (VC.seq (VC.text ?_)); refine VO.c (.move rfl) (VO.c (.move rfl) ?_); refine VO.r (.lenO m0 el70) ?_; refine VO.c (.lss) (VO.go ?_); refine VC.condD rfl (fun c8 => ?_) (fun c8 => ?_)
  · exact absurd c8 (by simp)
  refine VC.exit (VC.seq (VC.text ?_)); refine VO.c (.move rfl) (VO.c (.assign rfl) (VO.go ?_)); refine VC.ret ?_; exact VEndG.row rfl evT ⟨ww3, rfl, (by rfl)⟩
theorem zRep_ok {n : Nat} {x : List Bool} (hx : x = [true]) (hn : n ≤ 4096) : VFG Tryz.prog OA 55 [.v (.sl .bool) x, I ((n : Nat) : Int)] [] (fun r g => ∃ w, r = .raw w ∧ g = [(w, .row 4 .bool (List.replicate n true))]) := by
  by_cases h : n = 0
  · subst h; exact zRep0_ok hx rfl
  exact zRep1_ok hx hn (by omega)
end Go.Proofs
namespace Go.Proofs
open Go.Fs Ieee
set_option maxHeartbeats 2000000
theorem vt4 : ValT Tryz.prog 4 .bool := valT_of (by kernel_rfl)
def offB (n : Nat) (p : Int → Bool) : List Bool := (List.range n).map fun (t : Nat) => !p (t : Int)
theorem offB_len {n : Nat} {p : Int → Bool} : (offB n p).length = n := by simp [offB]
theorem offB_at {n t : Nat} {p : Int → Bool} (h : t < n) : (offB n p)[t]'(by rw [offB_len]; exact h) = !p (t : Int) := by
  unfold offB; rw [List.getElem_map, List.getElem_range]
theorem offB_none {n : Nat} {p : Int → Bool} (h : ∀ t : Nat, p t = false) : List.replicate n true = offB n p := by
  refine List.ext_getElem (by rw [List.length_replicate, offB_len]) fun i h1 h2 => ?_; rw [offB_len] at h2; rw [List.getElem_replicate, offB_at h2, h i] <;> rfl
theorem offB_ext {n : Nat} {p q : Int → Bool} (h : ∀ t : Nat, t < n → p t = q t) : offB n p = offB n q := by
  refine List.ext_getElem (by rw [offB_len, offB_len]) fun i h1 h2 => ?_; rw [offB_len] at h2; rw [offB_at h2, offB_at h2, h i h2]
theorem offB_set {n t : Nat} {p q : Int → Bool} (ht : t < n) (hq : q t = true) (hpq : ∀ u : Nat, u ≠ t → q u = p u) : offB n q = (offB n p).set t false := by
  refine List.ext_getElem (by rw [List.length_set, offB_len, offB_len]) fun i h1 h2 => ?_; rw [offB_len] at h1; rw [offB_at h1, List.getElem_set]; by_cases e : t = i
  · subst e; rw [if_pos rfl, hq] <;> rfl
  rw [if_neg e, offB_at h1, hpq i (fun h => e h.symm)]
def thereE (r : Rec1) : List Bool := offB r.2.2.1.length (Sp.inL r.2.2.2)
theorem gThere_ok {r : ByteArray × Int × (List Nat) × (List (Int × Int))} (hl : r.2.2.1.length ≤ 4096) (hg : r.2.2.2.length < 1000000) (hsp : ∀ s ∈ r.2.2.2, 0 ≤ s.1 ∧ s.1 < s.2 ∧ s.2 ≤ (r.2.2.1.length : Nat)) : VF Tryz.prog OA 30 [.v y30 r] (.v (.sl .bool) (thereE r)) := by
  refine VF.enter Tryz.func30 rfl (fun _ _ => rfl) rfl ?_; show VC _ _ _ _ _ [(0, .v y30 r)] [] _; refine VC.seq (VC.text ?_); refine VO.new (.box) ?_; refine VO.c (.assign rfl) ?_; refine VO.go (VC.seq (VC.text ?_)); refine VO.new (.lit [true] el70) ?_; refine VO.c (.fa (.r (.r (.l .o)))) ?_; refine VO.r (.ld vt22) ?_; refine VO.r (.len el22) ?_; refine VO.callG [] rfl rfl rfl (VFG.call (zRep_ok rfl hl)) ?_; rintro _ _ ⟨ww1, rfl, rfl⟩; show VO _ _ _ _ _ _ [(ww1, .row 4 .bool (List.replicate r.2.2.1.length true))] _; refine VO.c (.assign rfl) ?_; refine VO.go (VC.seq (VC.seq (VC.text ?_))); refine VO.c (.fa (.r (.r (.r .o)))) ?_; refine VO.r (.ld vt23) ?_; refine VO.r (.len el23) ?_; refine VO.c (.move rfl) ?_; refine VO.go (VC.block ?_); refine VC.keep [(3, .raw ww1), (13, .v y23 r.2.2.2), (14, I ((r.2.2.2.length : Nat) : Int)), (15, I ((0 : Nat) : Int))] ⟨rfl, rfl, rfl, rfl, trivial⟩ ?_; refine VC.loop (I := fun kk ff ss => ∃ (i : Nat), kk = r.2.2.2.length - i ∧ ff = [(3, .raw ww1), (13, .v y23 r.2.2.2), (14, I ((r.2.2.2.length : Nat) : Int)), (15, I ((i : Nat) : Int))] ∧ ss = [(ww1, .row 4 .bool (offB r.2.2.1.length (Sp.inL (r.2.2.2.take i))))] ∧ (i ≤ r.2.2.2.length)) ?_ _ _ _ ⟨0, rfl, rfl, (by rw [offB_none (p := Sp.inL (r.2.2.2.take 0)) fun _ => rfl]), Nat.zero_le _⟩; rintro kk ff ss ⟨i, hk0, rfl, rfl, hi⟩; refine VC.seq (VC.text ?_); refine VO.c (.lss) ?_; refine VO.go (VC.seq ?_); refine VC.condD rfl (fun c3 => ?_) (fun c3 => ?_)
  · have hil : i < r.2.2.2.length := by omega
    have hsi := hsp _ (List.getElem_mem hil); have hx := spX_eq hil; refine VC.skip (VC.seq (VC.block (VC.seq (VC.text ?_)))); refine VO.c (.ix (j := i) rfl rfl el23 (by omega)) ?_; refine VO.r (.ld vt54) ?_; refine VO.cell (.alloc zt54) ?_; intro ww2; refine VO.setV (cs' := [I ((r.2.2.2[i]).1), I ((r.2.2.2[i]).2)]) vt54 .v ?_; refine VO.shut [(5, .p y54 (r.2.2.2[i]))] (.cons rfl (.var m0 .refl) .nil) ?_; refine VO.go (VC.seq (VC.text ?_)); refine VO.c (.fa (.l .o)) ?_; refine VO.r (.ld vt3) ?_; refine VO.c (.assign rfl) ?_; refine VO.go (VC.block ?_); refine VC.keep [(3, .raw ww1), (5, .p y54 (r.2.2.2[i])), (6, I ((((r.2.2.2[i]).1.toNat) : Nat) : Int)), (13, .v y23 r.2.2.2), (14, I ((r.2.2.2.length : Nat) : Int)), (15, I ((i : Nat) : Int))] ⟨rfl, rfl, slI rfl (by omega), rfl, rfl, rfl, trivial⟩ ?_; refine VC.loop (I := fun kk ff ss => ∃ (t : Nat), kk = r.2.2.1.length - t ∧ ff = [(3, .raw ww1), (5, .p y54 (r.2.2.2[i])), (6, I ((t : Nat) : Int)), (13, .v y23 r.2.2.2), (14, I ((r.2.2.2.length : Nat) : Int)), (15, I ((i : Nat) : Int))] ∧ ss = [(ww1, .row 4 .bool (offB r.2.2.1.length (upTo r.2.2.2 i t)))] ∧ ((t : Int) ≤ (r.2.2.2[i]).2) ∧ ((r.2.2.2[i]).1 ≤ t)) ?_ _ _ _ ⟨(r.2.2.2[i]).1.toNat, rfl, rfl, (by rw [offB_ext (q := Sp.inL (r.2.2.2.take i)) fun u _ => upTo_0 (by rw [hx]; omega)]), (by omega), (by omega)⟩; rintro kk ff ss ⟨t, hk2, rfl, rfl, ht, h0⟩; refine VC.seq (VC.seq (VC.text ?_)); refine VO.c (.move rfl) (VO.c (.fa (.r .o)) ?_); refine VO.r (.ld vt3) ?_; refine VO.c (.lss) (VO.go ?_); refine VC.condD rfl (fun c6 => ?_) (fun c6 => ?_)
    · have hlt : t < r.2.2.1.length := by omega
      have hol := offB_len (n := r.2.2.1.length) (p := upTo r.2.2.2 i t); refine VC.skip (VC.seq (VC.block (VC.text ?_))); refine VO.c (.move rfl) (VO.c (.move rfl) (VO.c (.ixO (j := t) rfl rfl m0 el70 (by omega)) ?_)); refine VO.setE t rfl rfl vt4 (by omega) ?_; refine VO.nil (VC.text ?_); refine VO.c (.move rfl) (VO.c (.add rfl rfl (by omega)) (VO.c (.assign rfl) ?_)); refine VO.nil ?_; refine ⟨_, [(3, .raw ww1), (5, .p y54 (r.2.2.2[i])), (6, I (((t + 1) : Nat) : Int)), (13, .v y23 r.2.2.2), (14, I ((r.2.2.2.length : Nat) : Int)), (15, I ((i : Nat) : Int))], ?_, ⟨rfl, rfl, rfl, rfl, rfl, rfl, trivial⟩, (t + 1), rfl, rfl, (by rw [offB_set hlt (upTo_self (by rw [hx]; exact h0)) (fun u hu => upTo_other hu)]), (by omega), (by omega)⟩; omega
    refine VC.exit (VC.text ?_); refine VO.c (.add rfl rfl (by omega)) (VO.c (.move rfl) ?_); refine VO.nil ?_; refine ⟨_, [(3, .raw ww1), (13, .v y23 r.2.2.2), (14, I ((r.2.2.2.length : Nat) : Int)), (15, I (((i + 1) : Nat) : Int))], ?_, ⟨rfl, rfl, rfl, rfl, trivial⟩, (i + 1), rfl, rfl, (by rw [offB_ext (q := Sp.inL (r.2.2.2.take (i + 1))) fun u _ => upTo_end hil (by omega)]), (by omega)⟩; omega
  refine VC.exit (VC.seq (VC.text ?_)); refine VO.c (.move rfl) (VO.c (.assign rfl) (VO.go ?_)); refine VC.ret ?_; exact VEnd.one rfl (evC (.row m0)) (pvE (by rw [List.take_of_length_le (by omega)] <;> rfl))
end Go.Proofs
namespace Go.Proofs
open Go.Fs Ieee
set_option maxHeartbeats 2000000
end Go.Proofs
namespace Go.Fs
variable {P : Program} {fl : VL} {σ : Sto} {T : TypeId} {τ : Ty} {h : Heap} {S : List Nat}
inductive PartP : PV → List PV → Prop where
  | v {τ : Ty} {x : τ.den} : PartP (.v τ x) (cellsPV τ x)
  | w {w : Value} (ho : oneCell w = true) : PartP (.raw w) [.raw w]
theorem one_cells {w : Value} (ho : oneCell w = true) : w.cells.toList = [w] := by
  cases w with
  | agg cs => cases ho
  | _ => rfl
theorem PartP.ok {p : PV} {qs : List PV} {u : Value} (hp : PartP p qs) (hu : RepPV h S p u) : RepL h S qs u.cells.toList ∧ u.cells.toList.all oneCell = true ∧ u.cells.toList.length = qs.length := by
  cases hp with
  | v => 
    have hv : RepV h S _ u _ := hu; have h1 := cells_repC hv.2
    exact ⟨h1, hv.2.allOne, h1.len⟩
  | w ho =>
    obtain rfl : u = _ := hu; rw [one_cells ho]; exact ⟨⟨_, [], rfl, rfl, rfl⟩, by rw [List.all_cons, ho]; rfl, rfl⟩
inductive BldR (pl : List (Nat × Nat)) : List PV → List Nat → List PV → List PV → Prop where
  | nil {L L' : List PV} (h : L = L') : BldR pl L [] [] L'
  | cons {L L' : List PV} {i o : Nat} {is : List Nat} {p : PV} {ps qs : List PV} (hp : PartP p qs) (hpl : pl[i]? = some (o, qs.length)) (ho : Nat.ble (o + qs.length) L.length = true) (r : BldR pl (spl L o qs) is ps L') : BldR pl L (i :: is) (p :: ps) L'
theorem BldR.fill {pl : List (Nat × Nat)} : ∀ {is : List Nat} {ps : List PV} {us : List Value} {L L' : List PV} {cs : List Value}, BldR pl L is ps L' → RepL h S ps us → RepL h S L cs → cs.all oneCell = true →
    ∃ cs', Instr.fill (pl[·]?) cs.toArray (is.zip us) = some cs'.toArray ∧ RepL h S L' cs' ∧ us.all (fun u => u.cells.toList.all oneCell) = true ∧ is.length = us.length
  | [], [], us, L, L', cs, .nil e, hp, hL, ho => by
    obtain rfl : us = [] := hp; subst e
    exact ⟨cs, rfl, hL, rfl, rfl⟩
  | i :: is, p :: ps, us, L, L', cs, .cons (o := o) (qs := qs) hp hpl hle0 hr, ⟨u, r, h1, h2, h3⟩, hL, ho => by
    subst h1; have hlen := hL.len; have hle := nble hle0; obtain ⟨g1, g2, hul⟩ := hp.ok h2
    have hus : u.cells.size = qs.length := by simpa using hul
    obtain ⟨cs', f1, f2, f3, f4⟩ := BldR.fill hr h3 (hL.spl o g1) (allOne_spl o ho g2); refine ⟨cs', ?_, f2, by rw [List.all_cons, g2, f3]; rfl, by simp [f4]⟩; simp only [List.zip_cons_cons, Instr.fill, hpl]
    have h9 : (u.cells.size ≠ qs.length || o + u.cells.size > cs.toArray.size) = false := by simp [hus]; omega
    rw [h9]; simp only [Bool.false_eq_true, if_false]
    have hsp : u.cells.zipIdx.foldl (fun (cs : Array Value) (p : Value × Nat) => cs.setIfInBounds (o + p.2) p.1) cs.toArray = (splice cs o u.cells.toList).toArray := by
      have e0 : cs = cs.take o ++ ((cs.drop o).take qs.length) ++ cs.drop (o + qs.length) := by
        rw [← List.drop_drop, List.append_assoc, List.take_append_drop, List.take_append_drop]
      have := fill_at qs.length o u (cs.take o) ((cs.drop o).take qs.length) (cs.drop (o + qs.length)) (by rw [List.length_take]; omega) (by rw [List.length_take, List.length_drop]; omega) hus; rw [← e0] at this; rw [this]; unfold splice; rw [hul]
    rw [hsp]; exact f1
theorem CalmV.buildR {pl : List (Nat × Nat)} {parts : Array (Nat × Operand)} {zs : List Value} {ps cs : List PV} (hT : BldT P T τ pl) (hz : zeroC τ = zs) (hps : evVs fl (parts.toList.map (·.2)) = some ps) (hb : BldR pl (zs.map .raw) (parts.toList.map (·.1)) ps cs) : CalmV P fl σ (.build T parts) (.agg cs) :=
  ⟨rfl, fun h S t hs _ => by
    obtain ⟨z, z1, z2, z3⟩ := hT.zer.zero; obtain ⟨y1, y2⟩ := zero_rep h S τ; have hr : RepL h S ps ((parts.toList.map (·.2)).map (evalO t)) := sees_list (fun x hx => hs x (by simpa [Op.operands] using hx)) hps; obtain ⟨cs', f1, f2, f3, f4⟩ := hb.fill hr (show RepL h S (zs.map .raw) (zeroC τ) from by rw [hz]; exact repL_raw zs) (af0_one y2); refine ⟨.agg cs'.toArray, ⟨cs', rfl, f2⟩, fun _ _ _ _ _ H => ?_⟩; show (bif (parts.toList.all fun p => (evalO t p.2).cells.toList.all oneCell) && ((((P.info? T).bind (·.zero)).map fun z => z.cells.toList.all af0) == some true) then (runPure P (Instr.build T (parts.map fun p => (p.1, evalO t p.2)))).map fun v => (v, H) else none) = _
    have c1 : (parts.toList.all fun p => (evalO t p.2).cells.toList.all oneCell) = true := by
      rw [List.map_map, List.all_map] at f3; exact f3
    have c2 : ((((P.info? T).bind (·.zero)).map fun z => z.cells.toList.all af0) == some true) = true := by
      rw [z1]
      have e : z.cells.toList.all af0 = true := by rw [z2]; exact y2
      simp only [Option.map_some, e]; rfl
    have hrun := hT.run z (parts.map fun p => (p.1, evalO t p.2)) cs'.toArray z1 (by
      rw [← f1, Array.toList_map, ← zip_map, List.map_map]; congr 1
      rw [← z2])
    rw [c1, c2, hrun]
    rfl⟩
theorem allC {p : PV} {l : List PV} (h : p.one = true) (r : l.all PV.one = true) : (p :: l).all PV.one = true := by rw [List.all_cons, h, r]; rfl
end Go.Fs
