/- Parts of the proof: an evaluator of the model, what it is sound for, and contracts of functions. No condition. -/
import Derived.Test.YthiofhkndpegjaaGreatDoorP5
import Derived.Test.YthiofhkndpegjaaGreatDoorP3
import Derived.Test.YthiofhkndpegjaaGreatDoorChecked
import Derived.ChangeArms
import Derived.Carry
import Derived.RowKit
import Derived.OpenShut
set_option linter.all false
namespace Go.Proofs
open Go.Fs
def aaG (x y : Int × Int) : Int := Lib.compareInt x.1 y.1
def OA := afH 152 152 15
abbrev j8 : Ty := (.sl (.int .i64))
abbrev U7 : Ty := (.sl (.int .i64))
theorem cQ : fU Tryz.prog 3 (.int .i64) := gM (by kernel_rfl)
theorem anB : fU Tryz.prog 29 (.int .i64) := gM (by kernel_rfl)
theorem mO : fO Tryz.prog 37 3 (.int .i64) := wJ (by kernel_rfl)
theorem uR : fO Tryz.prog 164 29 (.int .i64) := wJ (by kernel_rfl)
def eM (c : Bool) (e : Int) : Int := bif c then e else 0
theorem kK {c : Bool} {e : Int} : VF Tryz.prog OA 83 [B c, I e] (I (eM c e)) := by
  refine VF.enter Tryz.func83 rfl (fun _ _ => rfl) rfl ?_; show VC _ _ _ _ _ [(0, B c), (1, I e)] [] _; refine VC.seq (VC.text ?_); refine J.c (.assign rfl) ?_; refine J.go (VC.seq (VC.seq (VC.text ?_))); refine J.c (.move rfl) (J.go ?_); refine VC.eR rfl (fun c1 => ?_) (fun c1 => ?_)
  . subst c1; refine VC.seq (VC.text ?_); refine J.c (.move rfl) (J.c (.assign rfl) (J.go ?_)); refine VC.ret ?_; exact aW.one rfl bP (fB (by rfl))
  subst c1; refine VC.skip (VC.seq (VC.text ?_)); refine J.c (.assign rfl) (J.go ?_); refine VC.ret ?_; exact aW.one rfl bP (fB (by rfl))
def gA (n lo hi : Int) : Int := if n < lo \/ hi < n then 3 else 0
theorem IN {n : Int} {lo : Int} {hi : Int} : VF Tryz.prog OA 30 [I n, I lo, I hi] (I (gA n lo hi)) := by
  refine VF.enter Tryz.func30 rfl (fun _ _ => rfl) rfl ?_; show VC _ _ _ _ _ [(0, I n), (1, I lo), (2, I hi)] [] _; refine VC.seq (VC.text ?_); refine J.c (.assign rfl) ?_; refine J.go (VC.seq (VC.seq (VC.text ?_))); refine J.c (.move rfl) (J.c (.move rfl) (J.c (.lss) (J.c (.move rfl) ?_))); refine J.cg (r := decide (n < lo)) (w := false) [] trivial (fun _ => (.move rfl)) ?_; refine J.cg (r := decide (n < lo)) (w := false) [] trivial (fun _ => (.move rfl)) ?_; refine J.cg (r := decide (n < lo)) (w := false) [(11, I n), (12, I hi)] ⟨rfl, rfl, trivial⟩ (fun _ => (.gtr)) ?_; refine J.c (.or) (J.go ?_); refine VC.eR rfl (fun c1 => ?_) (fun c1 => ?_)
  . try simp only [Bool.and_eq_true, Bool.or_eq_true, Bool.and_eq_false_iff, Bool.or_eq_false_iff, Bool.not_eq_true', Bool.not_eq_false', decide_eq_true_eq, decide_eq_false_iff_not] at c1
    refine VC.seq (VC.text ?_); refine J.c (.assign rfl) (J.go ?_); refine VC.ret ?_; exact aW.one rfl bP (fB (by simp only [gA, <- Bool.decide_or, decide_eq_true_eq, decide_eq_false_iff_not, Bool.or_eq_true, Bool.or_eq_false_iff] at *; first | rw [if_pos (by omega)] | rw [if_neg (by omega)]))
  try simp only [Bool.and_eq_true, Bool.or_eq_true, Bool.and_eq_false_iff, Bool.or_eq_false_iff, Bool.not_eq_true', Bool.not_eq_false', decide_eq_true_eq, decide_eq_false_iff_not] at c1
  refine VC.skip (VC.seq (VC.text ?_)); refine J.c (.assign rfl) (J.go ?_); refine VC.ret ?_; exact aW.one rfl bP (fB (by simp only [gA, <- Bool.decide_or, decide_eq_true_eq, decide_eq_false_iff_not, Bool.or_eq_true, Bool.or_eq_false_iff] at *; first | rw [if_pos (by omega)] | rw [if_neg (by omega)]))
theorem QZ {n lo hi : Int} : eM (decide (n < lo) || decide (hi < n)) 3 = gA n lo hi := by
  unfold eM gA; by_cases h1 : n < lo <;> by_cases h2 : hi < n <;> simp [h1, h2]
theorem yT {n : Int} {lo : Int} {hi : Int} : VF Tryz.prog OA 84 [I n, I lo, I hi] (I (gA n lo hi)) := by
  refine VF.enter Tryz.func84 rfl (fun _ _ => rfl) rfl ?_; show VC _ _ _ _ _ [(0, I n), (1, I lo), (2, I hi)] [] _; refine VC.seq (VC.text ?_); refine J.c (.assign rfl) ?_; refine J.go (VC.seq (VC.text ?_)); refine J.c (.move rfl) (J.c (.move rfl) (J.c (.lss) (J.c (.move rfl) ?_))); refine J.cg (r := decide (n < lo)) (w := false) [] trivial (fun _ => (.move rfl)) ?_; refine J.cg (r := decide (n < lo)) (w := false) [] trivial (fun _ => (.move rfl)) ?_; refine J.cg (r := decide (n < lo)) (w := false) [(11, I n), (12, I hi)] ⟨rfl, rfl, trivial⟩ (fun _ => (.gtr)) ?_; refine J.c (.or) ?_; refine J.call rfl rfl (VF.call (kK )) ?_; refine J.c (.assign rfl) (J.go ?_); refine VC.ret ?_; exact aW.one rfl bP (fB (by exact QZ))
def dV : List Int -> Int
  | [] => 0
  | x :: r => if x = 0 then dV r else x
theorem sA {xs : List Int} {j : Nat} (hj : j < xs.length) : dV (xs.drop j) = if xs[j] = 0 then dV (xs.drop (j + 1)) else xs[j] := by
  rw [List.drop_eq_getElem_cons hj] <;> rfl
theorem HG {xs : List Int} {j : Nat} (hj : xs.length <= j) : dV (xs.drop j) = 0 := by rw [List.drop_eq_nil_of_le hj] <;> rfl
theorem mP {l : List Int} (hl : l.length < 1000000) : VF Tryz.prog OA 82 [.v U7 l] (I (dV l)) := by
  refine VF.enter Tryz.func82 rfl (fun _ _ => rfl) rfl ?_; show VC _ _ _ _ _ [(0, .v U7 l)] [] _; refine VC.seq (VC.text ?_); refine J.c (.assign rfl) ?_; refine J.go (VC.seq (VC.seq (VC.text ?_))); refine J.c (.move rfl) ?_; refine J.r (.len uR) ?_; refine J.c (.move rfl) ?_; refine J.go (VC.block ?_); refine VC.aV [(5, .v U7 l), (6, I ((l.length : Nat) : Int)), (7, I ((0 : Nat) : Int))] ⟨rfl, rfl, rfl, trivial⟩ ?_; refine VC.loop (I := fun kk ff ss => ∃ (j : Nat), kk = l.length - j /\ ff = [(5, .v U7 l), (6, I ((l.length : Nat) : Int)), (7, I ((j : Nat) : Int))] /\ ss = [] /\ (j <= l.length) /\ (dV l = dV (l.drop j))) ?_ _ _ _ ⟨0, rfl, rfl, rfl, Nat.zero_le _, (by rfl)⟩; rintro kk ff ss ⟨j, kJ, rfl, rfl, hj, hf⟩; refine VC.seq (VC.text ?_); refine J.c (.lss) ?_; refine J.go (VC.seq ?_); refine VC.aX rfl (fun c2 => ?_) (fun c2 => ?_)
  . refine VC.skip (VC.seq (VC.block (VC.seq (VC.text ?_)))); refine J.c (.ix (j := j) rfl rfl uR (by omega)) ?_; refine J.r (.ld anB) ?_; refine J.c (.assign rfl) ?_; refine J.go (VC.seq (VC.text ?_)); refine J.c (.move rfl) (J.c (.neq) (J.go ?_)); refine VC.aX rfl (fun c4 => ?_) (fun c4 => ?_)
    . refine VC.seq (VC.text ?_); refine J.c (.move rfl) (J.c (.assign rfl) (J.go ?_)); refine VC.ret ?_; exact aW.one rfl bP (fB (by rw [hf, sA (by omega), if_neg c4]))
    refine VC.skip (VC.text ?_); refine J.c (.add rfl rfl (by omega)) (J.c (.move rfl) ?_); refine J.nil ?_; refine ⟨_, [(5, .v U7 l), (6, I ((l.length : Nat) : Int)), (7, I (((j + 1) : Nat) : Int))], ?_, ⟨rfl, rfl, rfl, trivial⟩, (j + 1), rfl, rfl, rfl, (by omega), (by rw [hf, sA (by omega), if_pos (by simpa using c4)])⟩; omega
  refine VC.exit (VC.seq (VC.text ?_)); refine J.c (.assign rfl) (J.go ?_); refine VC.ret ?_; exact aW.one rfl bP (fB (by rw [hf, HG (by omega)]))
theorem YC {l : List Int} (hl : l.length < 1000000) : VF Tryz.prog OA 79 [.v j8 l] (I (dV l)) := by
  refine VF.enter Tryz.func79 rfl (fun _ _ => rfl) rfl ?_; show VC _ _ _ _ _ [(0, .v j8 l)] [] _; refine VC.seq (VC.text ?_); refine J.c (.assign rfl) ?_; refine J.go (VC.seq (VC.seq (VC.text ?_))); refine J.c (.assign rfl) ?_; refine J.go (VC.block ?_); refine VC.aV [(0, .v j8 l), (3, I ((0 : Nat) : Int))] ⟨rfl, rfl, trivial⟩ ?_; refine VC.loop (I := fun kk ff ss => ∃ (j : Nat), kk = l.length - j /\ ff = [(0, .v j8 l), (3, I ((j : Nat) : Int))] /\ ss = [] /\ (j <= l.length) /\ (dV l = dV (l.drop j))) ?_ _ _ _ ⟨0, rfl, rfl, rfl, Nat.zero_le _, (by rfl)⟩; rintro kk ff ss ⟨j, kJ, rfl, rfl, hj, hf⟩; refine VC.seq (VC.seq (VC.text ?_)); refine J.c (.move rfl) (J.c (.move rfl) ?_); refine J.r (.len mO) ?_; refine J.c (.lss) (J.go ?_); refine VC.aX rfl (fun c2 => ?_) (fun c2 => ?_)
  . refine VC.skip (VC.seq (VC.block (VC.seq (VC.text ?_)))); refine J.c (.move rfl) (J.c (.move rfl) (J.c (.ix (j := j) rfl rfl mO (by omega)) ?_)); refine J.r (.ld cQ) ?_; refine J.c (.neq) (J.go ?_); refine VC.aX rfl (fun c4 => ?_) (fun c4 => ?_)
    . refine VC.seq (VC.text ?_); refine J.c (.move rfl) (J.c (.move rfl) (J.c (.ix (j := j) rfl rfl mO (by omega)) ?_)); refine J.r (.ld cQ) ?_; refine J.c (.assign rfl) (J.go ?_); refine VC.ret ?_; exact aW.one rfl bP (fB (by rw [hf, sA (by omega), if_neg c4]))
    refine VC.skip (VC.text ?_); refine J.c (.move rfl) (J.c (.add rfl rfl (by omega)) (J.c (.assign rfl) ?_)); refine J.nil ?_; refine ⟨_, [(0, .v j8 l), (3, I (((j + 1) : Nat) : Int))], ?_, ⟨rfl, rfl, trivial⟩, (j + 1), rfl, rfl, rfl, (by omega), (by rw [hf, sA (by omega), if_pos (by simpa using c4)])⟩; omega
  refine VC.exit (VC.seq (VC.text ?_)); refine J.c (.assign rfl) (J.go ?_); refine VC.ret ?_; exact aW.one rfl bP (fB (by rw [hf, HG (by omega)]))
end Go.Proofs
namespace Go.Proofs
open Go.Fs Ieee
def mQ (c : Int) : Bool := decide (65 <= c /\ c <= 90 \/ 97 <= c /\ c <= 122)
def qT (c : Int) : Bool := decide (48 <= c /\ c <= 57 \/ c = 95)
def kL (c : Int) (i : Nat) : Bool := mQ c || (decide (i ≠ 0) && qT c)
def nL (s : ByteArray) : Bool := decide (s.size ≠ 0 /\ s.size <= 24 /\ ∀ i, i < s.size -> kL (hD s i) i = true)
theorem U8 {s : ByteArray} {i : Nat} (hi : i < s.size) (h : kL (hD s i) i = false) : false = nL s := by
  refine (decide_eq_false fun hh => ?_).symm; rw [hh.2.2 i hi] at h; cases h
theorem ag1 {s : ByteArray} (h1 : s.size ≠ 0) (h2 : s.size <= 24) (h : ∀ i, i < s.size -> kL (hD s i) i = true) : true = nL s := (decide_eq_true ⟨h1, h2, h⟩).symm
theorem size_empty {s : ByteArray} : s ≠ ByteArray.empty ↔ s.size ≠ 0 := by
  constructor
  . intro h e; exact h (ByteArray.ext (Array.eq_empty_of_size_eq_zero e))
  rintro h rfl; exact h rfl
theorem HH {c : Int} {i : Nat} (h : 128 <= c) : kL c i = false := by
  have h1 : mQ c = false := decide_eq_false (by omega); have h2 : qT c = false := decide_eq_false (by omega); rw [kL, h1, h2]; simp
theorem aiI {s : ByteArray} {p : Nat} (h : kL ((Utf8.decode s p).1 : Nat) p = false) : kL (hD s p) p = false := by
  by_cases hl : (s.get! p).toNat < 128
  . rw [HD hl] at h; exact h
  exact HH (by rw [Y4]; omega)
theorem aaH {s : ByteArray} {p : Nat} (h : kL ((Utf8.decode s p).1 : Nat) p = true) : kL (hD s p) p = true /\ (Utf8.decode s p).2 = 1 := by
  by_cases hl : (s.get! p).toNat < 128
  . rw [HD hl] at h ⊢; exact ⟨h, rfl⟩
  have := Go.Fs.decode_high hl; rw [HH (by omega)] at h; cases h
theorem acC {s : ByteArray} (h : ∀ i, i < s.size -> kL (hD s i) i = true) : (decide (s ≠ ByteArray.empty) && decide (((s.size : Nat) : Int) <= 24)) = nL s := by
  rw [<- Bool.decide_and]; exact decide_eq_decide.2 ⟨fun hh => ⟨size_empty.1 hh.1, by omega, h⟩, fun hh => ⟨size_empty.2 hh.1, by omega⟩⟩
theorem acD {s : ByteArray} : VF Tryz.prog OA 32 [St s] (B (nL s)) := by
  refine VF.enter Tryz.func32 rfl (fun _ _ => rfl) rfl ?_; show VC _ _ _ _ _ [(0, St s)] [] _; refine VC.seq (VC.text ?_); refine J.c (.assign rfl) ?_; refine J.go (VC.seq (VC.seq (VC.text ?_))); refine J.c (.move rfl) ?_; refine J.cell (.rng) ?_; intro fI; refine J.go (VC.block ?_); refine VC.aV [(0, St s), (8, .raw fI)] ⟨rfl, rfl, trivial⟩ ?_; refine VC.loop (I := fun kk ff ss => ∃ (p : Nat), kk = s.size - p /\ ff = [(0, St s), (8, .raw fI)] /\ ss = [(fI, .it s p)] /\ (p <= s.size) /\ (∀ i, i < p -> kL (hD s i) i = true)) ?_ _ _ _ ⟨0, rfl, rfl, rfl, Nat.zero_le _, (by intro i hi; omega)⟩; rintro kk ff ss ⟨p, kJ, rfl, rfl, hp, hq⟩; refine VC.seq (VC.text ?_); refine J.next rfl (fun ajU => ?_) (fun ajU => ?_)
  . refine J.c (.extract) ?_; refine J.go (VC.seq ?_); refine VC.uO rfl ?_; refine VC.skip (VC.block (VC.seq (VC.text ?_))); refine J.c (.extract) (J.c (.extract) (J.c (.assign rfl) (J.c (.assign rfl) ?_))); refine J.go (VC.seq ?_); refine VC.join [(0, St s), (3, I ((p : Nat) : Int)), (4, .v (.int .i32) (((Utf8.decode s p).1 : Nat) : Int)), (5, B (mQ ((Utf8.decode s p).1 : Nat))), (8, .raw fI)] [(fI, .it s (p + (Utf8.decode s p).2))] ?_ ?_
    . skip
      refine VC.text ?_; refine J.c (.move rfl) (J.c (.geq) (J.c (.move rfl) ?_)); refine J.bJ (x := 15) rfl (fun anC => ?_) (fun anC => ?_)
      . refine J.c (.move rfl) (J.c (.leq) (J.c (.cZ rfl rfl) (J.c (.move rfl) ?_))); refine J.bJ (x := 19) rfl (fun ag2 => ?_) (fun ag2 => ?_)
        . refine J.skip (J.skip (J.skip (J.skip ?_))); refine J.skip (J.skip (J.c (.cZ rfl rfl) (J.c (.assign rfl) ?_))); refine J.nil ?_; exact ⟨⟨rfl, rfl, rfl, rK rfl (by rw [Bool.eq_iff_iff]; simp [mQ] <;> omega), rfl, trivial⟩, rfl⟩
        refine J.c (.move rfl) (J.c (.geq) (J.c (.move rfl) ?_)); refine J.cg (r := decide ((97 : Int) <= (((Utf8.decode s p).1 : Nat) : Int))) (w := true) [] trivial (fun _ => (.move rfl)) ?_; refine J.cg (r := decide ((97 : Int) <= (((Utf8.decode s p).1 : Nat) : Int))) (w := true) [(23, .v (.int .i32) (((Utf8.decode s p).1 : Nat) : Int))] ⟨rfl, trivial⟩ (fun _ => (.leq)) ?_; refine J.c (.and) (J.c (.bB rfl rfl) (J.c (.assign rfl) ?_)); refine J.nil ?_; exact ⟨⟨rfl, rfl, rfl, rK rfl (by rw [Bool.eq_iff_iff]; simp [mQ] <;> omega), rfl, trivial⟩, rfl⟩
      refine J.skip (J.skip (J.c (.bB rfl rfl) (J.c (.move rfl) ?_))); refine J.c (.move rfl) (J.c (.geq) (J.c (.move rfl) ?_)); refine J.cg (r := decide ((97 : Int) <= (((Utf8.decode s p).1 : Nat) : Int))) (w := true) [] trivial (fun _ => (.move rfl)) ?_; refine J.cg (r := decide ((97 : Int) <= (((Utf8.decode s p).1 : Nat) : Int))) (w := true) [(23, .v (.int .i32) (((Utf8.decode s p).1 : Nat) : Int))] ⟨rfl, trivial⟩ (fun _ => (.leq)) ?_; refine J.c (.and) (J.c (.bB rfl rfl) (J.c (.assign rfl) ?_)); refine J.nil ?_; exact ⟨⟨rfl, rfl, rfl, rK rfl (by rw [Bool.eq_iff_iff]; simp [mQ] <;> omega), rfl, trivial⟩, rfl⟩
    refine VC.seq ?_; refine VC.join [(0, St s), (3, I ((p : Nat) : Int)), (5, B (mQ ((Utf8.decode s p).1 : Nat))), (6, B (qT ((Utf8.decode s p).1 : Nat))), (8, .raw fI)] [(fI, .it s (p + (Utf8.decode s p).2))] ?_ ?_
    . skip
      refine VC.text ?_; refine J.c (.move rfl) (J.c (.geq) (J.c (.move rfl) ?_)); refine J.bJ (x := 29) rfl (fun anD => ?_) (fun anD => ?_)
      . refine J.c (.move rfl) (J.c (.leq) (J.c (.cZ rfl rfl) (J.c (.move rfl) ?_))); refine J.cg (r := decide ((((Utf8.decode s p).1 : Nat) : Int) <= (57 : Int))) (w := false) [] trivial (fun _ => (.move rfl)) ?_; refine J.cg (r := decide ((((Utf8.decode s p).1 : Nat) : Int) <= (57 : Int))) (w := false) [(34, .v (.int .i32) (((Utf8.decode s p).1 : Nat) : Int))] ⟨rfl, trivial⟩ (fun _ => (.eql)) ?_; refine J.c (.or) (J.c (.assign rfl) ?_); refine J.nil ?_; exact ⟨⟨rfl, rfl, rfl, rK rfl (by rw [Bool.eq_iff_iff]; simp [qT] <;> omega), rfl, trivial⟩, rfl⟩
      refine J.skip (J.skip (J.c (.bB rfl rfl) (J.c (.move rfl) ?_))); refine J.c (.move rfl) (J.c (.eql) (J.c (.bB rfl rfl) (J.c (.assign rfl) ?_))); refine J.nil ?_; exact ⟨⟨rfl, rfl, rfl, rK rfl (by rw [Bool.eq_iff_iff]; simp [qT] <;> omega), rfl, trivial⟩, rfl⟩
    refine VC.seq ?_; refine VC.join [(0, St s), (8, .raw fI), (46, B (!kL ((Utf8.decode s p).1 : Nat) p))] [(fI, .it s (p + (Utf8.decode s p).2))] ?_ ?_
    . skip
      refine VC.text ?_; refine J.c (.move rfl) (J.c (.not) (J.c (.move rfl) ?_)); refine J.iB (x := 39) rfl (fun ag3 => ?_) (fun ag3 => ?_)
      . try simp only [Bool.and_eq_true, Bool.or_eq_true, Bool.and_eq_false_iff, Bool.or_eq_false_iff, Bool.not_eq_true', Bool.not_eq_false', decide_eq_true_eq, decide_eq_false_iff_not] at ag3
        refine J.c (.move rfl) (J.c (.eql) (J.c (.move rfl) ?_)); refine J.cg (r := decide (((p : Nat) : Int) = (0 : Int))) (w := false) [] trivial (fun _ => (.move rfl)) ?_; refine J.cg (r := decide (((p : Nat) : Int) = (0 : Int))) (w := false) [(43, B (qT ((Utf8.decode s p).1 : Nat)))] ⟨rfl, trivial⟩ (fun _ => (.not)) ?_; refine J.c (.or) (J.c (.cZ rfl rfl) ?_); refine J.nil ?_; exact ⟨⟨rfl, rfl, rK rfl (by simp [kL, *]), trivial⟩, rfl⟩
      try simp only [Bool.and_eq_true, Bool.or_eq_true, Bool.and_eq_false_iff, Bool.or_eq_false_iff, Bool.not_eq_true', Bool.not_eq_false', decide_eq_true_eq, decide_eq_false_iff_not] at ag3
      refine J.skip (J.skip (J.skip (J.skip ?_))); refine J.skip (J.skip (J.c (.bB rfl rfl) ?_)); refine J.nil ?_; exact ⟨⟨rfl, rfl, rK rfl (by simp [kL, *]), trivial⟩, rfl⟩
    refine VC.eR rfl (fun c6 => ?_) (fun c6 => ?_)
    . try simp only [Bool.and_eq_true, Bool.or_eq_true, Bool.and_eq_false_iff, Bool.or_eq_false_iff, Bool.not_eq_true', Bool.not_eq_false', decide_eq_true_eq, decide_eq_false_iff_not] at c6
      refine VC.seq (VC.text ?_); refine J.c (.assign rfl) (J.go ?_); refine VC.ret ?_; exact aW.one rfl bP (fF (by exact U8 ajU (aiI c6)))
    try simp only [Bool.and_eq_true, Bool.or_eq_true, Bool.and_eq_false_iff, Bool.or_eq_false_iff, Bool.not_eq_true', Bool.not_eq_false', decide_eq_true_eq, decide_eq_false_iff_not] at c6
    refine VC.skip ?_; refine ⟨_, [(0, St s), (8, .raw fI)], ?_, ⟨rfl, rfl, trivial⟩, (p + 1), rfl, rfl, (by rw [(aaH c6).2]), (by omega), (by intro i hi; rcases Nat.lt_succ_iff_lt_or_eq.1 hi with h | h; exact hq i h; subst h; exact (aaH c6).1)⟩; omega
  refine J.c (.an6) ?_; refine J.go (VC.seq ?_); refine VC.uP rfl ?_; refine VC.exit (VC.seq (VC.text ?_)); refine J.c (.move rfl) (J.c (.ajR) (J.c (.move rfl) ?_)); refine J.cg (r := decide (s ≠ ByteArray.empty)) (w := true) [] trivial (fun _ => (.move rfl)) ?_; refine J.rg (r := decide (s ≠ ByteArray.empty)) (w := true) [(50, St s)] ⟨rfl, trivial⟩ (fun _ => (.TN)) ?_; refine J.cg (r := decide (s ≠ ByteArray.empty)) (w := true) [(51, I ((s.size : Nat) : Int))] ⟨rfl, trivial⟩ (fun _ => (.leq)) ?_; refine J.c (.and) (J.c (.assign rfl) (J.go ?_)); refine VC.ret ?_; exact aW.one rfl bP (fF (by exact acC (fun i hi => hq i (by omega))))
theorem acE {s : ByteArray} : VF Tryz.prog OA 33 [St s] (B (nL s)) := by
  refine VF.enter Tryz.func33 rfl (fun _ _ => rfl) rfl ?_; show VC _ _ _ _ _ [(0, St s)] [] _; refine VC.seq (VC.text ?_); refine J.c (.assign rfl) ?_; refine J.go (VC.seq (VC.seq (VC.text ?_))); refine J.c (.move rfl) ?_; refine J.r (.TN) ?_; refine J.c (.eql) (J.c (.move rfl) ?_); refine J.cg (r := decide (((s.size : Nat) : Int) = (0 : Int))) (w := false) [] trivial (fun _ => (.move rfl)) ?_; refine J.rg (r := decide (((s.size : Nat) : Int) = (0 : Int))) (w := false) [(9, St s)] ⟨rfl, trivial⟩ (fun _ => (.TN)) ?_; refine J.cg (r := decide (((s.size : Nat) : Int) = (0 : Int))) (w := false) [(10, I ((s.size : Nat) : Int))] ⟨rfl, trivial⟩ (fun _ => (.gtr)) ?_; refine J.c (.or) (J.go ?_); refine VC.eR rfl (fun c1 => ?_) (fun c1 => ?_)
  . try simp only [Bool.and_eq_true, Bool.or_eq_true, Bool.and_eq_false_iff, Bool.or_eq_false_iff, Bool.not_eq_true', Bool.not_eq_false', decide_eq_true_eq, decide_eq_false_iff_not] at c1
    refine VC.seq (VC.text ?_); refine J.c (.assign rfl) (J.go ?_); refine VC.ret ?_; exact aW.one rfl bP (fF (by exact (decide_eq_false fun hh => by have := hh.1; have := hh.2.1; omega).symm))
  try simp only [Bool.and_eq_true, Bool.or_eq_true, Bool.and_eq_false_iff, Bool.or_eq_false_iff, Bool.not_eq_true', Bool.not_eq_false', decide_eq_true_eq, decide_eq_false_iff_not] at c1
  refine VC.skip (VC.seq (VC.seq (VC.text ?_))); refine J.c (.assign rfl) ?_; refine J.go (VC.block ?_); refine VC.aV [(0, St s), (3, I ((0 : Nat) : Int))] ⟨rfl, rfl, trivial⟩ ?_; refine VC.loop (I := fun kk ff ss => ∃ (i : Nat), kk = s.size - i /\ ff = [(0, St s), (3, I ((i : Nat) : Int))] /\ ss = [] /\ (i <= s.size) /\ (∀ k, k < i -> kL (hD s k) k = true)) ?_ _ _ _ ⟨0, rfl, rfl, rfl, Nat.zero_le _, (by intro k hk; omega)⟩; rintro kk ff ss ⟨i, kJ, rfl, rfl, hi, hq⟩; refine VC.seq (VC.seq (VC.text ?_)); refine J.c (.move rfl) (J.c (.move rfl) ?_); refine J.r (.TN) ?_; refine J.c (.lss) (J.go ?_); refine VC.aX rfl (fun c4 => ?_) (fun c4 => ?_)
  . refine VC.skip (VC.seq (VC.block (VC.seq (VC.text ?_)))); refine J.c (.move rfl) (J.c (.move rfl) (J.c (.ixS rfl rfl (by omega) (by omega)) (J.c (.assign rfl) ?_))); refine J.go (VC.seq (VC.seq ?_)); refine VC.join [(0, St s), (3, I ((i : Nat) : Int)), (4, .v (.int .u8) (hD s ((i : Nat) : Int))), (35, B (mQ (hD s i)))] [] ?_ ?_
    . skip
      refine VC.text ?_; refine J.c (.move rfl) (J.c (.geq) (J.c (.move rfl) ?_)); refine J.bJ (x := 24) rfl (fun anE => ?_) (fun anE => ?_)
      . refine J.c (.move rfl) (J.c (.leq) (J.c (.cZ rfl rfl) (J.c (.move rfl) ?_))); refine J.bJ (x := 28) rfl (fun anF => ?_) (fun anF => ?_)
        . refine J.skip (J.skip (J.skip (J.skip ?_))); refine J.skip (J.skip (J.c (.cZ rfl rfl) ?_)); refine J.nil ?_; exact ⟨⟨rfl, rfl, rfl, rK rfl (by rw [Bool.eq_iff_iff]; simp [mQ] <;> omega), trivial⟩, rfl⟩
        refine J.c (.move rfl) (J.c (.geq) (J.c (.move rfl) ?_)); refine J.cg (r := decide ((65 : Int) <= (hD s ((i : Nat) : Int)))) (w := true) [] trivial (fun _ => (.move rfl)) ?_; refine J.cg (r := decide ((65 : Int) <= (hD s ((i : Nat) : Int)))) (w := true) [(32, .v (.int .u8) (hD s ((i : Nat) : Int)))] ⟨rfl, trivial⟩ (fun _ => (.leq)) ?_; refine J.c (.and) (J.c (.bB rfl rfl) ?_); refine J.nil ?_; exact ⟨⟨rfl, rfl, rfl, rK rfl (by rw [Bool.eq_iff_iff]; simp [mQ] <;> omega), trivial⟩, rfl⟩
      refine J.skip (J.skip (J.c (.bB rfl rfl) (J.c (.move rfl) ?_))); refine J.c (.move rfl) (J.c (.geq) (J.c (.move rfl) ?_)); refine J.cg (r := decide ((65 : Int) <= (hD s ((i : Nat) : Int)))) (w := true) [] trivial (fun _ => (.move rfl)) ?_; refine J.cg (r := decide ((65 : Int) <= (hD s ((i : Nat) : Int)))) (w := true) [(32, .v (.int .u8) (hD s ((i : Nat) : Int)))] ⟨rfl, trivial⟩ (fun _ => (.leq)) ?_; refine J.c (.and) (J.c (.bB rfl rfl) ?_); refine J.nil ?_; exact ⟨⟨rfl, rfl, rfl, rK rfl (by rw [Bool.eq_iff_iff]; simp [mQ] <;> omega), trivial⟩, rfl⟩
    refine VC.eR rfl (fun c7 => ?_) (fun c7 => ?_)
    . have bZ : kL (hD s i) i = true := by rw [kL, c7] <;> rfl
      refine VC.exit (VC.text ?_); refine J.c (.move rfl) (J.c (.add rfl rfl (by omega)) (J.c (.assign rfl) ?_)); refine J.nil ?_; refine ⟨_, [(0, St s), (3, I (((i + 1) : Nat) : Int))], ?_, ⟨rfl, rfl, trivial⟩, (i + 1), rfl, rfl, rfl, (by omega), (by intro k hk; rcases Nat.lt_succ_iff_lt_or_eq.1 hk with h | h; exact hq k h; subst h; exact bZ)⟩; omega
    refine VC.skip (VC.seq ?_); refine VC.join [(0, St s), (3, I ((i : Nat) : Int)), (49, B (!(decide (i ≠ 0) && qT (hD s i))))] [] ?_ ?_
    . skip
      refine VC.text ?_; refine J.c (.move rfl) (J.c (.eql) (J.c (.move rfl) ?_)); refine J.bJ (x := 38) rfl (fun HI => ?_) (fun HI => ?_)
      . refine J.skip (J.skip (J.skip (J.skip ?_))); refine J.skip (J.skip (J.skip (J.skip ?_))); refine J.skip (J.skip (J.c (.cZ rfl rfl) ?_)); refine J.nil ?_; exact ⟨⟨rfl, rfl, rK rfl (by rw [Bool.eq_iff_iff]; simp [qT] <;> omega), trivial⟩, rfl⟩
      refine J.c (.move rfl) (J.c (.neq) (J.c (.move rfl) ?_)); refine J.bJ (x := 41) rfl (fun anG => ?_) (fun anG => ?_)
      . refine J.c (.move rfl) (J.c (.lss) (J.c (.move rfl) ?_)); refine J.cg (r := decide ((hD s ((i : Nat) : Int)) < (48 : Int))) (w := false) [] trivial (fun _ => (.move rfl)) ?_; refine J.cg (r := decide ((hD s ((i : Nat) : Int)) < (48 : Int))) (w := false) [(45, .v (.int .u8) (hD s ((i : Nat) : Int)))] ⟨rfl, trivial⟩ (fun _ => (.gtr)) ?_; refine J.c (.or) (J.c (.cZ rfl rfl) (J.c (.bB rfl rfl) ?_)); refine J.nil ?_; exact ⟨⟨rfl, rfl, rK rfl (by rw [Bool.eq_iff_iff]; simp [qT] <;> omega), trivial⟩, rfl⟩
      refine J.skip (J.skip (J.skip (J.skip ?_))); refine J.skip (J.skip (J.c (.bB rfl rfl) (J.c (.bB rfl rfl) ?_))); refine J.nil ?_; exact ⟨⟨rfl, rfl, rK rfl (by rw [Bool.eq_iff_iff]; simp [qT] <;> omega), trivial⟩, rfl⟩
    refine VC.eR rfl (fun c8 => ?_) (fun c8 => ?_)
    . try simp only [Bool.and_eq_true, Bool.or_eq_true, Bool.and_eq_false_iff, Bool.or_eq_false_iff, Bool.not_eq_true', Bool.not_eq_false', decide_eq_true_eq, decide_eq_false_iff_not] at c8
      refine VC.seq (VC.text ?_); refine J.c (.assign rfl) (J.go ?_); refine VC.ret ?_; exact aW.one rfl bP (fF (by exact U8 (i := i) (by omega) (by simp only [kL, c7, Bool.false_or, Bool.and_eq_false_iff, decide_eq_false_iff_not]; exact c8)))
    try simp only [Bool.and_eq_true, Bool.or_eq_true, Bool.and_eq_false_iff, Bool.or_eq_false_iff, Bool.not_eq_true', Bool.not_eq_false', decide_eq_true_eq, decide_eq_false_iff_not] at c8
    have bZ : kL (hD s i) i = true := by simp [kL, *]
    refine VC.skip (VC.text ?_); refine J.c (.move rfl) (J.c (.add rfl rfl (by omega)) (J.c (.assign rfl) ?_)); refine J.nil ?_; refine ⟨_, [(0, St s), (3, I (((i + 1) : Nat) : Int))], ?_, ⟨rfl, rfl, trivial⟩, (i + 1), rfl, rfl, rfl, (by omega), (by intro k hk; rcases Nat.lt_succ_iff_lt_or_eq.1 hk with h | h; exact hq k h; subst h; exact bZ)⟩; omega
  refine VC.exit (VC.seq (VC.text ?_)); refine J.c (.assign rfl) (J.go ?_); refine VC.ret ?_; exact aW.one rfl bP (fF (by exact ag1 (by omega) (by omega) (fun k hk => hq k (by omega))))
theorem YD {s : ByteArray} : VF Tryz.prog OA 97 [St s] (I (eM (!nL s) 8)) := by
  refine VF.enter Tryz.func97 rfl (fun _ _ => rfl) rfl ?_; show VC _ _ _ _ _ [(0, St s)] [] _; refine VC.seq (VC.text ?_); refine J.c (.assign rfl) ?_; refine J.go (VC.seq (VC.seq (VC.text ?_))); refine J.c (.move rfl) ?_; refine J.call rfl rfl (VF.call (acE )) ?_; refine J.c (.not) (J.go ?_); refine VC.eR rfl (fun c1 => ?_) (fun c1 => ?_)
  . try simp only [Bool.and_eq_true, Bool.or_eq_true, Bool.and_eq_false_iff, Bool.or_eq_false_iff, Bool.not_eq_true', Bool.not_eq_false', decide_eq_true_eq, decide_eq_false_iff_not] at c1
    refine VC.seq (VC.text ?_); refine J.c (.assign rfl) (J.go ?_); refine VC.ret ?_; exact aW.one rfl bP (fB (by simp [eM, *]))
  try simp only [Bool.and_eq_true, Bool.or_eq_true, Bool.and_eq_false_iff, Bool.or_eq_false_iff, Bool.not_eq_true', Bool.not_eq_false', decide_eq_true_eq, decide_eq_false_iff_not] at c1
  refine VC.skip (VC.seq (VC.text ?_)); refine J.c (.assign rfl) (J.go ?_); refine VC.ret ?_; exact aW.one rfl bP (fB (by simp [eM, *]))
end Go.Proofs
namespace Go.Proofs
open Go.Fs
abbrev gH : Ty := (.pair (.int .i64) (.int .i64))
def mR (p : Int × Int) : Int := if p.1 < 0 \/ p.2 <= p.1 \/ 100000 < p.2 then 14 else 0
theorem U9 {p : Int × Int} : eM (decide (p.1 < 0) || decide (p.2 <= p.1) || decide (100000 < p.2)) 14 = mR p := by
  unfold eM mR; by_cases h1 : p.1 < 0 <;> by_cases h2 : p.2 <= p.1 <;> by_cases h3 : 100000 < p.2 <;> simp [h1, h2, h3]
theorem acF {p : Int × Int} : VF Tryz.prog OA 41 [.v gH p] (I (mR p)) := by
  refine VF.enter Tryz.func41 rfl (fun _ _ => rfl) rfl ?_; show VC _ _ _ _ _ [(0, .v gH p)] [] _; refine VC.seq (VC.text ?_); refine J.new (.box) ?_; refine J.c (.assign rfl) ?_; refine J.go (VC.seq (VC.text ?_)); refine J.c (.fa (.l .o)) ?_; refine J.r (.ld cQ) ?_; refine J.c (.lss) (J.c (.move rfl) ?_); refine J.cg (r := decide (p.1 < (0 : Int))) (w := false) [] trivial (fun _ => (.fa (.l .o))) ?_; refine J.rg (r := decide (p.1 < (0 : Int))) (w := false) [(7, .p (.int .i64) p.1)] ⟨rfl, trivial⟩ (fun _ => (.ld cQ)) ?_; refine J.cg (r := decide (p.1 < (0 : Int))) (w := false) [] trivial (fun _ => (.fa (.r (k := 0) .o))) ?_; refine J.rg (r := decide (p.1 < (0 : Int))) (w := false) [(9, .p (.int .i64) p.2)] ⟨rfl, trivial⟩ (fun _ => (.ld cQ)) ?_; refine J.cg (r := decide (p.1 < (0 : Int))) (w := false) [(8, I p.1), (10, I p.2)] ⟨rfl, rfl, trivial⟩ (fun _ => (.geq)) ?_; refine J.c (.or) (J.c (.move rfl) ?_); refine J.cg (r := ((decide (p.1 < (0 : Int))) || (decide (p.2 <= p.1)))) (w := false) [] trivial (fun _ => (.fa (.r (k := 0) .o))) ?_; refine J.rg (r := ((decide (p.1 < (0 : Int))) || (decide (p.2 <= p.1)))) (w := false) [(14, .p (.int .i64) p.2)] ⟨rfl, trivial⟩ (fun _ => (.ld cQ)) ?_; refine J.cg (r := ((decide (p.1 < (0 : Int))) || (decide (p.2 <= p.1)))) (w := false) [(15, I p.2)] ⟨rfl, trivial⟩ (fun _ => (.gtr)) ?_; refine J.c (.or) ?_; refine J.call rfl rfl (VF.call (kK )) ?_; refine J.c (.assign rfl) (J.go ?_); refine VC.ret ?_; exact aW.one rfl bP (fB (by exact U9))
theorem acG {p : Int × Int} : VF Tryz.prog OA 42 [.v gH p] (I (mR p)) := by
  refine VF.enter Tryz.func42 rfl (fun _ _ => rfl) rfl ?_; show VC _ _ _ _ _ [(0, .v gH p)] [] _; refine VC.seq (VC.text ?_); refine J.new (.box) ?_; refine J.c (.assign rfl) ?_; refine J.go (VC.seq (VC.seq (VC.text ?_))); refine J.c (.fa (.l .o)) ?_; refine J.r (.ld cQ) ?_; refine J.c (.lss) (J.c (.move rfl) ?_); refine J.cg (r := decide (p.1 < (0 : Int))) (w := false) [] trivial (fun _ => (.fa (.r (k := 0) .o))) ?_; refine J.rg (r := decide (p.1 < (0 : Int))) (w := false) [(7, .p (.int .i64) p.2)] ⟨rfl, trivial⟩ (fun _ => (.ld cQ)) ?_; refine J.cg (r := decide (p.1 < (0 : Int))) (w := false) [] trivial (fun _ => (.fa (.l .o))) ?_; refine J.rg (r := decide (p.1 < (0 : Int))) (w := false) [(9, .p (.int .i64) p.1)] ⟨rfl, trivial⟩ (fun _ => (.ld cQ)) ?_; refine J.cg (r := decide (p.1 < (0 : Int))) (w := false) [(8, I p.2), (10, I p.1)] ⟨rfl, rfl, trivial⟩ (fun _ => (.leq)) ?_; refine J.c (.or) (J.c (.move rfl) ?_); refine J.cg (r := ((decide (p.1 < (0 : Int))) || (decide (p.2 <= p.1)))) (w := false) [] trivial (fun _ => (.fa (.r (k := 0) .o))) ?_; refine J.rg (r := ((decide (p.1 < (0 : Int))) || (decide (p.2 <= p.1)))) (w := false) [(14, .p (.int .i64) p.2)] ⟨rfl, trivial⟩ (fun _ => (.ld cQ)) ?_; refine J.cg (r := ((decide (p.1 < (0 : Int))) || (decide (p.2 <= p.1)))) (w := false) [(15, I p.2)] ⟨rfl, trivial⟩ (fun _ => (.gtr)) ?_; refine J.c (.or) (J.go ?_); refine VC.eR rfl (fun c1 => ?_) (fun c1 => ?_)
  . try simp only [Bool.and_eq_true, Bool.or_eq_true, Bool.and_eq_false_iff, Bool.or_eq_false_iff, Bool.not_eq_true', Bool.not_eq_false', decide_eq_true_eq, decide_eq_false_iff_not] at c1
    refine VC.seq (VC.text ?_); refine J.c (.assign rfl) (J.go ?_); refine VC.ret ?_; exact aW.one rfl bP (fB (by simp only [mR, <- Bool.decide_or, decide_eq_true_eq, decide_eq_false_iff_not, Bool.or_eq_true, Bool.or_eq_false_iff] at *; first | rw [if_pos (by omega)] | rw [if_neg (by omega)]))
  try simp only [Bool.and_eq_true, Bool.or_eq_true, Bool.and_eq_false_iff, Bool.or_eq_false_iff, Bool.not_eq_true', Bool.not_eq_false', decide_eq_true_eq, decide_eq_false_iff_not] at c1
  refine VC.skip (VC.seq (VC.text ?_)); refine J.c (.assign rfl) (J.go ?_); refine VC.ret ?_; exact aW.one rfl bP (fB (by simp only [mR, <- Bool.decide_or, decide_eq_true_eq, decide_eq_false_iff_not, Bool.or_eq_true, Bool.or_eq_false_iff] at *; first | rw [if_pos (by omega)] | rw [if_neg (by omega)]))
end Go.Proofs
namespace Go.Proofs.Sp
abbrev Sp := Int × Int
def bE (l : List Sp) (t : Int) : Bool := l.any fun s => decide (s.1 <= t) && decide (t < s.2)
def Canon (m : Int) (l : List Sp) : Prop := (∀ s ∈ l, 0 <= s.1 /\ s.1 < s.2 /\ s.2 <= m) /\ l.Pairwise fun s u => s.2 < u.1
def lT (l : List Sp) (d : Int) : List (Int × Int) := l.flatMap fun s => [(s.1, d), (s.2, -d)]
def fT : List (Int × Int) -> Int -> Int
  | [], _ => 0
  | e :: r, t => (if e.1 <= t then e.2 else 0) + fT r t
theorem mS {t : Int} : ∀ {a b : List (Int × Int)}, fT (a ++ b) t = fT a t + fT b t
  | [], b => by simp [fT]
  | e :: a, b => by rw [List.cons_append, fT, fT, mS]; omega
theorem UA {t : Int} {a b : List (Int × Int)} (h : a.Perm b) : fT a t = fT b t := by
  induction h with
  | nil => rfl
  | cons x _ ih => rw [fT, fT, ih]
  | swap x y l => simp only [fT]; omega
  | trans _ _ ih1 ih2 => exact ih1.trans ih2
theorem iU {t : Int} : ∀ {a : List (Int × Int)}, (∀ e ∈ a, t < e.1) -> fT a t = 0
  | [], _ => rfl
  | e :: a, h => by
    rw [fT, iU fun x hx => h x (List.mem_cons_of_mem _ hx), if_neg (by have := h e List.mem_cons_self; omega)]; rfl
theorem yU {t u : Int} : ∀ {a : List (Int × Int)}, (∀ e ∈ a, (e.1 <= t ↔ e.1 <= u)) -> fT a t = fT a u
  | [], _ => rfl
  | e :: a, h => by
    rw [fT, fT, yU fun x hx => h x (List.mem_cons_of_mem _ hx)]; have := h e List.mem_cons_self; by_cases h1 : e.1 <= t
    . rw [if_pos h1, if_pos (this.1 h1)]
    rw [if_neg h1, if_neg fun h2 => h1 (this.2 h2)]
theorem A1 {l : List Sp} {d : Int} {e : Int × Int} (h : e ∈ lT l d) : ∃ s ∈ l, e.1 = s.1 \/ e.1 = s.2 := by
  obtain ⟨s, hs, he⟩ := List.mem_flatMap.1 h; refine ⟨s, hs, ?_⟩; simp only [List.mem_cons, List.not_mem_nil, or_false] at he; rcases he with rfl | rfl
  . exact .inl rfl
  exact .inr rfl
theorem yV {m d t : Int} : ∀ {l : List Sp}, Canon m l -> fT (lT l d) t = if bE l t = true then d else 0
  | [], _ => rfl
  | s :: l, h => by
    have h1 := h.1 s List.mem_cons_self; have h2 := List.pairwise_cons.1 h.2; have hc : Canon m l := ⟨fun x hx => h.1 x (List.mem_cons_of_mem _ hx), h2.2⟩; have ih := yV (d := d) (t := t) hc; have e : lT (s :: l) d = (s.1, d) :: (s.2, -d) :: lT l d := rfl; rw [e, fT, fT]; have e2 : bE (s :: l) t = ((decide (s.1 <= t) && decide (t < s.2)) || bE l t) := rfl; rw [e2]; by_cases c1 : s.1 <= t
    . by_cases c2 : s.2 <= t
      . rw [if_pos (show (s.1, d).1 <= t from c1), if_pos (show (s.2, -d).1 <= t from c2), ih, decide_eq_false (show ¬ t < s.2 by omega)]; simp only [Bool.and_false, Bool.false_or]; omega
      have h0 : fT (lT l d) t = 0 := iU fun e he => by
        obtain ⟨u, hu, hue⟩ := A1 he; have h3 := h2.1 u hu; have h4 := hc.1 u hu; omega
      rw [if_pos (show (s.1, d).1 <= t from c1), if_neg (show ¬ (s.2, -d).1 <= t from c2), h0, decide_eq_true c1, decide_eq_true (show t < s.2 by omega)]; simp
    have h0 : fT (lT l d) t = 0 := iU fun e he => by
      obtain ⟨u, hu, hue⟩ := A1 he; have h3 := h2.1 u hu; have h4 := hc.1 u hu; omega
    have c2 : ¬ s.2 <= t := by omega
    rw [h0] at ih; rw [if_neg (show ¬ (s.1, d).1 <= t from c1), if_neg (show ¬ (s.2, -d).1 <= t from c2), h0, decide_eq_false c1]; simp only [Bool.false_and, Bool.false_or]; rw [<- ih]; rfl
def nM (p : Int -> Bool) (t : Int) (S : Int × List Sp) : Int × List Sp :=
  if p t = true /\ S.1 < 0 then (t, S.2) else if p t = false /\ 0 <= S.1 then (-1, S.2 ++ [(S.1, t)]) else S
def bG (p : Int -> Bool) : Nat -> Int × List Sp
  | 0 => (-1, [])
  | t + 1 => nM p t (bG p t)
theorem qH {p : Int -> Bool} : ∀ {t : Nat}, (0 <= (bG p (t + 1)).1 ↔ p t = true) /\ (bG p (t + 1)).1 <= t
  | 0 => by
    show (0 <= (nM p (0 : Nat) (-1, [])).1 ↔ _) /\ (nM p (0 : Nat) (-1, [])).1 <= _; unfold nM; by_cases h : p ((0 : Nat) : Int) = true
    . rw [if_pos ⟨h, by decide⟩]; exact ⟨⟨fun _ => h, fun _ => Int.le_refl _⟩, Int.le_refl _⟩
    rw [if_neg fun h2 => h h2.1, if_neg (by simp)]; exact ⟨⟨fun h2 => absurd (show (0 : Int) <= -1 from h2) (by decide), fun h2 => absurd h2 h⟩, by show (-1 : Int) <= 0; decide⟩
  | t + 1 => by
    have ih := qH (p := p) (t := t); rw [bG]; unfold nM; by_cases h : p ((t + 1 : Nat) : Int) = true
    . by_cases h1 : (bG p (t + 1)).1 < 0
      . rw [if_pos ⟨h, h1⟩]; refine ⟨⟨fun _ => h, fun _ => ?_⟩, Int.le_refl _⟩; show (0 : Int) <= ((t + 1 : Nat) : Int); omega
      rw [if_neg fun h2 => h1 h2.2, if_neg fun h2 => by rw [h] at h2; exact absurd h2.1 (by decide)]; refine ⟨⟨fun _ => h, fun _ => by omega⟩, by omega⟩
    have hf : p ((t + 1 : Nat) : Int) = false := by simpa using h
    by_cases h1 : (bG p (t + 1)).1 < 0
    . rw [if_neg fun h2 => h h2.1, if_neg fun h2 => absurd h2.2 (by omega)]; refine ⟨⟨fun h2 => by omega, fun h2 => absurd h2 h⟩, by omega⟩
    rw [if_neg fun h2 => h h2.1, if_pos ⟨hf, by omega⟩]; refine ⟨⟨fun h2 => absurd (show (0 : Int) <= -1 from h2) (by decide), fun h2 => absurd h2 h⟩, ?_⟩; show (-1 : Int) <= _; omega
theorem LO {p : Int -> Bool} {u : Nat} : ∀ {v : Nat}, u <= v -> (∀ j : Nat, u <= j -> j <= v -> p j = p u) -> bG p (v + 1) = bG p (u + 1)
  | 0, h, _ => by
    obtain rfl : u = 0 := by omega
    rfl
  | v + 1, h, hp => by
    by_cases e : u = v + 1
    . subst e; rfl
    have ih := LO (p := p) (u := u) (v := v) (by omega) fun j h1 h2 => hp j h1 (by omega); have hv := hp (v + 1) (by omega) (Nat.le_refl _); have ho := (qH (p := p) (t := u)).1; rw [bG, ih]; unfold nM; rw [hv]; by_cases h1 : p (u : Int) = true
    . rw [if_neg fun h2 => by have := ho.2 h1; omega, if_neg fun h2 => by rw [h1] at h2; exact absurd h2.1 (by decide)]
    rw [if_neg fun h2 => h1 h2.1, if_neg fun h2 => h1 (ho.1 h2.2)]
theorem LP {p : Int -> Bool} : ∀ {v : Nat}, (∀ j : Nat, j < v -> p j = false) -> bG p v = (-1, [])
  | 0, _ => rfl
  | v + 1, hp => by
    rw [bG, LP fun j hj => hp j (by omega)]; unfold nM; rw [hp v (by omega)]; simp
def kY : List (Int × Int) -> Int
  | [] => 0
  | e :: r => e.2 + kY r
theorem LQ {t : Int} : ∀ {a : List (Int × Int)}, (∀ e ∈ a, e.1 <= t) -> fT a t = kY a
  | [], _ => rfl
  | e :: a, h => by rw [fT, kY, LQ fun x hx => h x (List.mem_cons_of_mem _ hx), if_pos (h e List.mem_cons_self)]
def pE (ch : Int -> Bool) (L : List (Int × Int)) (t : Int) : Bool := ch (fT L t)
structure mU (ch : Int -> Bool) (L l : List (Int × Int)) (st fr : Int) (out : List Sp) (v : Nat) : Prop where
  done : ∃ d, L = d ++ l /\ ∀ e ∈ d, e.1 < v
  rest : ∀ e ∈ l, (v : Int) <= e.1
  state : st = fT L ((v : Int) - 1)
  outs : out = (bG (pE ch L) v).2
  open_ : 0 <= (bG (pE ch L) v).1 ↔ ch st = true
  from_ : ch st = true -> fr = (bG (pE ch L) v).1
theorem mU.init {ch : Int -> Bool} {L : List (Int × Int)} {fr : Int} (h0 : ch 0 = false) (hL : ∀ e ∈ L, 0 <= e.1) : mU ch L L 0 fr [] 0 where
  done := ⟨[], rfl, fun e he => by cases he⟩
  rest := fun e he => hL e he
  state := (iU fun e he => by have := hL e he; show ((0 : Nat) : Int) - 1 < e.1; omega).symm
  outs := rfl
  open_ := by
    rw [h0]; exact ⟨fun h => absurd (show (0 : Int) <= -1 from h) (by decide), fun h => by cases h⟩
  from_ := fun h => by rw [h0] at h; cases h
theorem mU.same {ch : Int -> Bool} {L l : List (Int × Int)} {st fr : Int} {out : List Sp} {v : Nat} (I : mU ch L l st fr out v) {j : Int} (h1 : (v : Int) - 1 <= j) (h2 : ∀ e ∈ l, j < e.1) : fT L j = st := by
  obtain ⟨d, hd, bO⟩ := I.done; rw [I.state, hd, mS, mS, iU h2, iU (a := l) fun e he => by have := I.rest e he; omega]; rw [yU (t := j) (u := (v : Int) - 1) (a := d) fun e he => by have := bO e he; omega]
theorem mU.upto {ch : Int -> Bool} {L l : List (Int × Int)} {st fr : Int} {out : List Sp} {v : Nat} (I : mU ch L l st fr out v) {n : Nat} (hn : v <= n) (h2 : ∀ e ∈ l, (n : Int) <= e.1) (h0 : ch 0 = false) (hL : ∀ e ∈ L, 0 <= e.1) : bG (pE ch L) n = bG (pE ch L) v := by
  have hs : ∀ j : Nat, v <= j + 1 -> j < n -> pE ch L j = ch st := fun j h3 h4 => by
    unfold pE; rw [I.same (by omega) fun e he => by have := h2 e he; omega]
  cases v with
  | zero =>
    have bT : st = 0 := I.state.trans (iU fun e he => by have := hL e he; show ((0 : Nat) : Int) - 1 < e.1; omega)
    rw [LP fun j hj => by rw [hs j (by omega) hj, bT, h0]]; rfl
  | succ u =>
    cases n with
    | zero => omega
    | succ m => exact LO (by omega) fun j h3 h4 => by rw [hs j (by omega) (by omega), hs u (by omega) (by omega)]
theorem mU.step {ch : Int -> Bool} {L g l : List (Int × Int)} {st fr : Int} {out : List Sp} {v a : Nat} (I : mU ch L (g ++ l) st fr out v) (h0 : ch 0 = false) (hL : ∀ e ∈ L, 0 <= e.1) (hg : ∀ e ∈ g, e.1 = (a : Int)) (cA : g ≠ []) (hl : ∀ e ∈ l, (a : Int) < e.1) :
    mU ch L l (st + kY g) (if ch st = false /\ ch (st + kY g) = true then (a : Int) else fr) (if ch st = true /\ ch (st + kY g) = false then out ++ [(fr, (a : Int))] else out) (a + 1) := by
  obtain ⟨x, hx⟩ := List.exists_mem_of_ne_nil _ cA
  have hva : v <= a := by
    have h1 := I.rest x (List.mem_append_left _ hx); have h2 := hg x hx; omega
  have hup := I.upto hva (fun e he => by
    rcases List.mem_append.1 he with he | he
    . have := hg e he; omega
    have := hl e he; omega) h0 hL
  obtain ⟨d, hd, bO⟩ := I.done
  have yW : fT L (a : Int) = st + kY g := by
    rw [I.state, hd, mS, mS, mS, mS, iU (a := l) hl, LQ (a := g) fun e he => by have := hg e he; omega]; rw [iU (a := g) fun e he => by have := hg e he; omega, iU (a := l) fun e he => by have := hl e he; omega, yU (t := (a : Int)) (u := (v : Int) - 1) (a := d) fun e he => by have := bO e he; omega]; omega
  have hp : pE ch L (a : Nat) = ch (st + kY g) := by unfold pE; rw [yW]
  have hsc : bG (pE ch L) (a + 1) = nM (pE ch L) a (bG (pE ch L) v) := by rw [bG, hup]
  have dU := I.open_
  have sT : bG (pE ch L) (a + 1) = (if ch (st + kY g) = true then (if ch st = true then fr else (a : Int)) else -1, if ch st = true /\ ch (st + kY g) = false then out ++ [(fr, (a : Int))] else out) \/ (ch st = false /\ ch (st + kY g) = false /\ bG (pE ch L) (a + 1) = bG (pE ch L) v) := by
    rw [hsc]; unfold nM; rw [hp]; cases hb : ch st <;> cases hc : ch (st + kY g)
    . right
      have h1 : ¬ 0 <= (bG (pE ch L) v).1 := fun h => by have := dU.1 h; rw [hb] at this; cases this
      refine ⟨rfl, rfl, ?_⟩; rw [if_neg (fun h => absurd h.1 (by decide)), if_neg (fun h => h1 h.2)]
    . left
      have h1 : ¬ 0 <= (bG (pE ch L) v).1 := fun h => by have := dU.1 h; rw [hb] at this; cases this
      rw [if_pos ⟨rfl, by omega⟩]; simp [I.outs]
    . left; have h1 := dU.2 hb; rw [if_neg (fun h => absurd h.1 (by decide)), if_pos ⟨rfl, h1⟩]; simp [I.outs, I.from_ hb]
    left; have h1 := dU.2 hb; rw [if_neg (fun h => absurd h.2 (by omega)), if_neg (fun h => absurd h.1 (by decide))]; simp [I.outs, I.from_ hb]
  refine ⟨⟨d ++ g, by rw [hd, List.append_assoc], fun e he => ?_⟩, fun e he => ?_, ?_, ?_, ?_, ?_⟩
  . rcases List.mem_append.1 he with he | he
    . have := bO e he; omega
    have := hg e he; omega
  . have := hl e he; omega
  . rw [show ((a + 1 : Nat) : Int) - 1 = (a : Int) by omega, yW]
  . rcases sT with hr | ⟨h1, h2, hr⟩
    . rw [hr]
    rw [hr, if_neg (fun h => by rw [h1] at h; exact absurd h.1 (by decide))]; exact I.outs
  . have := (qH (p := pE ch L) (t := a)).1; rw [this, hp]
  intro hc; rcases sT with hr | ⟨h1, h2, hr⟩
  . rw [hr]; cases hb : ch st <;> simp [hc]
  rw [hc] at h2; cases h2
theorem mU.last {ch : Int -> Bool} {L : List (Int × Int)} {st fr : Int} {out : List Sp} {v n : Nat} (I : mU ch L [] st fr out v) (h0 : ch 0 = false) (hL : ∀ e ∈ L, 0 <= e.1) (hn : v <= n) : out = (bG (pE ch L) n).2 := by
  rw [I.upto hn (fun e he => by cases he) h0 hL]; exact I.outs
theorem yX {a b : List Sp} {t : Int} : bE (a ++ b) t = (bE a t || bE b t) := List.any_append
theorem DW {x y t : Int} : bE [(x, y)] t = true ↔ x <= t /\ t < y := by simp [bE]
theorem UB {p : Int -> Bool} {t : Int} (ht : 0 <= t) : ∀ {n : Nat}, (bE (bG p n).2 t = true \/ (0 <= (bG p n).1 /\ (bG p n).1 <= t /\ t < n)) ↔ (t < n /\ p t = true)
  | 0 => by
    constructor
    . rintro (h | ⟨h, _⟩)
      . cases h
      exact absurd (show (0 : Int) <= -1 from h) (by decide)
    rintro ⟨h, _⟩; omega
  | n + 1 => by
    have ih := UB (p := p) ht (n := n)
    have en : ((n + 1 : Nat) : Int) = (n : Int) + 1 := by omega
    rw [bG]; unfold nM; by_cases c1 : p (n : Int) = true /\ (bG p n).1 < 0
    . rw [if_pos c1]; show (bE (bG p n).2 t = true \/ (0 <= (n : Int) /\ (n : Int) <= t /\ t < ((n + 1 : Nat) : Int))) ↔ _; constructor
      . rintro (h | h)
        . have := ih.1 (.inl h); exact ⟨by omega, this.2⟩
        have : t = n := by omega
        subst this; exact ⟨by omega, c1.1⟩
      rintro ⟨h1, h2⟩; by_cases e : t = n
      . exact .inr (by omega)
      rcases ih.2 ⟨by omega, h2⟩ with h | h
      . exact .inl h
      omega
    rw [if_neg c1]; by_cases c2 : p (n : Int) = false /\ 0 <= (bG p n).1
    . rw [if_pos c2]; show (bE ((bG p n).2 ++ [((bG p n).1, (n : Int))]) t = true \/ ((0 : Int) <= -1 /\ _)) ↔ _; rw [yX, Bool.or_eq_true, DW]; constructor
      . rintro ((h | h) | h)
        . have := ih.1 (.inl h); exact ⟨by omega, this.2⟩
        . have := ih.1 (.inr ⟨c2.2, h⟩); exact ⟨by omega, this.2⟩
        omega
      rintro ⟨h1, h2⟩; by_cases e : t = n
      . subst e; rw [c2.1] at h2; cases h2
      rcases ih.2 ⟨by omega, h2⟩ with h | h
      . exact .inl (.inl h)
      exact .inl (.inr h.2)
    rw [if_neg c2]; constructor
    . rintro (h | h)
      . have := ih.1 (.inl h); exact ⟨by omega, this.2⟩
      by_cases e : t = n
      . subst e; refine ⟨by omega, ?_⟩; cases hp : p (n : Int)
        . exact absurd ⟨hp, h.1⟩ c2
        rfl
      have := ih.1 (.inr ⟨h.1, h.2.1, by omega⟩); exact ⟨by omega, this.2⟩
    rintro ⟨h1, h2⟩; by_cases e : t = n
    . subst e; have h3 : ¬ (bG p n).1 < 0 := fun h => c1 ⟨h2, h⟩
      have h4 : (bG p n).1 <= n := by
        cases n with
        | zero => show (-1 : Int) <= 0; decide
        | succ m => have := (qH (p := p) (t := m)).2; omega
      exact .inr (by omega)
    rcases ih.2 ⟨by omega, h2⟩ with h | h
    . exact .inl h
    exact .inr ⟨h.1, h.2.1, by omega⟩
theorem acH {p : Int -> Bool} {n : Nat} (hl : p (n : Int) = false) {t : Int} (ht : 0 <= t) : bE (bG p (n + 1)).2 t = true ↔ (t <= n /\ p t = true) := by
  have h := UB (p := p) ht (n := n + 1); have ho := (qH (p := p) (t := n)).1; constructor
  . intro h1; have := h.1 (.inl h1); exact ⟨by omega, this.2⟩
  rintro ⟨h1, h2⟩; rcases h.2 ⟨by omega, h2⟩ with h3 | h3
  . exact h3
  have := ho.1 h3.1; rw [hl] at this; cases this
theorem HJ {p : Int -> Bool} : ∀ {n : Nat}, Canon ((n : Int) - 1) (bG p n).2 /\ (0 <= (bG p n).1 -> ∀ s ∈ (bG p n).2, s.2 < (bG p n).1)
  | 0 => ⟨⟨fun s hs => (by cases hs), List.Pairwise.nil⟩, fun _ s hs => (by cases hs)⟩
  | n + 1 => by
    obtain ⟨⟨h1, h2⟩, h3⟩ := HJ (p := p) (n := n)
    have en : ((n + 1 : Nat) : Int) - 1 = n := by omega
    rw [bG, en]; unfold nM; by_cases c1 : p (n : Int) = true /\ (bG p n).1 < 0
    . rw [if_pos c1]; refine ⟨⟨fun s hs => ?_, h2⟩, fun _ s hs => ?_⟩
      . have := h1 s hs; omega
      have := h1 s hs; show s.2 < (n : Int); omega
    rw [if_neg c1]; by_cases c2 : p (n : Int) = false /\ 0 <= (bG p n).1
    . rw [if_pos c2]
      have h4 : (bG p n).1 < n := by
        cases n with
        | zero => exact absurd (show (0 : Int) <= -1 from c2.2) (by decide)
        | succ m => have := (qH (p := p) (t := m)).2; omega
      refine ⟨⟨fun s hs => ?_, ?_⟩, fun h => absurd (show (0 : Int) <= -1 from h) (by decide)⟩
      . rcases List.mem_append.1 hs with hs | hs
        . have := h1 s hs; omega
        obtain rfl := List.mem_singleton.1 hs; exact ⟨c2.2, h4, Int.le_refl _⟩
      refine List.pairwise_append.2 ⟨h2, List.pairwise_singleton _ _, fun s hs u hu => ?_⟩; obtain rfl := List.mem_singleton.1 hu; exact h3 c2.2 s hs
    rw [if_neg c2]; refine ⟨⟨fun s hs => ?_, h2⟩, h3⟩; have := h1 s hs; omega
def jY (a b : List Sp) (t : Int) : Int := (if bE a t = true then 1 else 0) + (if bE b t = true then 2 else 0)
theorem HK {m : Int} {a b : List Sp} {L : List (Int × Int)} (ha : Canon m a) (hb : Canon m b) (hL : L.Perm (lT a 1 ++ lT b 2)) (t : Int) : fT L t = jY a b t := by
  rw [UA hL, mS, yV ha, yV hb]; rfl
end Go.Proofs.Sp
namespace Go.Proofs.Sp
theorem acI {m : Int} {l : List Sp} (h1 : ∀ s ∈ l, 0 <= s.1 /\ s.1 < s.2 /\ s.2 <= m) (h2 : ∀ j (hj : j < l.length), 0 < j -> (l[j - 1]'(by omega)).2 < l[j].1) : Canon m l := by
  refine ⟨h1, List.pairwise_iff_getElem.2 fun i j hi hj SY => ?_⟩
  induction j with
  | zero => omega
  | succ j ih =>
    have h3 := h2 (j + 1) hj (by omega); simp only [Nat.add_sub_cancel] at h3; by_cases e : i = j
    . subst e; exact h3
    have h4 := ih (by omega) (by omega); have h5 := h1 _ (List.getElem_mem (show j < l.length by omega)); omega
end Go.Proofs.Sp
namespace Go.Proofs
open Go.Fs
set_option maxHeartbeats 2000000
abbrev aZ : Ty := (.sl (.pair (.int .i64) (.int .i64)))
theorem nG : fU Tryz.prog 39 gH := gM (by kernel_rfl)
theorem cD : fO Tryz.prog 22 39 gH := wJ (by kernel_rfl)
theorem HL : r6 Tryz.prog 39 gH := nX (z := .agg #[.int .i64 0, .int .i64 0]) (by kernel_rfl) rfl rfl
theorem anH : EqT Tryz.prog 39 gH := ai5 (by kernel_rfl)
def qU (f : Nat -> Int) (i n : Nat) : Int := dV ((List.range' i (n - i)).map f)
theorem jT {f : Nat -> Int} {i n : Nat} (h : i < n) : qU f i n = if f i = 0 then qU f (i + 1) n else f i := by
  unfold qU; rw [show n - i = (n - (i + 1)) + 1 by omega, List.range'_succ] <;> rfl
theorem HM {f : Nat -> Int} {i n : Nat} (h : n <= i) : qU f i n = 0 := by
  unfold qU; rw [show n - i = 0 by omega] <;> rfl
theorem getD_at {α : Type} {l : List α} {i : Nat} {d : α} (h : i < l.length) : l.getD i d = l[i] := by rw [List.getD_eq_getElem?_getD, List.getElem?_eq_getElem h] <;> rfl
def jF (l : List (Int × Int)) (j : Nat) : Int × Int := l.getD j (0, 0)
theorem fJ {l : List (Int × Int)} {j : Nat} (h : j < l.length) : jF l j = l[j] := getD_at h
def lC (l : List (Int × Int)) (j : Nat) : Int := dV [mR (jF l j), eM (decide (0 < (j : Int)) && decide ((jF l j).1 <= (jF l (j - 1)).2)) 11]
def iN (l : List (Int × Int)) : Int := if 2048 < (l.length : Int) then 5 else qU (lC l) 0 l.length
theorem OU {l : List (Int × Int)} {j : Nat} (h0 : 0 < (j : Int)) (h : ((j : Int) - 1).toNat < l.length) : jF l (j - 1) = l[((j : Int) - 1).toNat] := by
  have e : ((j : Int) - 1).toNat = j - 1 := by omega
  rw [fJ (by omega)]; simp only [e]
theorem ag4 {l : List (Int × Int)} {j : Nat} (h0 : 0 < (j : Int)) (h : (max 0 ((j : Int) - 1)).toNat < l.length) : jF l (j - 1) = l[(max 0 ((j : Int) - 1)).toNat] := by
  have e : (max 0 ((j : Int) - 1)).toNat = j - 1 := by omega
  rw [fJ (by omega)]; simp only [e]
theorem UC {l : List (Int × Int)} {j : Nat} (h : j < l.length) (hb : mR l[j] ≠ 0) : lC l j = 14 := by
  unfold lC; rw [fJ h]
  have : mR l[j] = 14 := by
    unfold mR at hb ⊢; split at hb
    . rename_i hc; rw [if_pos hc]
    exact absurd rfl hb
  rw [this] <;> rfl
theorem BQ {l : List (Int × Int)} {j : Nat} (h : j < l.length) (hb : ¬ mR l[j] ≠ 0) : lC l j = eM (decide (0 < (j : Int)) && decide (l[j].1 <= (jF l (j - 1)).2)) 11 := by
  unfold lC; rw [fJ h, Classical.not_not.1 hb]; show (if (0 : Int) = 0 then _ else _) = _; rw [if_pos rfl]; unfold dV; split
  . rename_i hz; rw [hz] <;> rfl
  rfl
theorem acJ {l : List (Int × Int)} {j : Nat} (h : j < l.length) (h0 : 0 < (j : Int)) (hm : (max 0 ((j : Int) - 1)).toNat < l.length) : lC l j = dV [mR l[j], eM (decide (l[j].1 <= l[(max 0 ((j : Int) - 1)).toNat].2)) 11] := by
  unfold lC; rw [fJ h, ag4 h0 hm, decide_eq_true h0, Bool.true_and]
theorem acK {l : List (Int × Int)} {j : Nat} (h : j < l.length) (h0 : ¬ 0 < (j : Int)) : lC l j = dV [mR l[j], eM false 11] := by
  unfold lC; rw [fJ h, decide_eq_false h0, Bool.false_and]
theorem YE {l : List (Int × Int)} (hl : l.length < 1000000) : VF Tryz.prog OA 18 [.v aZ l] (I (iN l)) := by
  refine VF.enter Tryz.func18 rfl (fun _ _ => rfl) rfl ?_; show VC _ _ _ _ _ [(0, .v aZ l)] [] _; refine VC.seq (VC.text ?_); refine J.c (.assign rfl) ?_; refine J.go (VC.seq (VC.seq (VC.text ?_))); refine J.c (.move rfl) ?_; refine J.r (.len cD) ?_; refine J.c (.gtr) (J.go ?_); refine VC.aX rfl (fun c1 => ?_) (fun c1 => ?_)
  . refine VC.seq (VC.text ?_); refine J.c (.assign rfl) (J.go ?_); refine VC.ret ?_; exact aW.one rfl bP (fB (by rw [iN, if_pos c1]))
  refine VC.skip (VC.seq (VC.seq (VC.text ?_))); refine J.c (.assign rfl) ?_; refine J.go (VC.block ?_); refine VC.aV [(0, .v aZ l), (3, I ((0 : Nat) : Int))] ⟨rfl, rfl, trivial⟩ ?_; refine VC.loop (I := fun kk ff ss => ∃ (j : Nat), kk = l.length - j /\ ff = [(0, .v aZ l), (3, I ((j : Nat) : Int))] /\ ss = [] /\ (j <= l.length) /\ (iN l = qU (lC l) j l.length)) ?_ _ _ _ ⟨0, rfl, rfl, rfl, Nat.zero_le _, (by exact if_neg c1)⟩; rintro kk ff ss ⟨j, kJ, rfl, rfl, hj, hw⟩; refine VC.seq (VC.seq (VC.text ?_)); refine J.c (.move rfl) (J.c (.move rfl) ?_); refine J.r (.len cD) ?_; refine J.c (.lss) (J.go ?_); refine VC.aX rfl (fun c4 => ?_) (fun c4 => ?_)
  . refine VC.skip (VC.seq (VC.block (VC.seq (VC.seq (VC.text ?_))))); refine J.c (.move rfl) (J.c (.move rfl) (J.c (.ix (j := j) rfl rfl cD (by omega)) ?_)); refine J.r (.ld nG) ?_; refine J.call rfl rfl (VF.call (acG )) ?_; refine J.c (.neq) (J.go ?_); refine VC.aX rfl (fun c6 => ?_) (fun c6 => ?_)
    . refine VC.seq (VC.text ?_); refine J.c (.assign rfl) (J.go ?_); refine VC.ret ?_; exact aW.one rfl bP (fB (by rw [hw, jT (by omega), UC (by omega) c6, if_neg (by decide)]))
    refine VC.skip (VC.seq (VC.drawn ?_)); refine VD.c (.move rfl) (VD.c (.gtr) (VD.c (.move rfl) ?_)); refine VD.bJ (x := 21) rfl (fun HI => ?_) (fun HI => ?_)
    . refine VD.c (.move rfl) (VD.c (.move rfl) (VD.nw [] (VD.c (.ix (j := j) rfl rfl cD (by omega)) ?_))); refine VD.c (.fa (.l .o)) ?_; refine VD.r [] (.ld cQ) (.inl rfl) ?_; refine VD.c (.move rfl) (VD.c (.move rfl) (VD.c (.sub rfl rfl (by omega)) (VD.c (.ixZ (k := (((j : Nat) : Int) - (1 : Int))) rfl rfl cD (by omega) (by omega)) ?_))); refine VD.nw [] (VD.c (.fa (.r .o)) ?_); refine VD.r [] (.ld cQ) (.inl rfl) ?_; refine VD.c (.leq) (VD.c (.cZ rfl rfl) (VD.go ?_)); refine VC.aX rfl (fun c8 => ?_) (fun c8 => ?_)
      . refine VC.seq (VC.text ?_); refine J.c (.assign rfl) (J.go ?_); refine VC.ret ?_; exact aW.one rfl bP (fB (by rw [hw, jT (by omega), BQ (by omega) c6, OU HI (by omega), decide_eq_true c8, decide_eq_true HI] <;> rfl))
      have hz : lC l j = 0 := by rw [BQ (by omega) c6, OU HI (by omega), decide_eq_false c8, Bool.and_false] <;> rfl
      refine VC.skip (VC.text ?_); refine J.c (.move rfl) (J.c (.add rfl rfl (by omega)) (J.c (.assign rfl) ?_)); refine J.nil ?_; refine ⟨_, [(0, .v aZ l), (3, I (((j + 1) : Nat) : Int))], ?_, ⟨rfl, rfl, trivial⟩, (j + 1), rfl, rfl, rfl, (by omega), (by rw [hw, jT (by omega), if_pos hz])⟩; omega
    have hz : lC l j = 0 := by rw [BQ (by omega) c6, decide_eq_false (show ¬ 0 < (j : Int) by omega)] <;> rfl
    refine VD.skip (VD.skip (VD.nw [] (VD.skip ?_))); refine VD.skip (VD.skip (VD.skip (VD.skip ?_))); refine VD.skip (VD.skip (VD.nw [] (VD.skip ?_))); refine VD.skip (VD.skip (VD.c (.bB rfl rfl) (VD.go ?_))); refine VC.uP rfl ?_; refine VC.skip (VC.text ?_); refine J.c (.move rfl) (J.c (.add rfl rfl (by omega)) (J.c (.assign rfl) ?_)); refine J.nil ?_; refine ⟨_, [(0, .v aZ l), (3, I (((j + 1) : Nat) : Int))], ?_, ⟨rfl, rfl, trivial⟩, (j + 1), rfl, rfl, rfl, (by omega), (by rw [hw, jT (by omega), if_pos hz])⟩; omega
  refine VC.exit (VC.seq (VC.text ?_)); refine J.c (.assign rfl) (J.go ?_); refine VC.ret ?_; exact aW.one rfl bP (fB (by rw [hw, HM (by omega)]))
theorem YF {l : List (Int × Int)} (hl : l.length < 1000000) : VF Tryz.prog OA 26 [.v aZ l] (I (iN l)) := by
  refine VF.enter Tryz.func26 rfl (fun _ _ => rfl) rfl ?_; show VC _ _ _ _ _ [(0, .v aZ l)] [] _; refine VC.seq (VC.text ?_); refine J.c (.assign rfl) ?_; refine J.go (VC.seq (VC.seq (VC.text ?_))); refine J.c (.move rfl) ?_; refine J.r (.len cD) ?_; refine J.c (.gtr) (J.go ?_); refine VC.aX rfl (fun c1 => ?_) (fun c1 => ?_)
  . refine VC.seq (VC.text ?_); refine J.c (.assign rfl) (J.go ?_); refine VC.ret ?_; exact aW.one rfl bP (fB (by rw [iN, if_pos c1]))
  refine VC.skip (VC.seq (VC.seq (VC.text ?_))); refine J.c (.move rfl) ?_; refine J.r (.len cD) ?_; refine J.c (.move rfl) ?_; refine J.go (VC.block ?_); refine VC.aV [(0, .v aZ l), (9, .v aZ l), (10, I ((l.length : Nat) : Int)), (11, I ((0 : Nat) : Int))] ⟨rfl, rfl, rfl, rfl, trivial⟩ ?_; refine VC.loop (I := fun kk ff ss => ∃ (j : Nat), kk = l.length - j /\ ff = [(0, .v aZ l), (9, .v aZ l), (10, I ((l.length : Nat) : Int)), (11, I ((j : Nat) : Int))] /\ ss = [] /\ (j <= l.length) /\ (iN l = qU (lC l) j l.length)) ?_ _ _ _ ⟨0, rfl, rfl, rfl, Nat.zero_le _, (by exact if_neg c1)⟩; rintro kk ff ss ⟨j, kJ, rfl, rfl, hj, hw⟩; refine VC.seq (VC.text ?_); refine J.c (.lss) ?_; refine J.go (VC.seq ?_); refine VC.aX rfl (fun c4 => ?_) (fun c4 => ?_)
  . refine VC.skip (VC.seq (VC.block (VC.seq (VC.text ?_)))); refine J.c (.move rfl) (J.c (.ix (j := j) rfl rfl cD (by omega)) ?_); refine J.r (.ld nG) ?_; refine J.cell (.alloc HL) ?_; intro fI; refine J.c (.assign rfl) ?_; refine J.lJ (cs' := [I ((l[j]).1), I ((l[j]).2)]) nG .v ?_; refine J.shut [(4, .p gH (l[j]))] (.cons rfl (.var m0 .refl) .nil) ?_; refine J.go (VC.seq (VC.drawn ?_)); refine VD.r [] (.ld nG) (.inl rfl) ?_; refine VD.call rfl rfl (VF.call (acF )) ?_; refine VD.c (.move rfl) (VD.c (.gtr) (VD.c (.move rfl) ?_)); refine VD.bJ (x := 20) rfl (fun ag5 => ?_) (fun ag5 => ?_)
    . have hv := acJ (l := l) (j := j) (by omega) ag5 (by omega); refine VD.nw [] (VD.c (.fa (.l .o)) ?_); refine VD.r [] (.ld cQ) (.inl rfl) ?_; refine VD.c (.move rfl) (VD.c (.move rfl) (VD.c (.sub rfl rfl (by omega)) ?_)); refine VD.r [] (.max) (.inl rfl) ?_; refine VD.c (.ixZ (k := (max (0 : Int) (((j : Nat) : Int) - (1 : Int)))) rfl rfl cD (by omega) (by omega)) (VD.nw [] (VD.c (.fa (.r .o)) ?_)); refine VD.r [] (.ld cQ) (.inl rfl) ?_; refine VD.c (.leq) (VD.c (.cZ rfl rfl) ?_); refine VD.call rfl rfl (VF.call (kK )) ?_; refine VD.new (.lit [mR (l[j]), eM (decide ((l[j]).1 <= (l[Int.toNat (max (0 : Int) (((j : Nat) : Int) - (1 : Int)))]).2)) (11 : Int)] uR) ?_; refine VD.oE rfl rfl (VF.call (mP (by first | assumption | omega | simp))) ?_; refine VD.nw [33] (VD.c (.assign rfl) ?_); refine VD.go (VC.seq (VC.text ?_)); refine J.c (.move rfl) (J.c (.neq) (J.go ?_)); refine VC.aX rfl (fun c7 => ?_) (fun c7 => ?_)
      . refine VC.seq (VC.text ?_); refine J.c (.move rfl) (J.c (.assign rfl) (J.go ?_)); refine VC.ret ?_; exact aW.one rfl bP (fB (by rw [hw, jT (by omega), hv, if_neg c7]))
      refine VC.skip (VC.text ?_); refine J.c (.add rfl rfl (by omega)) (J.c (.move rfl) ?_); refine J.nil ?_; refine ⟨_, [(0, .v aZ l), (9, .v aZ l), (10, I ((l.length : Nat) : Int)), (11, I (((j + 1) : Nat) : Int))], ?_, ⟨rfl, rfl, rfl, rfl, trivial⟩, (j + 1), rfl, rfl, rfl, (by omega), (by rw [hw, jT (by omega), hv, if_pos (Classical.not_not.1 c7)])⟩; omega
    have hv := acK (l := l) (j := j) (by omega) ag5; refine VD.nw [] (VD.skip (VD.skip (VD.skip ?_))); refine VD.skip (VD.skip (VD.skip (VD.skip ?_))); refine VD.nw [] (VD.skip (VD.skip (VD.skip ?_))); refine VD.c (.bB rfl rfl) ?_; refine VD.call rfl rfl (VF.call (kK )) ?_; refine VD.new (.lit [mR (l[j]), eM false (11 : Int)] uR) ?_; refine VD.oE rfl rfl (VF.call (mP (by first | assumption | omega | simp))) ?_; refine VD.nw [33] (VD.c (.assign rfl) ?_); refine VD.go (VC.seq (VC.text ?_)); refine J.c (.move rfl) (J.c (.neq) (J.go ?_)); refine VC.aX rfl (fun c7 => ?_) (fun c7 => ?_)
    . refine VC.seq (VC.text ?_); refine J.c (.move rfl) (J.c (.assign rfl) (J.go ?_)); refine VC.ret ?_; exact aW.one rfl bP (fB (by rw [hw, jT (by omega), hv, if_neg c7]))
    refine VC.skip (VC.text ?_); refine J.c (.add rfl rfl (by omega)) (J.c (.move rfl) ?_); refine J.nil ?_; refine ⟨_, [(0, .v aZ l), (9, .v aZ l), (10, I ((l.length : Nat) : Int)), (11, I (((j + 1) : Nat) : Int))], ?_, ⟨rfl, rfl, rfl, rfl, trivial⟩, (j + 1), rfl, rfl, rfl, (by omega), (by rw [hw, jT (by omega), hv, if_pos (Classical.not_not.1 c7)])⟩; omega
  refine VC.exit (VC.seq (VC.text ?_)); refine J.c (.assign rfl) (J.go ?_); refine VC.ret ?_; exact aW.one rfl bP (fB (by rw [hw, HM (by omega)]))
theorem UD {a : List (Int × Int)} {b : List (Int × Int)} (ha : a.length < 1000000) (hb : b.length < 1000000) : VF Tryz.prog OA 27 [.v aZ a, .v aZ b] (B (decide (a = b))) := by
  refine VF.enter Tryz.func27 rfl (fun _ _ => rfl) rfl ?_; show VC _ _ _ _ _ [(0, .v aZ a), (1, .v aZ b)] [] _; refine VC.seq (VC.text ?_); refine J.c (.assign rfl) ?_; refine J.go (VC.seq (VC.seq (VC.text ?_))); refine J.c (.move rfl) ?_; refine J.r (.len cD) ?_; refine J.c (.move rfl) ?_; refine J.r (.len cD) ?_; refine J.c (.neq) (J.go ?_); refine VC.aX rfl (fun c1 => ?_) (fun c1 => ?_)
  . refine VC.seq (VC.text ?_); refine J.c (.assign rfl) (J.go ?_); refine VC.ret ?_; exact aW.one rfl bP (fF (by exact (decide_eq_false (fun e => c1 (by rw [e]))).symm))
  refine VC.skip (VC.seq (VC.seq (VC.text ?_))); refine J.c (.assign rfl) ?_; refine J.go (VC.block ?_); refine VC.aV [(0, .v aZ a), (1, .v aZ b), (5, I ((0 : Nat) : Int))] ⟨rfl, rfl, rfl, trivial⟩ ?_; refine VC.loop (I := fun kk ff ss => ∃ (j : Nat), kk = a.length - j /\ ff = [(0, .v aZ a), (1, .v aZ b), (5, I ((j : Nat) : Int))] /\ ss = [] /\ (j <= a.length) /\ (a.length = b.length) /\ (∀ k (h : k < a.length) (h2 : k < b.length), k < j -> a[k] = b[k])) ?_ _ _ _ ⟨0, rfl, rfl, rfl, Nat.zero_le _, (by omega), (by exact fun k _ _ h => absurd h (by omega))⟩; rintro kk ff ss ⟨j, kJ, rfl, rfl, hj, hl, hi⟩; refine VC.seq (VC.seq (VC.text ?_)); refine J.c (.move rfl) (J.c (.move rfl) ?_); refine J.r (.len cD) ?_; refine J.c (.lss) (J.go ?_); refine VC.aX rfl (fun c4 => ?_) (fun c4 => ?_)
  . refine VC.skip (VC.seq (VC.block (VC.seq (VC.drawn ?_)))); refine VD.c (.move rfl) (VD.c (.move rfl) (VD.c (.ix (j := j) rfl rfl cD (by omega)) ?_)); refine VD.r [] (.ld nG) (.inl rfl) ?_; refine VD.c (.move rfl) (VD.c (.move rfl) (VD.nw [] (VD.c (.ix (j := j) rfl rfl cD (by omega)) ?_))); refine VD.r [] (.ld nG) (.inl rfl) ?_; refine VD.c (.amU anH) (VD.go ?_); refine VC.aX rfl (fun c6 => ?_) (fun c6 => ?_)
    . refine VC.seq (VC.text ?_); refine J.c (.assign rfl) (J.go ?_); refine VC.ret ?_; exact aW.one rfl bP (fF (by exact (decide_eq_false (fun h => c6 (List.getElem_of_eq h _))).symm))
    refine VC.skip (VC.text ?_); refine J.c (.move rfl) (J.c (.add rfl rfl (by omega)) (J.c (.assign rfl) ?_)); refine J.nil ?_; refine ⟨_, [(0, .v aZ a), (1, .v aZ b), (5, I (((j + 1) : Nat) : Int))], ?_, ⟨rfl, rfl, rfl, trivial⟩, (j + 1), rfl, rfl, rfl, (by omega), (by omega), (by exact fun k h h2 h3 => if e : k = j then (by subst e; exact Classical.not_not.1 c6) else hi k h h2 (by omega))⟩; omega
  refine VC.exit (VC.seq (VC.text ?_)); refine J.c (.assign rfl) (J.go ?_); refine VC.ret ?_; exact aW.one rfl bP (fF (by exact (decide_eq_true (List.ext_getElem hl (fun k h h2 => hi k h h2 (by omega)))).symm))
theorem DX {l : List (Int × Int)} {n : Int} : VF Tryz.prog OA 16 [.v aZ l, I n] (B (decide ((l.length : Int) <= n) || decide ((l.length : Int) = 2049))) := by
  refine VF.enter Tryz.func16 rfl (fun _ _ => rfl) rfl ?_; show VC _ _ _ _ _ [(0, .v aZ l), (1, I n)] [] _; refine VC.seq (VC.text ?_); refine J.c (.assign rfl) ?_; refine J.go (VC.seq (VC.text ?_)); refine J.c (.move rfl) ?_; refine J.r (.len cD) ?_; refine J.c (.move rfl) (J.c (.leq) (J.c (.move rfl) ?_)); refine J.cg (r := decide (((l.length : Nat) : Int) <= n)) (w := false) [] trivial (fun _ => (.move rfl)) ?_; refine J.rg (r := decide (((l.length : Nat) : Int) <= n)) (w := false) [(10, .v aZ l)] ⟨rfl, trivial⟩ (fun _ => (.len cD)) ?_; refine J.cg (r := decide (((l.length : Nat) : Int) <= n)) (w := false) [(11, I ((l.length : Nat) : Int))] ⟨rfl, trivial⟩ (fun _ => (.eql)) ?_; refine J.c (.or) (J.c (.assign rfl) (J.go ?_)); refine VC.ret ?_; exact aW.one rfl bP (fF (by first | rfl | simp [*]))
theorem UE {l : List Int} {n : Int} (hl : l.length < 1000000) : VF Tryz.prog OA 128 [.v j8 l, I n] (B (l.any fun x => decide (x = n))) := by
  refine VF.enter Tryz.func128 rfl (fun _ _ => rfl) rfl ?_; show VC _ _ _ _ _ [(0, .v j8 l), (1, I n)] [] _; refine VC.seq (VC.text ?_); refine J.c (.assign rfl) ?_; refine J.go (VC.seq (VC.seq (VC.text ?_))); refine J.c (.assign rfl) ?_; refine J.go (VC.block ?_); refine VC.aV [(0, .v j8 l), (1, I n), (5, I ((0 : Nat) : Int))] ⟨rfl, rfl, rfl, trivial⟩ ?_; refine VC.loop (I := fun kk ff ss => ∃ (j : Nat), kk = l.length - j /\ ff = [(0, .v j8 l), (1, I n), (5, I ((j : Nat) : Int))] /\ ss = [] /\ (j <= l.length) /\ (∀ k (h : k < l.length), k < j -> ¬ l[k] = n)) ?_ _ _ _ ⟨0, rfl, rfl, rfl, Nat.zero_le _, (by exact fun k _ h => absurd h (by omega))⟩; rintro kk ff ss ⟨j, kJ, rfl, rfl, hj, hi⟩; refine VC.seq (VC.seq (VC.text ?_)); refine J.c (.move rfl) (J.c (.move rfl) ?_); refine J.r (.len mO) ?_; refine J.c (.lss) (J.go ?_); refine VC.aX rfl (fun c2 => ?_) (fun c2 => ?_)
  . refine VC.skip (VC.seq (VC.block (VC.seq (VC.text ?_)))); refine J.c (.move rfl) (J.c (.move rfl) (J.c (.ix (j := j) rfl rfl mO (by omega)) ?_)); refine J.r (.ld cQ) ?_; refine J.c (.move rfl) (J.c (.eql) (J.go ?_)); refine VC.aX rfl (fun c4 => ?_) (fun c4 => ?_)
    . refine VC.seq (VC.text ?_); refine J.c (.assign rfl) (J.go ?_); refine VC.ret ?_; exact aW.one rfl bP (fF (by exact (List.any_eq_true.2 ⟨_, List.getElem_mem (show j < l.length by omega), decide_eq_true c4⟩).symm))
    refine VC.skip (VC.text ?_); refine J.c (.move rfl) (J.c (.add rfl rfl (by omega)) (J.c (.assign rfl) ?_)); refine J.nil ?_; refine ⟨_, [(0, .v j8 l), (1, I n), (5, I (((j + 1) : Nat) : Int))], ?_, ⟨rfl, rfl, rfl, trivial⟩, (j + 1), rfl, rfl, rfl, (by omega), (by exact fun k h h3 => if e : k = j then (by subst e; exact c4) else hi k h (by omega))⟩; omega
  refine VC.exit (VC.seq (VC.text ?_)); refine J.c (.assign rfl) (J.go ?_); refine VC.ret ?_; exact aW.one rfl bP (fF (by exact (List.any_eq_false.2 fun x hx => by obtain ⟨k, h, rfl⟩ := List.mem_iff_getElem.1 hx; simpa using hi k h (by omega)).symm))
theorem OV {d : Int} : ∀ {l : List (Int × Int)}, (Sp.lT l d).length = 2 * l.length
  | [] => rfl
  | s :: l => by
    have e : Sp.lT (s :: l) d = (s.1, d) :: (s.2, -d) :: Sp.lT l d := rfl; rw [e, List.length_cons, List.length_cons, OV, List.length_cons]; omega
end Go.Proofs
namespace Go.Fs
variable {P : Program} {fl : VL} {σ : aR} {T T' : TypeId} {x y : Operand}
def UF (p q : Int) : Int := if q = 1 then p % 2 else 2 * (p / 2)
theorem aI.UF {p q : Int} (hx : aS fl x = some (.v (.int .i64) p)) (hy : aS fl y = some (.v (.int .i64) q)) (hp : 0 <= p /\ p <= 3) (hq : q = 1 \/ q = 2) : aI P fl σ (.binOp .and T x y T') (.v (.int .i64) (Fs.UF p q)) :=
  .rO hx hy (u := .int .i64 (Fs.UF p q)) (by
    have h : p = 0 \/ p = 1 \/ p = 2 \/ p = 3 := by omega
    rcases h with rfl | rfl | rfl | rfl <;> rcases hq with rfl | rfl <;> rfl) fun h S => aE.ofInt _ _
end Go.Fs
namespace Go.Proofs
open Go.Fs
set_option maxHeartbeats 2000000
def DY (x n : Int) : Int := if UF x n = 0 then x + n else x
def bN (m : List Int) (p : Int -> Bool) (n : Int) : List Int := (List.range m.length).map fun (t : Nat) => if p (t : Int) = true then DY (m.getD t 0) n else m.getD t 0
theorem eW {m : List Int} {p : Int -> Bool} {n : Int} : (bN m p n).length = m.length := by simp [bN]
theorem nC {m : List Int} {p : Int -> Bool} {n : Int} {t : Nat} (h : t < m.length) : (bN m p n)[t]'(by rw [eW]; exact h) = if p (t : Int) = true then DY m[t] n else m[t] := by
  unfold bN; rw [List.getElem_map, List.getElem_range, getD_at h]
theorem UG {m : List Int} {n : Int} {p : Int -> Bool} (h : ∀ t : Nat, t < m.length -> p t = false) : bN m p n = m := by
  refine List.ext_getElem eW fun i h1 h2 => ?_; rw [nC h2, h i h2] <;> rfl
theorem LS {m : List Int} {n : Int} {p q : Int -> Bool} (h : ∀ t : Nat, t < m.length -> p t = q t) : bN m p n = bN m q n := by
  refine List.ext_getElem (by rw [eW, eW]) fun i h1 h2 => ?_
  have h3 : i < m.length := by rw [eW] at h1; exact h1
  rw [nC h3, nC h3, h i h3]
theorem YG {m : List Int} {n : Int} {p q : Int -> Bool} {t : Nat} (ht : t < m.length) (hq : q t = true) (IA : ∀ u : Nat, u ≠ t -> q u = p u) (ho : DY (DY m[t] n) n = DY m[t] n) : bN m q n = (bN m p n).set t (DY ((bN m p n)[t]'(by rw [eW]; exact ht)) n) := by
  refine List.ext_getElem (by rw [List.length_set, eW, eW]) fun i h1 h2 => ?_
  have h3 : i < m.length := by rw [eW] at h1; exact h1
  rw [nC h3, List.getElem_set]; by_cases e : t = i
  . subst e; rw [if_pos rfl, nC ht, hq, if_pos rfl]; by_cases hp : p (t : Int) = true
    . rw [if_pos hp, ho]
    rw [if_neg hp]
  rw [if_neg e, nC h3, IA i (fun h => e h.symm)]
theorem UH {x n : Int} (hx : 0 <= x /\ x <= 3) (hn : n = 1 \/ n = 2) : DY (DY x n) n = DY x n /\ 0 <= DY x n /\ DY x n <= 3 := by
  have h : x = 0 \/ x = 1 \/ x = 2 \/ x = 3 := by omega
  rcases h with rfl | rfl | rfl | rfl <;> rcases hn with rfl | rfl <;> decide
theorem vK {m : List Int} {p : Int -> Bool} {n : Int} (hr : ∀ x ∈ m, 0 <= x /\ x <= 3) (hn : n = 1 \/ n = 2) : ∀ x ∈ bN m p n, 0 <= x /\ x <= 3 := fun x hx => by
  obtain ⟨i, hi, rfl⟩ := List.mem_iff_getElem.1 hx
  have h3 : i < m.length := by rw [eW] at hi; exact hi
  rw [nC h3]; have h4 := hr _ (List.getElem_mem h3); split
  . exact (UH h4 hn).2
  exact h4
def lY (l : List (Int × Int)) (i : Nat) (t : Int) (u : Int) : Bool := Sp.bE (l.take i) u || (decide ((jF l i).1 <= u) && decide (u < t))
theorem R0 {l : List (Int × Int)} {i : Nat} {t u : Int} (h : t <= (jF l i).1) : lY l i t u = Sp.bE (l.take i) u := by
  unfold lY; by_cases h1 : (jF l i).1 <= u
  . rw [decide_eq_false (show ¬ u < t by omega)]; simp
  rw [decide_eq_false h1]; simp
theorem FR {l : List (Int × Int)} {i : Nat} {t u : Int} (hi : i < l.length) (h : t = l[i].2) : lY l i t u = Sp.bE (l.take (i + 1)) u := by
  unfold lY; rw [List.take_succ_eq_append_getElem hi, Sp.yX, fJ hi, h]; simp [Sp.bE]
theorem BR {l : List (Int × Int)} {i t : Nat} (h : (jF l i).1 <= t) : lY l i ((t + 1 : Nat) : Int) t = true := by
  unfold lY; rw [decide_eq_true h, decide_eq_true (show (t : Int) < ((t + 1 : Nat) : Int) by omega)]; simp
theorem yY {l : List (Int × Int)} {i t u : Nat} (h : u ≠ t) : lY l i ((t + 1 : Nat) : Int) u = lY l i t u := by
  unfold lY; congr 2; exact decide_eq_decide.2 (by omega)
theorem YH {m : List Int} {l : List (Int × Int)} {n : Int} {i t : Nat} (hr : ∀ x ∈ m, 0 <= x /\ x <= 3) (hn : n = 1 \/ n = 2) (ht : t < m.length) (h : (jF l i).1 <= t) : bN m (lY l i ((t + 1 : Nat) : Int)) n = (bN m (lY l i t) n).set t (DY ((bN m (lY l i t) n)[t]'(by rw [eW]; exact ht)) n) :=
  YG ht (BR h) (fun u hu => yY hu) (UH (hr _ (List.getElem_mem ht)) hn).1
theorem LU {DZ : Value} {m : List Int} {l : List (Int × Int)} {n : Int} (hm : m.length = 100001) (hr : ∀ x ∈ m, 0 <= x /\ x <= 3) (hl : l.length < 1000000) (hs : ∀ s ∈ l, 0 <= s.1 /\ s.1 < s.2 /\ s.2 <= 100000) (hn : n = 1 \/ n = 2) : gV Tryz.prog OA 127 [.raw DZ, .v aZ l, I n] [(DZ, .row 3 (.int .i64) m)] (fun r g => r = .oD [] /\ g = [(DZ, .row 3 (.int .i64) (bN m (Sp.bE l) n))]) := by
  refine gV.enter Tryz.func127 rfl (fun _ _ => rfl) rfl ?_; show VC _ _ _ _ _ [(0, .raw DZ), (1, .v aZ l), (2, I n)] [(DZ, .row 3 (.int .i64) m)] _; refine VC.seq (VC.text ?_); refine J.c (.assign rfl) ?_; refine J.go (VC.block ?_); refine VC.aV [(0, .raw DZ), (1, .v aZ l), (2, I n), (6, I ((0 : Nat) : Int))] ⟨rfl, rfl, rfl, rfl, trivial⟩ ?_; refine VC.loop (I := fun kk ff ss => ∃ (i : Nat), kk = l.length - i /\ ff = [(0, .raw DZ), (1, .v aZ l), (2, I n), (6, I ((i : Nat) : Int))] /\ ss = [(DZ, .row 3 (.int .i64) (bN m (Sp.bE (l.take i)) n))] /\ (i <= l.length)) ?_ _ _ _ ⟨0, rfl, rfl, (by rw [UG (fun _ _ => rfl)]), Nat.zero_le _⟩; rintro kk ff ss ⟨i, kJ, rfl, rfl, hi⟩; refine VC.seq (VC.seq (VC.text ?_)); refine J.c (.move rfl) (J.c (.move rfl) ?_); refine J.r (.len cD) ?_; refine J.c (.lss) (J.go ?_); refine VC.aX rfl (fun c1 => ?_) (fun c1 => ?_)
  . have nZ : i < l.length := by omega
    have hsi := hs _ (List.getElem_mem nZ); have hx := fJ nZ; refine VC.skip (VC.seq (VC.block (VC.seq (VC.text ?_)))); refine J.c (.move rfl) (J.c (.move rfl) (J.c (.ix (j := i) rfl rfl cD (by omega)) (J.c (.fa (.l .o)) ?_))); refine J.r (.ld cQ) ?_; refine J.c (.assign rfl) ?_; refine J.go (VC.block ?_); refine VC.aV [(0, .raw DZ), (1, .v aZ l), (2, I n), (6, I ((i : Nat) : Int)), (7, I ((((l[i]).1.toNat) : Nat) : Int))] ⟨rfl, rfl, rfl, rfl, vH rfl (by omega), trivial⟩ ?_; refine VC.loop (I := fun kk ff ss => ∃ (t : Nat), kk = 100001 - t /\ ff = [(0, .raw DZ), (1, .v aZ l), (2, I n), (6, I ((i : Nat) : Int)), (7, I ((t : Nat) : Int))] /\ ss = [(DZ, .row 3 (.int .i64) (bN m (lY l i t) n))] /\ ((t : Int) <= (l[i]).2) /\ ((l[i]).1 <= t)) ?_ _ _ _ ⟨(l[i]).1.toNat, rfl, rfl, (by rw [LS (q := Sp.bE (l.take i)) fun u _ => R0 (by rw [hx]; omega)]), (by omega), (by omega)⟩; rintro kk ff ss ⟨t, yE, rfl, rfl, ht, h0⟩; refine VC.seq (VC.seq (VC.text ?_)); refine J.c (.move rfl) (J.c (.move rfl) (J.c (.move rfl) (J.c (.ix (j := i) rfl rfl cD (by omega)) ?_))); refine J.c (.fa (.r .o)) ?_; refine J.r (.ld cQ) ?_; refine J.c (.lss) (J.go ?_); refine VC.aX rfl (fun c4 => ?_) (fun c4 => ?_)
    . have bO : t < m.length := by omega
      have hlm : (bN m (lY l i t) n).length = 100001 := by rw [eW, hm]
      have SK := vK (p := lY l i t) hr hn _ (List.getElem_mem (show t < (bN m (lY l i t) n).length by omega)); have xH := YH (l := l) (i := i) hr hn bO (by rw [hx]; exact h0); refine VC.skip (VC.seq (VC.block (VC.seq (VC.text ?_)))); refine J.c (.move rfl) (J.c (.move rfl) (J.c (.AP (j := t) rfl rfl m0 mO (by omega)) ?_)); refine J.r (.TL rfl m0 cQ (by omega)) ?_; refine J.c (.move rfl) (J.c (.UF rfl rfl (by omega) (by omega)) (J.c (.eql) (J.go ?_))); refine VC.aX rfl (fun c6 => ?_) (fun c6 => ?_)
      . have ho : DY ((bN m (lY l i t) n)[t]'(by omega)) n = (bN m (lY l i t) n)[t]'(by omega) + n := if_pos c6; refine VC.text ?_; refine J.c (.move rfl) (J.c (.move rfl) (J.c (.move rfl) (J.c (.move rfl) ?_))); refine J.c (.AP (j := t) rfl rfl m0 mO (by omega)) ?_; refine J.r (.TL rfl m0 cQ (by omega)) ?_; refine J.c (.move rfl) (J.c (.add rfl rfl (by omega)) (J.c (.AP (j := t) rfl rfl m0 mO (by omega)) ?_)); refine J.AZ t rfl rfl cQ (by omega) ?_; refine J.nil (VC.text ?_); refine J.c (.move rfl) (J.c (.add rfl rfl (by omega)) (J.c (.assign rfl) ?_)); refine J.nil ?_; refine ⟨_, [(0, .raw DZ), (1, .v aZ l), (2, I n), (6, I ((i : Nat) : Int)), (7, I (((t + 1) : Nat) : Int))], ?_, ⟨rfl, rfl, rfl, rfl, rfl, trivial⟩, (t + 1), rfl, rfl, (by first | rw [xH, ho, List.set_getElem_self] | rw [xH, ho]), (by omega), (by omega)⟩; omega
      have ho : DY ((bN m (lY l i t) n)[t]'(by omega)) n = (bN m (lY l i t) n)[t]'(by omega) := if_neg c6; refine VC.skip (VC.text ?_); refine J.c (.move rfl) (J.c (.add rfl rfl (by omega)) (J.c (.assign rfl) ?_)); refine J.nil ?_; refine ⟨_, [(0, .raw DZ), (1, .v aZ l), (2, I n), (6, I ((i : Nat) : Int)), (7, I (((t + 1) : Nat) : Int))], ?_, ⟨rfl, rfl, rfl, rfl, rfl, trivial⟩, (t + 1), rfl, rfl, (by first | rw [xH, ho, List.set_getElem_self] | rw [xH, ho]), (by omega), (by omega)⟩; omega
    refine VC.exit (VC.text ?_); refine J.c (.move rfl) (J.c (.add rfl rfl (by omega)) (J.c (.assign rfl) ?_)); refine J.nil ?_; refine ⟨_, [(0, .raw DZ), (1, .v aZ l), (2, I n), (6, I (((i + 1) : Nat) : Int))], ?_, ⟨rfl, rfl, rfl, rfl, trivial⟩, (i + 1), rfl, rfl, (by rw [LS (q := Sp.bE (l.take (i + 1))) fun u _ => FR nZ (by omega)]), (by omega)⟩; omega
  refine VC.exit ?_
  conv => whnf
  exact ⟨rfl, [], .nil, ⟨rfl, (by rw [List.take_of_length_le (by omega)])⟩, .inr (.inl ⟨rfl, List.all_eq_true.1 rfl⟩)⟩
end Go.Proofs
namespace Go.Proofs
open Go.Fs
set_option maxHeartbeats 2000000
theorem zt3 : r6 Tryz.prog 3 (.int .i64) := nX (z := .int .i64 0) (by kernel_rfl) rfl rfl
theorem UI : L4 Tryz.prog 39 gH [(0, 1), (1, 1)] := DR HL rfl (by kernel_rfl)
@[irreducible] def bR : List Int := List.replicate 100001 0
theorem BS : bR = List.replicate 100001 0 := by unfold bR; rfl
theorem ag6 : List.replicate 100001 (wP (Ty.int .i64)) = bR := BS.symm
theorem ag7 : ∃ n : Nat, n = 100001 := ⟨100001, rfl⟩
noncomputable def mT : Nat := Classical.choose ag7
theorem LV : mT = 100001 := Classical.choose_spec ag7
theorem oC : bR.length = 100001 := by rw [BS]; exact List.length_replicate
theorem UJ : ∀ x ∈ bR, x = 0 := fun x hx => by
  rw [BS] at hx; exact List.eq_of_mem_replicate hx
theorem LW : ∀ x ∈ bR, 0 <= x /\ x <= 3 := fun x hx => by
  have := UJ x hx; omega
theorem HN {a b : List (Int × Int)} : (bN (bN bR (Sp.bE a) 1) (Sp.bE b) 2).length = 100001 := by rw [eW, eW, oC]
theorem YI {a b : List (Int × Int)} {t : Nat} (h : t < (bN (bN bR (Sp.bE a) 1) (Sp.bE b) 2).length) : (bN (bN bR (Sp.bE a) 1) (Sp.bE b) 2)[t] = Sp.jY a b t := by
  have h1 : t < bR.length := by rw [oC]; rw [HN] at h; exact h
  have h2 : t < (bN bR (Sp.bE a) 1).length := by rw [eW]; exact h1
  have e : bR[t] = 0 := UJ _ (List.getElem_mem h1); rw [nC h2, nC h1, e]; unfold Sp.jY; cases Sp.bE a (t : Int) <;> cases Sp.bE b (t : Int) <;> decide
def jZ (a b : List (Int × Int)) (want : List Int) (t : Int) : Bool := decide (Sp.jY a b t ≠ 0) && want.any fun x => decide (x = Sp.jY a b t)
theorem OW {p : Int -> Bool} : ∀ {t : Nat}, (Sp.bG p t).2.length <= t
  | 0 => Nat.le_refl _
  | t + 1 => by
    have ih := OW (p := p) (t := t); rw [Sp.bG]; unfold Sp.nM; split
    . show (Sp.bG p t).2.length <= _; omega
    split
    . show ((Sp.bG p t).2 ++ _).length <= _; rw [List.length_append]
      simp; omega
    omega
def pN (p : Int -> Bool) (t : Nat) : Int := if p t = true /\ (Sp.bG p t).1 < 0 then (t : Int) else (Sp.bG p t).1
theorem OX {b : Bool} {P : Prop} (h : b = false \/ ¬ P) : ¬ (b = true /\ P) := fun h2 => by
  rcases h with h | h
  . rw [h] at h2; exact absurd h2.1 (by decide)
  exact h h2.2
theorem aiJ {p : Int -> Bool} {t : Nat} (h : p t = false /\ 0 <= pN p t) : Sp.bG p (t + 1) = (-1, (Sp.bG p t).2 ++ [(pN p t, (t : Int))]) := by
  have e : pN p t = (Sp.bG p t).1 := if_neg (fun h2 => by rw [h.1] at h2; exact absurd h2.1 (by decide)); rw [e] at h ⊢; show Sp.nM p t (Sp.bG p t) = _; unfold Sp.nM; rw [if_neg (fun h2 => by rw [h.1] at h2; exact absurd h2.1 (by decide)), if_pos h]
theorem aiK {p : Int -> Bool} {t : Nat} (h : p t = true \/ ¬ 0 <= pN p t) : Sp.bG p (t + 1) = (pN p t, (Sp.bG p t).2) := by
  show Sp.nM p t (Sp.bG p t) = _; unfold Sp.nM pN at *; by_cases h1 : p t = true /\ (Sp.bG p t).1 < 0
  . rw [if_pos h1, if_pos h1]
  rw [if_neg h1] at h ⊢
  rw [if_neg h1, if_neg (fun h2 => by
    rcases h with h | h
    . rw [h] at h2; exact absurd h2.1 (by decide)
    exact h h2.2)]
theorem UK {a : List (Int × Int)} {b : List (Int × Int)} {want : List Int} (ha : a.length < 1000000) (hb : b.length < 1000000) (hw : want.length < 1000000) (hsa : ∀ s ∈ a, 0 <= s.1 /\ s.1 < s.2 /\ s.2 <= 100000) (SL : ∀ s ∈ b, 0 <= s.1 /\ s.1 < s.2 /\ s.2 <= 100000) : VF Tryz.prog OA 80 [.v aZ a, .v aZ b, .v j8 want] (.v aZ ((Sp.bG (jZ a b want) mT).2)) := by
  refine VF.enter Tryz.func80 rfl (fun _ _ => rfl) rfl ?_; show VC _ _ _ _ _ [(0, .v aZ a), (1, .v aZ b), (2, .v j8 want)] [] _; refine VC.seq (VC.text ?_); refine J.c (.assign rfl) ?_; refine J.go (VC.seq (VC.text ?_)); refine J.cell (.make (k := 100001) rfl rfl mO zt3 (by omega)) ?_; intro fI; refine J.c (.assign rfl) ?_; rw [ag6]; refine J.go (VC.seq (VC.text ?_)); refine J.c (.move rfl) (J.c (.move rfl) ?_); refine J.pL [(fI, .row 3 (.int .i64) bR)] rfl rfl rfl (gV.call (LU oC LW ha hsa (.inl rfl))) ?_; rintro _ _ ⟨rfl, rfl⟩; show J _ _ _ _ _ _ [(fI, .row 3 (.int .i64) (bN bR (Sp.bE a) (1 : Int)))] _; refine J.go (VC.seq (VC.text ?_)); refine J.c (.move rfl) (J.c (.move rfl) ?_); refine J.pL [(fI, .row 3 (.int .i64) (bN bR (Sp.bE a) (1 : Int)))] rfl rfl rfl (gV.call (LU (by rw [eW]; exact oC) (vK LW (.inl rfl)) hb SL (.inr rfl))) ?_; rintro _ _ ⟨rfl, rfl⟩; show J _ _ _ _ _ _ [(fI, .row 3 (.int .i64) (bN (bN bR (Sp.bE a) (1 : Int)) (Sp.bE b) (2 : Int)))] _; refine J.go (VC.seq (VC.text ?_)); refine J.c (.assign rfl) ?_; refine J.go (VC.seq (VC.text ?_)); refine J.c (.assign rfl) ?_; refine J.go (VC.seq (VC.seq (VC.text ?_))); refine J.c (.assign rfl) ?_; refine J.go (VC.block ?_); refine VC.cell0 39 gH ?_; refine VC.aV [(2, .v j8 want), (7, .raw fI), (8, .raw (.slice none 0 0)), (9, I ((Sp.bG (jZ a b want) 0).1)), (10, I ((0 : Nat) : Int))] ⟨rfl, rfl, rfl, rfl, rfl, trivial⟩ ?_; refine VC.loop (I := fun kk ff ss => ∃ (t : Nat) (out : Value), kk = mT - t /\ ff = [(2, .v j8 want), (7, .raw fI), (8, .raw out), (9, I ((Sp.bG (jZ a b want) t).1)), (10, I ((t : Nat) : Int))] /\ ss = [(out, .row 39 gH ((Sp.bG (jZ a b want) t).2)), (fI, .row 3 (.int .i64) (bN (bN bR (Sp.bE a) (1 : Int)) (Sp.bE b) (2 : Int)))] /\ (t <= mT)) ?_ _ _ _ ⟨0, (.slice none 0 0), rfl, rfl, rfl, Nat.zero_le _⟩; rintro kk ff ss ⟨t, out, kJ, rfl, rfl, ht⟩; refine VC.seq (VC.seq (VC.text ?_)); refine J.c (.move rfl) (J.c (.leq) (J.go ?_)); refine VC.aX rfl (fun c7 => ?_) (fun c7 => ?_)
  . have hmT := LV; have hml := HN (a := a) (b := b)
    have hmt : t < (bN (bN bR (Sp.bE a) 1) (Sp.bE b) 2).length := by omega
    have hp : jZ a b want t = (decide ((bN (bN bR (Sp.bE a) 1) (Sp.bE b) 2)[t] ≠ 0) && want.any fun x => decide (x = (bN (bN bR (Sp.bE a) 1) (Sp.bE b) 2)[t])) := by rw [YI hmt] <;> rfl
    refine VC.skip (VC.seq (VC.block (VC.seq (VC.text ?_)))); refine J.c (.move rfl) (J.c (.move rfl) (J.c (.AP (j := t) rfl rfl m1 mO (by omega)) ?_)); refine J.r (.TL rfl m1 cQ (by omega)) ?_; refine J.c (.neq) (J.c (.move rfl) ?_); refine J.cg (r := decide ((bN (bN bR (Sp.bE a) (1 : Int)) (Sp.bE b) (2 : Int))[t] ≠ (0 : Int))) (w := true) [] trivial (fun _ => (.move rfl)) ?_; refine J.cg (r := decide ((bN (bN bR (Sp.bE a) (1 : Int)) (Sp.bE b) (2 : Int))[t] ≠ (0 : Int))) (w := true) [] trivial (fun _ => (.move rfl)) ?_; refine J.cg (r := decide ((bN (bN bR (Sp.bE a) (1 : Int)) (Sp.bE b) (2 : Int))[t] ≠ (0 : Int))) (w := true) [] trivial (fun _ => (.move rfl)) ?_; refine J.cg (r := decide ((bN (bN bR (Sp.bE a) (1 : Int)) (Sp.bE b) (2 : Int))[t] ≠ (0 : Int))) (w := true) [(30, .raw fI), (31, I ((t : Nat) : Int))] ⟨rfl, rfl, trivial⟩ (fun iK => have ajV : (bN (bN bR (Sp.bE a) (1 : Int)) (Sp.bE b) (2 : Int))[t] ≠ (0 : Int) := (by simpa using iK); (.AP (j := t) rfl rfl m1 mO (by exact hmt))) ?_; refine J.rg (r := decide ((bN (bN bR (Sp.bE a) (1 : Int)) (Sp.bE b) (2 : Int))[t] ≠ (0 : Int))) (w := true) [(32, .raw (fS fI 1 t))] ⟨rfl, trivial⟩ (fun iK => have ajV : (bN (bN bR (Sp.bE a) (1 : Int)) (Sp.bE b) (2 : Int))[t] ≠ (0 : Int) := (by simpa using iK); (.TL rfl m1 cQ (by exact hmt))) ?_; refine J.L7 (r0 := decide ((bN (bN bR (Sp.bE a) (1 : Int)) (Sp.bE b) (2 : Int))[t] ≠ (0 : Int))) (w := true) [(29, .v j8 want), (33, I ((bN (bN bR (Sp.bE a) (1 : Int)) (Sp.bE b) (2 : Int))[t]))] ⟨rfl, rfl, trivial⟩ rfl rfl .same .refl rfl (fun iK => have ajV : (bN (bN bR (Sp.bE a) (1 : Int)) (Sp.bE b) (2 : Int))[t] ≠ (0 : Int) := (by simpa using iK); VF.call (UE (by first | assumption | omega | simp))) ?_; refine J.c (.and) ?_; rw [<- hp]; refine J.c (.assign rfl) ?_; refine J.go (VC.seq (VC.seq (VC.text ?_))); refine J.c (.move rfl) (J.c (.move rfl) ?_); refine J.cg (r := jZ a b want t) (w := true) [] trivial (fun _ => (.move rfl)) ?_; refine J.cg (r := jZ a b want t) (w := true) [(38, I ((Sp.bG (jZ a b want) t).1))] ⟨rfl, trivial⟩ (fun _ => (.lss)) ?_; refine J.c (.and) (J.go ?_); refine VC.join [(2, .v j8 want), (7, .raw fI), (8, .raw out), (9, I (pN (jZ a b want) t)), (10, I ((t : Nat) : Int)), (11, B (jZ a b want t))] [(out, .row 39 gH ((Sp.bG (jZ a b want) t).2)), (fI, .row 3 (.int .i64) (bN (bN bR (Sp.bE a) (1 : Int)) (Sp.bE b) (2 : Int)))] ?_ ?_; refine VC.eR rfl (fun r7 => ?_) (fun r7 => ?_)
    . try simp only [Bool.and_eq_true, Bool.or_eq_true, Bool.and_eq_false_iff, Bool.or_eq_false_iff, Bool.not_eq_true', Bool.not_eq_false', decide_eq_true_eq, decide_eq_false_iff_not] at r7
      refine VC.text ?_; refine J.c (.move rfl) (J.c (.assign rfl) ?_); refine J.nil ?_; exact ⟨⟨rfl, rfl, rfl, vH rfl (by first | (rw [pN, if_pos r7]) | (rw [pN, if_neg (OX r7)])), rfl, rfl, trivial⟩, rfl⟩
    . try simp only [Bool.and_eq_true, Bool.or_eq_true, Bool.and_eq_false_iff, Bool.or_eq_false_iff, Bool.not_eq_true', Bool.not_eq_false', decide_eq_true_eq, decide_eq_false_iff_not] at r7
      refine VC.skip ?_; exact ⟨⟨rfl, rfl, rfl, vH rfl (by first | (rw [pN, if_pos r7]) | (rw [pN, if_neg (OX r7)])), rfl, rfl, trivial⟩, rfl⟩
    refine VC.seq (VC.text ?_); refine J.c (.move rfl) (J.c (.not) (J.c (.move rfl) ?_)); refine J.cg (r := (!(jZ a b want t))) (w := true) [] trivial (fun _ => (.move rfl)) ?_; refine J.cg (r := (!(jZ a b want t))) (w := true) [(45, I (pN (jZ a b want) t))] ⟨rfl, trivial⟩ (fun _ => (.geq)) ?_; refine J.c (.and) (J.go ?_); refine VC.eR rfl (fun c12 => ?_) (fun c12 => ?_)
    . try simp only [Bool.and_eq_true, Bool.or_eq_true, Bool.and_eq_false_iff, Bool.or_eq_false_iff, Bool.not_eq_true', Bool.not_eq_false', decide_eq_true_eq, decide_eq_false_iff_not] at c12
      have hs := aiJ c12; have vB := OW (p := jZ a b want) (t := t); refine VC.seq (VC.text ?_); refine J.c (.move rfl) (J.c (.move rfl) (J.c (.move rfl) (J.c (.build (pN (jZ a b want) t, ((t : Nat) : Int)) UI) ?_))); refine J.new (.lit [(pN (jZ a b want) t, ((t : Nat) : Int))] cD) ?_; refine J.app rfl rfl cD cD (by simp; omega) ?_; intro tN; refine J.c (.assign rfl) ?_; refine J.go (VC.text ?_); refine J.c (.assign rfl) ?_; refine J.nil (VC.text ?_); refine J.c (.move rfl) (J.c (.add rfl rfl (by omega)) (J.c (.assign rfl) ?_)); refine J.nil ?_; refine ⟨_, [(2, .v j8 want), (7, .raw fI), (8, .raw tN), (9, I ((Sp.bG (jZ a b want) (t + 1)).1)), (10, I (((t + 1) : Nat) : Int))], ?_, ⟨rfl, rfl, rfl, vH rfl (by rw [hs]), rfl, trivial⟩, (t + 1), tN, rfl, rfl, (by rw [hs]), (by omega)⟩; omega
    try simp only [Bool.and_eq_true, Bool.or_eq_true, Bool.and_eq_false_iff, Bool.or_eq_false_iff, Bool.not_eq_true', Bool.not_eq_false', decide_eq_true_eq, decide_eq_false_iff_not] at c12
    have hs := aiK c12; refine VC.skip (VC.text ?_); refine J.c (.move rfl) (J.c (.add rfl rfl (by omega)) (J.c (.assign rfl) ?_)); refine J.nil ?_; refine ⟨_, [(2, .v j8 want), (7, .raw fI), (8, .raw out), (9, I ((Sp.bG (jZ a b want) (t + 1)).1)), (10, I (((t + 1) : Nat) : Int))], ?_, ⟨rfl, rfl, rfl, vH rfl (by rw [hs]), rfl, trivial⟩, (t + 1), out, rfl, rfl, (by rw [hs]), (by omega)⟩; omega
  have hmT := LV; refine VC.exit (VC.seq (VC.text ?_)); refine J.c (.move rfl) (J.c (.assign rfl) (J.go ?_)); refine VC.ret ?_; exact aW.one rfl (L8 (.row m0)) (fF (by rw [show t = mT by omega]))
end Go.Proofs
namespace Go.Fs
variable {P : Program} {fl : VL} {σ : aR} {T : TypeId} {x y : Operand} {τ : Ty}
def HO {α : Type} (d : α × α × α × α) (z : Int) : α := if z = 0 then d.1 else if z = 1 then d.2.1 else if z = 2 then d.2.2.1 else d.2.2.2
end Go.Fs
namespace Go.Proofs
open Go.Fs
set_option maxHeartbeats 2000000
theorem r8 {α : Type} {l : List (List α)} (j : Nat) : (l.take j).flatten.length <= l.flatten.length := by
  have : l.flatten = (l.take j).flatten ++ (l.drop j).flatten := by rw [<- List.flatten_append, List.take_append_drop]
  rw [this, List.length_append]; omega
theorem eX {α : Type} {l : List (List α)} {j : Nat} (hj : j < l.length) : (l.take (j + 1)).flatten = (l.take j).flatten ++ l[j] := by
  rw [List.take_succ_eq_append_getElem hj, List.flatten_append]; simp
theorem ltE {x y : Int × Int} : Go.Proofs.ltOf aaG x y = decide (x.1 < y.1) := by
  unfold Go.Proofs.ltOf aaG Lib.compareInt; by_cases h1 : x.1 < y.1
  . simp [h1]
  by_cases h2 : y.1 < x.1 <;> simp [h1, h2]
theorem ajW : Go.Sort.SWO (Go.Proofs.ltOf aaG) where
  irrefl x := by rw [ltE]; simp
  trans x y z h1 h2 := by rw [ltE] at *; simp at *; omega
  ntrans x y z h1 h2 := by rw [ltE] at *; simp at *; omega
abbrev R1 (l : List (Int × Int)) : List (Int × Int) := Go.Fs.BP (τ := .pair (.int .i64) (.int .i64)) aaG l
theorem NK (l : List (Int × Int)) : (R1 l).Pairwise fun a b => a.1 <= b.1 :=
  (Go.Fs.NJ (τ := .pair (.int .i64) (.int .i64)) ajW l).imp fun {a b} h => by rw [ltE] at h; simp at h; exact h
theorem HP (l : List (Int × Int)) : (R1 l).Perm l := Go.Fs.U6 (τ := .pair (.int .i64) (.int .i64)) ajW l
end Go.Proofs
namespace Go.Proofs.Sp
theorem YJ {α : Type} {L : List α} {j k : Nat} (h1 : j <= k) (h2 : k < L.length) : (L.drop j).take (k + 1 - j) = (L.drop j).take (k - j) ++ [L[k]] := by
  have h3 : k - j < (L.drop j).length := by rw [List.length_drop]; omega
  rw [show k + 1 - j = (k - j) + 1 by omega, List.take_succ_eq_append_getElem h3, List.getElem_drop]; simp only [show j + (k - j) = k by omega]
theorem acL {α : Type} {L : List α} {j k : Nat} (h1 : j <= k) : L.drop j = (L.drop j).take (k - j) ++ L.drop k := by
  have := (List.take_append_drop (k - j) (L.drop j)).symm; rw [List.drop_drop, show j + (k - j) = k by omega] at this; exact this
structure r9 (a b : List Sp) (L : List (Int × Int)) : Prop where
  ca : Canon 100000 a
  cb : Canon 100000 b
  perm : L.Perm (lT a 1 ++ lT b 2)
  sorted : L.Pairwise fun x y => x.1 <= y.1
theorem HQ {l : List Sp} {d : Int} {e : Int × Int} (h : e ∈ lT l d) : e.2 = d \/ e.2 = -d := by
  obtain ⟨s, hs, he⟩ := List.mem_flatMap.1 h; simp only [List.mem_cons, List.not_mem_nil, or_false] at he; rcases he with rfl | rfl
  . exact .inl rfl
  exact .inr rfl
theorem r9.bnd {a b : List Sp} {L : List (Int × Int)} (E : r9 a b L) : ∀ e ∈ L, 0 <= e.1 /\ e.1 <= 100000 /\ -2 <= e.2 /\ e.2 <= 2 := fun e he => by
  rcases List.mem_append.1 (E.perm.subset he) with h | h
  . obtain ⟨s, hs, h1⟩ := A1 h; have h2 := E.ca.1 s hs; have h3 := HQ h; omega
  obtain ⟨s, hs, h1⟩ := A1 h; have h2 := E.cb.1 s hs; have h3 := HQ h; omega
theorem vK {a b : List Sp} {t : Int} : 0 <= jY a b t /\ jY a b t < 4 := by
  unfold jY; split <;> split <;> omega
theorem r9.step {a b : List Sp} {L : List (Int × Int)} {ch : Int -> Bool} {st fr su at_ : Int} {o : List Sp} {v j k : Nat} (E : r9 a b L) (I : mU ch L (L.drop j) st fr o v) (h0 : ch 0 = false) (hd : 0 < (L.drop j).length) (rF : (L.drop j)[0].1 = at_)
    (hk : j <= k /\ k <= L.length) (hg : ∀ e ∈ (L.drop j).take (k - j), e.1 = at_) (hc : ¬ (0 : Int) < ((L.drop k).length : Nat) \/ ¬ ((L.drop k).getD 0 (0, 0)).1 = at_) (YK : su = st + kY ((L.drop j).take (k - j))) :
    j < k /\ mU ch L (L.drop k) su (if ch st = false /\ ch su = true then at_ else fr) (if ch st = true /\ ch su = false then o ++ [(fr, at_)] else o) (at_.toNat + 1) /\ 0 <= su /\ su < 4 /\ 0 <= at_ /\ at_ <= 100000 := by
  have hba := E.bnd _ (List.mem_of_mem_drop (List.getElem_mem hd)); rw [rF] at hba
  have hjk : j < k := by
    rcases Nat.lt_or_ge j k with h | h
    . exact h
    obtain rfl : j = k := by omega
    rcases hc with hc | hc
    . omega
    rw [List.getD_eq_getElem?_getD, List.getElem?_eq_getElem hd] at hc; exact absurd rF hc
  have ha : ((at_.toNat : Nat) : Int) = at_ := by omega
  have hs := acL (L := L) (j := j) (k := k) hk.1
  have nH : j < L.length := by rw [List.length_drop] at hd; omega
  have cA : (L.drop j).take (k - j) ≠ [] := fun e => by
    have : ((L.drop j).take (k - j)).length = 0 := by rw [e]; rfl
    rw [List.length_take, List.length_drop] at this; omega
  have hl : ∀ e ∈ L.drop k, at_ < e.1 := fun e he => by
    have oW : k < L.length := by
      rcases Nat.lt_or_ge k L.length with h | h
      . exact h
      rw [List.drop_eq_nil_of_le h] at he; cases he
    have hc : ¬ L[k].1 = at_ := by
      rcases hc with hc | hc
      . rw [List.length_drop] at hc; omega
      rw [List.getD_eq_getElem?_getD, List.getElem?_drop, Nat.add_zero, List.getElem?_eq_getElem oW] at hc; exact hc
    have h1 : L[j].1 <= L[k].1 := List.pairwise_iff_getElem.1 E.sorted j k nH oW hjk
    have h2 : L[j].1 = at_ := by rw [<- rF, List.getElem_drop]; rfl
    have h3 : L[k].1 <= e.1 := by
      obtain ⟨i, hi, rfl⟩ := List.mem_iff_getElem.1 he; rw [List.getElem_drop]; rw [List.length_drop] at hi; rcases Nat.eq_zero_or_pos i with h | h
      . subst h; exact Int.le_refl _
      exact List.pairwise_iff_getElem.1 E.sorted k (k + i) oW (by omega) (by omega)
    omega
  have I' := mU.step (g := (L.drop j).take (k - j)) (l := L.drop k) (a := at_.toNat) (hs ▸ I) h0 (fun e he => (E.bnd e he).1) (fun e he => by rw [ha]; exact hg e he) cA (fun e he => by rw [ha]; exact hl e he); rw [<- YK, ha] at I'
  have ap4 : su = jY a b (((at_.toNat + 1 : Nat) : Int) - 1) := by rw [I'.state]; exact HK E.ca E.cb E.perm _
  have hm := vK (a := a) (b := b) (t := ((at_.toNat + 1 : Nat) : Int) - 1); exact ⟨hjk, I', by omega, by omega, hba.1, hba.2.1⟩
theorem r9.last {a b : List Sp} {L : List (Int × Int)} {ch : Int -> Bool} {st fr : Int} {o : List Sp} {v j n : Nat} (E : r9 a b L) (I : mU ch L (L.drop j) st fr o v) (h0 : ch 0 = false) (hj : L.length <= j) (hn : v <= n) : o = (bG (fun t => ch (jY a b t)) n).2 := by
  rw [List.drop_eq_nil_of_le hj] at I; have h := I.last h0 (fun e he => (E.bnd e he).1) hn
  have e : pE ch L = fun t => ch (jY a b t) := funext fun t => by unfold pE; rw [HK E.ca E.cb E.perm]
  rw [e] at h; exact h
end Go.Proofs.Sp
namespace Go.Proofs
open Go.Fs
set_option maxHeartbeats 2000000
theorem vt4 : fU Tryz.prog 4 .bool := gM (by kernel_rfl)
theorem cH {l : List Int} : dV l = 0 ↔ ∀ x ∈ l, x = 0 := by
  induction l with
  | nil => exact ⟨fun _ x hx => (by cases hx), fun _ => rfl⟩
  | cons y l ih =>
    rw [dV]; by_cases h : y = 0
    . rw [if_pos h, ih]; exact ⟨fun h2 x hx => (by rcases List.mem_cons.1 hx with rfl | hx; exact h; exact h2 x hx), fun h2 x hx => h2 x (List.mem_cons_of_mem _ hx)⟩
    rw [if_neg h]; exact ⟨fun h2 => absurd h2 h, fun h2 => h2 y List.mem_cons_self⟩
theorem R2 {f : Nat -> Int} {n : Nat} (h : qU f 0 n = 0) {i : Nat} (hi : i < n) : f i = 0 :=
  cH.1 h _ (List.mem_map.2 ⟨i, by rw [List.mem_range'_1]; omega, rfl⟩)
theorem HS {p : Int × Int} : mR p = 0 ↔ 0 <= p.1 /\ p.1 < p.2 /\ p.2 <= 100000 := by
  unfold mR; split
  . rename_i h; exact ⟨fun h2 => absurd h2 (by decide), fun h2 => by omega⟩
  exact ⟨fun _ => by omega, fun _ => rfl⟩
theorem kZ {c : Bool} {e : Int} (he : e ≠ 0) : eM c e = 0 ↔ c = false := by
  cases c
  . exact ⟨fun _ => rfl, fun _ => rfl⟩
  exact ⟨fun h => absurd h he, fun h => by cases h⟩
theorem jU {l : List (Int × Int)} (h : iN l = 0) : Sp.Canon 100000 l /\ l.length <= 2048 := by
  unfold iN at h; split at h
  . exact absurd h (by decide)
  rename_i hn; have hz : ∀ j, j < l.length -> lC l j = 0 := fun j hj => R2 h hj
  have hz1 : ∀ j (hj : j < l.length), 0 <= l[j].1 /\ l[j].1 < l[j].2 /\ l[j].2 <= 100000 := fun j hj => by
    have := cH.1 (hz j hj) _ List.mem_cons_self; rw [fJ hj] at this; exact HS.1 this
  refine ⟨Sp.acI (fun s hs => ?_) fun j hj h0 => ?_, by omega⟩
  . obtain ⟨j, hj, rfl⟩ := List.mem_iff_getElem.1 hs; exact hz1 j hj
  have h1 := cH.1 (hz j hj) _ (List.mem_cons_of_mem _ List.mem_cons_self); have h2 := (kZ (by decide)).1 h1; rw [fJ hj, fJ (show j - 1 < l.length by omega), decide_eq_true (show (0 : Int) < (j : Int) by omega), Bool.true_and, decide_eq_false_iff_not] at h2; omega
def xR (a b : List (Int × Int)) : Int := dV [iN a, iN b]
theorem tF {a b : List (Int × Int)} : xR a b = 0 ↔ iN a = 0 /\ iN b = 0 := by
  unfold xR; rw [cH]; simp
noncomputable def wT (ch : Bool × Bool × Bool × Bool) (a b : List (Int × Int)) : List (Int × Int) := if xR a b = 0 then (Sp.bG (fun t => HO ch (Sp.jY a b t)) mT).2 else []
theorem FT {ch : Bool × Bool × Bool × Bool} {a b : List (Int × Int)} (h : xR a b = 0) : wT ch a b = (Sp.bG (fun t => HO ch (Sp.jY a b t)) mT).2 := if_pos h
theorem acM {a b : List (Int × Int)} (h : xR a b = 0) : Sp.r9 a b (R1 [Sp.lT a 1, Sp.lT b 2].flatten) where
  ca := (jU (tF.1 h).1).1
  cb := (jU (tF.1 h).2).1
  perm := (HP _).trans (by simp)
  sorted := NK _
theorem YL {a b : List (Int × Int)} : (R1 [Sp.lT a 1, Sp.lT b 2].flatten).length = 2 * a.length + 2 * b.length := by
  rw [(HP _).length_eq]; simp [OV]
end Go.Proofs
namespace Go.Proofs
open Go.Fs
set_option maxHeartbeats 2000000
theorem sI : VF Tryz.prog OA 15 [] (B true) := VF.PI (fun _ => rfl) fun _ _ => ⟨rfl, rfl⟩
noncomputable def FU (w : List Int) (a b : List (Int × Int)) : List (Int × Int) := (Sp.bG (jZ a b w) mT).2
noncomputable def R3 (w : List Int) (a b : List (Int × Int)) : List (Int × Int) := if xR a b = 0 then FU w a b else []
theorem aiL {w : List Int} {a b : List (Int × Int)} (h : xR a b = 0) : R3 w a b = FU w a b := if_pos h
theorem YM {w : List Int} {ch : Bool × Bool × Bool × Bool} {a b : List (Int × Int)} (h : ∀ n : Int, 0 <= n /\ n < 4 -> HO ch n = (decide (n ≠ 0) && w.any fun x => decide (x = n))) : wT ch a b = R3 w a b := by
  unfold wT R3 FU; have e : (fun t => HO ch (Sp.jY a b t)) = jZ a b w := funext fun t => h _ Sp.vK; rw [e]
theorem four {P : Int -> Prop} (h0 : P 0) (h1 : P 1) (h2 : P 2) (h3 : P 3) : ∀ n : Int, 0 <= n /\ n < 4 -> P n := fun n hn => by
  have h : n = 0 \/ n = 1 \/ n = 2 \/ n = 3 := by omega
  rcases h with rfl | rfl | rfl | rfl <;> assumption
theorem YN {a b : List (Int × Int)} : wT (false, false, false, true) a b = R3 [3] a b := YM (four (by decide) (by decide) (by decide) (by decide))
theorem OY {a : List (Int × Int)} {b : List (Int × Int)} (ha : a.length < 1000000) (hb : b.length < 1000000) (hsa : ∀ s ∈ a, 0 <= s.1 /\ s.1 < s.2 /\ s.2 <= 100000) (SL : ∀ s ∈ b, 0 <= s.1 /\ s.1 < s.2 /\ s.2 <= 100000) : VF Tryz.prog OA 20 [.v aZ a, .v aZ b] (.v aZ (FU [3] a b)) := by
  refine VF.enter Tryz.func20 rfl (fun _ _ => rfl) rfl ?_; show VC _ _ _ _ _ [(0, .v aZ a), (1, .v aZ b)] [] _; refine VC.seq (VC.text ?_); refine J.c (.assign rfl) ?_; refine J.go (VC.seq (VC.text ?_)); refine J.c (.move rfl) (J.c (.move rfl) ?_); refine J.new (.lit [(3 : Int)] mO) ?_; refine J.call rfl rfl (VF.call (UK ha hb (by decide) hsa SL)) ?_; refine J.c (.assign rfl) (J.go ?_); refine VC.ret ?_; exact aW.one rfl bP (fF (by rfl))
theorem LX {l : List (Int × Int)} (hl : l.length < 1000000) : VF Tryz.prog OA 23 [.v aZ l] (.v aZ l) := by
  refine VF.enter Tryz.func23 rfl (fun _ _ => rfl) rfl ?_; show VC _ _ _ _ _ [(0, .v aZ l)] [] _; refine VC.seq (VC.text ?_); refine J.c (.assign rfl) ?_; refine J.go (VC.seq (VC.text ?_)); refine J.cell (.aa7 cD) ?_; intro fI; refine J.c (.move rfl) ?_; refine J.app rfl rfl cD cD (by simp; omega) ?_; intro nD; refine J.c (.assign rfl) (J.go ?_); refine VC.ret ?_; exact aW.one rfl (L8 (.row m0)) (fF (by rfl))
theorem kM {l : List (Int × Int)} {t : Int} (hl : l.length < 1000000) : VF Tryz.prog OA 28 [.v aZ l, I t] (B (Sp.bE l t)) := by
  refine VF.enter Tryz.func28 rfl (fun _ _ => rfl) rfl ?_; show VC _ _ _ _ _ [(0, .v aZ l), (1, I t)] [] _; refine VC.seq (VC.text ?_); refine J.c (.assign rfl) ?_; refine J.go (VC.seq (VC.seq (VC.text ?_))); refine J.c (.assign rfl) ?_; refine J.go (VC.block ?_); refine VC.aV [(0, .v aZ l), (1, I t), (5, I ((0 : Nat) : Int))] ⟨rfl, rfl, rfl, trivial⟩ ?_; refine VC.loop (I := fun kk ff ss => ∃ (j : Nat), kk = l.length - j /\ ff = [(0, .v aZ l), (1, I t), (5, I ((j : Nat) : Int))] /\ ss = [] /\ (j <= l.length) /\ (∀ k (h : k < l.length), k < j -> ¬ (l[k].1 <= t /\ t < l[k].2))) ?_ _ _ _ ⟨0, rfl, rfl, rfl, Nat.zero_le _, (by exact fun k _ h => absurd h (by omega))⟩; rintro kk ff ss ⟨j, kJ, rfl, rfl, hj, hi⟩; refine VC.seq (VC.seq (VC.text ?_)); refine J.c (.move rfl) (J.c (.move rfl) ?_); refine J.r (.len cD) ?_; refine J.c (.lss) (J.go ?_); refine VC.aX rfl (fun c2 => ?_) (fun c2 => ?_)
  . have nH : j < l.length := by omega
    refine VC.skip (VC.seq (VC.block (VC.seq (VC.text ?_)))); refine J.c (.move rfl) (J.c (.move rfl) (J.c (.move rfl) (J.c (.ix (j := j) rfl rfl cD (by omega)) ?_))); refine J.c (.fa (.l .o)) ?_; refine J.r (.ld cQ) ?_; refine J.c (.geq) (J.c (.move rfl) ?_); refine J.cg (r := decide ((l[j]).1 <= t)) (w := true) [] trivial (fun _ => (.move rfl)) ?_; refine J.cg (r := decide ((l[j]).1 <= t)) (w := true) [] trivial (fun _ => (.move rfl)) ?_; refine J.cg (r := decide ((l[j]).1 <= t)) (w := true) [] trivial (fun _ => (.move rfl)) ?_; refine J.cg (r := decide ((l[j]).1 <= t)) (w := true) [(21, .v aZ l), (22, I ((j : Nat) : Int))] ⟨rfl, rfl, trivial⟩ (fun iK => have ap5 : (l[j]).1 <= t := (by simpa using iK); (.ixD (j := j) rfl rfl (0, 0) cD (by omega))) ?_; refine J.cg (r := decide ((l[j]).1 <= t)) (w := true) [(23, .p gH (l.getD j (0, 0)))] ⟨rfl, trivial⟩ (fun _ => (.fa (.r (k := 0) .o))) ?_; refine J.rg (r := decide ((l[j]).1 <= t)) (w := true) [(24, .p (.int .i64) ((l.getD j (0, 0)).2))] ⟨rfl, trivial⟩ (fun _ => (.ld cQ)) ?_; refine J.cg (r := decide ((l[j]).1 <= t)) (w := true) [(20, I t), (25, I ((l.getD j (0, 0)).2))] ⟨rfl, rfl, trivial⟩ (fun _ => (.lss)) ?_; refine J.c (.and) (J.go ?_); refine VC.eR rfl (fun c4 => ?_) (fun c4 => ?_)
    . try simp only [Bool.and_eq_true, Bool.or_eq_true, Bool.and_eq_false_iff, Bool.or_eq_false_iff, Bool.not_eq_true', Bool.not_eq_false', decide_eq_true_eq, decide_eq_false_iff_not] at c4
      refine VC.seq (VC.text ?_); refine J.c (.assign rfl) (J.go ?_); refine VC.ret ?_; exact aW.one rfl bP (fF (by rw [getD_at nH] at c4; exact (List.any_eq_true.2 ⟨_, List.getElem_mem nH, by rw [decide_eq_true c4.1, decide_eq_true c4.2]; rfl⟩).symm))
    try simp only [Bool.and_eq_true, Bool.or_eq_true, Bool.and_eq_false_iff, Bool.or_eq_false_iff, Bool.not_eq_true', Bool.not_eq_false', decide_eq_true_eq, decide_eq_false_iff_not] at c4
    have o9 : ¬ (l[j].1 <= t /\ t < l[j].2) := by rw [getD_at nH] at c4; omega
    refine VC.skip (VC.text ?_); refine J.c (.move rfl) (J.c (.add rfl rfl (by omega)) (J.c (.assign rfl) ?_)); refine J.nil ?_; refine ⟨_, [(0, .v aZ l), (1, I t), (5, I (((j + 1) : Nat) : Int))], ?_, ⟨rfl, rfl, rfl, trivial⟩, (j + 1), rfl, rfl, rfl, (by omega), (by exact fun k h h3 => if e : k = j then (by subst e; exact o9) else hi k h (by omega))⟩; omega
  refine VC.exit (VC.seq (VC.text ?_)); refine J.c (.assign rfl) (J.go ?_); refine VC.ret ?_; exact aW.one rfl bP (fF (by exact (List.any_eq_false.2 fun x hx => by obtain ⟨k, h, rfl⟩ := List.mem_iff_getElem.1 hx; have := hi k h (by omega); simp; omega).symm))
end Go.Proofs
namespace Go.Proofs
open Go.Fs Ieee
theorem w16 : u32 1098907648 = some (16 * 713623846352979940529142984724747568191373312) := by decide +kernel
theorem anI : u32 0 = some 0 := by decide +kernel
theorem w64 : u32 1115684864 = some 45671926166590716193865151022383844364247891968 := by decide +kernel
theorem anJ : u32 3263168512 = some (-45671926166590716193865151022383844364247891968) := by decide +kernel
theorem ajX {n : Int} (h : -100000 <= n /\ n <= 100000) : fit n := ⟨by omega, by omega⟩
theorem UL {u : Int} (h : u.natAbs <= 45671926166590716193865151022383844364247891968) : -1024 <= (16 * u).tdiv 713623846352979940529142984724747568191373312 /\ (16 * u).tdiv 713623846352979940529142984724747568191373312 <= 1024 := by
  have h1 := Int.mul_tdiv_add_tmod (16 * u) 713623846352979940529142984724747568191373312; have h2 := Int.tmod_lt_of_pos (16 * u) (show (0 : Int) < 713623846352979940529142984724747568191373312 by decide)
  have h3 : -713623846352979940529142984724747568191373312 < (16 * u).tmod 713623846352979940529142984724747568191373312 := by
    have h4 := Int.tmod_lt_of_pos (-(16 * u)) (show (0 : Int) < 713623846352979940529142984724747568191373312 by decide); rw [Int.neg_tmod] at h4; omega
  omega
theorem ag8 {u : Int} {x : Nat} (hu : u32 x = some u) (h0 : u.natAbs <= 45671926166590716193865151022383844364247891968) : VF Tryz.prog OA 86 [.v (.aO .f32) x] (I ((16 * u).tdiv 713623846352979940529142984724747568191373312)) := by
  refine VF.enter Tryz.func86 rfl (fun _ _ => rfl) rfl ?_; show VC _ _ _ _ _ [(0, .v (.aO .f32) x)] [] _; refine VC.seq (VC.text ?_); refine J.c (.assign rfl) ?_; refine J.go (VC.seq (VC.text ?_)); refine J.c (.move rfl) ?_; obtain ⟨r, hr, kG⟩ := XT w16 hu h0; have hf := UL h0; refine J.c (.IM (A0 hr)) (J.c (.ajT (OS (toInt32 kG)) (ajX (by omega))) (J.c (.assign rfl) (J.go ?_))); refine VC.ret ?_; exact aW.one rfl bP (fB (by first | rfl | simp))
theorem ag9 {u : Int} {x : Nat} (hu : u32 x = some u) : VF Tryz.prog OA 39 [.v (.aO .f32) x] (I (bD x)) := by
  refine VF.enter Tryz.func39 rfl (fun _ _ => rfl) rfl ?_; show VC _ _ _ _ _ [(0, .v (.aO .f32) x)] [] _; refine VC.seq (VC.text ?_); refine J.c (.assign rfl) ?_; refine J.go (VC.seq (VC.seq (VC.text ?_))); refine J.c (.move rfl) (J.c (.move rfl) ?_); obtain ⟨r, hr, hr0⟩ := U0 hu; refine J.c (.IM (aiB hr)) (J.c (.jE (b := .neq) (nB hr0 anI).2.1) (J.go ?_)); refine VC.aX rfl (fun c1 => ?_) (fun c1 => ?_)
  . exact absurd rfl c1
  refine VC.skip (VC.seq (VC.seq (VC.text ?_))); refine J.c (.move rfl) (J.c (.jE (b := .lss) (nB hu anJ).2.2.1) (J.c (.move rfl) ?_)); refine J.cg (r := decide (u < -45671926166590716193865151022383844364247891968)) (w := false) [] trivial (fun _ => (.move rfl)) ?_; refine J.cg (r := decide (u < -45671926166590716193865151022383844364247891968)) (w := false) [(10, .v (.aO .f32) x)] ⟨rfl, trivial⟩ (fun _ => (.jE (b := .gtr) (nB hu w64).2.2.2.2.1)) ?_; refine J.c (.or) (J.go ?_); refine VC.eR rfl (fun c3 => ?_) (fun c3 => ?_)
  . try simp only [Bool.and_eq_true, Bool.or_eq_true, Bool.and_eq_false_iff, Bool.or_eq_false_iff, Bool.not_eq_true', Bool.not_eq_false', decide_eq_true_eq, decide_eq_false_iff_not] at c3
    refine VC.seq (VC.text ?_); refine J.c (.assign rfl) (J.go ?_); refine VC.ret ?_; exact aW.one rfl bP (fB (by unfold bD; rw [hu]; simp only; rw [if_neg (by omega)]))
  try simp only [Bool.and_eq_true, Bool.or_eq_true, Bool.and_eq_false_iff, Bool.or_eq_false_iff, Bool.not_eq_true', Bool.not_eq_false', decide_eq_true_eq, decide_eq_false_iff_not] at c3
  refine VC.skip (VC.seq (VC.text ?_)); refine J.c (.move rfl) ?_
  have hb : -45671926166590716193865151022383844364247891968 <= u /\ u <= 45671926166590716193865151022383844364247891968 := by omega
  have hf := UL (u := u) (by omega); obtain ⟨r2, kG, hr3⟩ := XT w16 hu (by omega); have hi := ofInt32 (n := (16 * u).tdiv 713623846352979940529142984724747568191373312) (by omega); refine J.call rfl rfl (VF.call (ag8 (u := u) hu (by omega))) ?_; refine J.c (.an3 .f32) (J.c (.move rfl) (J.c (.IM (A0 kG)) (J.c (.jE (b := .neq) (nB hi hr3).2.1) ?_))); refine J.call rfl rfl (VF.call (kK )) ?_; refine J.c (.assign rfl) (J.go ?_); refine VC.ret ?_; exact aW.one rfl bP (fB (by unfold bD eM; rw [hu]; simp only; have hw := QW hb; by_cases h1 : u % 44601490397061246283071436545296723011960832 = 0 <;> simp [h1, hw, hb]))
theorem agA {x : Nat} (hu : u32 x = none) : VF Tryz.prog OA 39 [.v (.aO .f32) x] (I (bD x)) := by
  refine VF.enter Tryz.func39 rfl (fun _ _ => rfl) rfl ?_; show VC _ _ _ _ _ [(0, .v (.aO .f32) x)] [] _; refine VC.seq (VC.text ?_); refine J.c (.assign rfl) ?_; refine J.go (VC.seq (VC.seq (VC.text ?_))); refine J.c (.move rfl) (J.c (.move rfl) (J.c (.an2 (aiC hu)) (J.c (.afV (r := true) rfl) ?_))); refine J.go ?_; refine VC.uO rfl ?_; refine VC.seq (VC.text ?_); refine J.c (.assign rfl) (J.go ?_); refine VC.ret ?_; exact aW.one rfl bP (fB (by unfold bD; rw [hu]))
theorem aaI {x : Nat} : VF Tryz.prog OA 39 [.v (.aO .f32) x] (I (bD x)) := by
  cases hu : u32 x with
  | none => exact agA hu
  | some u => exact ag9 hu
theorem v16 : u64 4625196817309499392 = some ((16 : Int) * ((713623846352979940529142984724747568191373312 * kW : Nat) : Int)) := by decide +kernel
theorem v64 : u64 4634204016564240384 = some ((45671926166590716193865151022383844364247891968 : Int) * ((kW : Nat) : Int)) := by decide +kernel
theorem anK : u64 13857576053419016192 = some ((-45671926166590716193865151022383844364247891968 : Int) * ((kW : Nat) : Int)) := by decide +kernel
theorem acN {f : Format} {x : Nat} {u : Int} (h : f.cW x = some u) : f.order x x = some .eq := by
  rw [Format.wR h h, DU, if_neg (by omega), if_pos rfl]
theorem acO {b : Nat} : VF Tryz.prog OA 157 [.v (.aO .f64) b] (.v (.int .u64) ((b : Nat) : Int)) :=
  VF.aaB (e := Extern.MathFloatBits.float64bits) Tryz.func157 (fun _ _ => rfl) (by kernel_rfl) (by kernel_rfl) (by kernel_rfl) (w := .int .u64 ((b : Nat) : Int)) rfl fun _ _ => aE.ofInt _ _
theorem acP {n : Nat} : VF Tryz.prog OA 156 [.v (.int .u64) ((n : Nat) : Int)] (.v (.aO .f64) n) :=
  VF.aiA (e := Extern.MathFloatBits.float64frombits) Tryz.func156 (fun _ _ => rfl) (by kernel_rfl) (by kernel_rfl) (by kernel_rfl) (w := .float .f64 n) rfl fun _ _ => aE.uM _ _
theorem YO {y : Nat} (hy : ∃ u, u64 y = some u) : VF Tryz.prog OA 134 [.v (.aO .f64) y] (.v (.aO .f64) (double.write ((double.read y).integral .down))) := by
  obtain ⟨u, hu⟩ := hy; obtain ⟨s, m, p, h1, _, _⟩ := Format.eB hu; exact VF.aaB (e := Extern.MathFloor.toIntegral "math.archFloor" .down) Tryz.func134 (fun _ _ => rfl) (by kernel_rfl) (by kernel_rfl) (by kernel_rfl) (w := .float .f64 (double.write ((double.read y).integral .down))) (Y0 h1) fun _ _ => aE.uM _ _
theorem YP {y : Nat} (hy : ∃ u, u64 y = some u) : VF Tryz.prog OA 89 [.v (.aO .f64) y] (.v (.aO .f64) (double.write ((double.read y).integral .down))) := by
  refine VF.enter Tryz.func89 rfl (fun _ _ => rfl) rfl ?_; show VC _ _ _ _ _ [(0, .v (.aO .f64) y)] [] _; refine VC.seq (VC.text ?_); refine J.c (.assign rfl) ?_; refine J.go (VC.seq ?_); refine VC.uO rfl ?_; refine VC.seq (VC.text ?_); refine J.c (.move rfl) ?_; refine J.call rfl rfl (VF.call (YO (by first | assumption | omega | simp))) ?_; refine J.c (.assign rfl) (J.go ?_); refine VC.ret ?_; exact aW.one rfl bP (fF (by first | rfl | simp))
theorem UM {y : Nat} (hy : double.order y y = some .eq) : VF Tryz.prog OA 87 [.v (.aO .f64) y] (B false) := by
  refine VF.enter Tryz.func87 rfl (fun _ _ => rfl) rfl ?_; show VC _ _ _ _ _ [(0, .v (.aO .f64) y)] [] _; refine VC.seq (VC.text ?_); refine J.c (.assign rfl) ?_; refine J.go (VC.seq (VC.text ?_)); refine J.c (.move rfl) (J.c (.move rfl) (J.c (.jE (b := .neq) (r := false) (XZ hy)) (J.c (.assign rfl) ?_))); refine J.go ?_; refine VC.ret ?_; exact aW.one rfl bP (fF (by first | rfl | simp))
theorem agB {b : Nat} : VF Tryz.prog OA 133 [.v (.aO .f64) b] (.v (.aO .f64) (b % 9223372036854775808)) := by
  refine VF.enter Tryz.func133 rfl (fun _ _ => rfl) rfl ?_; show VC _ _ _ _ _ [(0, .v (.aO .f64) b)] [] _; refine VC.seq (VC.text ?_); refine J.c (.assign rfl) ?_; refine J.go (VC.seq (VC.text ?_)); refine J.c (.move rfl) ?_; refine J.call rfl rfl (VF.call (acO )) ?_; refine J.c (.Y1 rfl rfl) ?_; refine J.call rfl rfl (VF.call (acP )) ?_; refine J.c (.assign rfl) (J.go ?_); refine VC.ret ?_; exact aW.one rfl bP (fF (by first | rfl | simp))
theorem UN {y : Nat} {s : Int} (hs : s = 0) : VF Tryz.prog OA 88 [.v (.aO .f64) y, I s] (B (dB .gtr .f64 (y % 9223372036854775808) 9218868437227405311)) := by
  refine VF.enter Tryz.func88 rfl (fun _ _ => rfl) rfl ?_; show VC _ _ _ _ _ [(0, .v (.aO .f64) y), (1, I s)] [] _; refine VC.seq (VC.text ?_); refine J.c (.assign rfl) ?_; refine J.go (VC.seq (VC.seq (VC.text ?_))); refine J.c (.move rfl) (J.c (.eql) (J.go ?_)); refine VC.aX rfl (fun c1 => ?_) (fun c1 => ?_)
  . refine VC.text ?_; refine J.c (.move rfl) ?_; refine J.call rfl rfl (VF.call (agB )) ?_; refine J.c (.assign rfl) ?_; refine J.go (VC.seq (VC.text ?_)); refine J.c (.move rfl) (J.c (.OP .gtr) (J.c (.assign rfl) (J.go ?_))); refine VC.ret ?_; exact aW.one rfl bP (fF (by first | rfl | simp))
  exact absurd hs c1
theorem neW {r : Nat} {u : Int} (hr : u64 r = some (16 * (u * (kW : Nat)))) (hg : (decide (45671926166590716193865151022383844364247891968 < u) || decide (u < -45671926166590716193865151022383844364247891968)) = false) : dB .neq .f64 r (double.write ((double.read r).integral .down)) = decide (u % 44601490397061246283071436545296723011960832 ≠ 0) := by
  have hb : -45671926166590716193865151022383844364247891968 <= u /\ u <= 45671926166590716193865151022383844364247891968 := by simp at hg; omega
  rw [(J3 hr (ai9 hr hb)).2.1]; exact decide_eq_decide.2 (not_congr XY)
theorem agC {u : Int} {x : Nat} (hu : u32 x = some u) : VF Tryz.prog OA 40 [.v (.aO .f32) x] (I (bD x)) := by
  refine VF.enter Tryz.func40 rfl (fun _ _ => rfl) rfl ?_; show VC _ _ _ _ _ [(0, .v (.aO .f32) x)] [] _; refine VC.seq (VC.text ?_); refine J.c (.assign rfl) ?_; refine J.go (VC.seq (VC.text ?_)); refine J.c (.move rfl) ?_; have hb := XW hu; have hy := XU hu hb; obtain ⟨r, hr, kG⟩ := ai8 v16 hu hy hb; refine J.c (.XU hu hy) (J.c (.assign rfl) ?_); refine J.go (VC.seq (VC.seq (VC.text ?_))); refine J.c (.move rfl) ?_; refine J.call rfl rfl (VF.call (UM (acN hy))) ?_; refine J.c (.move rfl) (J.c (.move rfl) ?_); refine J.call rfl rfl (VF.call (UN rfl)) ?_; refine J.c (.bB rfl rfl) (J.go ?_); refine VC.eR rfl (fun c2 => ?_) (fun c2 => ?_)
  . rw [(J3 (Y2 hy) al5).2.2.2.2.1] at c2; simp at c2; have := Y3 hb; omega
  refine VC.skip (VC.seq (VC.seq (VC.text ?_))); refine J.c (.move rfl) (J.c (.jE (b := .gtr) (r := decide (45671926166590716193865151022383844364247891968 < u)) ((J3 hy v64).2.2.2.2.1.trans (decide_eq_decide.2 (Int.mul_lt_mul_right J2)))) (J.c (.move rfl) ?_)); refine J.cg (r := decide (45671926166590716193865151022383844364247891968 < u)) (w := false) [] trivial (fun _ => (.move rfl)) ?_; refine J.cg (r := decide (45671926166590716193865151022383844364247891968 < u)) (w := false) [(15, .v (.aO .f64) (double.write (single.read x)))] ⟨rfl, trivial⟩ (fun _ => (.jE (b := .lss) (r := decide (u < -45671926166590716193865151022383844364247891968)) ((J3 hy anK).2.2.1.trans (decide_eq_decide.2 (Int.mul_lt_mul_right J2))))) ?_; refine J.c (.or) (J.c (.move rfl) ?_); refine J.cg (r := ((decide (45671926166590716193865151022383844364247891968 < u)) || (decide (u < -45671926166590716193865151022383844364247891968)))) (w := false) [] trivial (fun _ => (.move rfl)) ?_; refine J.cg (r := ((decide (45671926166590716193865151022383844364247891968 < u)) || (decide (u < -45671926166590716193865151022383844364247891968)))) (w := false) [(19, .v (.aO .f64) (double.write (single.read x)))] ⟨rfl, trivial⟩ (fun _ => (.IM (aaC hr))) ?_; refine J.cg (r := ((decide (45671926166590716193865151022383844364247891968 < u)) || (decide (u < -45671926166590716193865151022383844364247891968)))) (w := false) [] trivial (fun _ => (.move rfl)) ?_; refine J.cg (r := ((decide (45671926166590716193865151022383844364247891968 < u)) || (decide (u < -45671926166590716193865151022383844364247891968)))) (w := false) [(21, .v (.aO .f64) (double.write (single.read x)))] ⟨rfl, trivial⟩ (fun _ => (.IM (aaC hr))) ?_; refine J.L7 (r0 := ((decide (45671926166590716193865151022383844364247891968 < u)) || (decide (u < -45671926166590716193865151022383844364247891968)))) (w := false) [(22, .v (.aO .f64) r)] ⟨rfl, trivial⟩ rfl rfl .same .refl rfl (fun _ => VF.call (YP ⟨_, kG⟩)) ?_; refine J.cg (r := ((decide (45671926166590716193865151022383844364247891968 < u)) || (decide (u < -45671926166590716193865151022383844364247891968)))) (w := false) [(20, .v (.aO .f64) r), (23, .v (.aO .f64) (double.write ((double.read r).integral .down)))] ⟨rfl, rfl, trivial⟩ (fun iK => have ag2 : ((decide (45671926166590716193865151022383844364247891968 < u)) || (decide (u < -45671926166590716193865151022383844364247891968))) = false := (by simpa using iK); (.jE (b := .neq) (neW kG ag2))) ?_; refine J.c (.or) (J.go ?_); refine VC.eR rfl (fun c4 => ?_) (fun c4 => ?_)
  . try simp only [Bool.and_eq_true, Bool.or_eq_true, Bool.and_eq_false_iff, Bool.or_eq_false_iff, Bool.not_eq_true', Bool.not_eq_false', decide_eq_true_eq, decide_eq_false_iff_not] at c4
    refine VC.seq (VC.text ?_); refine J.c (.assign rfl) (J.go ?_); refine VC.ret ?_; exact aW.one rfl bP (fB (by unfold bD; rw [hu]; simp only; rw [if_neg]; omega))
  try simp only [Bool.and_eq_true, Bool.or_eq_true, Bool.and_eq_false_iff, Bool.or_eq_false_iff, Bool.not_eq_true', Bool.not_eq_false', decide_eq_true_eq, decide_eq_false_iff_not] at c4
  refine VC.skip (VC.seq (VC.text ?_)); refine J.c (.assign rfl) (J.go ?_); refine VC.ret ?_; exact aW.one rfl bP (fB (by unfold bD; rw [hu]; simp only; rw [if_pos]; omega))
theorem agD {s : Bool} {x : Nat} (hu : single.read x = .infinity s) : VF Tryz.prog OA 40 [.v (.aO .f32) x] (I (bD x)) := by
  refine VF.enter Tryz.func40 rfl (fun _ _ => rfl) rfl ?_; show VC _ _ _ _ _ [(0, .v (.aO .f32) x)] [] _; refine VC.seq (VC.text ?_); refine J.c (.assign rfl) ?_; refine J.go (VC.seq (VC.text ?_)); refine J.c (.move rfl) (J.c (.aiD hu) (J.c (.assign rfl) ?_)); refine J.go (VC.seq (VC.seq (VC.text ?_))); refine J.c (.move rfl) ?_; refine J.call rfl rfl (VF.call (UM (by cases s <;> decide +kernel))) ?_; refine J.c (.move rfl) (J.c (.move rfl) ?_); refine J.call rfl rfl (VF.call (UN rfl)) ?_; refine J.c (.bB rfl rfl) (J.go ?_); refine VC.eR rfl (fun c2 => ?_) (fun c2 => ?_)
  . refine VC.seq (VC.text ?_); refine J.c (.assign rfl) (J.go ?_); refine VC.ret ?_; exact aW.one rfl bP (fB (by unfold bD u32 Format.cW; rw [hu]))
  exact absurd c2 (by cases s <;> decide +kernel)
theorem acQ : VF Tryz.prog OA 87 [.raw (jK .f64)] (B true) := by
  refine VF.enter Tryz.func87 rfl (fun _ _ => rfl) rfl ?_; show VC _ _ _ _ _ [(0, .raw (jK .f64))] [] _; refine VC.seq (VC.text ?_); refine J.c (.assign rfl) ?_; refine J.go (VC.seq (VC.text ?_)); refine J.c (.move rfl) (J.c (.move rfl) (J.c (.ac4 (k := .f64) (r := true) rfl) (J.c (.assign rfl) ?_))); refine J.go ?_; refine VC.ret ?_; exact aW.one rfl bP rfl
theorem agE {s : Bool} {m : Nat} {x : Nat} (hu : single.read x = .nan s m) : VF Tryz.prog OA 40 [.v (.aO .f32) x] (I (bD x)) := by
  refine VF.enter Tryz.func40 rfl (fun _ _ => rfl) rfl ?_; show VC _ _ _ _ _ [(0, .v (.aO .f32) x)] [] _; refine VC.seq (VC.text ?_); refine J.c (.assign rfl) ?_; refine J.go (VC.seq (VC.text ?_)); refine J.c (.move rfl) (J.c (.aiE hu) (J.c (.assign rfl) ?_)); refine J.go (VC.seq (VC.seq (VC.text ?_))); refine J.c (.move rfl) ?_; refine J.call rfl rfl (VF.call (acQ )) ?_; refine J.c (.move rfl) (J.skip (J.skip (J.c (.cZ rfl rfl) ?_))); refine J.go ?_; refine VC.uO rfl ?_; refine VC.seq (VC.text ?_); refine J.c (.assign rfl) (J.go ?_); refine VC.ret ?_; exact aW.one rfl bP (fB (by unfold bD u32 Format.cW; rw [hu]))
theorem aiM {x : Nat} : VF Tryz.prog OA 40 [.v (.aO .f32) x] (I (bD x)) := by
  cases hu : u32 x with
  | some u => exact agC hu
  | none =>
    rcases Format.H9 hu with ⟨s, h⟩ | ⟨s, m, h⟩
    . exact agD h
    exact agE h
theorem acR {x : Nat} (hx : bD x = 0) : VF Tryz.prog OA 86 [.v (.aO .f32) x] (I (bK x)) := by
  refine VF.enter Tryz.func86 rfl (fun _ _ => rfl) rfl ?_; show VC _ _ _ _ _ [(0, .v (.aO .f32) x)] [] _; refine VC.seq (VC.text ?_); refine J.c (.assign rfl) ?_; refine J.go (VC.seq (VC.text ?_)); refine J.c (.move rfl) ?_; obtain ⟨hu, h0, h1⟩ := gW hx; obtain ⟨r, hr, kG⟩ := XT w16 hu (by omega); have hs := afU (u := bK x * 44601490397061246283071436545296723011960832) rfl; have ht := toInt32 kG; rw [hs] at ht; refine J.c (.IM (A0 hr)) (J.c (.ajT (OS ht) (ajX (by omega))) (J.c (.assign rfl) (J.go ?_))); refine VC.ret ?_; exact aW.one rfl bP (fB (by first | rfl | simp))
end Go.Proofs
namespace Go.Proofs
open Go.Fs Ieee
set_option maxHeartbeats 2000000
abbrev cL : Ty := (.sl (.aO .f32))
abbrev dY : Ty := (.pair .str (.pair (.int .i64) (.pair (.sl (.aO .f32)) (.sl (.pair (.int .i64) (.int .i64))))))
abbrev dJ : Ty := (.pair .str (.pair (.int .i64) (.pair (.sl (.aO .f32)) (.sl (.pair (.int .i64) (.int .i64))))))
theorem IP : fU Tryz.prog 9 .str := gM (by kernel_rfl)
theorem gK : fU Tryz.prog 22 aZ := gM (by kernel_rfl)
theorem dG : fU Tryz.prog 53 cL := gM (by kernel_rfl)
theorem eN : fU Tryz.prog 59 (.aO .f32) := gM (by kernel_rfl)
theorem bW : fO Tryz.prog 53 59 (.aO .f32) := wJ (by kernel_rfl)
abbrev aG := ByteArray × Int × List Nat × List (Int × Int)
def vL {α : Type} (F : α -> Bool) : List α -> Int -> Int
  | [], _ => -1
  | x :: l, k => if F x = true then k else vL F l (k + 1)
theorem wU {α : Type} {F : α -> Bool} {l : List α} {j : Nat} (hj : j < l.length) : vL F (l.drop j) (j : Nat) = if F l[j] = true then ((j : Nat) : Int) else vL F (l.drop (j + 1)) ((j + 1 : Nat) : Int) := by
  rw [List.drop_eq_getElem_cons hj] <;> rfl
theorem OZ {α : Type} {F : α -> Bool} {l : List α} {j : Nat} {k : Int} (hj : l.length <= j) : vL F (l.drop j) k = -1 := by rw [List.drop_eq_nil_of_le hj] <;> rfl
theorem FV {α : Type} {F : α -> Bool} : ∀ {l : List α} {k : Int}, 0 <= k -> ((0 <= vL F l k) ↔ l.any F = true)
  | [], k, _ => by simp [vL]
  | x :: l, k, h => by
    unfold vL; rw [List.any_cons]; by_cases hx : F x = true
    . rw [if_pos hx, hx]; simp [h]
    rw [if_neg hx, FV (l := l) (by omega)]; simp [hx]
theorem R4 {F : Nat -> Bool} {l : List Nat} {f : PV} (hl : l.length < 1000000) (hf : ∀ x ∈ l, qE Tryz.prog OA f [.v (.aO .f32) x] (B (F x))) : VF Tryz.prog OA 137 [.v cL l, f] (I (vL F l 0)) := by
  refine VF.enter Tryz.func137 rfl (fun _ _ => rfl) rfl ?_; show VC _ _ _ _ _ [(0, .v cL l), (1, f)] [] _; refine VC.seq (VC.text ?_); refine J.c (.assign rfl) ?_; refine J.go (VC.seq (VC.seq (VC.text ?_))); refine J.c (.move rfl) ?_; refine J.r (.len bW) ?_; refine J.c (.move rfl) ?_; refine J.go (VC.block ?_); refine VC.aV [(0, .v cL l), (1, f), (7, I ((l.length : Nat) : Int)), (8, I ((0 : Nat) : Int))] ⟨rfl, rfl, rfl, rfl, trivial⟩ ?_; refine VC.loop (I := fun kk ff ss => ∃ (j : Nat), kk = l.length - j /\ ff = [(0, .v cL l), (1, f), (7, I ((l.length : Nat) : Int)), (8, I ((j : Nat) : Int))] /\ ss = [] /\ (j <= l.length) /\ (vL F l 0 = vL F (l.drop j) (j : Nat))) ?_ _ _ _ ⟨0, rfl, rfl, rfl, Nat.zero_le _, (by rfl)⟩; rintro kk ff ss ⟨j, kJ, rfl, rfl, hj, hi⟩; refine VC.seq (VC.text ?_); refine J.c (.lss) ?_; refine J.go (VC.seq ?_); refine VC.aX rfl (fun c2 => ?_) (fun c2 => ?_)
  . refine VC.skip (VC.seq (VC.block (VC.seq (VC.text ?_)))); refine J.c (.move rfl) (J.c (.assign rfl) ?_); refine J.go (VC.seq (VC.text ?_)); refine J.c (.move rfl) (J.c (.move rfl) (J.c (.move rfl) (J.c (.ix (j := j) rfl rfl bW (by omega)) ?_))); refine J.r (.ld eN) ?_; refine J.call rfl rfl ((hf _ (List.getElem_mem _)) ) ?_; refine J.go ?_; refine VC.eR rfl (fun c4 => ?_) (fun c4 => ?_)
    . refine VC.seq (VC.text ?_); refine J.c (.move rfl) (J.c (.assign rfl) (J.go ?_)); refine VC.ret ?_; exact aW.one rfl bP (fB (by rw [hi, wU (by omega), if_pos c4]))
    refine VC.skip (VC.text ?_); refine J.c (.add rfl rfl (by omega)) (J.c (.move rfl) ?_); refine J.nil ?_; refine ⟨_, [(0, .v cL l), (1, f), (7, I ((l.length : Nat) : Int)), (8, I (((j + 1) : Nat) : Int))], ?_, ⟨rfl, rfl, rfl, rfl, trivial⟩, (j + 1), rfl, rfl, rfl, (by omega), (by rw [hi, wU (by omega), if_neg (by rw [c4]; decide)])⟩; omega
  refine VC.exit (VC.seq (VC.text ?_)); refine J.c (.assign rfl) (J.go ?_); refine VC.ret ?_; exact aW.one rfl bP (fB (by rw [hi, OZ (by omega)]))
theorem UO {F : Nat -> Bool} {l : List Nat} {f : PV} (hl : l.length < 1000000) (hf : ∀ x ∈ l, qE Tryz.prog OA f [.v (.aO .f32) x] (B (F x))) : VF Tryz.prog OA 94 [.v cL l, f] (B (l.any F)) := by
  refine VF.enter Tryz.func94 rfl (fun _ _ => rfl) rfl ?_; show VC _ _ _ _ _ [(0, .v cL l), (1, f)] [] _; refine VC.seq (VC.text ?_); refine J.c (.assign rfl) ?_; refine J.go (VC.seq (VC.text ?_)); refine J.c (.move rfl) (J.c (.move rfl) ?_); refine J.call rfl rfl (VF.call (R4 (F := F) hl hf)) ?_; refine J.c (.geq) (J.c (.assign rfl) (J.go ?_)); refine VC.ret ?_; exact aW.one rfl bP (fF (by have h9 := FV (F := F) (l := l) (k := 0) (by omega); cases h8 : l.any F <;> simp_all))
theorem R5 {F : Int × Int -> Bool} {l : List (Int × Int)} {f : PV} (hl : l.length < 1000000) (hf : ∀ x ∈ l, qE Tryz.prog OA f [.v gH x] (B (F x))) : VF Tryz.prog OA 136 [.v aZ l, f] (I (vL F l 0)) := by
  refine VF.enter Tryz.func136 rfl (fun _ _ => rfl) rfl ?_; show VC _ _ _ _ _ [(0, .v aZ l), (1, f)] [] _; refine VC.seq (VC.text ?_); refine J.c (.assign rfl) ?_; refine J.go (VC.seq (VC.seq (VC.text ?_))); refine J.c (.move rfl) ?_; refine J.r (.len cD) ?_; refine J.c (.move rfl) ?_; refine J.go (VC.block ?_); refine VC.aV [(0, .v aZ l), (1, f), (7, I ((l.length : Nat) : Int)), (8, I ((0 : Nat) : Int))] ⟨rfl, rfl, rfl, rfl, trivial⟩ ?_; refine VC.loop (I := fun kk ff ss => ∃ (j : Nat), kk = l.length - j /\ ff = [(0, .v aZ l), (1, f), (7, I ((l.length : Nat) : Int)), (8, I ((j : Nat) : Int))] /\ ss = [] /\ (j <= l.length) /\ (vL F l 0 = vL F (l.drop j) (j : Nat))) ?_ _ _ _ ⟨0, rfl, rfl, rfl, Nat.zero_le _, (by rfl)⟩; rintro kk ff ss ⟨j, kJ, rfl, rfl, hj, hi⟩; refine VC.seq (VC.text ?_); refine J.c (.lss) ?_; refine J.go (VC.seq ?_); refine VC.aX rfl (fun c2 => ?_) (fun c2 => ?_)
  . refine VC.skip (VC.seq (VC.block (VC.seq (VC.text ?_)))); refine J.c (.move rfl) (J.c (.assign rfl) ?_); refine J.go (VC.seq (VC.text ?_)); refine J.c (.move rfl) (J.c (.move rfl) (J.c (.move rfl) (J.c (.ix (j := j) rfl rfl cD (by omega)) ?_))); refine J.r (.ld nG) ?_; refine J.call rfl rfl ((hf _ (List.getElem_mem _)) ) ?_; refine J.go ?_; refine VC.eR rfl (fun c4 => ?_) (fun c4 => ?_)
    . refine VC.seq (VC.text ?_); refine J.c (.move rfl) (J.c (.assign rfl) (J.go ?_)); refine VC.ret ?_; exact aW.one rfl bP (fB (by rw [hi, wU (by omega), if_pos c4]))
    refine VC.skip (VC.text ?_); refine J.c (.add rfl rfl (by omega)) (J.c (.move rfl) ?_); refine J.nil ?_; refine ⟨_, [(0, .v aZ l), (1, f), (7, I ((l.length : Nat) : Int)), (8, I (((j + 1) : Nat) : Int))], ?_, ⟨rfl, rfl, rfl, rfl, trivial⟩, (j + 1), rfl, rfl, rfl, (by omega), (by rw [hi, wU (by omega), if_neg (by rw [c4]; decide)])⟩; omega
  refine VC.exit (VC.seq (VC.text ?_)); refine J.c (.assign rfl) (J.go ?_); refine VC.ret ?_; exact aW.one rfl bP (fB (by rw [hi, OZ (by omega)]))
theorem HT {F : Int × Int -> Bool} {l : List (Int × Int)} {f : PV} (hl : l.length < 1000000) (hf : ∀ x ∈ l, qE Tryz.prog OA f [.v gH x] (B (F x))) : VF Tryz.prog OA 91 [.v aZ l, f] (B (l.any F)) := by
  refine VF.enter Tryz.func91 rfl (fun _ _ => rfl) rfl ?_; show VC _ _ _ _ _ [(0, .v aZ l), (1, f)] [] _; refine VC.seq (VC.text ?_); refine J.c (.assign rfl) ?_; refine J.go (VC.seq (VC.text ?_)); refine J.c (.move rfl) (J.c (.move rfl) ?_); refine J.call rfl rfl (VF.call (R5 (F := F) hl hf)) ?_; refine J.c (.geq) (J.c (.assign rfl) (J.go ?_)); refine VC.ret ?_; exact aW.one rfl bP (fF (by have h9 := FV (F := F) (l := l) (k := 0) (by omega); cases h8 : l.any F <;> simp_all))
def mV (l : List Nat) : Int := dV (l.map bD)
theorem qI {l : List Nat} {j : Nat} (hj : j < l.length) : mV (l.drop j) = if bD l[j] = 0 then mV (l.drop (j + 1)) else bD l[j] := by
  unfold mV; rw [List.drop_eq_getElem_cons hj] <;> rfl
theorem FW {l : List Nat} {j : Nat} (hj : l.length <= j) : mV (l.drop j) = 0 := by rw [List.drop_eq_nil_of_le hj] <;> rfl
theorem acS {l : List Nat} (hl : l.length < 1000000) : VF Tryz.prog OA 90 [.v cL l] (I (mV l)) := by
  refine VF.enter Tryz.func90 rfl (fun _ _ => rfl) rfl ?_; show VC _ _ _ _ _ [(0, .v cL l)] [] _; refine VC.seq (VC.text ?_); refine J.c (.assign rfl) (J.go ?_); refine VC.scope ?_; refine VC.seq (VC.text ?_); refine J.c (.assign rfl) ?_; refine J.go (VC.seq ?_); refine VC.label ?_; refine VC.seq (VC.seq (VC.text ?_)); refine J.c (.move rfl) ?_; refine J.r (.len bW) ?_; refine J.c (.move rfl) ?_; refine J.go (VC.block ?_); refine VC.aV [(3, I 0), (6, .v cL l), (7, I ((l.length : Nat) : Int)), (8, I ((0 : Nat) : Int))] ⟨rfl, rfl, rfl, rfl, trivial⟩ ?_; refine VC.loop (I := fun kk ff ss => ∃ (j : Nat), kk = l.length - j /\ ff = [(3, I 0), (6, .v cL l), (7, I ((l.length : Nat) : Int)), (8, I ((j : Nat) : Int))] /\ ss = [] /\ (j <= l.length) /\ (mV l = mV (l.drop j))) ?_ _ _ _ ⟨0, rfl, rfl, rfl, Nat.zero_le _, (by rfl)⟩; rintro kk ff ss ⟨j, kJ, rfl, rfl, hj, hf⟩; refine VC.seq (VC.text ?_); refine J.c (.lss) ?_; refine J.go (VC.seq ?_); refine VC.aX rfl (fun c3 => ?_) (fun c3 => ?_)
  . refine VC.skip (VC.seq (VC.block (VC.seq (VC.text ?_)))); refine J.c (.ix (j := j) rfl rfl bW (by omega)) ?_; refine J.r (.ld eN) ?_; refine J.c (.assign rfl) ?_; refine J.go (VC.seq (VC.text ?_)); refine J.c (.move rfl) ?_; refine J.call rfl rfl (VF.call (aaI )) ?_; refine J.c (.assign rfl) ?_; refine J.go (VC.seq (VC.text ?_)); refine J.c (.move rfl) (J.c (.neq) (J.go ?_)); refine VC.aX rfl (fun c6 => ?_) (fun c6 => ?_)
    . refine VC.exit (VC.seq (VC.text ?_)); refine J.c (.move rfl) (J.c (.assign rfl) (J.go ?_)); refine VC.ret ?_; exact aW.one rfl bP (fB (by first | (rw [hf, qI (by omega), if_neg c6]; done) | rw [hf, FW (by omega)]))
    refine VC.skip (VC.text ?_); refine J.c (.add rfl rfl (by omega)) (J.c (.move rfl) ?_); refine J.nil ?_; refine ⟨_, [(3, I 0), (6, .v cL l), (7, I ((l.length : Nat) : Int)), (8, I (((j + 1) : Nat) : Int))], ?_, ⟨vH rfl (by simpa using c6), rfl, rfl, rfl, trivial⟩, (j + 1), rfl, rfl, rfl, (by omega), (by rw [hf, qI (by omega), if_pos (by simpa using c6)])⟩; omega
  refine VC.exit (VC.seq (VC.text ?_)); refine J.c (.move rfl) (J.c (.assign rfl) (J.go ?_)); refine VC.ret ?_; exact aW.one rfl bP (fB (by first | (rw [hf, qI (by omega), if_neg c6]; done) | rw [hf, FW (by omega)]))
def tO (x : Nat) : Bool := dB .neq .f32 x 0
def P0 (r : aG) : Bool := r.2.2.2.any fun s => decide ((r.2.2.1.length : Int) < s.2)
def LY (r : aG) : Bool := r.2.2.2.any fun s => ((r.2.2.1.take s.2.toNat).drop s.1.toNat).any tO
def BT (r : aG) : Int := dV [eM (!nL r.1) 8, gA r.2.1 0 100000, eM (decide ((4096 : Int) < (r.2.2.1.length : Nat))) 5]
def rL (r : aG) : Int := dV [mV r.2.2.1, iN r.2.2.2]
def cM (r : aG) : Int := if BT r ≠ 0 then BT r else if rL r ≠ 0 then rL r else if P0 r = true then 14 else eM (LY r) 1
theorem acT {s : Int × Int} {r : ByteArray × Int × (List Nat) × (List (Int × Int))} : VF Tryz.prog OA 92 [.v gH s, .p dJ r] (B (decide ((r.2.2.1.length : Int) < s.2))) := by
  refine VF.enter Tryz.func92 rfl (fun _ _ => rfl) rfl ?_; show VC _ _ _ _ _ [(0, .v gH s), (1, .p dJ r)] [] _; refine VC.seq (VC.text ?_); refine J.new (.box) ?_; refine J.c (.assign rfl) ?_; refine J.go (VC.seq (VC.text ?_)); refine J.c (.fa (.r .o)) ?_; refine J.r (.ld cQ) ?_; refine J.c (.fa (.r (.r (.l .o)))) ?_; refine J.r (.ld dG) ?_; refine J.r (.len bW) ?_; refine J.c (.gtr) (J.c (.assign rfl) (J.go ?_)); refine VC.ret ?_; exact aW.one rfl bP (fF (by rfl))
theorem YQ {x : Nat} : VF Tryz.prog OA 95 [.v (.aO .f32) x] (B (tO x)) := by
  refine VF.enter Tryz.func95 rfl (fun _ _ => rfl) rfl ?_; show VC _ _ _ _ _ [(0, .v (.aO .f32) x)] [] _; refine VC.seq (VC.text ?_); refine J.c (.assign rfl) ?_; refine J.go (VC.seq (VC.text ?_)); refine J.c (.move rfl) (J.c (.OP .neq) (J.c (.assign rfl) (J.go ?_))); refine VC.ret ?_; exact aW.one rfl bP (fF (by rfl))
theorem acU {s : Int × Int} {r : ByteArray × Int × (List Nat) × (List (Int × Int))} (hs : 0 <= s.1 /\ s.1 <= s.2 /\ s.2 <= (r.2.2.1.length : Nat)) (hl : r.2.2.1.length < 1000000) : VF Tryz.prog OA 93 [.v gH s, .p dJ r] (B (((r.2.2.1.take s.2.toNat).drop s.1.toNat).any tO)) := by
  refine VF.enter Tryz.func93 rfl (fun _ _ => rfl) rfl ?_; show VC _ _ _ _ _ [(0, .v gH s), (1, .p dJ r)] [] _; refine VC.seq (VC.text ?_); refine J.new (.box) ?_; refine J.c (.assign rfl) ?_; refine J.go (VC.seq (VC.text ?_)); refine J.c (.fa (.r (.r (.l .o)))) ?_; refine J.r (.ld dG) ?_; refine J.c (.fa (.l .o)) ?_; refine J.r (.ld cQ) ?_; refine J.c (.fa (.r .o)) ?_; refine J.r (.ld cQ) ?_; refine J.r (.cut rfl rfl rfl bW (by exact hs)) ?_; refine J.call rfl rfl (VF.call (UO (F := tO) (by simp; omega) (fun _ _ => VF.call YQ))) ?_; refine J.c (.assign rfl) (J.go ?_); refine VC.ret ?_; exact aW.one rfl bP (fF (by rfl))
theorem YR {r : aG} (h : P0 r = false) : ∀ s ∈ r.2.2.2, s.2 <= (r.2.2.1.length : Nat) := fun s hs => by
  have := List.any_eq_false.1 h s hs; simp at this; omega
theorem rA {r : aG} : rL r = 0 ↔ mV r.2.2.1 = 0 /\ iN r.2.2.2 = 0 := by
  unfold rL; rw [cH]; simp
theorem vM {r : ByteArray × Int × (List Nat) × (List (Int × Int))} (hl : r.2.2.1.length < 1000000) (hg : r.2.2.2.length < 1000000) : VF Tryz.prog OA 43 [.v dJ r] (I (cM r)) := by
  refine VF.enter Tryz.func43 rfl (fun _ _ => rfl) rfl ?_; show VC _ _ _ _ _ [(0, .v dJ r)] [] _; refine VC.seq (VC.text ?_); refine J.new (.box) ?_; refine J.c (.assign rfl) ?_; refine J.go (VC.seq (VC.seq (VC.drawn ?_))); refine VD.c (.fa (.l .o)) ?_; refine VD.r [] (.ld IP) (.inl rfl) ?_; refine VD.call rfl rfl (VF.call (acD )) ?_; refine VD.c (.not) ?_; refine VD.call rfl rfl (VF.call (kK )) ?_; refine VD.c (.fa (.r (.l .o))) (VD.nw [] ?_); refine VD.r [] (.ld cQ) (.inl rfl) ?_; refine VD.call rfl rfl (VF.call (yT )) ?_; refine VD.c (.fa (.r (.r (.l .o)))) ?_; refine VD.r [] (.ld dG) (.inl rfl) ?_; refine VD.r [] (.len bW) (.inl rfl) ?_; refine VD.c (.gtr) ?_; refine VD.call rfl rfl (VF.call (kK )) ?_; refine VD.nw [] ?_; refine VD.new (.lit [eM (!(nL r.1)) (8 : Int), gA r.2.1 (0 : Int) (100000 : Int), eM (decide ((4096 : Int) < ((r.2.2.1.length : Nat) : Int))) (5 : Int)] uR) ?_; refine VD.oE rfl rfl (VF.call (mP (by first | assumption | omega | simp))) ?_; rw [show dV [eM (!nL r.1) 8, gA r.2.1 0 100000, eM (decide ((4096 : Int) < (r.2.2.1.length : Nat))) 5] = BT r from rfl]; refine VD.c (.assign rfl) ?_; refine VD.go (VC.seq (VC.text ?_)); refine J.c (.move rfl) (J.c (.neq) (J.go ?_)); refine VC.aX rfl (fun c2 => ?_) (fun c2 => ?_)
  . refine VC.seq (VC.text ?_); refine J.c (.move rfl) (J.c (.assign rfl) (J.go ?_)); refine VC.ret ?_; exact aW.one rfl bP (fB (by rw [cM, if_pos c2]))
  refine VC.skip (VC.seq (VC.seq (VC.drawn ?_))); refine VD.c (.fa (.r (.r (.l .o)))) ?_; refine VD.r [] (.ld dG) (.inl rfl) ?_; refine VD.call rfl rfl (VF.call (acS (by first | assumption | omega | simp))) ?_; refine VD.c (.fa (.r (.r (.r .o)))) ?_; refine VD.r [] (.ld gK) (.inl rfl) ?_; refine VD.call rfl rfl (VF.call (YF (by first | assumption | omega | simp))) ?_; refine VD.nw [] ?_; refine VD.new (.lit [mV r.2.2.1, iN r.2.2.2] uR) ?_; refine VD.oE rfl rfl (VF.call (mP (by first | assumption | omega | simp))) ?_; rw [show dV [mV r.2.2.1, iN r.2.2.2] = rL r from rfl]; refine VD.c (.assign rfl) ?_; refine VD.go (VC.seq (VC.text ?_)); refine J.c (.move rfl) (J.c (.neq) (J.go ?_)); refine VC.aX rfl (fun c5 => ?_) (fun c5 => ?_)
  . refine VC.seq ?_; refine VC.aV [(1, .p dJ r), (4, I (rL r))] ⟨rfl, rfl, trivial⟩ ?_; refine VC.text ?_; refine J.c (.move rfl) (J.c (.assign rfl) (J.go ?_)); refine VC.ret ?_; exact aW.one rfl bP (fB (by rw [cM, if_neg c2, if_pos c5]))
  have jX := rA.1 (Classical.not_not.1 c5); have agF := (jU jX.2).1.1; refine VC.skip (VC.seq ?_); refine VC.aV [(1, .p dJ r)] ⟨rfl, trivial⟩ ?_; refine VC.text ?_; refine J.c (.fa (.r (.r (.r .o)))) ?_; refine J.r (.ld gK) ?_; refine J.c (.func) ?_; refine J.call rfl rfl (VF.call (HT (F := fun s => decide ((r.2.2.1.length : Int) < s.2)) hg (fun _ _ => VF.lA acT))) ?_; rw [show (r.2.2.2.any fun s => decide ((r.2.2.1.length : Int) < s.2)) = P0 r from rfl]; refine J.c (.assign rfl) ?_; refine J.go (VC.seq (VC.seq (VC.text ?_))); refine J.c (.move rfl) (J.go ?_); refine VC.eR rfl (fun c8 => ?_) (fun c8 => ?_)
  . refine VC.seq (VC.text ?_); refine J.c (.assign rfl) (J.go ?_); refine VC.ret ?_; exact aW.one rfl bP (fB (by rw [cM, if_neg c2, if_neg c5, if_pos c8]))
  have uL := YR c8
  have vF : ∀ s ∈ r.2.2.2, 0 <= s.1 /\ s.1 <= s.2 /\ s.2 <= (r.2.2.1.length : Nat) := fun s hs => by have := agF s hs; have := uL s hs; omega
  refine VC.skip (VC.seq (VC.text ?_)); refine J.c (.fa (.r (.r (.r .o)))) ?_; refine J.r (.ld gK) ?_; refine J.c (.func) ?_; refine J.call rfl rfl (VF.call (HT (F := fun s => ((r.2.2.1.take s.2.toNat).drop s.1.toNat).any tO) hg (fun s hs => VF.lA (acU (vF s hs) hl)))) ?_; refine J.c (.assign rfl) ?_; refine J.go (VC.seq (VC.text ?_)); refine J.c (.move rfl) ?_; refine J.call rfl rfl (VF.call (kK )) ?_; refine J.c (.assign rfl) (J.go ?_); refine VC.ret ?_; exact aW.one rfl bP (fB (by rw [cM, if_neg c2, if_neg c5, if_neg (by rw [c8]; decide)] <;> rfl))
theorem FX {r : aG} : BT r = if dV [eM (!nL r.1) 8, gA r.2.1 0 100000] = 0 then eM (decide ((4096 : Int) < (r.2.2.1.length : Nat))) 5 else dV [eM (!nL r.1) 8, gA r.2.1 0 100000] := by
  unfold BT; show (if _ = 0 then (if _ = 0 then (if _ = 0 then 0 else _) else _) else _) = if (if _ = 0 then (if _ = 0 then 0 else _) else _) = 0 then _ else (if _ = 0 then (if _ = 0 then 0 else _) else _); split
  . split
    . rw [if_pos rfl]; split
      . rename_i h; exact h.symm
      rfl
    rename_i h; first | rfl | (rw [if_neg h]; done)
  rename_i h; first | rfl | (rw [if_neg h]; done)
theorem agG {r : aG} (h : mV r.2.2.1 ≠ 0) : rL r = mV r.2.2.1 := by
  unfold rL; show (if _ = 0 then _ else _) = _; rw [if_neg h]
theorem agH {r : aG} (h : mV r.2.2.1 = 0) : rL r = iN r.2.2.2 := by
  unfold rL; show (if _ = 0 then (if _ = 0 then 0 else _) else _) = _; rw [if_pos h]; split
  . rename_i h2; exact h2.symm
  rfl
theorem J4 {r : aG} (vF : ∀ s ∈ r.2.2.2, 0 <= s.1 /\ s.1 <= s.2 /\ s.2 <= (r.2.2.1.length : Nat)) {i : Nat} (hi : i < r.2.2.1.length) (h1 : tO r.2.2.1[i] = true) (h2 : Sp.bE r.2.2.2 i = true) : LY r = true := by
  obtain ⟨s, hs, h3⟩ := List.any_eq_true.1 h2; simp only [Bool.and_eq_true, decide_eq_true_eq] at h3; have h4 := vF s hs; refine List.any_eq_true.2 ⟨s, hs, List.any_eq_true.2 ⟨r.2.2.1[i], ?_, h1⟩⟩; refine List.mem_iff_getElem.2 ⟨i - s.1.toNat, by rw [List.length_drop, List.length_take]; omega, ?_⟩; rw [List.getElem_drop, List.getElem_take]; simp only [show s.1.toNat + (i - s.1.toNat) = i by omega]
theorem E0 {r : aG} (h : ∀ i (hi : i < r.2.2.1.length), ¬ (tO r.2.2.1[i] = true /\ Sp.bE r.2.2.2 i = true)) (vF : ∀ s ∈ r.2.2.2, 0 <= s.1 /\ s.1 <= s.2 /\ s.2 <= (r.2.2.1.length : Nat)) : LY r = false := by
  refine List.any_eq_false.2 fun s hs => ?_; rw [Bool.not_eq_true]; refine List.any_eq_false.2 fun x hx => ?_; obtain ⟨k, hk, rfl⟩ := List.mem_iff_getElem.1 hx; rw [List.length_drop, List.length_take] at hk; rw [List.getElem_drop, List.getElem_take]; have h4 := vF s hs; intro h1; refine h (s.1.toNat + k) (by omega) ⟨h1, List.any_eq_true.2 ⟨s, hs, ?_⟩⟩; simp only [Bool.and_eq_true, decide_eq_true_eq]; omega
theorem UP {r : ByteArray × Int × (List Nat) × (List (Int × Int))} (hl : r.2.2.1.length < 1000000) (hg : r.2.2.2.length < 1000000) : VF Tryz.prog OA 45 [.v dY r] (I (cM r)) := by
  refine VF.enter Tryz.func45 rfl (fun _ _ => rfl) rfl ?_; show VC _ _ _ _ _ [(0, .v dY r)] [] _; refine VC.seq (VC.text ?_); refine J.new (.box) ?_; refine J.c (.assign rfl) ?_; refine J.go (VC.seq (VC.seq (VC.drawn ?_))); refine VD.c (.fa (.l .o)) ?_; refine VD.r [] (.ld IP) (.inl rfl) ?_; refine VD.call rfl rfl (VF.call (YD )) ?_; refine VD.c (.fa (.r (.l .o))) ?_; refine VD.r [] (.ld cQ) (.inl rfl) ?_; refine VD.call rfl rfl (VF.call (IN )) ?_; refine VD.nw [] ?_; refine VD.new (.lit [eM (!nL r.1) 8, gA r.2.1 (0 : Int) (100000 : Int)] mO) ?_; refine VD.oE rfl rfl (VF.call (YC (by first | assumption | omega | simp))) ?_; refine VD.c (.assign rfl) ?_; refine VD.go (VC.seq (VC.text ?_)); refine J.c (.move rfl) (J.c (.neq) (J.go ?_)); refine VC.aX rfl (fun c2 => ?_) (fun c2 => ?_)
  . refine VC.seq (VC.text ?_); refine J.c (.move rfl) (J.c (.assign rfl) (J.go ?_)); refine VC.ret ?_; exact aW.one rfl bP (fB (by rw [cM, FX, if_neg c2, if_pos c2]))
  have ha0 := Classical.not_not.1 c2; refine VC.skip (VC.seq (VC.seq (VC.text ?_))); refine J.c (.fa (.r (.r (.l .o)))) ?_; refine J.r (.ld dG) ?_; refine J.r (.len bW) ?_; refine J.c (.gtr) (J.go ?_); refine VC.aX rfl (fun c4 => ?_) (fun c4 => ?_)
  . refine VC.seq (VC.text ?_); refine J.c (.assign rfl) (J.go ?_); refine VC.ret ?_; exact aW.one rfl bP (fB (by rw [cM, FX, if_pos ha0, decide_eq_true c4] <;> rfl))
  have hh : BT r = 0 := by rw [FX, if_pos ha0, decide_eq_false c4] <;> rfl
  refine VC.skip (VC.seq (VC.seq (VC.text ?_))); refine J.c (.assign rfl) ?_; refine J.go (VC.block ?_); refine VC.aV [(1, .p dY r), (4, I ((0 : Nat) : Int))] ⟨rfl, rfl, trivial⟩ ?_; refine VC.loop (I := fun kk ff ss => ∃ (j : Nat), kk = r.2.2.1.length - j /\ ff = [(1, .p dY r), (4, I ((j : Nat) : Int))] /\ ss = [] /\ (j <= r.2.2.1.length) /\ (mV r.2.2.1 = mV (r.2.2.1.drop j))) ?_ _ _ _ ⟨0, rfl, rfl, rfl, Nat.zero_le _, (by rfl)⟩; rintro kk ff ss ⟨j, kJ, rfl, rfl, hj, hf⟩; refine VC.seq (VC.seq (VC.text ?_)); refine J.c (.move rfl) (J.c (.fa (.r (.r (.l .o)))) ?_); refine J.r (.ld dG) ?_; refine J.r (.len bW) ?_; refine J.c (.lss) (J.go ?_); refine VC.aX rfl (fun c7 => ?_) (fun c7 => ?_)
  . refine VC.skip (VC.seq (VC.block (VC.seq (VC.text ?_)))); refine J.c (.fa (.r (.r (.l .o)))) ?_; refine J.r (.ld dG) ?_; refine J.c (.move rfl) (J.c (.ix (j := j) rfl rfl bW (by omega)) ?_); refine J.r (.ld eN) ?_; refine J.call rfl rfl (VF.call (aiM )) ?_; refine J.c (.assign rfl) ?_; refine J.go (VC.seq (VC.text ?_)); refine J.c (.move rfl) (J.c (.neq) (J.go ?_)); refine VC.aX rfl (fun r7 => ?_) (fun r7 => ?_)
    . refine VC.seq (VC.text ?_); refine J.c (.move rfl) (J.c (.assign rfl) (J.go ?_)); refine VC.ret ?_; exact aW.one rfl bP (fB (by rw [cM, if_neg (fun h => h hh), agG (by rw [hf, qI (by omega), if_neg r7]; exact r7), hf, qI (by omega), if_neg r7, if_pos r7]))
    refine VC.skip (VC.text ?_); refine J.c (.move rfl) (J.c (.add rfl rfl (by omega)) (J.c (.assign rfl) ?_)); refine J.nil ?_; refine ⟨_, [(1, .p dY r), (4, I (((j + 1) : Nat) : Int))], ?_, ⟨rfl, rfl, trivial⟩, (j + 1), rfl, rfl, rfl, (by omega), (by rw [hf, qI (by omega), if_pos (by simpa using r7)])⟩; omega
  have NL : mV r.2.2.1 = 0 := by rw [hf, FW (by omega)]
  refine VC.exit (VC.seq (VC.seq (VC.text ?_))); refine J.c (.fa (.r (.r (.r .o)))) ?_; refine J.r (.ld gK) ?_; refine J.call rfl rfl (VF.call (YE (by first | assumption | omega | simp))) ?_; refine J.c (.assign rfl) ?_; refine J.go (VC.seq (VC.text ?_)); refine J.c (.move rfl) (J.c (.neq) (J.go ?_)); refine VC.aX rfl (fun c13 => ?_) (fun c13 => ?_)
  . refine VC.seq (VC.text ?_); refine J.c (.move rfl) (J.c (.assign rfl) (J.go ?_)); refine VC.ret ?_; exact aW.one rfl bP (fB (by rw [cM, if_neg (fun h => h hh), agH NL, if_pos c13]))
  have hs0 := Classical.not_not.1 c13; have jX : rL r = 0 := rA.2 ⟨NL, hs0⟩; have agF := (jU hs0).1.1; refine VC.skip (VC.seq (VC.seq (VC.text ?_))); refine J.c (.assign rfl) ?_; refine J.go (VC.block ?_); refine VC.aV [(1, .p dY r), (7, I ((0 : Nat) : Int))] ⟨rfl, rfl, trivial⟩ ?_; refine VC.loop (I := fun kk ff ss => ∃ (k : Nat), kk = r.2.2.2.length - k /\ ff = [(1, .p dY r), (7, I ((k : Nat) : Int))] /\ ss = [] /\ (k <= r.2.2.2.length) /\ (∀ q (h : q < r.2.2.2.length), q < k -> ¬ (r.2.2.1.length : Int) < r.2.2.2[q].2)) ?_ _ _ _ ⟨0, rfl, rfl, rfl, Nat.zero_le _, (by exact fun q _ h => absurd h (by omega))⟩; rintro kk ff ss ⟨k, yE, rfl, rfl, hk, hi⟩; refine VC.seq (VC.seq (VC.text ?_)); refine J.c (.move rfl) (J.c (.fa (.r (.r (.r .o)))) ?_); refine J.r (.ld gK) ?_; refine J.r (.len cD) ?_; refine J.c (.lss) (J.go ?_); refine VC.aX rfl (fun FY => ?_) (fun FY => ?_)
  . refine VC.skip (VC.seq (VC.block (VC.seq (VC.drawn ?_)))); refine VD.c (.fa (.r (.r (.r .o)))) ?_; refine VD.r [] (.ld gK) (.inl rfl) ?_; refine VD.c (.move rfl) (VD.c (.ix (j := k) rfl rfl cD (by omega)) (VD.c (.fa (.r .o)) ?_)); refine VD.r [] (.ld cQ) (.inl rfl) ?_; refine VD.nw [] (VD.c (.fa (.r (.r (.l .o)))) ?_); refine VD.r [] (.ld dG) (.inl rfl) ?_; refine VD.r [] (.len bW) (.inl rfl) ?_; refine VD.c (.gtr) (VD.go ?_); refine VC.aX rfl (fun c18 => ?_) (fun c18 => ?_)
    . refine VC.seq (VC.text ?_); refine J.c (.assign rfl) (J.go ?_); refine VC.ret ?_; exact aW.one rfl bP (fB (by rw [cM, if_neg (fun h => h hh), if_neg (fun h => h jX), if_pos (show P0 r = true from List.any_eq_true.2 ⟨_, List.getElem_mem (show k < r.2.2.2.length by omega), decide_eq_true c18⟩)]))
    refine VC.skip (VC.text ?_); refine J.c (.move rfl) (J.c (.add rfl rfl (by omega)) (J.c (.assign rfl) ?_)); refine J.nil ?_; refine ⟨_, [(1, .p dY r), (7, I (((k + 1) : Nat) : Int))], ?_, ⟨rfl, rfl, trivial⟩, (k + 1), rfl, rfl, rfl, (by omega), (by exact fun q h h3 => if e : q = k then (by subst e; exact c18) else hi q h (by omega))⟩; omega
  have PL : P0 r = false := List.any_eq_false.2 fun s hs => by
    obtain ⟨q, hq, rfl⟩ := List.mem_iff_getElem.1 hs; simpa using hi q hq (by omega)
  have uL := YR PL
  have vF : ∀ s ∈ r.2.2.2, 0 <= s.1 /\ s.1 <= s.2 /\ s.2 <= (r.2.2.1.length : Nat) := fun s hs => by have := agF s hs; have := uL s hs; omega
  refine VC.exit (VC.seq (VC.seq (VC.text ?_))); refine J.c (.assign rfl) ?_; refine J.go (VC.block ?_); refine VC.aV [(1, .p dY r), (8, I ((0 : Nat) : Int))] ⟨rfl, rfl, trivial⟩ ?_; refine VC.loop (I := fun kk ff ss => ∃ (i : Nat), kk = r.2.2.1.length - i /\ ff = [(1, .p dY r), (8, I ((i : Nat) : Int))] /\ ss = [] /\ (i <= r.2.2.1.length) /\ (∀ q (h : q < r.2.2.1.length), q < i -> ¬ (tO r.2.2.1[q] = true /\ Sp.bE r.2.2.2 q = true))) ?_ _ _ _ ⟨0, rfl, rfl, rfl, Nat.zero_le _, (by exact fun q _ h => absurd h (by omega))⟩; rintro kk ff ss ⟨i, hk4, rfl, rfl, AQ, o9⟩; refine VC.seq (VC.seq (VC.text ?_)); refine J.c (.move rfl) (J.c (.fa (.r (.r (.l .o)))) ?_); refine J.r (.ld dG) ?_; refine J.r (.len bW) ?_; refine J.c (.lss) (J.go ?_); refine VC.aX rfl (fun c21 => ?_) (fun c21 => ?_)
  . refine VC.skip (VC.seq (VC.block (VC.seq (VC.text ?_)))); refine J.c (.fa (.r (.r (.l .o)))) ?_; refine J.r (.ld dG) ?_; refine J.c (.move rfl) (J.c (.ix (j := i) rfl rfl bW (by omega)) ?_); refine J.r (.ld eN) ?_; refine J.c (.OP .neq) (J.c (.move rfl) ?_); refine J.cg (r := (dB .neq .f32 (r.2.2.1[i]) (0 : Nat))) (w := true) [] trivial (fun _ => (.fa (.r (.r (.r (k := 0) .o))))) ?_; refine J.rg (r := (dB .neq .f32 (r.2.2.1[i]) (0 : Nat))) (w := true) [(77, .p aZ r.2.2.2)] ⟨rfl, trivial⟩ (fun _ => (.ld gK)) ?_; refine J.cg (r := (dB .neq .f32 (r.2.2.1[i]) (0 : Nat))) (w := true) [] trivial (fun _ => (.move rfl)) ?_; refine J.L7 (r0 := (dB .neq .f32 (r.2.2.1[i]) (0 : Nat))) (w := true) [(78, .v aZ r.2.2.2), (79, I ((i : Nat) : Int))] ⟨rfl, rfl, trivial⟩ rfl rfl .same .refl rfl (fun iK => have aoK : (dB .neq .f32 (r.2.2.1[i]) (0 : Nat)) = true := (by simpa using iK); VF.call (kM (by first | assumption | omega | simp))) ?_; refine J.c (.and) (J.go ?_); refine VC.eR rfl (fun UQ => ?_) (fun UQ => ?_)
    . try simp only [Bool.and_eq_true, Bool.or_eq_true, Bool.and_eq_false_iff, Bool.or_eq_false_iff, Bool.not_eq_true', Bool.not_eq_false', decide_eq_true_eq, decide_eq_false_iff_not] at UQ
      refine VC.seq (VC.text ?_); refine J.c (.assign rfl) (J.go ?_); refine VC.ret ?_; exact aW.one rfl bP (fB (by rw [cM, if_neg (fun h => h hh), if_neg (fun h => h jX), if_neg (by rw [PL]; decide), J4 vF (show i < r.2.2.1.length by omega) UQ.1 UQ.2] <;> rfl))
    try simp only [Bool.and_eq_true, Bool.or_eq_true, Bool.and_eq_false_iff, Bool.or_eq_false_iff, Bool.not_eq_true', Bool.not_eq_false', decide_eq_true_eq, decide_eq_false_iff_not] at UQ
    have hnq : ¬ (tO r.2.2.1[i] = true /\ Sp.bE r.2.2.2 i = true) := fun h2 => by
      rcases UQ with h | h
      . exact absurd (h2.1.symm.trans h) (by decide)
      rw [h2.2] at h; cases h
    refine VC.skip (VC.text ?_); refine J.c (.move rfl) (J.c (.add rfl rfl (by omega)) (J.c (.assign rfl) ?_)); refine J.nil ?_; refine ⟨_, [(1, .p dY r), (8, I (((i + 1) : Nat) : Int))], ?_, ⟨rfl, rfl, trivial⟩, (i + 1), rfl, rfl, rfl, (by omega), (by exact fun q h h3 => if e : q = i then (by subst e; exact hnq) else o9 q h (by omega))⟩; omega
  refine VC.exit (VC.seq (VC.text ?_)); refine J.c (.assign rfl) (J.go ?_); refine VC.ret ?_; exact aW.one rfl bP (fB (by rw [cM, if_neg (fun h => h hh), if_neg (fun h => h jX), if_neg (by rw [PL]; decide), E0 (fun q h => o9 q h (by omega)) vF] <;> rfl))
end Go.Proofs
namespace Go.Fs
section
variable {P : Program} {orc : FuncId -> List Value -> U -> Option (Value × U)} {fl : VL} {σ : aR} {T : TypeId} {x y z : Operand} {κ ν : Ty} {n5 : List (κ.den × ν.den)} {k : κ.den} {w : Value} [DecidableEq κ.den] {ops : Array Oper} {n : Nat} {l : List Oper} {K : VL -> aR -> Prop} {ty : TypeId} {pos : String} {after : Array Edge} {g : Option (Nat × Bool)}
end
end Go.Fs
namespace Go.Fs
variable {P : Program} {h : U} {S : List Nat} {σ : aR} {t : Tr} {fl : VL} {x : Operand} {T e : TypeId} {τ : Ty}
theorem jR.aaJ (hZ : r6 P e (.sl τ)) : jR P fl (.alloc e) (.var [.raw (.slice none 0 0)]) :=
  ⟨rfl, fun h S t hs bZ hS => by
    obtain ⟨z, h1, h2, h3⟩ := hZ.zero; obtain ⟨z1, z2⟩ := qG h S (.sl τ); obtain ⟨a1, a2⟩ := ON (u := z) (by rw [h2]; exact z2); refine ⟨fun k => .pointer (some ⟨k, 0, none⟩), .row e z.cells.toList true false, fun _ => rfl, fun S' hN hm => ?_, fun H _ _ _ _ _ => ?_⟩
    . exact ⟨h.next, e, _, rfl, hm, by rw [U.bQ, if_pos rfl], by rw [h2]; exact ⟨_, _, rfl, rfl, rfl⟩, a2⟩
    show (match (P.info? e).bind (·.zero) with | some z => if af z then rC e z H else none | none => none) = _; rw [h1]; simp only [a1, if_true]; unfold rC
    rw [if_pos a2]⟩
end Go.Fs
namespace Go.Fs
variable {P : Program} {σ : aR} {fl : VL} {x y : Operand} {T T' : TypeId} {p q : Bool}
theorem UR (hT : P.underlying T = some .bool) : aD P (Op.equal T (.bool p) (.bool q)) = some (p == q) := by
  unfold Op.equal; rw [show Op.maxDepth = 9999 + 1 from rfl, Op.equalIn]; simp only [aC, aK hT, Option.bind_some, aL]
theorem aI.agI (hT : P.underlying T = some .bool := by kernel_rfl) (hx : aS fl x = some (.v .bool p) := by rfl) (hy : aS fl y = some (.v .bool q) := by rfl) : aI P fl σ (.binOp .eql T x y T') (.v .bool (p == q)) :=
  .bin hx hy fun h S a c ha hc => by
    obtain rfl := aE.bool ha; obtain rfl := aE.bool hc; refine ⟨.bool (p == q), aE.ofBool _, rfl, ?_⟩
    have h1 : aD P (Op.equal T (.bool p) (.bool q) >>= fun b => pure (Value.bool b)) = some (.bool (p == q)) := by
      rw [aC, UR hT]; rfl
    unfold bX; show (aD P (Op.equal T (.bool p) (.bool q) >>= fun b => pure (Value.bool b))).bind _ = _; rw [h1]; rfl
end Go.Fs
namespace Go.Proofs
open Go.Fs Ieee
set_option maxHeartbeats 2000000
end Go.Proofs
namespace Go.Fs
open Go.RowKit (Below)
variable {P : Program} {H : Type} {enc : TypeId × Value -> H} {w : World} {base : Nat} {sp : Nat -> Bool} {held : Bool}
def fsB (P : Program) (ty : TypeId -> Ty -> Bool) : List Field -> Nat -> Ty -> Bool
  | [f], off, .pair a .unit => Nat.beq f.offset off && Nat.beq (P.cellsOf f.type) a.size && ty f.type a
  | [f], off, τ => Nat.beq f.offset off && Nat.beq (P.cellsOf f.type) τ.size && ty f.type τ
  | f :: fs, off, .pair a b => Nat.beq f.offset off && Nat.beq (P.cellsOf f.type) a.size && ty f.type a && fsB P ty fs (off + a.size) b
  | _, _, _ => false
def agJ (P : Program) (m : Nat) (e : TypeId) : List Field := (List.range m).map fun i => { name := "", type := e, offset := i * P.cellsOf e, embedded := false, tag := "", pkgPath := "", byteOffset := 0 }
def yZ (P : Program) : Nat -> TypeId -> Ty -> Bool
  | 0, _, _ => false
  | n + 1, t, τ =>
    match P.underlying t, τ with
    | some (.int k), .int k' => decide (k = k')
    | some .bool, .bool => true
    | some .string, .str => true
    | some (.float k), .aO k' => decide (k = k')
    | some (.slice te), .sl e => Nat.beq (P.cellsOf te) e.size && Nat.blt 0 e.size && yZ P n te e
    | some (.struct fs), .pair a b => Nat.beq (P.cellsOf t) (Ty.pair a b).size && fsB P (yZ P n) fs.toList 0 (.pair a b)
    | some (.array m e), .pair a b => Nat.beq (P.cellsOf t) (Ty.pair a b).size && fsB P (yZ P n) (agJ P m e) 0 (.pair a b)
    | _, _ => false
def Wf : (τ : Ty) -> τ.den -> Prop
  | .int k, n => (Lit.int k n).wf = true
  | .bool, _ => True
  | .str, s => s.size <= maxLen
  | .aO k, n => (Lit.float k n).wf = true
  | .sl e, xs => List.length xs <= maxLen /\ ∀ x ∈ (xs : List e.den), Wf e x
  | .pair a b, x => Wf a x.1 /\ Wf b x.2
  | .unit, _ => True
  | .mp _ _, _ => True
  | .fn, _ => True
  | .kS, _ => True
structure uS (P : Program) (w : World) (ρ : Ren) (S : Nat -> Prop) (h : U) (bY : Ren) (S' : Nat -> Prop) (h' : U) : Prop where
  hr : HR P bY S' w.heap.size (wz w) h' w
  agree : ∀ b, S b -> S' b /\ bY b = ρ b
  iH : eV h h'
theorem uS.refl {ρ : Ren} {S : Nat -> Prop} {h : U} (hr : HR P ρ S w.heap.size (wz w) h w) : uS P w ρ S h ρ S h := ⟨hr, fun _ hb => ⟨hb, rfl⟩, eV.refl h⟩
theorem uS.trans {ρ cS j3 : Ren} {S S1 S2 : Nat -> Prop} {h h1 h2 : U} (a : uS P w ρ S h cS S1 h1) (b : uS P w cS S1 h1 j3 S2 h2) : uS P w ρ S h j3 S2 h2 :=
  ⟨b.hr, fun i hi => let ⟨h3, h4⟩ := a.agree i hi; let ⟨h5, h6⟩ := b.agree i h3; ⟨h5, h6.trans h4⟩, a.iH.trans b.iH⟩
theorem uS.ok {ρ cS : Ren} {S S1 : Nat -> Prop} {h h1 : U} (a : uS P w ρ S h cS S1 h1) : nK h1 := fun b o hg => (a.hr.ids b (a.hr.aA b o hg).1).1
theorem uS.row {ρ : Ren} {S : Nat -> Prop} {h : U} (hr : HR P ρ S w.heap.size (wz w) h w) {te : TypeId} {cs : List Value} {a : Addr} (ha : a.block < w.heap.size) (hc : ∀ i, i < cs.length -> ∃ v, w.cell? ⟨a.block, a.off + i, none⟩ = some v /\ VR ρ S (cs.getD i undef) v) :
    uS P w ρ S h (fun b => if b = h.next then (.clean a.block a.off 0 (P.cellsOf te)) else ρ b) (fun b => S b \/ b = h.next) (h.push (.row te cs false false)) := by
  have fW : ∀ b, S b -> (S b \/ b = h.next) /\ (fun b => if b = h.next then (Loc.clean a.block a.off 0 (P.cellsOf te)) else ρ b) b = ρ b := fun b hb => by
    have := (hr.ids b hb).1; exact ⟨.inl hb, by simp only; rw [if_neg (by omega)]⟩
  have hold : ∀ i o, (h.push (.row te cs false false)).get i = some o -> (i = h.next /\ o = .row te cs false false) \/ (i ≠ h.next /\ h.get i = some o) := fun i o hg => by
    rw [U.bQ] at hg; by_cases hi : i = h.next
    . rw [if_pos hi] at hg; exact .inl ⟨hi, (Option.some.inj hg).symm⟩
    rw [if_neg hi] at hg; exact .inr ⟨hi, hg⟩
  refine ⟨⟨fun i o hg => ?_, fun i j oi oj hi hj oi1 oj1 he => ?_, fun i o hg ho => ?_, fun i o hg ho => ?_, fun b hb => ?_, Nat.succ_pos _, JI (Below.refl _ _), Nat.zero_le _, Nat.le_refl _⟩, fW, eV.push h _⟩
  . rcases hold i o hg with ⟨rfl, rfl⟩ | ⟨hi, gD⟩
    . refine ⟨.inr rfl, ?_⟩; simp only [if_true]; refine ⟨rfl, fun i hi => ?_⟩; obtain ⟨v, h1, h2⟩ := hc i hi; exact ⟨v, h1, h2.mono fW⟩
    obtain ⟨h1, h2⟩ := hr.aA i o gD; refine ⟨.inl h1, ?_⟩; simp only [if_neg hi]; exact h2.mono fW
  . rcases hold i oi hi with ⟨rfl, rfl⟩ | ⟨kQ, hgi⟩
    . cases oi1
    rcases hold j oj hj with ⟨rfl, rfl⟩ | ⟨PJ, hgj⟩
    . cases oj1
    simp only [if_neg kQ, if_neg PJ] at he; exact hr.inj i j oi oj hgi hgj oi1 oj1 he
  . rcases hold i o hg with ⟨rfl, rfl⟩ | ⟨hi, gD⟩
    . cases ho
    simp only [if_neg hi]; exact hr.base i o gD ho
  . rcases hold i o hg with ⟨rfl, rfl⟩ | ⟨hi, gD⟩
    . simp only [if_true]; exact ha
    simp only [if_neg hi]; exact hr.ro i o gD ho
  have hn : (h.push (.row te cs false false)).next = h.next + 1 := rfl; rw [hn]; rcases hb with hb | rfl
  . have := hr.ids b hb; exact ⟨by omega, this.2⟩
  have := hr.pos; exact ⟨by omega, by omega⟩
theorem US {fuel : Nat} {t : TypeId} {cs : List Value} {x : DataW H × List MemPlace} {k : FloatKind} (ht : P.underlying t = some (.float k)) (h : DataW.trod enc P w base sp held fuel t cs = some x) : ∃ n, cs = [.float k n] /\ (Lit.float k n).wf = true := by
  cases fuel with
  | zero => simp [DataW.trod] at h
  | succ n =>
    unfold DataW.trod at h; rw [ht] at h; split at h <;> simp_all
theorem P1 {α β : Type} (f : α -> Option β) : ∀ (l : List α) (r : List β), l.mapM f = some r -> l.length = r.length /\ ∀ i (hi : i < l.length) (hr : i < r.length), f l[i] = some r[i]
  | [], r, h => by
    simp only [List.mapM_nil] at h; obtain rfl := Option.some.inj h
    exact ⟨rfl, fun i hi => absurd hi (by simp)⟩
  | a :: l, r, h => by
    rw [List.mapM_cons] at h
    cases hf : f a with
    | none => rw [hf] at h; cases h
    | some b =>
      rw [hf] at h
      cases hl : l.mapM f with
      | none => rw [hl] at h; cases h
      | some bs =>
        rw [hl] at h; obtain rfl := Option.some.inj h; obtain ⟨h1, h2⟩ := P1 f l bs hl; refine ⟨by simp [h1], fun i hi hr => ?_⟩
        cases i with
        | zero => exact hf
        | succ i => exact h2 i (by simpa using hi) (by simpa using hr)
theorem UT {a : Addr} {n : Nat} {cs : List Value} (h : w.cells? base a n = some cs) : cs.length = n /\ ∀ i, i < n -> w.cell? (a.add i) = some (cs.getD i undef) := by
  unfold World.cells? at h; split at h
  . obtain ⟨h1, h2⟩ := P1 _ _ _ h; rw [List.length_range] at h1; refine ⟨h1.symm, fun i hi => ?_⟩; have := h2 i (by simpa using hi) (by omega); rw [List.getElem_range] at this; rw [this]; simp [List.getD, show i < cs.length by omega]
  cases h
theorem YS {a : Addr} {v : Value} (h : w.cell? a = some v) : a.spot = none /\ a.block < w.heap.size := by
  unfold World.cell? at h; split at h
  . rename_i c _ _ hb; refine ⟨?_, (Array.getElem?_eq_some_iff.1 hb).1⟩
    cases hs : a.spot with
    | none => rfl
    | some s => rw [hs] at h; cases h
  cases h
def FZ (P : Program) (w : World) (τ : Ty) (cs : List Value) : Prop := ∀ (ρ : Ren) (S : Nat -> Prop) (h : U), HR P ρ S w.heap.size (wz w) h w ->
  ∃ bY S' h' cs' x, uS P w ρ S h bY S' h' /\ LR bY S' cs' cs /\ cG h' [] τ cs' x /\ Wf τ x
theorem LR.one {ρ : Ren} {S : Nat -> Prop} {v v' : Value} (h : VR ρ S v v') : LR ρ S [v] [v'] := LR.cons h LR.nil
theorem R6 {e : Ty} (a : Addr) (len : Nat) (iZ : ∀ i, i < len -> ∃ cs, (∀ j, j < e.size -> w.cell? (a.add (i * e.size + j)) = some (cs.getD j undef)) /\ cs.length = e.size /\ FZ P w e cs) :
    ∀ (ρ : Ren) (S : Nat -> Prop) (h : U), HR P ρ S w.heap.size (wz w) h w -> ∃ bY S' h' rs xs, uS P w ρ S h bY S' h' /\ rs.length = len * e.size /\ List.length xs = len /\ (∀ i, i < len * e.size -> ∃ v, w.cell? (a.add i) = some v /\ VR bY S' (rs.getD i undef) v) /\
      bM h' [] e rs xs /\ ∀ x ∈ (xs : List e.den), Wf e x := by
  induction len with
  | zero =>
    intro ρ S h hr
    exact ⟨ρ, S, h, [], [], uS.refl hr, by simp, rfl, fun i hi => by omega, bM.nil, fun x hx => by cases hx⟩
  | succ n ih =>
    intro ρ S h hr; obtain ⟨cS, S1, h1, rs, xs, g1, l1, l2, c1, e1, w1⟩ := ih (fun i hi => iZ i (by omega)) ρ S h hr; obtain ⟨cs, k1, k2, k3⟩ := iZ n (by omega); obtain ⟨j3, S2, h2, cs', x, g2, lr, rc, wf⟩ := k3 cS S1 h1 g1.hr; have hN : dA h1 [] h2 [] := g2.iH.nx g1.ok; have hl : cs'.length = e.size := rc.len
    have FN : bM h2 [] e cs' [x] := by
      refine ⟨by simpa using hl, fun i hi => ?_⟩
      obtain rfl : i = 0 := by simpa using hi
      simp only [Nat.zero_mul, List.drop_zero, List.getElem_cons_zero]; rw [List.take_of_length_le (by omega)]; exact rc
    refine ⟨j3, S2, h2, rs ++ cs', xs ++ [x], g1.trans g2, by rw [List.length_append, l1, hl, Nat.add_mul]; omega, by simp [l2], fun i hi => ?_, (e1.nx hN).append FN, fun y hy => ?_⟩
    . rw [Nat.add_mul, Nat.one_mul] at hi; by_cases nO : i < n * e.size
      . obtain ⟨v, X7, hv2⟩ := c1 i nO; refine ⟨v, X7, ?_⟩; rw [List.getD_eq_getElem?_getD, List.getElem?_append_left (by omega), <- List.getD_eq_getElem?_getD]; exact hv2.mono g2.agree
      have hj : i - n * e.size < e.size := by omega
      refine ⟨cs.getD (i - n * e.size) undef, ?_, ?_⟩
      . have := k1 (i - n * e.size) hj
        rwa [show n * e.size + (i - n * e.size) = i by omega] at this
      rw [List.getD_eq_getElem?_getD, List.getElem?_append_right (by omega), l1, <- List.getD_eq_getElem?_getD]; exact lr.getD _
    rcases List.mem_append.1 hy with hy | hy
    . exact w1 y hy
    obtain rfl := List.mem_singleton.1 hy; exact wf
theorem Addr.acV {a : Addr} (h : a.spot = none) (n : Nat) : a.add n = ⟨a.block, a.off + n, none⟩ := by
  obtain ⟨b, o, s⟩ := a; simp only at h; subst h; unfold Addr.add; by_cases hn : n = 0
  . subst hn; simp
  simp [hn]
theorem B3 {n : Nat} (ih : ∀ (t : TypeId) (τ : Ty), yZ P n t τ = true -> ∀ (fuel : Nat) (cs : List Value) (x : DataW H × List MemPlace), DataW.trod enc P w base sp held fuel t cs = some x -> FZ P w τ cs) :
    ∀ (fs : List Field) (off : Nat) (τ : Ty) (cs : List Value) (m : Nat), fsB P (yZ P n) fs off τ = true -> cs.length = off + τ.size -> (∀ f ∈ fs, ∃ x, DataW.trod enc P w base sp held m f.type ((cs.drop f.offset).take (P.cellsOf f.type)) = some x) -> FZ P w τ (cs.drop off) := by
  have one : ∀ (f : Field) (off : Nat) (τ : Ty) (cs : List Value) (m : Nat), f.offset = off -> P.cellsOf f.type = τ.size -> yZ P n f.type τ = true -> off + τ.size <= cs.length -> (∃ x, DataW.trod enc P w base sp held m f.type ((cs.drop f.offset).take (P.cellsOf f.type)) = some x) -> FZ P w τ ((cs.drop off).take τ.size) := by
    intro f off τ cs m h1 h2 h3 h4 ⟨x, hx⟩; rw [h1, h2] at hx; exact ih f.type τ h3 m _ x hx
  intro fs
  induction fs with
  | nil => intro off τ cs m hb; cases hb
  | cons f fs ihf =>
    intro off τ cs m hb hl kX; have hf := kX f List.mem_cons_self
    cases fs with
    | nil =>
      by_cases hs : ∃ a, τ = .pair a .unit
      . obtain ⟨a, rfl⟩ := hs; have yK : (Nat.beq f.offset off && Nat.beq (P.cellsOf f.type) a.size && yZ P n f.type a) = true := hb; obtain ⟨yK, h3⟩ := aQ yK; obtain ⟨h1, h2⟩ := aQ yK
        have hs : (Ty.pair a .unit).size = a.size := by simp [Ty.size]
        rw [hs] at hl; have := one f off a cs m (bV h1) (bV h2) h3 (by omega) hf; intro ρ S h hr; obtain ⟨bY, S', h', cs', x, g, lr, rc, wf⟩ := this ρ S h hr; have e1 : (cs.drop off).take a.size = cs.drop off := List.take_of_length_le (by rw [List.length_drop]; omega); rw [e1] at lr; have sN := rc.len; exact ⟨bY, S', h', cs', (x, ()), g, lr, ⟨by rw [List.take_of_length_le (by omega)]; exact rc, by rw [List.drop_eq_nil_of_le (by omega)]; rfl⟩, wf, trivial⟩
      have yK : (Nat.beq f.offset off && Nat.beq (P.cellsOf f.type) τ.size && yZ P n f.type τ) = true := by
        cases τ with
        | pair a b =>
          cases b with
          | unit => exact absurd ⟨a, rfl⟩ hs
          | _ => exact hb
        | _ => exact hb
      obtain ⟨yK, h3⟩ := aQ yK; obtain ⟨h1, h2⟩ := aQ yK; have := one f off τ cs m (bV h1) (bV h2) h3 (by omega) hf; have e1 : (cs.drop off).take τ.size = cs.drop off := List.take_of_length_le (by rw [List.length_drop]; omega)
      rwa [e1] at this
    | cons g fs =>
      cases τ with
      | pair a b =>
        have yK : (Nat.beq f.offset off && Nat.beq (P.cellsOf f.type) a.size && yZ P n f.type a && fsB P (yZ P n) (g :: fs) (off + a.size) b) = true := hb; obtain ⟨yK, h4⟩ := aQ yK; obtain ⟨yK, h3⟩ := aQ yK; obtain ⟨h1, h2⟩ := aQ yK; have hs : (Ty.pair a b).size = a.size + b.size := rfl; rw [hs] at hl; have ha := one f off a cs m (bV h1) (bV h2) h3 (by omega) hf; have X8 := ihf (off + a.size) b cs m h4 (by omega) (fun g hg => kX g (List.mem_cons_of_mem _ hg)); intro ρ S h hr; obtain ⟨cS, S1, qX, cs1, x1, g1, lr1, rc1, wf1⟩ := ha ρ S h hr; obtain ⟨j3, S2, I9, cs2, x2, g2, lr2, rc2, wf2⟩ := X8 cS S1 qX g1.hr; have hN : dA qX [] I9 [] := g2.iH.nx g1.ok; have AI := rc1.len; refine ⟨j3, S2, I9, cs1 ++ cs2, (x1, x2), g1.trans g2, ?_, ⟨?_, ?_⟩, wf1, wf2⟩
        . have := (lr1.mono g2.agree).append lr2
          rwa [show (cs.drop off).take a.size ++ cs.drop (off + a.size) = cs.drop off from by rw [<- List.drop_drop, List.take_append_drop]] at this
        . rw [List.take_left' AI]; exact rc1.nx hN
        rw [List.drop_left' AI]; exact rc2
      | _ => cases hb
theorem alE : ∀ (n : Nat) (t : TypeId) (τ : Ty), yZ P n t τ = true -> ∀ (fuel : Nat) (cs : List Value) (x : DataW H × List MemPlace), DataW.trod enc P w base sp held fuel t cs = some x -> FZ P w τ cs := by
  intro n
  induction n with
  | zero => intro t τ h; cases h
  | succ n ih =>
    intro t τ hb fuel cs x hx; unfold yZ at hb; split at hb
    . rename_i k k' hu; obtain rfl : k = k' := of_decide_eq_true hb; obtain ⟨m, rfl, _, hwf⟩ := DataW.trod_int hu hx; exact fun ρ S h hr => ⟨ρ, S, h, _, m, uS.refl hr, LR.one (.lit rfl), rfl, hwf⟩
    . rename_i hu; obtain ⟨b, rfl, _⟩ := DataW.trod_bool hu hx; exact fun ρ S h hr => ⟨ρ, S, h, _, b, uS.refl hr, LR.one (.lit rfl), rfl, trivial⟩
    . rename_i hu; obtain ⟨s, rfl, _, hs⟩ := DataW.trod_string hu hx; exact fun ρ S h hr => ⟨ρ, S, h, _, s, uS.refl hr, LR.one (.lit rfl), rfl, hs⟩
    . rename_i k k' hu; obtain rfl : k = k' := of_decide_eq_true hb; obtain ⟨m, rfl, hwf⟩ := US hu hx; exact fun ρ S h hr => ⟨ρ, S, h, _, m, uS.refl hr, LR.one (.lit rfl), rfl, hwf⟩
    . rename_i te e hu; obtain ⟨hb, h3⟩ := aQ hb; obtain ⟨h1, h2⟩ := aQ hb; have hce := bV h1; have oM := jA h2; rcases DataW.trod_slice hu hx with ⟨rfl, _⟩ | ⟨a, len, cap, elems, rest, m, _, rfl, _, hba, hlc, nP, hlen, FN, _⟩
      . exact fun ρ S h hr => ⟨ρ, S, h, [.slice none 0 0], [], uS.refl hr, LR.one (.lit rfl), ⟨_, rfl, .inl ⟨rfl, rfl⟩⟩, Nat.zero_le _, fun x hx => by cases hx⟩
      by_cases h0 : len = 0
      . subst h0; exact fun ρ S h hr => ⟨ρ, S, h, [.slice (some ⟨0, 0, none⟩) 0 2], [], uS.refl hr, LR.one (.slice 0 0 0 2 cap a (Nat.zero_le _) (fun h => by cases h) (fun _ => rfl) (fun h => absurd rfl h)), ⟨_, rfl, .inr ⟨0, 0, 2, rfl, .inl rfl⟩⟩, Nat.zero_le _, fun x hx => by cases hx⟩
      have iZ : ∀ i, i < len -> ∃ cs, (∀ j, j < e.size -> w.cell? (a.add (i * e.size + j)) = some (cs.getD j undef)) /\ cs.length = e.size /\ FZ P w e cs := by
        intro i hi; have := FN i hi; rw [List.getElem?_eq_getElem (by omega)] at this; rw [hce] at this
        cases hc : w.cells? base (a.add (i * e.size)) e.size with
        | none => rw [hc] at this; cases this
        | some cs =>
          rw [hc] at this; obtain ⟨k1, k2⟩ := UT hc; refine ⟨cs, fun j hj => ?_, k1, ih te e h3 m cs _ this⟩; rw [<- k2 j hj]; congr 1; obtain ⟨b, o, s⟩ := a; unfold Addr.add; by_cases FC : i * e.size = 0
          . simp [FC]
          by_cases PR : j = 0
          . subst PR; simp [FC]
          simp [FC, PR, Nat.add_assoc]
      have wE : a.spot = none /\ a.block < w.heap.size := by
        obtain ⟨cs, k1, _⟩ := iZ 0 (by omega); have := k1 0 oM; rw [Nat.zero_mul, Nat.zero_add] at this; have h4 := YS this; simpa [Addr.add] using h4
      intro ρ S h hr; obtain ⟨cS, S1, qX, rs, xs, g1, l1, l2, c1, e1, w1⟩ := R6 (P := P) a len iZ ρ S h hr
      have xN := uS.row (te := te) g1.hr (cs := rs) (a := a) wE.2 (fun i hi => by
        have := c1 i (by omega)
        rwa [Addr.acV wE.1] at this)
      have vB : k9 (qX.push (.row te rs false false)) [] e (.slice (some ⟨qX.next, 0, none⟩) (List.length xs) 2) xs := (e1.nx (xN.iH.nx g1.ok)).slv (by rw [U.bQ, if_pos rfl]) (by simp); refine ⟨_, _, _, [.slice (some ⟨qX.next, 0, none⟩) (List.length xs) 2], xs, g1.trans xN, ?_, ⟨_, rfl, vB⟩, by omega, w1⟩; rw [l2]; refine LR.one (.slice qX.next 0 len 2 cap a hlc (fun h => by cases h) (fun h5 => by have := g1.hr.pos; omega) fun _ => ⟨.inr rfl, ?_, fun h => by cases h⟩); simp only [if_true, Loc.at, Nat.add_zero]; obtain ⟨b, o, s⟩ := a; simp only at wE; rw [wE.1]
    . rename_i fs a b hu; obtain ⟨h1, h2⟩ := aQ hb; obtain ⟨xs, m, _, _, hl, dR, kX⟩ := DataW.trod_struct hu hx
      have sN : cs.length = (Ty.pair a b).size := by rw [hl, bV h1]
      have := B3 ih fs.toList 0 (.pair a b) cs m h2 (by omega) (fun f hf => by
        obtain ⟨i, hi, rfl⟩ := List.getElem_of_mem hf
        have kQ : i < fs.size := by simpa using hi
        have := kX i fs[i] (by simp [kQ]); rw [List.getElem?_eq_getElem (by omega)] at this
        exact ⟨_, by simpa using this⟩)
      simpa using this
    . rename_i m e a b hu; obtain ⟨h1, h2⟩ := aQ hb; obtain ⟨xs, m', _, _, hl, dR, kX⟩ := DataW.trod_array hu hx
      have sN : cs.length = (Ty.pair a b).size := by rw [hl, bV h1]
      have := B3 ih (agJ P m e) 0 (.pair a b) cs m' h2 (by omega) (fun f hf => by
        obtain ⟨i, hi, rfl⟩ := List.mem_map.1 hf; have kQ : i < m := List.mem_range.1 hi; have := kX i kQ; rw [List.getElem?_eq_getElem (by omega)] at this
        exact ⟨_, this⟩)
      simpa using this
    cases hb
theorem UU {n : Nat} {r : Reach} {b0 : Nat} {t : TypeId} {τ : Ty} {v : Value} (hb : yZ P n t τ = true) (jM : Value.okWide P w r b0 t v) : fZ v = τ.agg := by
  cases n with
  | zero => cases hb
  | succ n =>
    unfold yZ at hb; unfold Value.okWide at jM; split at hb
    . rename_i k k' hu; rw [hu] at jM; simp only [Cell.okWide, hu, Cell.ok] at jM; cases v <;> simp_all [fZ, Ty.agg]
    . rename_i hu; rw [hu] at jM; simp only [Cell.okWide, hu, Cell.ok] at jM; cases v <;> simp_all [fZ, Ty.agg]
    . rename_i hu; rw [hu] at jM; simp only [Cell.okWide, hu, Cell.ok] at jM; cases v <;> simp_all [fZ, Ty.agg]
    . rename_i k k' hu; rw [hu] at jM; simp only [Cell.okWide, hu, Cell.ok] at jM; cases v <;> simp_all [fZ, Ty.agg]
    . rename_i te e hu; rw [hu] at jM; simp only [Cell.okWide, hu, Cell.ok] at jM; cases v <;> simp_all [fZ, Ty.agg]
    . rename_i fs a b hu; rw [hu] at jM; obtain ⟨cs, rfl, _⟩ := jM; rfl
    . rename_i m e a b hu; rw [hu] at jM; obtain ⟨cs, rfl, _⟩ := jM; rfl
    cases hb
theorem P2 {ρ : Ren} {S : Nat -> Prop} {h : U} (hr : HR P ρ S w.heap.size (wz w) h w) {n : Nat} {r : Reach} {b0 : Nat} {t : TypeId} {τ : Ty} {v : Value} {d : DataW H} {ps : List MemPlace} (hb : yZ P n t τ = true) (jM : Value.okWide P w r b0 t v) (hd : DataW.Trod enc P w base sp held t v d ps) :
    ∃ bY S' h' v' x, uS P w ρ S h bY S' h' /\ VR bY S' v' v /\ aE h' [] τ v' x /\ Wf τ x := by
  have fW := UU hb jM; obtain ⟨fuel, hf⟩ := hd; obtain ⟨bY, S', h', cs', x, g, lr, rc, wf⟩ := alE n t τ hb fuel _ _ hf ρ S h hr
  cases IG : τ.agg with
  | true =>
    rw [IG] at fW
    cases v with
    | agg cs =>
      refine ⟨bY, S', h', .agg cs'.toArray, x, g, VR.SA (by simpa [Value.cells] using lr), ⟨IG.symm, by simpa [Value.cells] using rc⟩, wf⟩
    | _ => cases fW
  | false =>
    rw [IG] at fW; rw [cells_one fW] at lr; obtain ⟨u, rfl, hu⟩ := rc.one IG; have := lr.2 0 (by simp); exact ⟨bY, S', h', u, x, g, by simpa using this, hu, wf⟩
theorem acW (hw : 0 <= w.heap.size) : HR P (fun _ => Loc.clean 0 0 0 0) (fun _ => False) w.heap.size (wz w) ⟨1, 1, []⟩ w where
  aA := fun i o h => by cases h
  inj := fun i j oi oj h => by cases h
  base := fun i o h => by cases h
  ro := fun i o h => by cases h
  ids := fun b hb => hb.elim
  pos := Nat.one_pos
  below := JI (Below.refl _ _)
  drawn := Nat.zero_le _
  size := Nat.le_refl _
section
open Go.WideElems Go.ChangeShapes
theorem z6 (hl : laidOutB P = true) {W W' : World} (hb : Below W.heap.size W W') : ∀ {ts : List TypeId} {vs : List Value} {ds : List (DataW H)} {ps : List MemPlace}, (ts.all fun t => P.readableRec t && decide (t < P.types.size)) = true ->
    DataW.TrodAll enc P W 0 (fun _ => true) true ts vs ds ps -> (∀ x ∈ ps, x.block < W.heap.size) -> DataW.TrodAll enc P W' 0 (fun b => decide (b < W.heap.size)) true ts vs ds ps
  | [], [], [], _, _, h, _ => h
  | [], _ :: _, _, _, _, h, _ => h.elim
  | [], [], _ :: _, _, _, h, _ => h.elim
  | _ :: _, [], _, _, _, h, _ => h.elim
  | _ :: _, _ :: _, [], _, _, h, _ => h.elim
  | t :: ts, v :: vs, d :: ds, ps, ha, h, hp => by
    obtain ⟨p, q, h1, h2, rfl⟩ := h; simp only [List.all_cons, Bool.and_eq_true, decide_eq_true_eq] at ha; exact ⟨p, q, Go.RowKit.Below.trod hl ha.1.1 ha.1.2 h1 hb (fun x hx => hp x (List.mem_append_left _ hx)), z6 hl hb (by simpa using ha.2) h2 (fun x hx => hp x (List.mem_append_right _ hx)), rfl⟩
theorem abQ {f : Func} {s : ChangeSpec} {tb : TypeId} (hl : laidOutB P = true) (WV : (f.params.toList.all fun t => P.readableRec t && decide (t < P.types.size)) = true) (sT : f.resultTypes = #[tb]) (UW : P.underlying tb = some .bool) (agK : s.vars = []) {W W' : World} {args : Array Value} {ds gs : List (DataW H)}
    {before : List MemPlace} (hW : DataW.Whole enc P f.params.toList s.vars false W args.toList ds gs before) (hr : (s.fn H (ds ++ gs)).results = [.lit (.bool true)]) (ha : (s.fn H (ds ++ gs)).args = ds) (hv : (s.fn H (ds ++ gs)).vars = []) (hb : Below W.heap.size W W') :
    s.post enc P f false true false false W args (.bool true) W' := by
  have bO := hW.lt; have hW' := hW; obtain ⟨p, q, hA, hV, rfl, _, _⟩ := hW; rw [agK] at hV; have hV' : gs = [] /\ q = [] := trodVars_none hV; obtain ⟨rfl, rfl⟩ := hV'; refine ⟨ds, [], p ++ [], [], p, [], hW', ?_, ?_, ?_, hb.frame _, fun h => by cases h⟩
  . rw [hr, sT]; exact trodAll_mk1 (Go.RowKit.shut_bool UW _)
  . rw [ha]; exact z6 hl hb WV hA fun x hx => bO x (List.mem_append_left _ hx)
  rw [agK, hv]; exact rfl
end
theorem T5 (hP : lW P) {orc : FuncId -> List Value -> U -> Option (Value × U)} {W : World} (nU : cY P W.heap.size (wz W) orc) {f : FuncId} (hen : Enters P f) {fn : Func} {n : Nat} {t0 t1 : TypeId} {τ0 τ1 : Ty} (hp : fn.params = #[t0, t1]) (jX : yZ P n t0 τ0 = true) (AK : yZ P n t1 τ1 = true)
    (hE : ∀ (h : U) (v0 v1 : Value) (x0 : τ0.den) (x1 : τ1.den), nK h -> aE h [] τ0 v0 x0 -> aE h [] τ1 v1 x1 -> Wf τ0 x0 -> Wf τ1 x1 -> qW P orc f [v0, v1] h fun r h' => r = .bool true /\ h' = h)
    {args : Array Value} {ds : List (DataW H)} {ps : List MemPlace} (jM : ∀ (j : Nat) t v, fn.params[j]? = some t -> args[j]? = some v -> Value.okWide P W .any base t v) (hA : DataW.TrodAll enc P W 0 sp held fn.params.toList args.toList ds ps) :
    Calls P f args W fun | .returned v', w' => v' = .bool true /\ Below W.heap.size W w' | _, _ => False := by
  rw [hp] at hA jM; obtain ⟨v0, KG, d0, ds0, p0, q0, ha, rfl, rfl, k0, r0⟩ := Go.ChangeShapes.trodAll_cons hA; obtain ⟨v1, vs1, d1, ds1, p1, q1, rfl, rfl, rfl, k1, r1⟩ := Go.ChangeShapes.trodAll_cons r0; obtain ⟨rfl, rfl, rfl⟩ := Go.ChangeShapes.trodAll_nil r1
  obtain rfl : args = #[v0, v1] := by cases args; simp_all
  obtain ⟨ρ0, S0, h0, u0, x0, g0, c0, e0, w0⟩ := P2 (acW (P := P) (w := W) (Nat.zero_le _)) jX (jM 0 t0 v0 rfl rfl) k0; obtain ⟨cS, S1, h1, u1, x1, g1, c1, e1, w1⟩ := P2 g0.hr AK (jM 1 t1 v1 rfl rfl) k1; have hR := hE h1 u0 u1 x0 x1 g1.ok (e0.nx (g1.iH.nx g0.ok)) e1 w0 w1; refine (afE (args' := [v0, v1]) hP nU hen g1.hr (LR.cons (c0.mono g1.agree) (LR.one c1)) (qW.mono hR fun v h' h => h.1) rfl).mono fun e w' he => ?_
  cases e with
  | returned v => exact ⟨he.1, y7 he.2⟩
  | panicked c => exact he
  | outgrown => exact he
end Go.Fs
namespace Go.Proofs
open Go.Fs Ieee
set_option maxHeartbeats 2000000
theorem rQ : fU Tryz.prog 55 dY := gM (by kernel_rfl)
theorem fP : fU Tryz.prog 65 dJ := gM (by kernel_rfl)
theorem B4 : r6 Tryz.prog 65 dJ := nX (z := .agg #[.string ByteArray.empty, .int .i64 0, .slice none 0 0, .slice none 0 0]) (by kernel_rfl) rfl rfl
theorem UX : L4 Tryz.prog 65 dJ [(0, 1), (1, 1), (2, 1), (3, 1)] := DR B4 rfl (by kernel_rfl)
theorem UY {l : List Nat} (hl : l.length < 1000000) : VF Tryz.prog OA 96 [.v cL l] (.v cL l) := by
  refine VF.enter Tryz.func96 rfl (fun _ _ => rfl) rfl ?_; show VC _ _ _ _ _ [(0, .v cL l)] [] _; refine VC.seq (VC.text ?_); refine J.c (.assign rfl) ?_; refine J.go (VC.seq (VC.text ?_)); refine J.cell (.aa7 bW) ?_; intro fI; refine J.c (.move rfl) ?_; refine J.app rfl rfl bW bW (by simp; omega) ?_; intro nD; refine J.c (.assign rfl) (J.go ?_); refine VC.ret ?_; exact aW.one rfl (L8 (.row m0)) (fF (by rfl))
theorem l3 {r : ByteArray × Int × (List Nat) × (List (Int × Int))} (hl : r.2.2.1.length < 1000000) (hg : r.2.2.2.length < 1000000) : VF Tryz.prog OA 44 [.v dY r] (.v dJ r) := by
  refine VF.enter Tryz.func44 rfl (fun _ _ => rfl) rfl ?_; show VC _ _ _ _ _ [(0, .v dY r)] [] _; refine VC.seq (VC.text ?_); refine J.new (.box) ?_; refine J.cell (.alloc B4) ?_; intro lU; refine J.go (VC.seq (VC.drawn ?_)); refine VD.c (.fa (.l .o)) ?_; refine VD.r [] (.ld IP) (.inl rfl) ?_; refine VD.c (.fa (.r (.l .o))) ?_; refine VD.r [] (.ld cQ) (.inl rfl) ?_; refine VD.c (.fa (.r (.r (.l .o)))) ?_; refine VD.r [] (.ld dG) (.inl rfl) ?_; refine VD.nw [] ?_; refine VD.call rfl rfl (VF.call (UY (by first | assumption | omega | simp))) ?_; refine VD.c (.fa (.r (.r (.r .o)))) ?_; refine VD.r [] (.ld gK) (.inl rfl) ?_; refine VD.call rfl rfl (VF.call (LX (by first | assumption | omega | simp))) ?_; refine VD.c (.build (r.1, r.2.1, r.2.2.1, r.2.2.2) UX) ?_; refine VD.DM (cT.tD (k := 0) fP .v (Nat.le_of_ble_eq_true rfl) (.inr ⟨rfl, rfl⟩) rfl rfl) ?_; rintro _ _ tl4 ⟨rfl, rfl⟩; refine VD.go ?_; refine VC.ret ?_; exact aW.one rfl (.cell (x := (r.1, r.2.1, r.2.2.1, r.2.2.2)) rfl m0 fP .refl) (fF (by rfl))
def wV (r : aG) : Bool := decide ((r.1.size : Int) <= 60) && (decide ((r.2.2.1.length : Int) <= 40) || decide ((r.2.2.1.length : Int) = 4097)) && (decide ((r.2.2.2.length : Int) <= 8) || decide ((r.2.2.2.length : Int) = 2049))
theorem G0 {r : aG} (h : wV r = true) : r.1.size <= 60 /\ (r.2.2.1.length <= 40 \/ r.2.2.1.length = 4097) /\ (r.2.2.2.length <= 8 \/ r.2.2.2.length = 2049) := by
  unfold wV at h; simp only [Bool.and_eq_true, Bool.or_eq_true, decide_eq_true_eq] at h; omega
theorem YT {r : ByteArray × Int × (List Nat) × (List (Int × Int))} : VF Tryz.prog OA 37 [.v dY r] (B (wV r)) := by
  refine VF.enter Tryz.func37 rfl (fun _ _ => rfl) rfl ?_; show VC _ _ _ _ _ [(0, .v dY r)] [] _; refine VC.seq (VC.text ?_); refine J.new (.box) ?_; refine J.c (.assign rfl) ?_; refine J.go (VC.seq (VC.text ?_)); refine J.c (.fa (.l .o)) ?_; refine J.r (.ld IP) ?_; refine J.r (.TN) ?_; refine J.c (.leq) (J.c (.move rfl) ?_); refine J.bJ (x := 7) rfl (fun anL => ?_) (fun anL => ?_)
  . refine J.c (.fa (.r (.r (.l .o)))) ?_; refine J.r (.ld dG) ?_; refine J.r (.len bW) ?_; refine J.c (.leq) (J.c (.move rfl) ?_); refine J.bJ (x := 12) rfl (fun anM => ?_) (fun anM => ?_)
    . refine J.skip (J.skip (J.skip (J.skip ?_))); refine J.c (.cZ rfl rfl) (J.c (.cZ rfl rfl) (J.c (.move rfl) (J.c (.fa (.r (.r (.r .o)))) ?_))); refine J.r (.ld gK) ?_; refine J.call rfl rfl (VF.call (DX )) ?_; refine J.c (.cZ rfl rfl) (J.c (.assign rfl) (J.go ?_)); refine VC.ret ?_; exact aW.one rfl bP (fF (by simp_all [wV] <;> omega))
    refine J.c (.fa (.r (.r (.l .o)))) ?_; refine J.r (.ld dG) ?_; refine J.r (.len bW) ?_; refine J.c (.eql) (J.c (.bB rfl rfl) (J.c (.cZ rfl rfl) (J.c (.move rfl) ?_))); refine J.bJ (x := 19) rfl (fun alF => ?_) (fun alF => ?_)
    . refine J.c (.fa (.r (.r (.r .o)))) ?_; refine J.r (.ld gK) ?_; refine J.call rfl rfl (VF.call (DX )) ?_; refine J.c (.cZ rfl rfl) (J.c (.assign rfl) (J.go ?_)); refine VC.ret ?_; exact aW.one rfl bP (fF (by simp_all [wV] <;> omega))
    refine J.skip (J.skip (J.skip (J.c (.bB rfl rfl) ?_))); refine J.c (.assign rfl) (J.go ?_); refine VC.ret ?_; exact aW.one rfl bP (fF (by simp_all [wV] <;> omega))
  refine J.skip (J.skip (J.skip (J.skip ?_))); refine J.skip (J.skip (J.skip (J.skip ?_))); refine J.skip (J.skip (J.c (.bB rfl rfl) (J.c (.move rfl) ?_))); refine J.skip (J.skip (J.skip (J.c (.bB rfl rfl) ?_))); refine J.c (.assign rfl) (J.go ?_); refine VC.ret ?_; exact aW.one rfl bP (fF (by simp_all [wV] <;> omega))
end Go.Proofs
