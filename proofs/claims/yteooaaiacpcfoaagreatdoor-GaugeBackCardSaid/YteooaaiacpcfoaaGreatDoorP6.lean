/- Parts of the proof: an evaluator of the model, what it is sound for, and contracts of functions. No condition. -/
import Derived.Test.YteooaaiacpcfoaaGreatDoorP5
import Derived.Test.YteooaaiacpcfoaaGreatDoorP2
import Derived.ChangeArms
import Derived.Carry
import Derived.RowKit
import Derived.OpenShut
import Derived.Test.YteooaaiacpcfoaaGreatDoorP3
set_option linter.all false
namespace Go.Proofs
open Go.Fs
set_option maxHeartbeats 2000000
abbrev cW : Ty := (.sl (.pair (.int .i64) (.int .i64)))
theorem tI : gQ Tryz.prog 53 kP := iY (by kernel_rfl)
theorem dZ : fW Tryz.prog 23 53 kP := u7 (by kernel_rfl)
theorem UY : tG Tryz.prog 53 kP := rK (z := .agg #[.int .i64 0, .int .i64 0]) (by kernel_rfl) rfl rfl
theorem arP : EqT Tryz.prog 53 kP := akN (by kernel_rfl)
def rB (f : Nat -> Int) (i n : Nat) : Int := dH ((List.range' i (n - i)).map f)
theorem jO {f : Nat -> Int} {i n : Nat} (h : i < n) : rB f i n = if f i = 0 then rB f (i + 1) n else f i := by
  unfold rB; rw [show n - i = (n - (i + 1)) + 1 by omega, List.range'_succ] <;> rfl
theorem H5 {f : Nat -> Int} {i n : Nat} (h : n <= i) : rB f i n = 0 := by
  unfold rB; rw [show n - i = 0 by omega] <;> rfl
theorem getD_at {α : Type} {l : List α} {i : Nat} {d : α} (h : i < l.length) : l.getD i d = l[i] := by rw [List.getD_eq_getElem?_getD, List.getElem?_eq_getElem h] <;> rfl
def p9 (l : List (Int × Int)) (j : Nat) : Int × Int := l.getD j (0, 0)
theorem j7 {l : List (Int × Int)} {j : Nat} (h : j < l.length) : p9 l j = l[j] := getD_at h
def l8 (l : List (Int × Int)) (j : Nat) : Int := dH [mW (p9 l j), cL (decide (0 < (j : Int)) && decide ((p9 l j).1 <= (p9 l (j - 1)).2)) 11]
def l9 (l : List (Int × Int)) : Int := if 2048 < (l.length : Int) then 5 else rB (l8 l) 0 l.length
theorem P1 {l : List (Int × Int)} {j : Nat} (h0 : 0 < (j : Int)) (h : ((j : Int) - 1).toNat < l.length) : p9 l (j - 1) = l[((j : Int) - 1).toNat] := by
  have e : ((j : Int) - 1).toNat = j - 1 := by omega
  rw [j7 (by omega)]; simp only [e]
theorem agQ {l : List (Int × Int)} {j : Nat} (h0 : 0 < (j : Int)) (h : (max 0 ((j : Int) - 1)).toNat < l.length) : p9 l (j - 1) = l[(max 0 ((j : Int) - 1)).toNat] := by
  have e : (max 0 ((j : Int) - 1)).toNat = j - 1 := by omega
  rw [j7 (by omega)]; simp only [e]
theorem UZ {l : List (Int × Int)} {j : Nat} (h : j < l.length) (hb : mW l[j] ≠ 0) : l8 l j = 14 := by
  unfold l8; rw [j7 h]
  have : mW l[j] = 14 := by
    unfold mW at hb ⊢; split at hb
    . rename_i hc; rw [if_pos hc]
    exact absurd rfl hb
  rw [this] <;> rfl
theorem BF {l : List (Int × Int)} {j : Nat} (h : j < l.length) (hb : ¬ mW l[j] ≠ 0) : l8 l j = cL (decide (0 < (j : Int)) && decide (l[j].1 <= (p9 l (j - 1)).2)) 11 := by
  unfold l8; rw [j7 h, Classical.not_not.1 hb]; show (if (0 : Int) = 0 then _ else _) = _; rw [if_pos rfl]; unfold dH; split
  . rename_i hz; rw [hz] <;> rfl
  rfl
theorem ad3 {l : List (Int × Int)} {j : Nat} (h : j < l.length) (h0 : 0 < (j : Int)) (hm : (max 0 ((j : Int) - 1)).toNat < l.length) : l8 l j = dH [mW l[j], cL (decide (l[j].1 <= l[(max 0 ((j : Int) - 1)).toNat].2)) 11] := by
  unfold l8; rw [j7 h, agQ h0 hm, decide_eq_true h0, Bool.true_and]
theorem ad4 {l : List (Int × Int)} {j : Nat} (h : j < l.length) (h0 : ¬ 0 < (j : Int)) : l8 l j = dH [mW l[j], cL false 11] := by
  unfold l8; rw [j7 h, decide_eq_false h0, Bool.false_and]
theorem ZH {l : List (Int × Int)} (hl : l.length < 1000000) : VF Tryz.prog OA 50 [.v cW l] (I (l9 l)) := by
  refine VF.enter Tryz.func50 rfl (fun _ _ => rfl) rfl ?_; show U _ _ _ _ _ [(0, .v cW l)] [] _; refine U.seq (U.text ?_); refine J.c (.assign rfl) ?_; refine J.go (U.seq (U.seq (U.text ?_))); refine J.c (.move rfl) ?_; refine J.r (.len dZ) ?_; refine J.c (.gtr) (J.go ?_); refine U.b8 rfl (fun c1 => ?_) (fun c1 => ?_)
  . refine U.seq (U.text ?_); refine J.c (.assign rfl) (J.go ?_); refine U.ret ?_; exact aW.one rfl b6 (dM (by rw [l9, if_pos c1]))
  refine U.skip (U.seq (U.seq (U.text ?_))); refine J.c (.assign rfl) ?_; refine J.go (U.block ?_); refine U.aV [(0, .v cW l), (3, I ((0 : Nat) : Int))] ⟨rfl, rfl, trivial⟩ ?_; refine U.loop (I := fun kk ff ss => ∃ (j : Nat), kk = l.length - j /\ ff = [(0, .v cW l), (3, I ((j : Nat) : Int))] /\ ss = [] /\ (j <= l.length) /\ (l9 l = rB (l8 l) j l.length)) ?_ _ _ _ ⟨0, rfl, rfl, rfl, Nat.zero_le _, (by exact if_neg c1)⟩; rintro kk ff ss ⟨j, oL, rfl, rfl, hj, hw⟩; refine U.seq (U.seq (U.text ?_)); refine J.c (.move rfl) (J.c (.move rfl) ?_); refine J.r (.len dZ) ?_; refine J.c (.lss) (J.go ?_); refine U.b8 rfl (fun c4 => ?_) (fun c4 => ?_)
  . refine U.skip (U.seq (U.block (U.seq (U.seq (U.text ?_))))); refine J.c (.move rfl) (J.c (.move rfl) (J.c (.ix (j := j) rfl rfl dZ (by omega)) ?_)); refine J.r (.ld tI) ?_; refine J.call rfl rfl (VF.call (ad1 )) ?_; refine J.c (.neq) (J.go ?_); refine U.b8 rfl (fun c6 => ?_) (fun c6 => ?_)
    . refine U.seq (U.text ?_); refine J.c (.assign rfl) (J.go ?_); refine U.ret ?_; exact aW.one rfl b6 (dM (by rw [hw, jO (by omega), UZ (by omega) c6, if_neg (by decide)]))
    refine U.skip (U.seq (U.drawn ?_)); refine VD.c (.move rfl) (VD.c (.gtr) (VD.c (.move rfl) ?_)); refine VD.jK (x := 21) rfl (fun H4 => ?_) (fun H4 => ?_)
    . refine VD.c (.move rfl) (VD.c (.move rfl) (VD.nw [] (VD.c (.ix (j := j) rfl rfl dZ (by omega)) ?_))); refine VD.c (.fa (.l .o)) ?_; refine VD.r [] (.ld kO) (.inl rfl) ?_; refine VD.c (.move rfl) (VD.c (.move rfl) (VD.c (.sub rfl rfl (by omega)) (VD.c (.ixZ (k := (((j : Nat) : Int) - (1 : Int))) rfl rfl dZ (by omega) (by omega)) ?_))); refine VD.nw [] (VD.c (.fa (.r .o)) ?_); refine VD.r [] (.ld kO) (.inl rfl) ?_; refine VD.c (.leq) (VD.c (.iD rfl rfl) (VD.go ?_)); refine U.b8 rfl (fun c8 => ?_) (fun c8 => ?_)
      . refine U.seq (U.text ?_); refine J.c (.assign rfl) (J.go ?_); refine U.ret ?_; exact aW.one rfl b6 (dM (by rw [hw, jO (by omega), BF (by omega) c6, P1 H4 (by omega), decide_eq_true c8, decide_eq_true H4] <;> rfl))
      have hz : l8 l j = 0 := by rw [BF (by omega) c6, P1 H4 (by omega), decide_eq_false c8, Bool.and_false] <;> rfl
      refine U.skip (U.text ?_); refine J.c (.move rfl) (J.c (.add rfl rfl (by omega)) (J.c (.assign rfl) ?_)); refine J.nil ?_; refine ⟨_, [(0, .v cW l), (3, I (((j + 1) : Nat) : Int))], ?_, ⟨rfl, rfl, trivial⟩, (j + 1), rfl, rfl, rfl, (by omega), (by rw [hw, jO (by omega), if_pos hz])⟩; omega
    have hz : l8 l j = 0 := by rw [BF (by omega) c6, decide_eq_false (show ¬ 0 < (j : Int) by omega)] <;> rfl
    refine VD.skip (VD.skip (VD.nw [] (VD.skip ?_))); refine VD.skip (VD.skip (VD.skip (VD.skip ?_))); refine VD.skip (VD.skip (VD.nw [] (VD.skip ?_))); refine VD.skip (VD.skip (VD.c (.dK rfl rfl) (VD.go ?_))); refine U.BA rfl ?_; refine U.skip (U.text ?_); refine J.c (.move rfl) (J.c (.add rfl rfl (by omega)) (J.c (.assign rfl) ?_)); refine J.nil ?_; refine ⟨_, [(0, .v cW l), (3, I (((j + 1) : Nat) : Int))], ?_, ⟨rfl, rfl, trivial⟩, (j + 1), rfl, rfl, rfl, (by omega), (by rw [hw, jO (by omega), if_pos hz])⟩; omega
  refine U.exit (U.seq (U.text ?_)); refine J.c (.assign rfl) (J.go ?_); refine U.ret ?_; exact aW.one rfl b6 (dM (by rw [hw, H5 (by omega)]))
theorem ZI {l : List (Int × Int)} (hl : l.length < 1000000) : VF Tryz.prog OA 84 [.v cW l] (I (l9 l)) := by
  refine VF.enter Tryz.func84 rfl (fun _ _ => rfl) rfl ?_; show U _ _ _ _ _ [(0, .v cW l)] [] _; refine U.seq (U.text ?_); refine J.c (.assign rfl) ?_; refine J.go (U.seq (U.seq (U.text ?_))); refine J.c (.move rfl) ?_; refine J.r (.len dZ) ?_; refine J.c (.gtr) (J.go ?_); refine U.b8 rfl (fun c1 => ?_) (fun c1 => ?_)
  . refine U.seq (U.text ?_); refine J.c (.assign rfl) (J.go ?_); refine U.ret ?_; exact aW.one rfl b6 (dM (by rw [l9, if_pos c1]))
  refine U.skip (U.seq (U.seq (U.text ?_))); refine J.c (.move rfl) ?_; refine J.r (.len dZ) ?_; refine J.c (.move rfl) ?_; refine J.go (U.block ?_); refine U.aV [(0, .v cW l), (9, .v cW l), (10, I ((l.length : Nat) : Int)), (11, I ((0 : Nat) : Int))] ⟨rfl, rfl, rfl, rfl, trivial⟩ ?_; refine U.loop (I := fun kk ff ss => ∃ (j : Nat), kk = l.length - j /\ ff = [(0, .v cW l), (9, .v cW l), (10, I ((l.length : Nat) : Int)), (11, I ((j : Nat) : Int))] /\ ss = [] /\ (j <= l.length) /\ (l9 l = rB (l8 l) j l.length)) ?_ _ _ _ ⟨0, rfl, rfl, rfl, Nat.zero_le _, (by exact if_neg c1)⟩; rintro kk ff ss ⟨j, oL, rfl, rfl, hj, hw⟩; refine U.seq (U.text ?_); refine J.c (.lss) ?_; refine J.go (U.seq ?_); refine U.b8 rfl (fun c4 => ?_) (fun c4 => ?_)
  . refine U.skip (U.seq (U.block (U.seq (U.text ?_)))); refine J.c (.move rfl) (J.c (.ix (j := j) rfl rfl dZ (by omega)) ?_); refine J.r (.ld tI) ?_; refine J.cell (.alloc UY) ?_; intro eT; refine J.c (.assign rfl) ?_; refine J.lJ (cs' := [I ((l[j]).1), I ((l[j]).2)]) tI .v ?_; refine J.shut [(4, .p kP (l[j]))] (.cons rfl (.var m0 .refl) .nil) ?_; refine J.go (U.seq (U.drawn ?_)); refine VD.r [] (.ld tI) (.inl rfl) ?_; refine VD.call rfl rfl (VF.call (ad0 )) ?_; refine VD.c (.move rfl) (VD.c (.gtr) (VD.c (.move rfl) ?_)); refine VD.jK (x := 20) rfl (fun agR => ?_) (fun agR => ?_)
    . have hv := ad3 (l := l) (j := j) (by omega) agR (by omega); refine VD.nw [] (VD.c (.fa (.l .o)) ?_); refine VD.r [] (.ld kO) (.inl rfl) ?_; refine VD.c (.move rfl) (VD.c (.move rfl) (VD.c (.sub rfl rfl (by omega)) (VD.c (.imax) ?_))); refine VD.c (.ixZ (k := (max (0 : Int) (((j : Nat) : Int) - (1 : Int)))) rfl rfl dZ (by omega) (by omega)) (VD.nw [] (VD.c (.fa (.r .o)) ?_)); refine VD.r [] (.ld kO) (.inl rfl) ?_; refine VD.c (.leq) (VD.c (.iD rfl rfl) ?_); refine VD.call rfl rfl (VF.call (gR )) ?_; refine VD.new (.lit [mW (l[j]), cL (decide ((l[j]).1 <= (l[Int.toNat (max (0 : Int) (((j : Nat) : Int) - (1 : Int)))]).2)) (11 : Int)] xB) ?_; refine VD.x8 rfl rfl (VF.call (oN (by first | assumption | omega | simp))) ?_; refine VD.nw [33] (VD.c (.assign rfl) ?_); refine VD.go (U.seq (U.text ?_)); refine J.c (.move rfl) (J.c (.neq) (J.go ?_)); refine U.b8 rfl (fun c7 => ?_) (fun c7 => ?_)
      . refine U.seq (U.text ?_); refine J.c (.move rfl) (J.c (.assign rfl) (J.go ?_)); refine U.ret ?_; exact aW.one rfl b6 (dM (by rw [hw, jO (by omega), hv, if_neg c7]))
      refine U.skip (U.text ?_); refine J.c (.add rfl rfl (by omega)) (J.c (.move rfl) ?_); refine J.nil ?_; refine ⟨_, [(0, .v cW l), (9, .v cW l), (10, I ((l.length : Nat) : Int)), (11, I (((j + 1) : Nat) : Int))], ?_, ⟨rfl, rfl, rfl, rfl, trivial⟩, (j + 1), rfl, rfl, rfl, (by omega), (by rw [hw, jO (by omega), hv, if_pos (Classical.not_not.1 c7)])⟩; omega
    have hv := ad4 (l := l) (j := j) (by omega) agR; refine VD.nw [] (VD.skip (VD.skip (VD.skip ?_))); refine VD.skip (VD.skip (VD.skip (VD.skip ?_))); refine VD.nw [] (VD.skip (VD.skip (VD.skip ?_))); refine VD.c (.dK rfl rfl) ?_; refine VD.call rfl rfl (VF.call (gR )) ?_; refine VD.new (.lit [mW (l[j]), cL false (11 : Int)] xB) ?_; refine VD.x8 rfl rfl (VF.call (oN (by first | assumption | omega | simp))) ?_; refine VD.nw [33] (VD.c (.assign rfl) ?_); refine VD.go (U.seq (U.text ?_)); refine J.c (.move rfl) (J.c (.neq) (J.go ?_)); refine U.b8 rfl (fun c7 => ?_) (fun c7 => ?_)
    . refine U.seq (U.text ?_); refine J.c (.move rfl) (J.c (.assign rfl) (J.go ?_)); refine U.ret ?_; exact aW.one rfl b6 (dM (by rw [hw, jO (by omega), hv, if_neg c7]))
    refine U.skip (U.text ?_); refine J.c (.add rfl rfl (by omega)) (J.c (.move rfl) ?_); refine J.nil ?_; refine ⟨_, [(0, .v cW l), (9, .v cW l), (10, I ((l.length : Nat) : Int)), (11, I (((j + 1) : Nat) : Int))], ?_, ⟨rfl, rfl, rfl, rfl, trivial⟩, (j + 1), rfl, rfl, rfl, (by omega), (by rw [hw, jO (by omega), hv, if_pos (Classical.not_not.1 c7)])⟩; omega
  refine U.exit (U.seq (U.text ?_)); refine J.c (.assign rfl) (J.go ?_); refine U.ret ?_; exact aW.one rfl b6 (dM (by rw [hw, H5 (by omega)]))
theorem V0 {a : List (Int × Int)} {b : List (Int × Int)} (ha : a.length < 1000000) (hb : b.length < 1000000) : VF Tryz.prog OA 24 [.v cW a, .v cW b] (B (decide (a = b))) := by
  refine VF.enter Tryz.func24 rfl (fun _ _ => rfl) rfl ?_; show U _ _ _ _ _ [(0, .v cW a), (1, .v cW b)] [] _; refine U.seq (U.text ?_); refine J.c (.assign rfl) ?_; refine J.go (U.seq (U.seq (U.text ?_))); refine J.c (.move rfl) ?_; refine J.r (.len dZ) ?_; refine J.c (.move rfl) ?_; refine J.r (.len dZ) ?_; refine J.c (.neq) (J.go ?_); refine U.b8 rfl (fun c1 => ?_) (fun c1 => ?_)
  . refine U.seq (U.text ?_); refine J.c (.assign rfl) (J.go ?_); refine U.ret ?_; exact aW.one rfl b6 (eS (by exact (decide_eq_false (fun e => c1 (by rw [e]))).symm))
  refine U.skip (U.seq (U.seq (U.text ?_))); refine J.c (.assign rfl) ?_; refine J.go (U.block ?_); refine U.aV [(0, .v cW a), (1, .v cW b), (5, I ((0 : Nat) : Int))] ⟨rfl, rfl, rfl, trivial⟩ ?_; refine U.loop (I := fun kk ff ss => ∃ (j : Nat), kk = a.length - j /\ ff = [(0, .v cW a), (1, .v cW b), (5, I ((j : Nat) : Int))] /\ ss = [] /\ (j <= a.length) /\ (a.length = b.length) /\ (∀ k (h : k < a.length) (h2 : k < b.length), k < j -> a[k] = b[k])) ?_ _ _ _ ⟨0, rfl, rfl, rfl, Nat.zero_le _, (by omega), (by exact fun k _ _ h => absurd h (by omega))⟩; rintro kk ff ss ⟨j, oL, rfl, rfl, hj, hl, hi⟩; refine U.seq (U.seq (U.text ?_)); refine J.c (.move rfl) (J.c (.move rfl) ?_); refine J.r (.len dZ) ?_; refine J.c (.lss) (J.go ?_); refine U.b8 rfl (fun c4 => ?_) (fun c4 => ?_)
  . refine U.skip (U.seq (U.block (U.seq (U.drawn ?_)))); refine VD.c (.move rfl) (VD.c (.move rfl) (VD.c (.ix (j := j) rfl rfl dZ (by omega)) ?_)); refine VD.r [] (.ld tI) (.inl rfl) ?_; refine VD.c (.move rfl) (VD.c (.move rfl) (VD.nw [] (VD.c (.ix (j := j) rfl rfl dZ (by omega)) ?_))); refine VD.r [] (.ld tI) (.inl rfl) ?_; refine VD.c (.ar7 arP) (VD.go ?_); refine U.b8 rfl (fun c6 => ?_) (fun c6 => ?_)
    . refine U.seq (U.text ?_); refine J.c (.assign rfl) (J.go ?_); refine U.ret ?_; exact aW.one rfl b6 (eS (by exact (decide_eq_false (fun h => c6 (List.getElem_of_eq h _))).symm))
    refine U.skip (U.text ?_); refine J.c (.move rfl) (J.c (.add rfl rfl (by omega)) (J.c (.assign rfl) ?_)); refine J.nil ?_; refine ⟨_, [(0, .v cW a), (1, .v cW b), (5, I (((j + 1) : Nat) : Int))], ?_, ⟨rfl, rfl, rfl, trivial⟩, (j + 1), rfl, rfl, rfl, (by omega), (by omega), (by exact fun k h h2 h3 => if e : k = j then (by subst e; exact Classical.not_not.1 c6) else hi k h h2 (by omega))⟩; omega
  refine U.exit (U.seq (U.text ?_)); refine J.c (.assign rfl) (J.go ?_); refine U.ret ?_; exact aW.one rfl b6 (eS (by exact (decide_eq_true (List.ext_getElem hl (fun k h h2 => hi k h h2 (by omega)))).symm))
theorem D9 {l : List (Int × Int)} {n : Int} : VF Tryz.prog OA 36 [.v cW l, I n] (B (decide ((l.length : Int) <= n) || decide ((l.length : Int) = 2049))) := by
  refine VF.enter Tryz.func36 rfl (fun _ _ => rfl) rfl ?_; show U _ _ _ _ _ [(0, .v cW l), (1, I n)] [] _; refine U.seq (U.text ?_); refine J.c (.assign rfl) ?_; refine J.go (U.seq (U.text ?_)); refine J.c (.move rfl) ?_; refine J.r (.len dZ) ?_; refine J.c (.move rfl) (J.c (.leq) (J.c (.move rfl) ?_)); refine J.cg (r := decide (((l.length : Nat) : Int) <= n)) (w := false) [] trivial (fun _ => (.move rfl)) ?_; refine J.rg (r := decide (((l.length : Nat) : Int) <= n)) (w := false) [(10, .v cW l)] ⟨rfl, trivial⟩ (fun _ => (.len dZ)) ?_; refine J.cg (r := decide (((l.length : Nat) : Int) <= n)) (w := false) [(11, I ((l.length : Nat) : Int))] ⟨rfl, trivial⟩ (fun _ => (.eql)) ?_; refine J.c (.or) (J.c (.assign rfl) (J.go ?_)); refine U.ret ?_; exact aW.one rfl b6 (eS (by first | rfl | simp [*]))
end Go.Proofs
namespace Go.Fs
variable {P : Program} {fl : VL} {σ : aM} {T T' : TypeId} {x y : Operand}
end Go.Fs
namespace Go.Proofs
open Go.Fs
set_option maxHeartbeats 2000000
def yT (l : List (Int × Int)) (i : Nat) (t : Int) (u : Int) : Bool := Sp.gK (l.take i) u || (decide ((p9 l i).1 <= u) && decide (u < t))
theorem al2 {l : List (Int × Int)} {i : Nat} {t u : Int} (h : t <= (p9 l i).1) : yT l i t u = Sp.gK (l.take i) u := by
  unfold yT; by_cases h1 : (p9 l i).1 <= u
  . rw [decide_eq_false (show ¬ u < t by omega)]; simp
  rw [decide_eq_false h1]; simp
theorem ad5 {l : List (Int × Int)} {i : Nat} {t u : Int} (hi : i < l.length) (h : t = l[i].2) : yT l i t u = Sp.gK (l.take (i + 1)) u := by
  unfold yT; rw [List.take_succ_eq_append_getElem hi, Sp.D8, j7 hi, h]; simp [Sp.gK]
theorem ZJ {l : List (Int × Int)} {i t : Nat} (h : (p9 l i).1 <= t) : yT l i ((t + 1 : Nat) : Int) t = true := by
  unfold yT; rw [decide_eq_true h, decide_eq_true (show (t : Int) < ((t + 1 : Nat) : Int) by omega)]; simp
theorem V1 {l : List (Int × Int)} {i t u : Nat} (h : u ≠ t) : yT l i ((t + 1 : Nat) : Int) u = yT l i t u := by
  unfold yT; congr 2; exact decide_eq_decide.2 (by omega)
end Go.Proofs
namespace Go.Proofs.Sp
structure arQ (a b : List Sp) (L : List (Int × Int)) : Prop where
  ca : Canon 100000 a
  cb : Canon 100000 b
  perm : L.Perm (agP a 1 ++ agP b 2)
  sorted : L.Pairwise fun x y => x.1 <= y.1
end Go.Proofs.Sp
namespace Go.Proofs
open Go.Fs
set_option maxHeartbeats 2000000
theorem eO {l : List Int} : dH l = 0 ↔ ∀ x ∈ l, x = 0 := by
  induction l with
  | nil => exact ⟨fun _ x hx => (by cases hx), fun _ => rfl⟩
  | cons y l ih =>
    rw [dH]; by_cases h : y = 0
    . rw [if_pos h, ih]; exact ⟨fun h2 x hx => (by rcases List.mem_cons.1 hx with rfl | hx; exact h; exact h2 x hx), fun h2 x hx => h2 x (List.mem_cons_of_mem _ hx)⟩
    rw [if_neg h]; exact ⟨fun h2 => absurd h2 h, fun h2 => h2 y List.mem_cons_self⟩
theorem RQ {f : Nat -> Int} {n : Nat} (h : rB f 0 n = 0) {i : Nat} (hi : i < n) : f i = 0 :=
  eO.1 h _ (List.mem_map.2 ⟨i, by rw [List.mem_range'_1]; omega, rfl⟩)
theorem H6 {p : Int × Int} : mW p = 0 ↔ 0 <= p.1 /\ p.1 < p.2 /\ p.2 <= 100000 := by
  unfold mW; split
  . rename_i h; exact ⟨fun h2 => absurd h2 (by decide), fun h2 => by omega⟩
  exact ⟨fun _ => by omega, fun _ => rfl⟩
theorem mX {c : Bool} {e : Int} (he : e ≠ 0) : cL c e = 0 ↔ c = false := by
  cases c
  . exact ⟨fun _ => rfl, fun _ => rfl⟩
  exact ⟨fun h => absurd h he, fun h => by cases h⟩
theorem sM {l : List (Int × Int)} (h : l9 l = 0) : Sp.Canon 100000 l /\ l.length <= 2048 := by
  unfold l9 at h; split at h
  . exact absurd h (by decide)
  rename_i hn; have hz : ∀ j, j < l.length -> l8 l j = 0 := fun j hj => RQ h hj
  have hz1 : ∀ j (hj : j < l.length), 0 <= l[j].1 /\ l[j].1 < l[j].2 /\ l[j].2 <= 100000 := fun j hj => by
    have := eO.1 (hz j hj) _ List.mem_cons_self; rw [j7 hj] at this; exact H6.1 this
  refine ⟨Sp.ad2 (fun s hs => ?_) fun j hj h0 => ?_, by omega⟩
  . obtain ⟨j, hj, rfl⟩ := List.mem_iff_getElem.1 hs; exact hz1 j hj
  have h1 := eO.1 (hz j hj) _ (List.mem_cons_of_mem _ List.mem_cons_self); have h2 := (mX (by decide)).1 h1; rw [j7 hj, j7 (show j - 1 < l.length by omega), decide_eq_true (show (0 : Int) < (j : Int) by omega), Bool.true_and, decide_eq_false_iff_not] at h2; omega
theorem F4 : VF Tryz.prog OA 6 [] (B true) := VF.wJ (fun _ => rfl) fun _ _ => ⟨rfl, rfl⟩
theorem ZK {l : List (Int × Int)} (hl : l.length < 1000000) : VF Tryz.prog OA 41 [.v cW l] (.v cW l) := by
  refine VF.enter Tryz.func41 rfl (fun _ _ => rfl) rfl ?_; show U _ _ _ _ _ [(0, .v cW l)] [] _; refine U.seq (U.text ?_); refine J.c (.assign rfl) ?_; refine J.go (U.seq (U.text ?_)); refine J.cell (.U6 dZ) ?_; intro eT; refine J.c (.move rfl) ?_; refine J.app rfl rfl dZ dZ (by simp; omega) ?_; intro pA; refine J.c (.assign rfl) (J.go ?_); refine U.ret ?_; exact aW.one rfl (evC (.row m0)) (eS (by rfl))
theorem agS {l : List (Int × Int)} {t : Int} (hl : l.length < 1000000) : VF Tryz.prog OA 51 [.v cW l, I t] (B (Sp.gK l t)) := by
  refine VF.enter Tryz.func51 rfl (fun _ _ => rfl) rfl ?_; show U _ _ _ _ _ [(0, .v cW l), (1, I t)] [] _; refine U.seq (U.text ?_); refine J.c (.assign rfl) ?_; refine J.go (U.seq (U.seq (U.text ?_))); refine J.c (.assign rfl) ?_; refine J.go (U.block ?_); refine U.aV [(0, .v cW l), (1, I t), (5, I ((0 : Nat) : Int))] ⟨rfl, rfl, rfl, trivial⟩ ?_; refine U.loop (I := fun kk ff ss => ∃ (j : Nat), kk = l.length - j /\ ff = [(0, .v cW l), (1, I t), (5, I ((j : Nat) : Int))] /\ ss = [] /\ (j <= l.length) /\ (∀ k (h : k < l.length), k < j -> ¬ (l[k].1 <= t /\ t < l[k].2))) ?_ _ _ _ ⟨0, rfl, rfl, rfl, Nat.zero_le _, (by exact fun k _ h => absurd h (by omega))⟩; rintro kk ff ss ⟨j, oL, rfl, rfl, hj, hi⟩; refine U.seq (U.seq (U.text ?_)); refine J.c (.move rfl) (J.c (.move rfl) ?_); refine J.r (.len dZ) ?_; refine J.c (.lss) (J.go ?_); refine U.b8 rfl (fun c2 => ?_) (fun c2 => ?_)
  . have QM : j < l.length := by omega
    refine U.skip (U.seq (U.block (U.seq (U.text ?_)))); refine J.c (.move rfl) (J.c (.move rfl) (J.c (.move rfl) (J.c (.ix (j := j) rfl rfl dZ (by omega)) ?_))); refine J.c (.fa (.l .o)) ?_; refine J.r (.ld kO) ?_; refine J.c (.geq) (J.c (.move rfl) ?_); refine J.cg (r := decide ((l[j]).1 <= t)) (w := true) [] trivial (fun _ => (.move rfl)) ?_; refine J.cg (r := decide ((l[j]).1 <= t)) (w := true) [] trivial (fun _ => (.move rfl)) ?_; refine J.cg (r := decide ((l[j]).1 <= t)) (w := true) [] trivial (fun _ => (.move rfl)) ?_; refine J.cg (r := decide ((l[j]).1 <= t)) (w := true) [(21, .v cW l), (22, I ((j : Nat) : Int))] ⟨rfl, rfl, trivial⟩ (fun jL => have atU : (l[j]).1 <= t := (by simpa using jL); (.ixD (j := j) rfl rfl (0, 0) dZ (by omega))) ?_; refine J.cg (r := decide ((l[j]).1 <= t)) (w := true) [(23, .p kP (l.getD j (0, 0)))] ⟨rfl, trivial⟩ (fun _ => (.fa (.r (k := 0) .o))) ?_; refine J.rg (r := decide ((l[j]).1 <= t)) (w := true) [(24, .p (.int .i64) ((l.getD j (0, 0)).2))] ⟨rfl, trivial⟩ (fun _ => (.ld kO)) ?_; refine J.cg (r := decide ((l[j]).1 <= t)) (w := true) [(20, I t), (25, I ((l.getD j (0, 0)).2))] ⟨rfl, rfl, trivial⟩ (fun _ => (.lss)) ?_; refine J.c (.and) (J.go ?_); refine U.fN rfl (fun c4 => ?_) (fun c4 => ?_)
    . try simp only [Bool.and_eq_true, Bool.or_eq_true, Bool.and_eq_false_iff, Bool.or_eq_false_iff, Bool.not_eq_true', Bool.not_eq_false', decide_eq_true_eq, decide_eq_false_iff_not] at c4
      refine U.seq (U.text ?_); refine J.c (.assign rfl) (J.go ?_); refine U.ret ?_; exact aW.one rfl b6 (eS (by rw [getD_at QM] at c4; exact (List.any_eq_true.2 ⟨_, List.getElem_mem QM, by rw [decide_eq_true c4.1, decide_eq_true c4.2]; rfl⟩).symm))
    try simp only [Bool.and_eq_true, Bool.or_eq_true, Bool.and_eq_false_iff, Bool.or_eq_false_iff, Bool.not_eq_true', Bool.not_eq_false', decide_eq_true_eq, decide_eq_false_iff_not] at c4
    have mO : ¬ (l[j].1 <= t /\ t < l[j].2) := by rw [getD_at QM] at c4; omega
    refine U.skip (U.text ?_); refine J.c (.move rfl) (J.c (.add rfl rfl (by omega)) (J.c (.assign rfl) ?_)); refine J.nil ?_; refine ⟨_, [(0, .v cW l), (1, I t), (5, I (((j + 1) : Nat) : Int))], ?_, ⟨rfl, rfl, rfl, trivial⟩, (j + 1), rfl, rfl, rfl, (by omega), (by exact fun k h h3 => if e : k = j then (by subst e; exact mO) else hi k h (by omega))⟩; omega
  refine U.exit (U.seq (U.text ?_)); refine J.c (.assign rfl) (J.go ?_); refine U.ret ?_; exact aW.one rfl b6 (eS (by exact (List.any_eq_false.2 fun x hx => by obtain ⟨k, h, rfl⟩ := List.mem_iff_getElem.1 hx; have := hi k h (by omega); simp; omega).symm))
end Go.Proofs
namespace Go.Proofs
open Go.Fs Ieee
theorem w16 : u32 1098907648 = some (16 * 713623846352979940529142984724747568191373312) := by decide +kernel
theorem arR : u32 0 = some 0 := by decide +kernel
theorem w64 : u32 1115684864 = some 45671926166590716193865151022383844364247891968 := by decide +kernel
theorem arS : u32 3263168512 = some (-45671926166590716193865151022383844364247891968) := by decide +kernel
theorem amK {n : Int} (h : -100000 <= n /\ n <= 100000) : fit n := ⟨by omega, by omega⟩
theorem V2 {u : Int} (h : u.natAbs <= 45671926166590716193865151022383844364247891968) : -1024 <= (16 * u).tdiv 713623846352979940529142984724747568191373312 /\ (16 * u).tdiv 713623846352979940529142984724747568191373312 <= 1024 := by
  have h1 := Int.mul_tdiv_add_tmod (16 * u) 713623846352979940529142984724747568191373312; have h2 := Int.tmod_lt_of_pos (16 * u) (show (0 : Int) < 713623846352979940529142984724747568191373312 by decide)
  have h3 : -713623846352979940529142984724747568191373312 < (16 * u).tmod 713623846352979940529142984724747568191373312 := by
    have h4 := Int.tmod_lt_of_pos (-(16 * u)) (show (0 : Int) < 713623846352979940529142984724747568191373312 by decide); rw [Int.neg_tmod] at h4; omega
  omega
theorem agT {u : Int} {x : Nat} (hu : u32 x = some u) (h0 : u.natAbs <= 45671926166590716193865151022383844364247891968) : VF Tryz.prog OA 57 [.v (.bJ .f32) x] (I ((16 * u).tdiv 713623846352979940529142984724747568191373312)) := by
  refine VF.enter Tryz.func57 rfl (fun _ _ => rfl) rfl ?_; show U _ _ _ _ _ [(0, .v (.bJ .f32) x)] [] _; refine U.seq (U.text ?_); refine J.c (.assign rfl) ?_; refine J.go (U.seq (U.text ?_)); refine J.c (.move rfl) ?_; obtain ⟨r, hr, l3⟩ := Z2 w16 hu h0; have hf := V2 h0; refine J.c (.RJ (RM hr)) (J.c (.amI (P0 (toInt32 l3)) (amK (by omega))) (J.c (.assign rfl) (J.go ?_))); refine U.ret ?_; exact aW.one rfl b6 (dM (by first | rfl | simp))
theorem agU {u : Int} {x : Nat} (hu : u32 x = some u) : VF Tryz.prog OA 79 [.v (.bJ .f32) x] (I (fD x)) := by
  refine VF.enter Tryz.func79 rfl (fun _ _ => rfl) rfl ?_; show U _ _ _ _ _ [(0, .v (.bJ .f32) x)] [] _; refine U.seq (U.text ?_); refine J.c (.assign rfl) ?_; refine J.go (U.seq (U.seq (U.text ?_))); refine J.c (.move rfl) (J.c (.move rfl) ?_); obtain ⟨r, hr, hr0⟩ := UM hu; refine J.c (.RJ (akT hr)) (J.c (.yR (b := .neq) (zX hr0 arR).2.1) (J.go ?_)); refine U.b8 rfl (fun c1 => ?_) (fun c1 => ?_)
  . exact absurd rfl c1
  refine U.skip (U.seq (U.seq (U.text ?_))); refine J.c (.move rfl) (J.c (.yR (b := .lss) (zX hu arS).2.2.1) (J.c (.move rfl) ?_)); refine J.cg (r := decide (u < -45671926166590716193865151022383844364247891968)) (w := false) [] trivial (fun _ => (.move rfl)) ?_; refine J.cg (r := decide (u < -45671926166590716193865151022383844364247891968)) (w := false) [(10, .v (.bJ .f32) x)] ⟨rfl, trivial⟩ (fun _ => (.yR (b := .gtr) (zX hu w64).2.2.2.2.1)) ?_; refine J.c (.or) (J.go ?_); refine U.fN rfl (fun c3 => ?_) (fun c3 => ?_)
  . try simp only [Bool.and_eq_true, Bool.or_eq_true, Bool.and_eq_false_iff, Bool.or_eq_false_iff, Bool.not_eq_true', Bool.not_eq_false', decide_eq_true_eq, decide_eq_false_iff_not] at c3
    refine U.seq (U.text ?_); refine J.c (.assign rfl) (J.go ?_); refine U.ret ?_; exact aW.one rfl b6 (dM (by unfold fD; rw [hu]; simp only; rw [if_neg (by omega)]))
  try simp only [Bool.and_eq_true, Bool.or_eq_true, Bool.and_eq_false_iff, Bool.or_eq_false_iff, Bool.not_eq_true', Bool.not_eq_false', decide_eq_true_eq, decide_eq_false_iff_not] at c3
  refine U.skip (U.seq (U.text ?_)); refine J.c (.move rfl) ?_
  have hb : -45671926166590716193865151022383844364247891968 <= u /\ u <= 45671926166590716193865151022383844364247891968 := by omega
  have hf := V2 (u := u) (by omega); obtain ⟨r2, l3, hr3⟩ := Z2 w16 hu (by omega); have hi := ofInt32 (n := (16 * u).tdiv 713623846352979940529142984724747568191373312) (by omega); refine J.call rfl rfl (VF.call (agT (u := u) hu (by omega))) ?_; refine J.c (.amH .f32) (J.c (.move rfl) (J.c (.RJ (RM l3)) (J.c (.yR (b := .neq) (zX hi hr3).2.1) ?_))); refine J.call rfl rfl (VF.call (gR )) ?_; refine J.c (.assign rfl) (J.go ?_); refine U.ret ?_; exact aW.one rfl b6 (dM (by unfold fD cL; rw [hu]; simp only; have hw := RI hb; by_cases h1 : u % 44601490397061246283071436545296723011960832 = 0 <;> simp [h1, hw, hb]))
theorem agV {x : Nat} (hu : u32 x = none) : VF Tryz.prog OA 79 [.v (.bJ .f32) x] (I (fD x)) := by
  refine VF.enter Tryz.func79 rfl (fun _ _ => rfl) rfl ?_; show U _ _ _ _ _ [(0, .v (.bJ .f32) x)] [] _; refine U.seq (U.text ?_); refine J.c (.assign rfl) ?_; refine J.go (U.seq (U.seq (U.text ?_))); refine J.c (.move rfl) (J.c (.move rfl) (J.c (.arF (akU hu)) (J.c (.agJ (r := true) rfl) ?_))); refine J.go ?_; refine U.x6 rfl ?_; refine U.seq (U.text ?_); refine J.c (.assign rfl) (J.go ?_); refine U.ret ?_; exact aW.one rfl b6 (dM (by unfold fD; rw [hu]))
theorem al3 {x : Nat} : VF Tryz.prog OA 79 [.v (.bJ .f32) x] (I (fD x)) := by
  cases hu : u32 x with
  | none => exact agV hu
  | some u => exact agU hu
theorem v16 : u64 4625196817309499392 = some ((16 : Int) * ((713623846352979940529142984724747568191373312 * kW : Nat) : Int)) := by decide +kernel
theorem v64 : u64 4634204016564240384 = some ((45671926166590716193865151022383844364247891968 : Int) * ((kW : Nat) : Int)) := by decide +kernel
theorem arT : u64 13857576053419016192 = some ((-45671926166590716193865151022383844364247891968 : Int) * ((kW : Nat) : Int)) := by decide +kernel
theorem ad6 {f : Format} {x : Nat} {u : Int} (h : f.cZ x = some u) : f.order x x = some .eq := by
  rw [Format.D6 h h, D7, if_neg (by omega), if_pos rfl]
theorem ad7 {b : Nat} : VF Tryz.prog OA 148 [.v (.bJ .f64) b] (.v (.int .u64) ((b : Nat) : Int)) :=
  VF.RL (e := Extern.MathFloatBits.float64bits) Tryz.func148 (fun _ _ => rfl) (by kernel_rfl) (by kernel_rfl) (by kernel_rfl) (w := .int .u64 ((b : Nat) : Int)) rfl fun _ _ => aE.ofInt _ _
theorem ad8 {n : Nat} : VF Tryz.prog OA 147 [.v (.int .u64) ((n : Nat) : Int)] (.v (.bJ .f64) n) :=
  VF.ab7 (e := Extern.MathFloatBits.float64frombits) Tryz.func147 (fun _ _ => rfl) (by kernel_rfl) (by kernel_rfl) (by kernel_rfl) (w := .float .f64 n) rfl fun _ _ => aE.yH _ _
theorem ZL {y : Nat} (hy : ∃ u, u64 y = some u) : VF Tryz.prog OA 117 [.v (.bJ .f64) y] (.v (.bJ .f64) (double.write ((double.read y).integral .down))) := by
  obtain ⟨u, hu⟩ := hy; obtain ⟨s, m, p, h1, _, _⟩ := Format.dW hu; exact VF.RL (e := Extern.MathFloor.toIntegral "math.archFloor" .down) Tryz.func117 (fun _ _ => rfl) (by kernel_rfl) (by kernel_rfl) (by kernel_rfl) (w := .float .f64 (double.write ((double.read y).integral .down))) (Z9 h1) fun _ _ => aE.yH _ _
theorem ZM {y : Nat} (hy : ∃ u, u64 y = some u) : VF Tryz.prog OA 93 [.v (.bJ .f64) y] (.v (.bJ .f64) (double.write ((double.read y).integral .down))) := by
  refine VF.enter Tryz.func93 rfl (fun _ _ => rfl) rfl ?_; show U _ _ _ _ _ [(0, .v (.bJ .f64) y)] [] _; refine U.seq (U.text ?_); refine J.c (.assign rfl) ?_; refine J.go (U.seq ?_); refine U.x6 rfl ?_; refine U.seq (U.text ?_); refine J.c (.move rfl) ?_; refine J.call rfl rfl (VF.call (ZL (by first | assumption | omega | simp))) ?_; refine J.c (.assign rfl) (J.go ?_); refine U.ret ?_; exact aW.one rfl b6 (eS (by first | rfl | simp))
theorem V3 {y : Nat} (hy : double.order y y = some .eq) : VF Tryz.prog OA 91 [.v (.bJ .f64) y] (B false) := by
  refine VF.enter Tryz.func91 rfl (fun _ _ => rfl) rfl ?_; show U _ _ _ _ _ [(0, .v (.bJ .f64) y)] [] _; refine U.seq (U.text ?_); refine J.c (.assign rfl) ?_; refine J.go (U.seq (U.text ?_)); refine J.c (.move rfl) (J.c (.move rfl) (J.c (.yR (b := .neq) (r := false) (Z8 hy)) (J.c (.assign rfl) ?_))); refine J.go ?_; refine U.ret ?_; exact aW.one rfl b6 (eS (by first | rfl | simp))
theorem agW {b : Nat} : VF Tryz.prog OA 116 [.v (.bJ .f64) b] (.v (.bJ .f64) (b % 9223372036854775808)) := by
  refine VF.enter Tryz.func116 rfl (fun _ _ => rfl) rfl ?_; show U _ _ _ _ _ [(0, .v (.bJ .f64) b)] [] _; refine U.seq (U.text ?_); refine J.c (.assign rfl) ?_; refine J.go (U.seq (U.text ?_)); refine J.c (.move rfl) ?_; refine J.call rfl rfl (VF.call (ad7 )) ?_; refine J.c (.ZA rfl rfl) ?_; refine J.call rfl rfl (VF.call (ad8 )) ?_; refine J.c (.assign rfl) (J.go ?_); refine U.ret ?_; exact aW.one rfl b6 (eS (by first | rfl | simp))
theorem V4 {y : Nat} {s : Int} (hs : s = 0) : VF Tryz.prog OA 92 [.v (.bJ .f64) y, I s] (B (dX .gtr .f64 (y % 9223372036854775808) 9218868437227405311)) := by
  refine VF.enter Tryz.func92 rfl (fun _ _ => rfl) rfl ?_; show U _ _ _ _ _ [(0, .v (.bJ .f64) y), (1, I s)] [] _; refine U.seq (U.text ?_); refine J.c (.assign rfl) ?_; refine J.go (U.seq (U.seq (U.text ?_))); refine J.c (.move rfl) (J.c (.eql) (J.go ?_)); refine U.b8 rfl (fun c1 => ?_) (fun c1 => ?_)
  . refine U.text ?_; refine J.c (.move rfl) ?_; refine J.call rfl rfl (VF.call (agW )) ?_; refine J.c (.assign rfl) ?_; refine J.go (U.seq (U.text ?_)); refine J.c (.move rfl) (J.c (.UN .gtr) (J.c (.assign rfl) (J.go ?_))); refine U.ret ?_; exact aW.one rfl b6 (eS (by first | rfl | simp))
  exact absurd hs c1
theorem neW {r : Nat} {u : Int} (hr : u64 r = some (16 * (u * (kW : Nat)))) (hg : (decide (45671926166590716193865151022383844364247891968 < u) || decide (u < -45671926166590716193865151022383844364247891968)) = false) : dX .neq .f64 r (double.write ((double.read r).integral .down)) = decide (u % 44601490397061246283071436545296723011960832 ≠ 0) := by
  have hb : -45671926166590716193865151022383844364247891968 <= u /\ u <= 45671926166590716193865151022383844364247891968 := by simp at hg; omega
  rw [(ID hr (akS hr hb)).2.1]; exact decide_eq_decide.2 (not_congr Z7)
theorem agX {u : Int} {x : Nat} (hu : u32 x = some u) : VF Tryz.prog OA 49 [.v (.bJ .f32) x] (I (fD x)) := by
  refine VF.enter Tryz.func49 rfl (fun _ _ => rfl) rfl ?_; show U _ _ _ _ _ [(0, .v (.bJ .f32) x)] [] _; refine U.seq (U.text ?_); refine J.c (.assign rfl) ?_; refine J.go (U.seq (U.text ?_)); refine J.c (.move rfl) ?_; have hb := Z5 hu; have hy := Z3 hu hb; obtain ⟨r, hr, l3⟩ := akR v16 hu hy hb; refine J.c (.Z3 hu hy) (J.c (.assign rfl) ?_); refine J.go (U.seq (U.seq (U.text ?_))); refine J.c (.move rfl) ?_; refine J.call rfl rfl (VF.call (V3 (ad6 hy))) ?_; refine J.c (.move rfl) (J.c (.move rfl) ?_); refine J.call rfl rfl (VF.call (V4 rfl)) ?_; refine J.c (.dK rfl rfl) (J.go ?_); refine U.fN rfl (fun c2 => ?_) (fun c2 => ?_)
  . rw [(ID (ZB hy) ao8).2.2.2.2.1] at c2; simp at c2; have := ZC hb; omega
  refine U.skip (U.seq (U.seq (U.text ?_))); refine J.c (.move rfl) (J.c (.yR (b := .gtr) (r := decide (45671926166590716193865151022383844364247891968 < u)) ((ID hy v64).2.2.2.2.1.trans (decide_eq_decide.2 (Int.mul_lt_mul_right IC)))) (J.c (.move rfl) ?_)); refine J.cg (r := decide (45671926166590716193865151022383844364247891968 < u)) (w := false) [] trivial (fun _ => (.move rfl)) ?_; refine J.cg (r := decide (45671926166590716193865151022383844364247891968 < u)) (w := false) [(15, .v (.bJ .f64) (double.write (single.read x)))] ⟨rfl, trivial⟩ (fun _ => (.yR (b := .lss) (r := decide (u < -45671926166590716193865151022383844364247891968)) ((ID hy arT).2.2.1.trans (decide_eq_decide.2 (Int.mul_lt_mul_right IC))))) ?_; refine J.c (.or) (J.c (.move rfl) ?_); refine J.cg (r := ((decide (45671926166590716193865151022383844364247891968 < u)) || (decide (u < -45671926166590716193865151022383844364247891968)))) (w := false) [] trivial (fun _ => (.move rfl)) ?_; refine J.cg (r := ((decide (45671926166590716193865151022383844364247891968 < u)) || (decide (u < -45671926166590716193865151022383844364247891968)))) (w := false) [(19, .v (.bJ .f64) (double.write (single.read x)))] ⟨rfl, trivial⟩ (fun _ => (.RJ (ab9 hr))) ?_; refine J.cg (r := ((decide (45671926166590716193865151022383844364247891968 < u)) || (decide (u < -45671926166590716193865151022383844364247891968)))) (w := false) [] trivial (fun _ => (.move rfl)) ?_; refine J.cg (r := ((decide (45671926166590716193865151022383844364247891968 < u)) || (decide (u < -45671926166590716193865151022383844364247891968)))) (w := false) [(21, .v (.bJ .f64) (double.write (single.read x)))] ⟨rfl, trivial⟩ (fun _ => (.RJ (ab9 hr))) ?_; refine J.R4 (r0 := ((decide (45671926166590716193865151022383844364247891968 < u)) || (decide (u < -45671926166590716193865151022383844364247891968)))) (w := false) [(22, .v (.bJ .f64) r)] ⟨rfl, trivial⟩ rfl rfl .same .refl rfl (fun _ => VF.call (ZM ⟨_, l3⟩)) ?_; refine J.cg (r := ((decide (45671926166590716193865151022383844364247891968 < u)) || (decide (u < -45671926166590716193865151022383844364247891968)))) (w := false) [(20, .v (.bJ .f64) r), (23, .v (.bJ .f64) (double.write ((double.read r).integral .down)))] ⟨rfl, rfl, trivial⟩ (fun jL => have agN : ((decide (45671926166590716193865151022383844364247891968 < u)) || (decide (u < -45671926166590716193865151022383844364247891968))) = false := (by simpa using jL); (.yR (b := .neq) (neW l3 agN))) ?_; refine J.c (.or) (J.go ?_); refine U.fN rfl (fun c4 => ?_) (fun c4 => ?_)
  . try simp only [Bool.and_eq_true, Bool.or_eq_true, Bool.and_eq_false_iff, Bool.or_eq_false_iff, Bool.not_eq_true', Bool.not_eq_false', decide_eq_true_eq, decide_eq_false_iff_not] at c4
    refine U.seq (U.text ?_); refine J.c (.assign rfl) (J.go ?_); refine U.ret ?_; exact aW.one rfl b6 (dM (by unfold fD; rw [hu]; simp only; rw [if_neg]; omega))
  try simp only [Bool.and_eq_true, Bool.or_eq_true, Bool.and_eq_false_iff, Bool.or_eq_false_iff, Bool.not_eq_true', Bool.not_eq_false', decide_eq_true_eq, decide_eq_false_iff_not] at c4
  refine U.skip (U.seq (U.text ?_)); refine J.c (.assign rfl) (J.go ?_); refine U.ret ?_; exact aW.one rfl b6 (dM (by unfold fD; rw [hu]; simp only; rw [if_pos]; omega))
theorem agY {s : Bool} {x : Nat} (hu : single.read x = .infinity s) : VF Tryz.prog OA 49 [.v (.bJ .f32) x] (I (fD x)) := by
  refine VF.enter Tryz.func49 rfl (fun _ _ => rfl) rfl ?_; show U _ _ _ _ _ [(0, .v (.bJ .f32) x)] [] _; refine U.seq (U.text ?_); refine J.c (.assign rfl) ?_; refine J.go (U.seq (U.text ?_)); refine J.c (.move rfl) (J.c (.akV hu) (J.c (.assign rfl) ?_)); refine J.go (U.seq (U.seq (U.text ?_))); refine J.c (.move rfl) ?_; refine J.call rfl rfl (VF.call (V3 (by cases s <;> decide +kernel))) ?_; refine J.c (.move rfl) (J.c (.move rfl) ?_); refine J.call rfl rfl (VF.call (V4 rfl)) ?_; refine J.c (.dK rfl rfl) (J.go ?_); refine U.fN rfl (fun c2 => ?_) (fun c2 => ?_)
  . refine U.seq (U.text ?_); refine J.c (.assign rfl) (J.go ?_); refine U.ret ?_; exact aW.one rfl b6 (dM (by unfold fD u32 Format.cZ; rw [hu]))
  exact absurd c2 (by cases s <;> decide +kernel)
theorem ad9 : VF Tryz.prog OA 91 [.raw (jH .f64)] (B true) := by
  refine VF.enter Tryz.func91 rfl (fun _ _ => rfl) rfl ?_; show U _ _ _ _ _ [(0, .raw (jH .f64))] [] _; refine U.seq (U.text ?_); refine J.c (.assign rfl) ?_; refine J.go (U.seq (U.text ?_)); refine J.c (.move rfl) (J.c (.move rfl) (J.c (.acS (k := .f64) (r := true) rfl) (J.c (.assign rfl) ?_))); refine J.go ?_; refine U.ret ?_; exact aW.one rfl b6 rfl
theorem agZ {s : Bool} {m : Nat} {x : Nat} (hu : single.read x = .nan s m) : VF Tryz.prog OA 49 [.v (.bJ .f32) x] (I (fD x)) := by
  refine VF.enter Tryz.func49 rfl (fun _ _ => rfl) rfl ?_; show U _ _ _ _ _ [(0, .v (.bJ .f32) x)] [] _; refine U.seq (U.text ?_); refine J.c (.assign rfl) ?_; refine J.go (U.seq (U.text ?_)); refine J.c (.move rfl) (J.c (.akW hu) (J.c (.assign rfl) ?_)); refine J.go (U.seq (U.seq (U.text ?_))); refine J.c (.move rfl) ?_; refine J.call rfl rfl (VF.call (ad9 )) ?_; refine J.c (.move rfl) (J.skip (J.skip (J.c (.iD rfl rfl) ?_))); refine J.go ?_; refine U.x6 rfl ?_; refine U.seq (U.text ?_); refine J.c (.assign rfl) (J.go ?_); refine U.ret ?_; exact aW.one rfl b6 (dM (by unfold fD u32 Format.cZ; rw [hu]))
theorem al4 {x : Nat} : VF Tryz.prog OA 49 [.v (.bJ .f32) x] (I (fD x)) := by
  cases hu : u32 x with
  | some u => exact agX hu
  | none =>
    rcases Format.GU hu with ⟨s, h⟩ | ⟨s, m, h⟩
    . exact agY h
    exact agZ h
theorem adA {x : Nat} (hx : fD x = 0) : VF Tryz.prog OA 57 [.v (.bJ .f32) x] (I (qV x)) := by
  refine VF.enter Tryz.func57 rfl (fun _ _ => rfl) rfl ?_; show U _ _ _ _ _ [(0, .v (.bJ .f32) x)] [] _; refine U.seq (U.text ?_); refine J.c (.assign rfl) ?_; refine J.go (U.seq (U.text ?_)); refine J.c (.move rfl) ?_; obtain ⟨hu, h0, h1⟩ := mF hx; obtain ⟨r, hr, l3⟩ := Z2 w16 hu (by omega); have hs := agI (u := qV x * 44601490397061246283071436545296723011960832) rfl; have ht := toInt32 l3; rw [hs] at ht; refine J.c (.RJ (RM hr)) (J.c (.amI (P0 ht) (amK (by omega))) (J.c (.assign rfl) (J.go ?_))); refine U.ret ?_; exact aW.one rfl b6 (dM (by first | rfl | simp))
end Go.Proofs
namespace Go.Proofs
open Go.Fs Ieee
set_option maxHeartbeats 2000000
abbrev eZ : Ty := (.sl (.bJ .f32))
abbrev pV : Ty := (.pair .str (.pair (.int .i64) (.pair (.sl (.bJ .f32)) (.sl (.pair (.int .i64) (.int .i64))))))
abbrev jP : Ty := (.pair .str (.pair (.int .i64) (.pair (.sl (.bJ .f32)) (.sl (.pair (.int .i64) (.int .i64))))))
theorem BG : gQ Tryz.prog 9 .str := iY (by kernel_rfl)
theorem j0 : gQ Tryz.prog 22 eZ := iY (by kernel_rfl)
theorem o5 : gQ Tryz.prog 23 cW := iY (by kernel_rfl)
theorem yU : gQ Tryz.prog 68 (.bJ .f32) := iY (by kernel_rfl)
theorem eU : fW Tryz.prog 22 68 (.bJ .f32) := u7 (by kernel_rfl)
abbrev bS := ByteArray × Int × List Nat × List (Int × Int)
def vR {α : Type} (F : α -> Bool) : List α -> Int -> Int
  | [], _ => -1
  | x :: l, k => if F x = true then k else vR F l (k + 1)
theorem xC {α : Type} {F : α -> Bool} {l : List α} {j : Nat} (hj : j < l.length) : vR F (l.drop j) (j : Nat) = if F l[j] = true then ((j : Nat) : Int) else vR F (l.drop (j + 1)) ((j + 1 : Nat) : Int) := by
  rw [List.drop_eq_getElem_cons hj] <;> rfl
theorem P2 {α : Type} {F : α -> Bool} {l : List α} {j : Nat} {k : Int} (hj : l.length <= j) : vR F (l.drop j) k = -1 := by rw [List.drop_eq_nil_of_le hj] <;> rfl
theorem F5 {α : Type} {F : α -> Bool} : ∀ {l : List α} {k : Int}, 0 <= k -> ((0 <= vR F l k) ↔ l.any F = true)
  | [], k, _ => by simp [vR]
  | x :: l, k, h => by
    unfold vR; rw [List.any_cons]; by_cases hx : F x = true
    . rw [if_pos hx, hx]; simp [h]
    rw [if_neg hx, F5 (l := l) (by omega)]; simp [hx]
theorem RR {F : Nat -> Bool} {l : List Nat} {f : PV} (hl : l.length < 1000000) (hf : ∀ x ∈ l, qQ Tryz.prog OA f [.v (.bJ .f32) x] (B (F x))) : VF Tryz.prog OA 115 [.v eZ l, f] (I (vR F l 0)) := by
  refine VF.enter Tryz.func115 rfl (fun _ _ => rfl) rfl ?_; show U _ _ _ _ _ [(0, .v eZ l), (1, f)] [] _; refine U.seq (U.text ?_); refine J.c (.assign rfl) ?_; refine J.go (U.seq (U.seq (U.text ?_))); refine J.c (.move rfl) ?_; refine J.r (.len eU) ?_; refine J.c (.move rfl) ?_; refine J.go (U.block ?_); refine U.aV [(0, .v eZ l), (1, f), (7, I ((l.length : Nat) : Int)), (8, I ((0 : Nat) : Int))] ⟨rfl, rfl, rfl, rfl, trivial⟩ ?_; refine U.loop (I := fun kk ff ss => ∃ (j : Nat), kk = l.length - j /\ ff = [(0, .v eZ l), (1, f), (7, I ((l.length : Nat) : Int)), (8, I ((j : Nat) : Int))] /\ ss = [] /\ (j <= l.length) /\ (vR F l 0 = vR F (l.drop j) (j : Nat))) ?_ _ _ _ ⟨0, rfl, rfl, rfl, Nat.zero_le _, (by rfl)⟩; rintro kk ff ss ⟨j, oL, rfl, rfl, hj, hi⟩; refine U.seq (U.text ?_); refine J.c (.lss) ?_; refine J.go (U.seq ?_); refine U.b8 rfl (fun c2 => ?_) (fun c2 => ?_)
  . refine U.skip (U.seq (U.block (U.seq (U.text ?_)))); refine J.c (.move rfl) (J.c (.assign rfl) ?_); refine J.go (U.seq (U.text ?_)); refine J.c (.move rfl) (J.c (.move rfl) (J.c (.move rfl) (J.c (.ix (j := j) rfl rfl eU (by omega)) ?_))); refine J.r (.ld yU) ?_; refine J.call rfl rfl ((hf _ (List.getElem_mem _)) ) ?_; refine J.go ?_; refine U.fN rfl (fun c4 => ?_) (fun c4 => ?_)
    . refine U.seq (U.text ?_); refine J.c (.move rfl) (J.c (.assign rfl) (J.go ?_)); refine U.ret ?_; exact aW.one rfl b6 (dM (by rw [hi, xC (by omega), if_pos c4]))
    refine U.skip (U.text ?_); refine J.c (.add rfl rfl (by omega)) (J.c (.move rfl) ?_); refine J.nil ?_; refine ⟨_, [(0, .v eZ l), (1, f), (7, I ((l.length : Nat) : Int)), (8, I (((j + 1) : Nat) : Int))], ?_, ⟨rfl, rfl, rfl, rfl, trivial⟩, (j + 1), rfl, rfl, rfl, (by omega), (by rw [hi, xC (by omega), if_neg (by rw [c4]; decide)])⟩; omega
  refine U.exit (U.seq (U.text ?_)); refine J.c (.assign rfl) (J.go ?_); refine U.ret ?_; exact aW.one rfl b6 (dM (by rw [hi, P2 (by omega)]))
theorem V5 {F : Nat -> Bool} {l : List Nat} {f : PV} (hl : l.length < 1000000) (hf : ∀ x ∈ l, qQ Tryz.prog OA f [.v (.bJ .f32) x] (B (F x))) : VF Tryz.prog OA 88 [.v eZ l, f] (B (l.any F)) := by
  refine VF.enter Tryz.func88 rfl (fun _ _ => rfl) rfl ?_; show U _ _ _ _ _ [(0, .v eZ l), (1, f)] [] _; refine U.seq (U.text ?_); refine J.c (.assign rfl) ?_; refine J.go (U.seq (U.text ?_)); refine J.c (.move rfl) (J.c (.move rfl) ?_); refine J.call rfl rfl (VF.call (RR (F := F) hl hf)) ?_; refine J.c (.geq) (J.c (.assign rfl) (J.go ?_)); refine U.ret ?_; exact aW.one rfl b6 (eS (by have h9 := F5 (F := F) (l := l) (k := 0) (by omega); cases h8 : l.any F <;> simp_all))
theorem RS {F : Int × Int -> Bool} {l : List (Int × Int)} {f : PV} (hl : l.length < 1000000) (hf : ∀ x ∈ l, qQ Tryz.prog OA f [.v kP x] (B (F x))) : VF Tryz.prog OA 114 [.v cW l, f] (I (vR F l 0)) := by
  refine VF.enter Tryz.func114 rfl (fun _ _ => rfl) rfl ?_; show U _ _ _ _ _ [(0, .v cW l), (1, f)] [] _; refine U.seq (U.text ?_); refine J.c (.assign rfl) ?_; refine J.go (U.seq (U.seq (U.text ?_))); refine J.c (.move rfl) ?_; refine J.r (.len dZ) ?_; refine J.c (.move rfl) ?_; refine J.go (U.block ?_); refine U.aV [(0, .v cW l), (1, f), (7, I ((l.length : Nat) : Int)), (8, I ((0 : Nat) : Int))] ⟨rfl, rfl, rfl, rfl, trivial⟩ ?_; refine U.loop (I := fun kk ff ss => ∃ (j : Nat), kk = l.length - j /\ ff = [(0, .v cW l), (1, f), (7, I ((l.length : Nat) : Int)), (8, I ((j : Nat) : Int))] /\ ss = [] /\ (j <= l.length) /\ (vR F l 0 = vR F (l.drop j) (j : Nat))) ?_ _ _ _ ⟨0, rfl, rfl, rfl, Nat.zero_le _, (by rfl)⟩; rintro kk ff ss ⟨j, oL, rfl, rfl, hj, hi⟩; refine U.seq (U.text ?_); refine J.c (.lss) ?_; refine J.go (U.seq ?_); refine U.b8 rfl (fun c2 => ?_) (fun c2 => ?_)
  . refine U.skip (U.seq (U.block (U.seq (U.text ?_)))); refine J.c (.move rfl) (J.c (.assign rfl) ?_); refine J.go (U.seq (U.text ?_)); refine J.c (.move rfl) (J.c (.move rfl) (J.c (.move rfl) (J.c (.ix (j := j) rfl rfl dZ (by omega)) ?_))); refine J.r (.ld tI) ?_; refine J.call rfl rfl ((hf _ (List.getElem_mem _)) ) ?_; refine J.go ?_; refine U.fN rfl (fun c4 => ?_) (fun c4 => ?_)
    . refine U.seq (U.text ?_); refine J.c (.move rfl) (J.c (.assign rfl) (J.go ?_)); refine U.ret ?_; exact aW.one rfl b6 (dM (by rw [hi, xC (by omega), if_pos c4]))
    refine U.skip (U.text ?_); refine J.c (.add rfl rfl (by omega)) (J.c (.move rfl) ?_); refine J.nil ?_; refine ⟨_, [(0, .v cW l), (1, f), (7, I ((l.length : Nat) : Int)), (8, I (((j + 1) : Nat) : Int))], ?_, ⟨rfl, rfl, rfl, rfl, trivial⟩, (j + 1), rfl, rfl, rfl, (by omega), (by rw [hi, xC (by omega), if_neg (by rw [c4]; decide)])⟩; omega
  refine U.exit (U.seq (U.text ?_)); refine J.c (.assign rfl) (J.go ?_); refine U.ret ?_; exact aW.one rfl b6 (dM (by rw [hi, P2 (by omega)]))
theorem H7 {F : Int × Int -> Bool} {l : List (Int × Int)} {f : PV} (hl : l.length < 1000000) (hf : ∀ x ∈ l, qQ Tryz.prog OA f [.v kP x] (B (F x))) : VF Tryz.prog OA 85 [.v cW l, f] (B (l.any F)) := by
  refine VF.enter Tryz.func85 rfl (fun _ _ => rfl) rfl ?_; show U _ _ _ _ _ [(0, .v cW l), (1, f)] [] _; refine U.seq (U.text ?_); refine J.c (.assign rfl) ?_; refine J.go (U.seq (U.text ?_)); refine J.c (.move rfl) (J.c (.move rfl) ?_); refine J.call rfl rfl (VF.call (RS (F := F) hl hf)) ?_; refine J.c (.geq) (J.c (.assign rfl) (J.go ?_)); refine U.ret ?_; exact aW.one rfl b6 (eS (by have h9 := F5 (F := F) (l := l) (k := 0) (by omega); cases h8 : l.any F <;> simp_all))
def mY (l : List Nat) : Int := dH (l.map fD)
theorem qW {l : List Nat} {j : Nat} (hj : j < l.length) : mY (l.drop j) = if fD l[j] = 0 then mY (l.drop (j + 1)) else fD l[j] := by
  unfold mY; rw [List.drop_eq_getElem_cons hj] <;> rfl
theorem F6 {l : List Nat} {j : Nat} (hj : l.length <= j) : mY (l.drop j) = 0 := by rw [List.drop_eq_nil_of_le hj] <;> rfl
theorem adB {l : List Nat} (hl : l.length < 1000000) : VF Tryz.prog OA 83 [.v eZ l] (I (mY l)) := by
  refine VF.enter Tryz.func83 rfl (fun _ _ => rfl) rfl ?_; show U _ _ _ _ _ [(0, .v eZ l)] [] _; refine U.seq (U.text ?_); refine J.c (.assign rfl) (J.go ?_); refine U.scope ?_; refine U.seq (U.text ?_); refine J.c (.assign rfl) ?_; refine J.go (U.seq ?_); refine U.label ?_; refine U.seq (U.seq (U.text ?_)); refine J.c (.move rfl) ?_; refine J.r (.len eU) ?_; refine J.c (.move rfl) ?_; refine J.go (U.block ?_); refine U.aV [(3, I 0), (6, .v eZ l), (7, I ((l.length : Nat) : Int)), (8, I ((0 : Nat) : Int))] ⟨rfl, rfl, rfl, rfl, trivial⟩ ?_; refine U.loop (I := fun kk ff ss => ∃ (j : Nat), kk = l.length - j /\ ff = [(3, I 0), (6, .v eZ l), (7, I ((l.length : Nat) : Int)), (8, I ((j : Nat) : Int))] /\ ss = [] /\ (j <= l.length) /\ (mY l = mY (l.drop j))) ?_ _ _ _ ⟨0, rfl, rfl, rfl, Nat.zero_le _, (by rfl)⟩; rintro kk ff ss ⟨j, oL, rfl, rfl, hj, hf⟩; refine U.seq (U.text ?_); refine J.c (.lss) ?_; refine J.go (U.seq ?_); refine U.b8 rfl (fun c3 => ?_) (fun c3 => ?_)
  . refine U.skip (U.seq (U.block (U.seq (U.text ?_)))); refine J.c (.ix (j := j) rfl rfl eU (by omega)) ?_; refine J.r (.ld yU) ?_; refine J.c (.assign rfl) ?_; refine J.go (U.seq (U.text ?_)); refine J.c (.move rfl) ?_; refine J.call rfl rfl (VF.call (al3 )) ?_; refine J.c (.assign rfl) ?_; refine J.go (U.seq (U.text ?_)); refine J.c (.move rfl) (J.c (.neq) (J.go ?_)); refine U.b8 rfl (fun c6 => ?_) (fun c6 => ?_)
    . refine U.exit (U.seq (U.text ?_)); refine J.c (.move rfl) (J.c (.assign rfl) (J.go ?_)); refine U.ret ?_; exact aW.one rfl b6 (dM (by first | (rw [hf, qW (by omega), if_neg c6]; done) | rw [hf, F6 (by omega)]))
    refine U.skip (U.text ?_); refine J.c (.add rfl rfl (by omega)) (J.c (.move rfl) ?_); refine J.nil ?_; refine ⟨_, [(3, I 0), (6, .v eZ l), (7, I ((l.length : Nat) : Int)), (8, I (((j + 1) : Nat) : Int))], ?_, ⟨slI rfl (by simpa using c6), rfl, rfl, rfl, trivial⟩, (j + 1), rfl, rfl, rfl, (by omega), (by rw [hf, qW (by omega), if_pos (by simpa using c6)])⟩; omega
  refine U.exit (U.seq (U.text ?_)); refine J.c (.move rfl) (J.c (.assign rfl) (J.go ?_)); refine U.ret ?_; exact aW.one rfl b6 (dM (by first | (rw [hf, qW (by omega), if_neg c6]; done) | rw [hf, F6 (by omega)]))
def DA (x : Nat) : Bool := dX .neq .f32 x 0
def P3 (r : bS) : Bool := r.2.2.2.any fun s => decide ((r.2.2.1.length : Int) < s.2)
def LO (r : bS) : Bool := r.2.2.2.any fun s => ((r.2.2.1.take s.2.toNat).drop s.1.toNat).any DA
def BH (r : bS) : Int := dH [cL (!kI r.1) 8, kB r.2.1 0 100000, cL (decide ((4096 : Int) < (r.2.2.1.length : Nat))) 5]
def rV (r : bS) : Int := dH [mY r.2.2.1, l9 r.2.2.2]
def bT (r : bS) : Int := if BH r ≠ 0 then BH r else if rV r ≠ 0 then rV r else if P3 r = true then 14 else cL (LO r) 1
theorem adC {s : Int × Int} {r : ByteArray × Int × (List Nat) × (List (Int × Int))} : VF Tryz.prog OA 86 [.v kP s, .p jP r] (B (decide ((r.2.2.1.length : Int) < s.2))) := by
  refine VF.enter Tryz.func86 rfl (fun _ _ => rfl) rfl ?_; show U _ _ _ _ _ [(0, .v kP s), (1, .p jP r)] [] _; refine U.seq (U.text ?_); refine J.new (.box) ?_; refine J.c (.assign rfl) ?_; refine J.go (U.seq (U.text ?_)); refine J.c (.fa (.r .o)) ?_; refine J.r (.ld kO) ?_; refine J.c (.fa (.r (.r (.l .o)))) ?_; refine J.r (.ld j0) ?_; refine J.r (.len eU) ?_; refine J.c (.gtr) (J.c (.assign rfl) (J.go ?_)); refine U.ret ?_; exact aW.one rfl b6 (eS (by rfl))
theorem ZN {x : Nat} : VF Tryz.prog OA 89 [.v (.bJ .f32) x] (B (DA x)) := by
  refine VF.enter Tryz.func89 rfl (fun _ _ => rfl) rfl ?_; show U _ _ _ _ _ [(0, .v (.bJ .f32) x)] [] _; refine U.seq (U.text ?_); refine J.c (.assign rfl) ?_; refine J.go (U.seq (U.text ?_)); refine J.c (.move rfl) (J.c (.UN .neq) (J.c (.assign rfl) (J.go ?_))); refine U.ret ?_; exact aW.one rfl b6 (eS (by rfl))
theorem adD {s : Int × Int} {r : ByteArray × Int × (List Nat) × (List (Int × Int))} (hs : 0 <= s.1 /\ s.1 <= s.2 /\ s.2 <= (r.2.2.1.length : Nat)) (hl : r.2.2.1.length < 1000000) : VF Tryz.prog OA 87 [.v kP s, .p jP r] (B (((r.2.2.1.take s.2.toNat).drop s.1.toNat).any DA)) := by
  refine VF.enter Tryz.func87 rfl (fun _ _ => rfl) rfl ?_; show U _ _ _ _ _ [(0, .v kP s), (1, .p jP r)] [] _; refine U.seq (U.text ?_); refine J.new (.box) ?_; refine J.c (.assign rfl) ?_; refine J.go (U.seq (U.text ?_)); refine J.c (.fa (.r (.r (.l .o)))) ?_; refine J.r (.ld j0) ?_; refine J.c (.fa (.l .o)) ?_; refine J.r (.ld kO) ?_; refine J.c (.fa (.r .o)) ?_; refine J.r (.ld kO) ?_; refine J.r (.cut rfl rfl rfl eU (by exact hs)) ?_; refine J.call rfl rfl (VF.call (V5 (F := DA) (by simp; omega) (fun _ _ => VF.call ZN))) ?_; refine J.c (.assign rfl) (J.go ?_); refine U.ret ?_; exact aW.one rfl b6 (eS (by rfl))
theorem ZO {r : bS} (h : P3 r = false) : ∀ s ∈ r.2.2.2, s.2 <= (r.2.2.1.length : Nat) := fun s hs => by
  have := List.any_eq_false.1 h s hs; simp at this; omega
theorem rL {r : bS} : rV r = 0 ↔ mY r.2.2.1 = 0 /\ l9 r.2.2.2 = 0 := by
  unfold rV; rw [eO]; simp
theorem DB {r : ByteArray × Int × (List Nat) × (List (Int × Int))} (hl : r.2.2.1.length < 1000000) (hg : r.2.2.2.length < 1000000) : VF Tryz.prog OA 37 [.v jP r] (I (bT r)) := by
  refine VF.enter Tryz.func37 rfl (fun _ _ => rfl) rfl ?_; show U _ _ _ _ _ [(0, .v jP r)] [] _; refine U.seq (U.text ?_); refine J.new (.box) ?_; refine J.c (.assign rfl) ?_; refine J.go (U.seq (U.seq (U.drawn ?_))); refine VD.c (.fa (.l .o)) ?_; refine VD.r [] (.ld BG) (.inl rfl) ?_; refine VD.call rfl rfl (VF.call (acY )) ?_; refine VD.c (.not) ?_; refine VD.call rfl rfl (VF.call (gR )) ?_; refine VD.c (.fa (.r (.l .o))) (VD.nw [] ?_); refine VD.r [] (.ld kO) (.inl rfl) ?_; refine VD.call rfl rfl (VF.call (UU )) ?_; refine VD.c (.fa (.r (.r (.l .o)))) ?_; refine VD.r [] (.ld j0) (.inl rfl) ?_; refine VD.r [] (.len eU) (.inl rfl) ?_; refine VD.c (.gtr) ?_; refine VD.call rfl rfl (VF.call (gR )) ?_; refine VD.nw [] ?_; refine VD.new (.lit [cL (!(kI r.1)) (8 : Int), kB r.2.1 (0 : Int) (100000 : Int), cL (decide ((4096 : Int) < ((r.2.2.1.length : Nat) : Int))) (5 : Int)] xB) ?_; refine VD.x8 rfl rfl (VF.call (oN (by first | assumption | omega | simp))) ?_; rw [show dH [cL (!kI r.1) 8, kB r.2.1 0 100000, cL (decide ((4096 : Int) < (r.2.2.1.length : Nat))) 5] = BH r from rfl]; refine VD.c (.assign rfl) ?_; refine VD.go (U.seq (U.text ?_)); refine J.c (.move rfl) (J.c (.neq) (J.go ?_)); refine U.b8 rfl (fun c2 => ?_) (fun c2 => ?_)
  . refine U.seq (U.text ?_); refine J.c (.move rfl) (J.c (.assign rfl) (J.go ?_)); refine U.ret ?_; exact aW.one rfl b6 (dM (by rw [bT, if_pos c2]))
  refine U.skip (U.seq (U.seq (U.drawn ?_))); refine VD.c (.fa (.r (.r (.l .o)))) ?_; refine VD.r [] (.ld j0) (.inl rfl) ?_; refine VD.call rfl rfl (VF.call (adB (by first | assumption | omega | simp))) ?_; refine VD.c (.fa (.r (.r (.r .o)))) ?_; refine VD.r [] (.ld o5) (.inl rfl) ?_; refine VD.call rfl rfl (VF.call (ZI (by first | assumption | omega | simp))) ?_; refine VD.nw [] ?_; refine VD.new (.lit [mY r.2.2.1, l9 r.2.2.2] xB) ?_; refine VD.x8 rfl rfl (VF.call (oN (by first | assumption | omega | simp))) ?_; rw [show dH [mY r.2.2.1, l9 r.2.2.2] = rV r from rfl]; refine VD.c (.assign rfl) ?_; refine VD.go (U.seq (U.text ?_)); refine J.c (.move rfl) (J.c (.neq) (J.go ?_)); refine U.b8 rfl (fun c5 => ?_) (fun c5 => ?_)
  . refine U.seq ?_; refine U.aV [(1, .p jP r), (4, I (rV r))] ⟨rfl, rfl, trivial⟩ ?_; refine U.text ?_; refine J.c (.move rfl) (J.c (.assign rfl) (J.go ?_)); refine U.ret ?_; exact aW.one rfl b6 (dM (by rw [bT, if_neg c2, if_pos c5]))
  have iQ := rL.1 (Classical.not_not.1 c5); have ah0 := (sM iQ.2).1.1; refine U.skip (U.seq ?_); refine U.aV [(1, .p jP r)] ⟨rfl, trivial⟩ ?_; refine U.text ?_; refine J.c (.fa (.r (.r (.r .o)))) ?_; refine J.r (.ld o5) ?_; refine J.c (.func) ?_; refine J.call rfl rfl (VF.call (H7 (F := fun s => decide ((r.2.2.1.length : Int) < s.2)) hg (fun _ _ => VF.mR adC))) ?_; rw [show (r.2.2.2.any fun s => decide ((r.2.2.1.length : Int) < s.2)) = P3 r from rfl]; refine J.c (.assign rfl) ?_; refine J.go (U.seq (U.seq (U.text ?_))); refine J.c (.move rfl) (J.go ?_); refine U.fN rfl (fun c8 => ?_) (fun c8 => ?_)
  . refine U.seq (U.text ?_); refine J.c (.assign rfl) (J.go ?_); refine U.ret ?_; exact aW.one rfl b6 (dM (by rw [bT, if_neg c2, if_neg c5, if_pos c8]))
  have uR := ZO c8
  have nL : ∀ s ∈ r.2.2.2, 0 <= s.1 /\ s.1 <= s.2 /\ s.2 <= (r.2.2.1.length : Nat) := fun s hs => by have := ah0 s hs; have := uR s hs; omega
  refine U.skip (U.seq (U.text ?_)); refine J.c (.fa (.r (.r (.r .o)))) ?_; refine J.r (.ld o5) ?_; refine J.c (.func) ?_; refine J.call rfl rfl (VF.call (H7 (F := fun s => ((r.2.2.1.take s.2.toNat).drop s.1.toNat).any DA) hg (fun s hs => VF.mR (adD (nL s hs) hl)))) ?_; refine J.c (.assign rfl) ?_; refine J.go (U.seq (U.text ?_)); refine J.c (.move rfl) ?_; refine J.call rfl rfl (VF.call (gR )) ?_; refine J.c (.assign rfl) (J.go ?_); refine U.ret ?_; exact aW.one rfl b6 (dM (by rw [bT, if_neg c2, if_neg c5, if_neg (by rw [c8]; decide)] <;> rfl))
theorem F7 {r : bS} : BH r = if dH [cL (!kI r.1) 8, kB r.2.1 0 100000] = 0 then cL (decide ((4096 : Int) < (r.2.2.1.length : Nat))) 5 else dH [cL (!kI r.1) 8, kB r.2.1 0 100000] := by
  unfold BH; show (if _ = 0 then (if _ = 0 then (if _ = 0 then 0 else _) else _) else _) = if (if _ = 0 then (if _ = 0 then 0 else _) else _) = 0 then _ else (if _ = 0 then (if _ = 0 then 0 else _) else _); split
  . split
    . rw [if_pos rfl]; split
      . rename_i h; exact h.symm
      rfl
    rename_i h; first | rfl | (rw [if_neg h]; done)
  rename_i h; first | rfl | (rw [if_neg h]; done)
theorem ah1 {r : bS} (h : mY r.2.2.1 ≠ 0) : rV r = mY r.2.2.1 := by
  unfold rV; show (if _ = 0 then _ else _) = _; rw [if_neg h]
theorem ah2 {r : bS} (h : mY r.2.2.1 = 0) : rV r = l9 r.2.2.2 := by
  unfold rV; show (if _ = 0 then (if _ = 0 then 0 else _) else _) = _; rw [if_pos h]; split
  . rename_i h2; exact h2.symm
  rfl
theorem abD {r : bS} (nL : ∀ s ∈ r.2.2.2, 0 <= s.1 /\ s.1 <= s.2 /\ s.2 <= (r.2.2.1.length : Nat)) {i : Nat} (hi : i < r.2.2.1.length) (h1 : DA r.2.2.1[i] = true) (h2 : Sp.gK r.2.2.2 i = true) : LO r = true := by
  obtain ⟨s, hs, h3⟩ := List.any_eq_true.1 h2; simp only [Bool.and_eq_true, decide_eq_true_eq] at h3; have h4 := nL s hs; refine List.any_eq_true.2 ⟨s, hs, List.any_eq_true.2 ⟨r.2.2.1[i], ?_, h1⟩⟩; refine List.mem_iff_getElem.2 ⟨i - s.1.toNat, by rw [List.length_drop, List.length_take]; omega, ?_⟩; rw [List.getElem_drop, List.getElem_take]; simp only [show s.1.toNat + (i - s.1.toNat) = i by omega]
theorem RT {r : bS} (h : ∀ i (hi : i < r.2.2.1.length), ¬ (DA r.2.2.1[i] = true /\ Sp.gK r.2.2.2 i = true)) (nL : ∀ s ∈ r.2.2.2, 0 <= s.1 /\ s.1 <= s.2 /\ s.2 <= (r.2.2.1.length : Nat)) : LO r = false := by
  refine List.any_eq_false.2 fun s hs => ?_; rw [Bool.not_eq_true]; refine List.any_eq_false.2 fun x hx => ?_; obtain ⟨k, hk, rfl⟩ := List.mem_iff_getElem.1 hx; rw [List.length_drop, List.length_take] at hk; rw [List.getElem_drop, List.getElem_take]; have h4 := nL s hs; intro h1; refine h (s.1.toNat + k) (by omega) ⟨h1, List.any_eq_true.2 ⟨s, hs, ?_⟩⟩; simp only [Bool.and_eq_true, decide_eq_true_eq]; omega
theorem ah3 {r : ByteArray × Int × (List Nat) × (List (Int × Int))} (hl : r.2.2.1.length < 1000000) (hg : r.2.2.2.length < 1000000) : VF Tryz.prog OA 11 [.v pV r] (I (bT r)) := by
  refine VF.enter Tryz.func11 rfl (fun _ _ => rfl) rfl ?_; show U _ _ _ _ _ [(0, .v pV r)] [] _; refine U.seq (U.text ?_); refine J.new (.box) ?_; refine J.c (.assign rfl) ?_; refine J.go (U.seq (U.seq (U.drawn ?_))); refine VD.c (.fa (.l .o)) ?_; refine VD.r [] (.ld BG) (.inl rfl) ?_; refine VD.call rfl rfl (VF.call (ZF )) ?_; refine VD.c (.fa (.r (.l .o))) ?_; refine VD.r [] (.ld kO) (.inl rfl) ?_; refine VD.call rfl rfl (VF.call (HZ )) ?_; refine VD.nw [] ?_; refine VD.new (.lit [cL (!kI r.1) 8, kB r.2.1 (0 : Int) (100000 : Int)] abB) ?_; refine VD.x8 rfl rfl (VF.call (ZE (by first | assumption | omega | simp))) ?_; refine VD.c (.assign rfl) ?_; refine VD.go (U.seq (U.text ?_)); refine J.c (.move rfl) (J.c (.neq) (J.go ?_)); refine U.b8 rfl (fun c2 => ?_) (fun c2 => ?_)
  . refine U.seq (U.text ?_); refine J.c (.move rfl) (J.c (.assign rfl) (J.go ?_)); refine U.ret ?_; exact aW.one rfl b6 (dM (by rw [bT, F7, if_neg c2, if_pos c2]))
  have ha0 := Classical.not_not.1 c2; refine U.skip (U.seq (U.seq (U.text ?_))); refine J.c (.fa (.r (.r (.l .o)))) ?_; refine J.r (.ld j0) ?_; refine J.r (.len eU) ?_; refine J.c (.gtr) (J.go ?_); refine U.b8 rfl (fun c4 => ?_) (fun c4 => ?_)
  . refine U.seq (U.text ?_); refine J.c (.assign rfl) (J.go ?_); refine U.ret ?_; exact aW.one rfl b6 (dM (by rw [bT, F7, if_pos ha0, decide_eq_true c4] <;> rfl))
  have hh : BH r = 0 := by rw [F7, if_pos ha0, decide_eq_false c4] <;> rfl
  refine U.skip (U.seq (U.seq (U.text ?_))); refine J.c (.assign rfl) ?_; refine J.go (U.block ?_); refine U.aV [(1, .p pV r), (4, I ((0 : Nat) : Int))] ⟨rfl, rfl, trivial⟩ ?_; refine U.loop (I := fun kk ff ss => ∃ (j : Nat), kk = r.2.2.1.length - j /\ ff = [(1, .p pV r), (4, I ((j : Nat) : Int))] /\ ss = [] /\ (j <= r.2.2.1.length) /\ (mY r.2.2.1 = mY (r.2.2.1.drop j))) ?_ _ _ _ ⟨0, rfl, rfl, rfl, Nat.zero_le _, (by rfl)⟩; rintro kk ff ss ⟨j, oL, rfl, rfl, hj, hf⟩; refine U.seq (U.seq (U.text ?_)); refine J.c (.move rfl) (J.c (.fa (.r (.r (.l .o)))) ?_); refine J.r (.ld j0) ?_; refine J.r (.len eU) ?_; refine J.c (.lss) (J.go ?_); refine U.b8 rfl (fun c7 => ?_) (fun c7 => ?_)
  . refine U.skip (U.seq (U.block (U.seq (U.text ?_)))); refine J.c (.fa (.r (.r (.l .o)))) ?_; refine J.r (.ld j0) ?_; refine J.c (.move rfl) (J.c (.ix (j := j) rfl rfl eU (by omega)) ?_); refine J.r (.ld yU) ?_; refine J.call rfl rfl (VF.call (al4 )) ?_; refine J.c (.assign rfl) ?_; refine J.go (U.seq (U.text ?_)); refine J.c (.move rfl) (J.c (.neq) (J.go ?_)); refine U.b8 rfl (fun F8 => ?_) (fun F8 => ?_)
    . refine U.seq (U.text ?_); refine J.c (.move rfl) (J.c (.assign rfl) (J.go ?_)); refine U.ret ?_; exact aW.one rfl b6 (dM (by rw [bT, if_neg (fun h => h hh), ah1 (by rw [hf, qW (by omega), if_neg F8]; exact F8), hf, qW (by omega), if_neg F8, if_pos F8]))
    refine U.skip (U.text ?_); refine J.c (.move rfl) (J.c (.add rfl rfl (by omega)) (J.c (.assign rfl) ?_)); refine J.nil ?_; refine ⟨_, [(1, .p pV r), (4, I (((j + 1) : Nat) : Int))], ?_, ⟨rfl, rfl, trivial⟩, (j + 1), rfl, rfl, rfl, (by omega), (by rw [hf, qW (by omega), if_pos (by simpa using F8)])⟩; omega
  have hlv : mY r.2.2.1 = 0 := by rw [hf, F6 (by omega)]
  refine U.exit (U.seq (U.seq (U.text ?_))); refine J.c (.fa (.r (.r (.r .o)))) ?_; refine J.r (.ld o5) ?_; refine J.call rfl rfl (VF.call (ZH (by first | assumption | omega | simp))) ?_; refine J.c (.assign rfl) ?_; refine J.go (U.seq (U.text ?_)); refine J.c (.move rfl) (J.c (.neq) (J.go ?_)); refine U.b8 rfl (fun c13 => ?_) (fun c13 => ?_)
  . refine U.seq (U.text ?_); refine J.c (.move rfl) (J.c (.assign rfl) (J.go ?_)); refine U.ret ?_; exact aW.one rfl b6 (dM (by rw [bT, if_neg (fun h => h hh), ah2 hlv, if_pos c13]))
  have AK := Classical.not_not.1 c13; have iQ : rV r = 0 := rL.2 ⟨hlv, AK⟩; have ah0 := (sM AK).1.1; refine U.skip (U.seq (U.seq (U.text ?_))); refine J.c (.assign rfl) ?_; refine J.go (U.block ?_); refine U.aV [(1, .p pV r), (7, I ((0 : Nat) : Int))] ⟨rfl, rfl, trivial⟩ ?_; refine U.loop (I := fun kk ff ss => ∃ (k : Nat), kk = r.2.2.2.length - k /\ ff = [(1, .p pV r), (7, I ((k : Nat) : Int))] /\ ss = [] /\ (k <= r.2.2.2.length) /\ (∀ q (h : q < r.2.2.2.length), q < k -> ¬ (r.2.2.1.length : Int) < r.2.2.2[q].2)) ?_ _ _ _ ⟨0, rfl, rfl, rfl, Nat.zero_le _, (by exact fun q _ h => absurd h (by omega))⟩; rintro kk ff ss ⟨k, ED, rfl, rfl, hk, hi⟩; refine U.seq (U.seq (U.text ?_)); refine J.c (.move rfl) (J.c (.fa (.r (.r (.r .o)))) ?_); refine J.r (.ld o5) ?_; refine J.r (.len dZ) ?_; refine J.c (.lss) (J.go ?_); refine U.b8 rfl (fun vS => ?_) (fun vS => ?_)
  . refine U.skip (U.seq (U.block (U.seq (U.drawn ?_)))); refine VD.c (.fa (.r (.r (.r .o)))) ?_; refine VD.r [] (.ld o5) (.inl rfl) ?_; refine VD.c (.move rfl) (VD.c (.ix (j := k) rfl rfl dZ (by omega)) (VD.c (.fa (.r .o)) ?_)); refine VD.r [] (.ld kO) (.inl rfl) ?_; refine VD.nw [] (VD.c (.fa (.r (.r (.l .o)))) ?_); refine VD.r [] (.ld j0) (.inl rfl) ?_; refine VD.r [] (.len eU) (.inl rfl) ?_; refine VD.c (.gtr) (VD.go ?_); refine U.b8 rfl (fun c18 => ?_) (fun c18 => ?_)
    . refine U.seq (U.text ?_); refine J.c (.assign rfl) (J.go ?_); refine U.ret ?_; exact aW.one rfl b6 (dM (by rw [bT, if_neg (fun h => h hh), if_neg (fun h => h iQ), if_pos (show P3 r = true from List.any_eq_true.2 ⟨_, List.getElem_mem (show k < r.2.2.2.length by omega), decide_eq_true c18⟩)]))
    refine U.skip (U.text ?_); refine J.c (.move rfl) (J.c (.add rfl rfl (by omega)) (J.c (.assign rfl) ?_)); refine J.nil ?_; refine ⟨_, [(1, .p pV r), (7, I (((k + 1) : Nat) : Int))], ?_, ⟨rfl, rfl, trivial⟩, (k + 1), rfl, rfl, rfl, (by omega), (by exact fun q h h3 => if e : q = k then (by subst e; exact c18) else hi q h (by omega))⟩; omega
  have Q8 : P3 r = false := List.any_eq_false.2 fun s hs => by
    obtain ⟨q, hq, rfl⟩ := List.mem_iff_getElem.1 hs; simpa using hi q hq (by omega)
  have uR := ZO Q8
  have nL : ∀ s ∈ r.2.2.2, 0 <= s.1 /\ s.1 <= s.2 /\ s.2 <= (r.2.2.1.length : Nat) := fun s hs => by have := ah0 s hs; have := uR s hs; omega
  refine U.exit (U.seq (U.seq (U.text ?_))); refine J.c (.assign rfl) ?_; refine J.go (U.block ?_); refine U.aV [(1, .p pV r), (8, I ((0 : Nat) : Int))] ⟨rfl, rfl, trivial⟩ ?_; refine U.loop (I := fun kk ff ss => ∃ (i : Nat), kk = r.2.2.1.length - i /\ ff = [(1, .p pV r), (8, I ((i : Nat) : Int))] /\ ss = [] /\ (i <= r.2.2.1.length) /\ (∀ q (h : q < r.2.2.1.length), q < i -> ¬ (DA r.2.2.1[q] = true /\ Sp.gK r.2.2.2 q = true))) ?_ _ _ _ ⟨0, rfl, rfl, rfl, Nat.zero_le _, (by exact fun q _ h => absurd h (by omega))⟩; rintro kk ff ss ⟨i, hk4, rfl, rfl, BC, mO⟩; refine U.seq (U.seq (U.text ?_)); refine J.c (.move rfl) (J.c (.fa (.r (.r (.l .o)))) ?_); refine J.r (.ld j0) ?_; refine J.r (.len eU) ?_; refine J.c (.lss) (J.go ?_); refine U.b8 rfl (fun c21 => ?_) (fun c21 => ?_)
  . refine U.skip (U.seq (U.block (U.seq (U.text ?_)))); refine J.c (.fa (.r (.r (.l .o)))) ?_; refine J.r (.ld j0) ?_; refine J.c (.move rfl) (J.c (.ix (j := i) rfl rfl eU (by omega)) ?_); refine J.r (.ld yU) ?_; refine J.c (.UN .neq) (J.c (.move rfl) ?_); refine J.cg (r := (dX .neq .f32 (r.2.2.1[i]) (0 : Nat))) (w := true) [] trivial (fun _ => (.fa (.r (.r (.r (k := 0) .o))))) ?_; refine J.rg (r := (dX .neq .f32 (r.2.2.1[i]) (0 : Nat))) (w := true) [(77, .p cW r.2.2.2)] ⟨rfl, trivial⟩ (fun _ => (.ld o5)) ?_; refine J.cg (r := (dX .neq .f32 (r.2.2.1[i]) (0 : Nat))) (w := true) [] trivial (fun _ => (.move rfl)) ?_; refine J.R4 (r0 := (dX .neq .f32 (r.2.2.1[i]) (0 : Nat))) (w := true) [(78, .v cW r.2.2.2), (79, I ((i : Nat) : Int))] ⟨rfl, rfl, trivial⟩ rfl rfl .same .refl rfl (fun jL => have atB : (dX .neq .f32 (r.2.2.1[i]) (0 : Nat)) = true := (by simpa using jL); VF.call (agS (by first | assumption | omega | simp))) ?_; refine J.c (.and) (J.go ?_); refine U.fN rfl (fun NZ => ?_) (fun NZ => ?_)
    . try simp only [Bool.and_eq_true, Bool.or_eq_true, Bool.and_eq_false_iff, Bool.or_eq_false_iff, Bool.not_eq_true', Bool.not_eq_false', decide_eq_true_eq, decide_eq_false_iff_not] at NZ
      refine U.seq (U.text ?_); refine J.c (.assign rfl) (J.go ?_); refine U.ret ?_; exact aW.one rfl b6 (dM (by rw [bT, if_neg (fun h => h hh), if_neg (fun h => h iQ), if_neg (by rw [Q8]; decide), abD nL (show i < r.2.2.1.length by omega) NZ.1 NZ.2] <;> rfl))
    try simp only [Bool.and_eq_true, Bool.or_eq_true, Bool.and_eq_false_iff, Bool.or_eq_false_iff, Bool.not_eq_true', Bool.not_eq_false', decide_eq_true_eq, decide_eq_false_iff_not] at NZ
    have hnq : ¬ (DA r.2.2.1[i] = true /\ Sp.gK r.2.2.2 i = true) := fun h2 => by
      rcases NZ with h | h
      . exact absurd (h2.1.symm.trans h) (by decide)
      rw [h2.2] at h; cases h
    refine U.skip (U.text ?_); refine J.c (.move rfl) (J.c (.add rfl rfl (by omega)) (J.c (.assign rfl) ?_)); refine J.nil ?_; refine ⟨_, [(1, .p pV r), (8, I (((i + 1) : Nat) : Int))], ?_, ⟨rfl, rfl, trivial⟩, (i + 1), rfl, rfl, rfl, (by omega), (by exact fun q h h3 => if e : q = i then (by subst e; exact hnq) else mO q h (by omega))⟩; omega
  refine U.exit (U.seq (U.text ?_)); refine J.c (.assign rfl) (J.go ?_); refine U.ret ?_; exact aW.one rfl b6 (dM (by rw [bT, if_neg (fun h => h hh), if_neg (fun h => h iQ), if_neg (by rw [Q8]; decide), RT (fun q h => mO q h (by omega)) nL] <;> rfl))
end Go.Proofs
namespace Go.Fs
open Go.RowKit (Below)
variable {P : Program} {H : Type} {enc : TypeId × Value -> H} {w : World} {base : Nat} {sp : Nat -> Bool} {held : Bool}
def fsB (P : Program) (ty : TypeId -> Ty -> Bool) : List Field -> Nat -> Ty -> Bool
  | [f], off, .pair a .unit => Nat.beq f.offset off && Nat.beq (P.cellsOf f.type) a.size && ty f.type a
  | [f], off, τ => Nat.beq f.offset off && Nat.beq (P.cellsOf f.type) τ.size && ty f.type τ
  | f :: fs, off, .pair a b => Nat.beq f.offset off && Nat.beq (P.cellsOf f.type) a.size && ty f.type a && fsB P ty fs (off + a.size) b
  | _, _, _ => false
def ah4 (P : Program) (m : Nat) (e : TypeId) : List Field := (List.range m).map fun i => { name := "", type := e, offset := i * P.cellsOf e, embedded := false, tag := "", pkgPath := "", byteOffset := 0 }
def yV (P : Program) : Nat -> TypeId -> Ty -> Bool
  | 0, _, _ => false
  | n + 1, t, τ =>
    match P.underlying t, τ with
    | some (.int k), .int k' => decide (k = k')
    | some .bool, .bool => true
    | some .string, .str => true
    | some (.float k), .bJ k' => decide (k = k')
    | some (.slice te), .sl e => Nat.beq (P.cellsOf te) e.size && Nat.blt 0 e.size && yV P n te e
    | some (.struct fs), .pair a b => Nat.beq (P.cellsOf t) (Ty.pair a b).size && fsB P (yV P n) fs.toList 0 (.pair a b)
    | some (.array m e), .pair a b => Nat.beq (P.cellsOf t) (Ty.pair a b).size && fsB P (yV P n) (ah4 P m e) 0 (.pair a b)
    | _, _ => false
def Wf : (τ : Ty) -> τ.den -> Prop
  | .int k, n => (Lit.int k n).wf = true
  | .bool, _ => True
  | .str, s => s.size <= maxLen
  | .bJ k, n => (Lit.float k n).wf = true
  | .sl e, xs => List.length xs <= maxLen /\ ∀ x ∈ (xs : List e.den), Wf e x
  | .pair a b, x => Wf a x.1 /\ Wf b x.2
  | .unit, _ => True
  | .mp _ _, _ => True
  | .fn, _ => True
  | .mQ, _ => True
structure uV (P : Program) (w : World) (ρ : Ren) (S : Nat -> Prop) (h : Heap) (bG : Ren) (S' : Nat -> Prop) (h' : Heap) : Prop where
  hr : HR P bG S' w.heap.size (wz w) h' w
  agree : ∀ b, S b -> S' b /\ bG b = ρ b
  lH : eN h h'
theorem uV.refl {ρ : Ren} {S : Nat -> Prop} {h : Heap} (hr : HR P ρ S w.heap.size (wz w) h w) : uV P w ρ S h ρ S h := ⟨hr, fun _ hb => ⟨hb, rfl⟩, eN.refl h⟩
theorem uV.trans {ρ cP iS : Ren} {S S1 S2 : Nat -> Prop} {h h1 h2 : Heap} (a : uV P w ρ S h cP S1 h1) (b : uV P w cP S1 h1 iS S2 h2) : uV P w ρ S h iS S2 h2 :=
  ⟨b.hr, fun i hi => let ⟨h3, h4⟩ := a.agree i hi; let ⟨h5, h6⟩ := b.agree i h3; ⟨h5, h6.trans h4⟩, a.lH.trans b.lH⟩
theorem uV.ok {ρ cP : Ren} {S S1 : Nat -> Prop} {h h1 : Heap} (a : uV P w ρ S h cP S1 h1) : nY h1 := fun b o hg => (a.hr.ids b (a.hr.aB b o hg).1).1
theorem al5 {ρ : Ren} {S : Nat -> Prop} {h : Heap} (hr : HR P ρ S w.heap.size (wz w) h w) : nY h := fun b o hg => (hr.ids b (hr.aB b o hg).1).1
theorem uV.row {ρ : Ren} {S : Nat -> Prop} {h : Heap} (hr : HR P ρ S w.heap.size (wz w) h w) {te : TypeId} {cs : List Value} {a : Addr} (ha : a.block < w.heap.size) (hc : ∀ i, i < cs.length -> ∃ v, w.cell? ⟨a.block, a.off + i, none⟩ = some v /\ VR ρ S (cs.getD i undef) v) :
    uV P w ρ S h (fun b => if b = h.next then (.clean a.block a.off 0 (P.cellsOf te)) else ρ b) (fun b => S b \/ b = h.next) (h.push (.row te cs false false)) := by
  have fR : ∀ b, S b -> (S b \/ b = h.next) /\ (fun b => if b = h.next then (Loc.clean a.block a.off 0 (P.cellsOf te)) else ρ b) b = ρ b := fun b hb => by
    have := (hr.ids b hb).1; exact ⟨.inl hb, by simp only; rw [if_neg (by omega)]⟩
  have hold : ∀ i o, (h.push (.row te cs false false)).get i = some o -> (i = h.next /\ o = .row te cs false false) \/ (i ≠ h.next /\ h.get i = some o) := fun i o hg => by
    rw [Heap.bB] at hg; by_cases hi : i = h.next
    . rw [if_pos hi] at hg; exact .inl ⟨hi, (Option.some.inj hg).symm⟩
    rw [if_neg hi] at hg; exact .inr ⟨hi, hg⟩
  refine ⟨⟨fun i o hg => ?_, fun i j oi oj hi hj oi1 oj1 he => ?_, fun i o hg ho => ?_, fun i o hg ho => ?_, fun b hb => ?_, Nat.succ_pos _, IW (Below.refl _ _), Nat.zero_le _, Nat.le_refl _⟩, fR, eN.push h _⟩
  . rcases hold i o hg with ⟨rfl, rfl⟩ | ⟨hi, gO⟩
    . refine ⟨.inr rfl, ?_⟩; simp only [if_true]; refine ⟨rfl, fun i hi => ?_, fun hx => by cases hx⟩; obtain ⟨v, h1, h2⟩ := hc i hi; exact ⟨v, h1, h2.mono fR⟩
    obtain ⟨h1, h2⟩ := hr.aB i o gO; refine ⟨.inl h1, ?_⟩; simp only [if_neg hi]; exact h2.mono fR
  . rcases hold i oi hi with ⟨rfl, rfl⟩ | ⟨nA, hgi⟩
    . cases oi1
    rcases hold j oj hj with ⟨rfl, rfl⟩ | ⟨XK, hgj⟩
    . cases oj1
    simp only [if_neg nA, if_neg XK] at he; exact hr.inj i j oi oj hgi hgj oi1 oj1 he
  . rcases hold i o hg with ⟨rfl, rfl⟩ | ⟨hi, gO⟩
    . cases ho
    simp only [if_neg hi]; exact hr.base i o gO ho
  . rcases hold i o hg with ⟨rfl, rfl⟩ | ⟨hi, gO⟩
    . simp only [if_true]; exact ha
    simp only [if_neg hi]; exact hr.ro i o gO ho
  have hn : (h.push (.row te cs false false)).next = h.next + 1 := rfl; rw [hn]; rcases hb with hb | rfl
  . have := hr.ids b hb; exact ⟨by omega, this.2⟩
  have := hr.pos; exact ⟨by omega, by omega⟩
theorem V6 {fuel : Nat} {t : TypeId} {cs : List Value} {x : DataW H × List MemPlace} {k : FloatKind} (ht : P.underlying t = some (.float k)) (h : DataW.trod enc P w base sp held fuel t cs = some x) : ∃ n, cs = [.float k n] /\ (Lit.float k n).wf = true := by
  cases fuel with
  | zero => simp [DataW.trod] at h
  | succ n =>
    unfold DataW.trod at h; rw [ht] at h; split at h <;> simp_all
theorem P4 {α β : Type} (f : α -> Option β) : ∀ (l : List α) (r : List β), l.mapM f = some r -> l.length = r.length /\ ∀ i (hi : i < l.length) (hr : i < r.length), f l[i] = some r[i]
  | [], r, h => by
    simp only [List.mapM_nil] at h; obtain rfl := Option.some.inj h
    exact ⟨rfl, fun i hi => absurd hi (by simp)⟩
  | a :: l, r, h => by
    rw [List.mapM_cons] at h
    cases hf : f a with
    | none => rw [hf] at h; cases h
    | some b =>
      rw [hf] at h
      cases hl : l.mapM f with
      | none => rw [hl] at h; cases h
      | some bs =>
        rw [hl] at h; obtain rfl := Option.some.inj h; obtain ⟨h1, h2⟩ := P4 f l bs hl; refine ⟨by simp [h1], fun i hi hr => ?_⟩
        cases i with
        | zero => exact hf
        | succ i => exact h2 i (by simpa using hi) (by simpa using hr)
theorem V7 {a : Addr} {n : Nat} {cs : List Value} (h : w.cells? base a n = some cs) : cs.length = n /\ ∀ i, i < n -> w.cell? (a.add i) = some (cs.getD i undef) := by
  unfold World.cells? at h; split at h
  . obtain ⟨h1, h2⟩ := P4 _ _ _ h; rw [List.length_range] at h1; refine ⟨h1.symm, fun i hi => ?_⟩; have := h2 i (by simpa using hi) (by omega); rw [List.getElem_range] at this; rw [this]; simp [List.getD, show i < cs.length by omega]
  cases h
theorem ZP {a : Addr} {v : Value} (h : w.cell? a = some v) : a.spot = none /\ a.block < w.heap.size := by
  unfold World.cell? at h; split at h
  . rename_i c _ _ hb; refine ⟨?_, (Array.getElem?_eq_some_iff.1 hb).1⟩
    cases hs : a.spot with
    | none => rfl
    | some s => rw [hs] at h; cases h
  cases h
def F9 (P : Program) (w : World) (τ : Ty) (cs : List Value) : Prop := ∀ (ρ : Ren) (S : Nat -> Prop) (h : Heap), HR P ρ S w.heap.size (wz w) h w ->
  ∃ bG S' h' cs' x, uV P w ρ S h bG S' h' /\ LR bG S' cs' cs /\ cG h' [] τ cs' x /\ Wf τ x
theorem LR.one {ρ : Ren} {S : Nat -> Prop} {v v' : Value} (h : VR ρ S v v') : LR ρ S [v] [v'] := LR.cons h LR.nil
theorem RU {e : Ty} (a : Addr) (len : Nat) (gX : ∀ i, i < len -> ∃ cs, (∀ j, j < e.size -> w.cell? (a.add (i * e.size + j)) = some (cs.getD j undef)) /\ cs.length = e.size /\ F9 P w e cs) :
    ∀ (ρ : Ren) (S : Nat -> Prop) (h : Heap), HR P ρ S w.heap.size (wz w) h w -> ∃ bG S' h' rs xs, uV P w ρ S h bG S' h' /\ rs.length = len * e.size /\ List.length xs = len /\ (∀ i, i < len * e.size -> ∃ v, w.cell? (a.add i) = some v /\ VR bG S' (rs.getD i undef) v) /\
      bC h' [] e rs xs /\ ∀ x ∈ (xs : List e.den), Wf e x := by
  induction len with
  | zero =>
    intro ρ S h hr
    exact ⟨ρ, S, h, [], [], uV.refl hr, by simp, rfl, fun i hi => by omega, bC.nil, fun x hx => by cases hx⟩
  | succ n ih =>
    intro ρ S h hr; obtain ⟨cP, S1, h1, rs, xs, g1, l1, l2, c1, e1, w1⟩ := ih (fun i hi => gX i (by omega)) ρ S h hr; obtain ⟨cs, k1, k2, k3⟩ := gX n (by omega); obtain ⟨iS, S2, h2, cs', x, g2, lr, rc, wf⟩ := k3 cP S1 h1 g1.hr; have hN : dC h1 [] h2 [] := g2.lH.nx g1.ok; have hl : cs'.length = e.size := rc.len
    have uU : bC h2 [] e cs' [x] := by
      refine ⟨by simpa using hl, fun i hi => ?_⟩
      obtain rfl : i = 0 := by simpa using hi
      simp only [Nat.zero_mul, List.drop_zero, List.getElem_cons_zero]; rw [List.take_of_length_le (by omega)]; exact rc
    refine ⟨iS, S2, h2, rs ++ cs', xs ++ [x], g1.trans g2, by rw [List.length_append, l1, hl, Nat.add_mul]; omega, by simp [l2], fun i hi => ?_, (e1.nx hN).append uU, fun y hy => ?_⟩
    . rw [Nat.add_mul, Nat.one_mul] at hi; by_cases nS : i < n * e.size
      . obtain ⟨v, KF, R0⟩ := c1 i nS; refine ⟨v, KF, ?_⟩; rw [List.getD_eq_getElem?_getD, List.getElem?_append_left (by omega), <- List.getD_eq_getElem?_getD]; exact R0.mono g2.agree
      have hj : i - n * e.size < e.size := by omega
      refine ⟨cs.getD (i - n * e.size) undef, ?_, ?_⟩
      . have := k1 (i - n * e.size) hj
        rwa [show n * e.size + (i - n * e.size) = i by omega] at this
      rw [List.getD_eq_getElem?_getD, List.getElem?_append_right (by omega), l1, <- List.getD_eq_getElem?_getD]; exact lr.getD _
    rcases List.mem_append.1 hy with hy | hy
    . exact w1 y hy
    obtain rfl := List.mem_singleton.1 hy; exact wf
theorem Addr.adE {a : Addr} (h : a.spot = none) (n : Nat) : a.add n = ⟨a.block, a.off + n, none⟩ := by
  obtain ⟨b, o, s⟩ := a; simp only at h; subst h; unfold Addr.add; by_cases hn : n = 0
  . subst hn; simp
  simp [hn]
theorem AX {n : Nat} (ih : ∀ (t : TypeId) (τ : Ty), yV P n t τ = true -> ∀ (fuel : Nat) (cs : List Value) (x : DataW H × List MemPlace), DataW.trod enc P w base sp held fuel t cs = some x -> F9 P w τ cs) :
    ∀ (fs : List Field) (off : Nat) (τ : Ty) (cs : List Value) (m : Nat), fsB P (yV P n) fs off τ = true -> cs.length = off + τ.size -> (∀ f ∈ fs, ∃ x, DataW.trod enc P w base sp held m f.type ((cs.drop f.offset).take (P.cellsOf f.type)) = some x) -> F9 P w τ (cs.drop off) := by
  have one : ∀ (f : Field) (off : Nat) (τ : Ty) (cs : List Value) (m : Nat), f.offset = off -> P.cellsOf f.type = τ.size -> yV P n f.type τ = true -> off + τ.size <= cs.length -> (∃ x, DataW.trod enc P w base sp held m f.type ((cs.drop f.offset).take (P.cellsOf f.type)) = some x) -> F9 P w τ ((cs.drop off).take τ.size) := by
    intro f off τ cs m h1 h2 h3 h4 ⟨x, hx⟩; rw [h1, h2] at hx; exact ih f.type τ h3 m _ x hx
  intro fs
  induction fs with
  | nil => intro off τ cs m hb; cases hb
  | cons f fs ihf =>
    intro off τ cs m hb hl iX; have hf := iX f List.mem_cons_self
    cases fs with
    | nil =>
      by_cases hs : ∃ a, τ = .pair a .unit
      . obtain ⟨a, rfl⟩ := hs; have wW : (Nat.beq f.offset off && Nat.beq (P.cellsOf f.type) a.size && yV P n f.type a) = true := hb; obtain ⟨wW, h3⟩ := aT wW; obtain ⟨h1, h2⟩ := aT wW
        have hs : (Ty.pair a .unit).size = a.size := by simp [Ty.size]
        rw [hs] at hl; have := one f off a cs m (bD h1) (bD h2) h3 (by omega) hf; intro ρ S h hr; obtain ⟨bG, S', h', cs', x, g, lr, rc, wf⟩ := this ρ S h hr; have e1 : (cs.drop off).take a.size = cs.drop off := List.take_of_length_le (by rw [List.length_drop]; omega); rw [e1] at lr; have sE := rc.len; exact ⟨bG, S', h', cs', (x, ()), g, lr, ⟨by rw [List.take_of_length_le (by omega)]; exact rc, by rw [List.drop_eq_nil_of_le (by omega)]; rfl⟩, wf, trivial⟩
      have wW : (Nat.beq f.offset off && Nat.beq (P.cellsOf f.type) τ.size && yV P n f.type τ) = true := by
        cases τ with
        | pair a b =>
          cases b with
          | unit => exact absurd ⟨a, rfl⟩ hs
          | _ => exact hb
        | _ => exact hb
      obtain ⟨wW, h3⟩ := aT wW; obtain ⟨h1, h2⟩ := aT wW; have := one f off τ cs m (bD h1) (bD h2) h3 (by omega) hf; have e1 : (cs.drop off).take τ.size = cs.drop off := List.take_of_length_le (by rw [List.length_drop]; omega)
      rwa [e1] at this
    | cons g fs =>
      cases τ with
      | pair a b =>
        have wW : (Nat.beq f.offset off && Nat.beq (P.cellsOf f.type) a.size && yV P n f.type a && fsB P (yV P n) (g :: fs) (off + a.size) b) = true := hb; obtain ⟨wW, h4⟩ := aT wW; obtain ⟨wW, h3⟩ := aT wW; obtain ⟨h1, h2⟩ := aT wW; have hs : (Ty.pair a b).size = a.size + b.size := rfl; rw [hs] at hl; have ha := one f off a cs m (bD h1) (bD h2) h3 (by omega) hf; have YA := ihf (off + a.size) b cs m h4 (by omega) (fun g hg => iX g (List.mem_cons_of_mem _ hg)); intro ρ S h hr; obtain ⟨cP, S1, nQ, cs1, x1, g1, lr1, rc1, wf1⟩ := ha ρ S h hr; obtain ⟨iS, S2, wT, cs2, x2, g2, lr2, rc2, wf2⟩ := YA cP S1 nQ g1.hr; have hN : dC nQ [] wT [] := g2.lH.nx g1.ok; have vC := rc1.len; refine ⟨iS, S2, wT, cs1 ++ cs2, (x1, x2), g1.trans g2, ?_, ⟨?_, ?_⟩, wf1, wf2⟩
        . have := (lr1.mono g2.agree).append lr2
          rwa [show (cs.drop off).take a.size ++ cs.drop (off + a.size) = cs.drop off from by rw [<- List.drop_drop, List.take_append_drop]] at this
        . rw [List.take_left' vC]; exact rc1.nx hN
        rw [List.drop_left' vC]; exact rc2
      | _ => cases hb
theorem aoF : ∀ (n : Nat) (t : TypeId) (τ : Ty), yV P n t τ = true -> ∀ (fuel : Nat) (cs : List Value) (x : DataW H × List MemPlace), DataW.trod enc P w base sp held fuel t cs = some x -> F9 P w τ cs := by
  intro n
  induction n with
  | zero => intro t τ h; cases h
  | succ n ih =>
    intro t τ hb fuel cs x hx; unfold yV at hb; split at hb
    . rename_i k k' hu; obtain rfl : k = k' := of_decide_eq_true hb; obtain ⟨m, rfl, _, hwf⟩ := DataW.trod_int hu hx; exact fun ρ S h hr => ⟨ρ, S, h, _, m, uV.refl hr, LR.one (.lit rfl), rfl, hwf⟩
    . rename_i hu; obtain ⟨b, rfl, _⟩ := DataW.trod_bool hu hx; exact fun ρ S h hr => ⟨ρ, S, h, _, b, uV.refl hr, LR.one (.lit rfl), rfl, trivial⟩
    . rename_i hu; obtain ⟨s, rfl, _, hs⟩ := DataW.trod_string hu hx; exact fun ρ S h hr => ⟨ρ, S, h, _, s, uV.refl hr, LR.one (.lit rfl), rfl, hs⟩
    . rename_i k k' hu; obtain rfl : k = k' := of_decide_eq_true hb; obtain ⟨m, rfl, hwf⟩ := V6 hu hx; exact fun ρ S h hr => ⟨ρ, S, h, _, m, uV.refl hr, LR.one (.lit rfl), rfl, hwf⟩
    . rename_i te e hu; obtain ⟨hb, h3⟩ := aT hb; obtain ⟨h1, h2⟩ := aT hb; have hce := bD h1; have tA := iH h2; rcases DataW.trod_slice hu hx with ⟨rfl, _⟩ | ⟨a, len, cap, elems, rest, m, _, rfl, _, hba, hlc, nT, hlen, uU, _⟩
      . exact fun ρ S h hr => ⟨ρ, S, h, [.slice none 0 0], [], uV.refl hr, LR.one (.lit rfl), ⟨_, rfl, .inl ⟨rfl, rfl⟩⟩, Nat.zero_le _, fun x hx => by cases hx⟩
      by_cases h0 : len = 0
      . subst h0; exact fun ρ S h hr => ⟨ρ, S, h, [.slice (some ⟨0, 0, none⟩) 0 2], [], uV.refl hr, LR.one (.slice 0 0 0 2 cap a (Nat.zero_le _) (fun h => by cases h) (fun _ => rfl) (fun h => absurd rfl h)), ⟨_, rfl, .inr ⟨0, 0, 2, rfl, .inl rfl⟩⟩, Nat.zero_le _, fun x hx => by cases hx⟩
      have gX : ∀ i, i < len -> ∃ cs, (∀ j, j < e.size -> w.cell? (a.add (i * e.size + j)) = some (cs.getD j undef)) /\ cs.length = e.size /\ F9 P w e cs := by
        intro i hi; have := uU i hi; rw [List.getElem?_eq_getElem (by omega)] at this; rw [hce] at this
        cases hc : w.cells? base (a.add (i * e.size)) e.size with
        | none => rw [hc] at this; cases this
        | some cs =>
          rw [hc] at this; obtain ⟨k1, k2⟩ := V7 hc; refine ⟨cs, fun j hj => ?_, k1, ih te e h3 m cs _ this⟩; rw [<- k2 j hj]; congr 1; obtain ⟨b, o, s⟩ := a; unfold Addr.add; by_cases LD : i * e.size = 0
          . simp [LD]
          by_cases TB : j = 0
          . subst TB; simp [LD]
          simp [LD, TB, Nat.add_assoc]
      have wQ : a.spot = none /\ a.block < w.heap.size := by
        obtain ⟨cs, k1, _⟩ := gX 0 (by omega); have := k1 0 tA; rw [Nat.zero_mul, Nat.zero_add] at this; have h4 := ZP this; simpa [Addr.add] using h4
      intro ρ S h hr; obtain ⟨cP, S1, nQ, rs, xs, g1, l1, l2, c1, e1, w1⟩ := RU (P := P) a len gX ρ S h hr
      have oV := uV.row (te := te) g1.hr (cs := rs) (a := a) wQ.2 (fun i hi => by
        have := c1 i (by omega)
        rwa [Addr.adE wQ.1] at this)
      have x7 : kE (nQ.push (.row te rs false false)) [] e (.slice (some ⟨nQ.next, 0, none⟩) (List.length xs) 2) xs := (e1.nx (oV.lH.nx g1.ok)).slv (by rw [Heap.bB, if_pos rfl]) (by simp); refine ⟨_, _, _, [.slice (some ⟨nQ.next, 0, none⟩) (List.length xs) 2], xs, g1.trans oV, ?_, ⟨_, rfl, x7⟩, by omega, w1⟩; rw [l2]; refine LR.one (.slice nQ.next 0 len 2 cap a hlc (fun h => by cases h) (fun h5 => by have := g1.hr.pos; omega) fun _ => ⟨.inr rfl, ?_, fun h => by cases h⟩); simp only [if_true, Loc.at, Nat.add_zero]; obtain ⟨b, o, s⟩ := a; simp only at wQ; rw [wQ.1]
    . rename_i fs a b hu; obtain ⟨h1, h2⟩ := aT hb; obtain ⟨xs, m, _, _, hl, cY, iX⟩ := DataW.trod_struct hu hx
      have sE : cs.length = (Ty.pair a b).size := by rw [hl, bD h1]
      have := AX ih fs.toList 0 (.pair a b) cs m h2 (by omega) (fun f hf => by
        obtain ⟨i, hi, rfl⟩ := List.getElem_of_mem hf
        have nA : i < fs.size := by simpa using hi
        have := iX i fs[i] (by simp [nA]); rw [List.getElem?_eq_getElem (by omega)] at this
        exact ⟨_, by simpa using this⟩)
      simpa using this
    . rename_i m e a b hu; obtain ⟨h1, h2⟩ := aT hb; obtain ⟨xs, m', _, _, hl, cY, iX⟩ := DataW.trod_array hu hx
      have sE : cs.length = (Ty.pair a b).size := by rw [hl, bD h1]
      have := AX ih (ah4 P m e) 0 (.pair a b) cs m' h2 (by omega) (fun f hf => by
        obtain ⟨i, hi, rfl⟩ := List.mem_map.1 hf; have nA : i < m := List.mem_range.1 hi; have := iX i nA; rw [List.getElem?_eq_getElem (by omega)] at this
        exact ⟨_, this⟩)
      simpa using this
    cases hb
theorem V8 {n : Nat} {r : Reach} {b0 : Nat} {t : TypeId} {τ : Ty} {v : Value} (hb : yV P n t τ = true) (iK : Value.okWide P w r b0 t v) : fL v = τ.agg := by
  cases n with
  | zero => cases hb
  | succ n =>
    unfold yV at hb; unfold Value.okWide at iK; split at hb
    . rename_i k k' hu; rw [hu] at iK; simp only [Cell.okWide, hu, Cell.ok] at iK; cases v <;> simp_all [fL, Ty.agg]
    . rename_i hu; rw [hu] at iK; simp only [Cell.okWide, hu, Cell.ok] at iK; cases v <;> simp_all [fL, Ty.agg]
    . rename_i hu; rw [hu] at iK; simp only [Cell.okWide, hu, Cell.ok] at iK; cases v <;> simp_all [fL, Ty.agg]
    . rename_i k k' hu; rw [hu] at iK; simp only [Cell.okWide, hu, Cell.ok] at iK; cases v <;> simp_all [fL, Ty.agg]
    . rename_i te e hu; rw [hu] at iK; simp only [Cell.okWide, hu, Cell.ok] at iK; cases v <;> simp_all [fL, Ty.agg]
    . rename_i fs a b hu; rw [hu] at iK; obtain ⟨cs, rfl, _⟩ := iK; rfl
    . rename_i m e a b hu; rw [hu] at iK; obtain ⟨cs, rfl, _⟩ := iK; rfl
    cases hb
theorem P5 {ρ : Ren} {S : Nat -> Prop} {h : Heap} (hr : HR P ρ S w.heap.size (wz w) h w) {n : Nat} {r : Reach} {b0 : Nat} {t : TypeId} {τ : Ty} {v : Value} {d : DataW H} {ps : List MemPlace} (hb : yV P n t τ = true) (iK : Value.okWide P w r b0 t v) (hd : DataW.Trod enc P w base sp held t v d ps) :
    ∃ bG S' h' v' x, uV P w ρ S h bG S' h' /\ VR bG S' v' v /\ aE h' [] τ v' x /\ Wf τ x := by
  have fR := V8 hb iK; obtain ⟨fuel, hf⟩ := hd; obtain ⟨bG, S', h', cs', x, g, lr, rc, wf⟩ := aoF n t τ hb fuel _ _ hf ρ S h hr
  cases HW : τ.agg with
  | true =>
    rw [HW] at fR
    cases v with
    | agg cs =>
      refine ⟨bG, S', h', .agg cs'.toArray, x, g, VR.SZ (by simpa [Value.cells] using lr), ⟨HW.symm, by simpa [Value.cells] using rc⟩, wf⟩
    | _ => cases fR
  | false =>
    rw [HW] at fR; rw [fA fR] at lr; obtain ⟨u, rfl, hu⟩ := rc.one HW; have := lr.2 0 (by simp); exact ⟨bG, S', h', u, x, g, by simpa using this, hu, wf⟩
theorem adF (hw : 0 <= w.heap.size) : HR P (fun _ => Loc.clean 0 0 0 0) (fun _ => False) w.heap.size (wz w) ⟨1, 1, []⟩ w where
  aB := fun i o h => by cases h
  inj := fun i j oi oj h => by cases h
  base := fun i o h => by cases h
  ro := fun i o h => by cases h
  ids := fun b hb => hb.elim
  pos := Nat.one_pos
  below := IW (Below.refl _ _)
  drawn := Nat.zero_le _
  size := Nat.le_refl _
section
open Go.WideElems Go.ChangeShapes
theorem yW (hl : laidOutB P = true) {W W' : World} (hb : Below W.heap.size W W') : ∀ {ts : List TypeId} {vs : List Value} {ds : List (DataW H)} {ps : List MemPlace}, (ts.all fun t => P.readableRec t && decide (t < P.types.size)) = true ->
    DataW.TrodAll enc P W 0 (fun _ => true) true ts vs ds ps -> (∀ x ∈ ps, x.block < W.heap.size) -> DataW.TrodAll enc P W' 0 (fun b => decide (b < W.heap.size)) true ts vs ds ps
  | [], [], [], _, _, h, _ => h
  | [], _ :: _, _, _, _, h, _ => h.elim
  | [], [], _ :: _, _, _, h, _ => h.elim
  | _ :: _, [], _, _, _, h, _ => h.elim
  | _ :: _, _ :: _, [], _, _, h, _ => h.elim
  | t :: ts, v :: vs, d :: ds, ps, ha, h, hp => by
    obtain ⟨p, q, h1, h2, rfl⟩ := h; simp only [List.all_cons, Bool.and_eq_true, decide_eq_true_eq] at ha; exact ⟨p, q, Go.RowKit.Below.trod hl ha.1.1 ha.1.2 h1 hb (fun x hx => hp x (List.mem_append_left _ hx)), yW hl hb (by simpa using ha.2) h2 (fun x hx => hp x (List.mem_append_right _ hx)), rfl⟩
theorem acE {f : Func} {s : ChangeSpec} {tb : TypeId} (hl : laidOutB P = true) (Y0 : (f.params.toList.all fun t => P.readableRec t && decide (t < P.types.size)) = true) (G5 : f.resultTypes = #[tb]) (htb : P.underlying tb = some .bool) (ah5 : s.vars = []) {W W' : World} {args : Array Value} {ds gs : List (DataW H)}
    {before : List MemPlace} (hW : DataW.Whole enc P f.params.toList s.vars false W args.toList ds gs before) (hr : (s.fn H (ds ++ gs)).results = [.lit (.bool true)]) (ha : (s.fn H (ds ++ gs)).args = ds) (hv : (s.fn H (ds ++ gs)).vars = []) (hb : Below W.heap.size W W') :
    s.post enc P f false true false false W args (.bool true) W' := by
  have bX := hW.lt; have hW' := hW; obtain ⟨p, q, hA, hV, rfl, _, _⟩ := hW; rw [ah5] at hV; have hV' : gs = [] /\ q = [] := trodVars_none hV; obtain ⟨rfl, rfl⟩ := hV'; refine ⟨ds, [], p ++ [], [], p, [], hW', ?_, ?_, ?_, hb.frame _, fun h => by cases h⟩
  . rw [hr, G5]; exact trodAll_mk1 (Go.RowKit.shut_bool htb _)
  . rw [ha]; exact yW hl hb Y0 hA fun x hx => bX x (List.mem_append_left _ hx)
  rw [ah5, hv]; exact rfl
end
theorem TO (hP : k9 P) {orc : FuncId -> List Value -> Heap -> Option (Value × Heap)} {W : World} (jY : cB P W.heap.size (wz W) orc) {ρz : Ren} {Sz : Nat -> Prop} {hz : Heap} (hrz : HR P ρz Sz W.heap.size (wz W) hz W) (hGz : GT hz []) {f : FuncId} (hen : Enters P f) {fn : Func} {n : Nat} {t0 t1 : TypeId} {τ0 τ1 : Ty} (hp : fn.params = #[t0, t1]) (iQ : yV P n t0 τ0 = true) (AB : yV P n t1 τ1 = true)
    (hE : ∀ (h : Heap) (v0 v1 : Value) (x0 : τ0.den) (x1 : τ1.den), afV h -> aE h [] τ0 v0 x0 -> aE h [] τ1 v1 x1 -> Wf τ0 x0 -> Wf τ1 x1 -> nP P orc f [v0, v1] h fun r h' => r = .bool true /\ h' = h)
    {args : Array Value} {ds : List (DataW H)} {ps : List MemPlace} (iK : ∀ (j : Nat) t v, fn.params[j]? = some t -> args[j]? = some v -> Value.okWide P W .any base t v) (hA : DataW.TrodAll enc P W 0 sp held fn.params.toList args.toList ds ps) :
    Calls P f args W fun | .returned v', w' => v' = .bool true /\ Below W.heap.size W w' | _, _ => False := by
  rw [hp] at hA iK; obtain ⟨v0, QY, d0, ds0, p0, q0, ha, rfl, rfl, k0, r0⟩ := Go.ChangeShapes.trodAll_cons hA; obtain ⟨v1, vs1, d1, ds1, p1, q1, rfl, rfl, rfl, k1, r1⟩ := Go.ChangeShapes.trodAll_cons r0; obtain ⟨rfl, rfl, rfl⟩ := Go.ChangeShapes.trodAll_nil r1
  obtain rfl : args = #[v0, v1] := by cases args; simp_all
  obtain ⟨ρ0, S0, h0, u0, x0, g0, c0, e0, w0⟩ := P5 hrz iQ (iK 0 t0 v0 rfl rfl) k0; obtain ⟨cP, S1, h1, u1, x1, g1, c1, e1, w1⟩ := P5 g0.hr AB (iK 1 t1 v1 rfl rfl) k1; have hR := hE h1 u0 u1 x0 x1 ⟨g1.ok, (hGz.nx (g0.lH.nx (al5 hrz))).nx (g1.lH.nx g0.ok)⟩ (e0.nx (g1.lH.nx g0.ok)) e1 w0 w1; refine (agC (args' := [v0, v1]) hP jY hen g1.hr (LR.cons (c0.mono g1.agree) (LR.one c1)) (nP.mono hR fun v h' h => h.1) rfl).mono fun e w' he => ?_
  cases e with
  | returned v => exact ⟨he.1, vA he.2⟩
  | panicked c => exact he
  | outgrown => exact he
end Go.Fs
namespace Go.Proofs
open Go.Fs Ieee
set_option maxHeartbeats 2000000
theorem dT : gQ Tryz.prog 32 jP := iY (by kernel_rfl)
theorem uD : tG Tryz.prog 32 jP := rK (z := .agg #[.string ByteArray.empty, .int .i64 0, .slice none 0 0, .slice none 0 0]) (by kernel_rfl) rfl rfl
theorem uE : GN Tryz.prog 32 jP [(0, 1), (1, 1), (2, 1), (3, 1)] := D3 uD rfl (by kernel_rfl)
theorem V9 {l : List Nat} (hl : l.length < 1000000) : VF Tryz.prog OA 40 [.v eZ l] (.v eZ l) := by
  refine VF.enter Tryz.func40 rfl (fun _ _ => rfl) rfl ?_; show U _ _ _ _ _ [(0, .v eZ l)] [] _; refine U.seq (U.text ?_); refine J.c (.assign rfl) ?_; refine J.go (U.seq (U.text ?_)); refine J.cell (.U6 eU) ?_; intro eT; refine J.c (.move rfl) ?_; refine J.app rfl rfl eU eU (by simp; omega) ?_; intro pA; refine J.c (.assign rfl) (J.go ?_); refine U.ret ?_; exact aW.one rfl (evC (.row m0)) (eS (by rfl))
theorem H8 {r : ByteArray × Int × (List Nat) × (List (Int × Int))} (hl : r.2.2.1.length < 1000000) (hg : r.2.2.2.length < 1000000) : VF Tryz.prog OA 9 [.v pV r] (.v jP r) := by
  refine VF.enter Tryz.func9 rfl (fun _ _ => rfl) rfl ?_; show U _ _ _ _ _ [(0, .v pV r)] [] _; refine U.seq (U.text ?_); refine J.new (.box) ?_; refine J.cell (.alloc uD) ?_; intro DC; refine J.go (U.seq (U.drawn ?_)); refine VD.c (.fa (.l .o)) ?_; refine VD.r [] (.ld BG) (.inl rfl) ?_; refine VD.c (.fa (.r (.l .o))) ?_; refine VD.r [] (.ld kO) (.inl rfl) ?_; refine VD.c (.fa (.r (.r (.l .o)))) ?_; refine VD.r [] (.ld j0) (.inl rfl) ?_; refine VD.nw [] ?_; refine VD.call rfl rfl (VF.call (V9 (by first | assumption | omega | simp))) ?_; refine VD.c (.fa (.r (.r (.r .o)))) ?_; refine VD.r [] (.ld o5) (.inl rfl) ?_; refine VD.call rfl rfl (VF.call (ZK (by first | assumption | omega | simp))) ?_; refine VD.c (.build (r.1, r.2.1, r.2.2.1, r.2.2.2) uE) ?_; refine VD.AH (bO.pS (k := 0) dT .v (Nat.le_of_ble_eq_true rfl) (.inr ⟨rfl, rfl⟩) rfl rfl) ?_; rintro _ _ tl4 ⟨rfl, rfl⟩; refine VD.go ?_; refine U.ret ?_; exact aW.one rfl (.cell (x := (r.1, r.2.1, r.2.2.1, r.2.2.2)) rfl m0 dT .refl) (eS (by rfl))
def uF (r : bS) : Bool := decide ((r.1.size : Int) <= 60) && (decide ((r.2.2.1.length : Int) <= 40) || decide ((r.2.2.1.length : Int) = 4097)) && (decide ((r.2.2.2.length : Int) <= 8) || decide ((r.2.2.2.length : Int) = 2049))
theorem adG {r : bS} (h : uF r = true) : r.1.size <= 60 /\ (r.2.2.1.length <= 40 \/ r.2.2.1.length = 4097) /\ (r.2.2.2.length <= 8 \/ r.2.2.2.length = 2049) := by
  unfold uF at h; simp only [Bool.and_eq_true, Bool.or_eq_true, decide_eq_true_eq] at h; omega
theorem ZQ {r : ByteArray × Int × (List Nat) × (List (Int × Int))} : VF Tryz.prog OA 7 [.v pV r] (B (uF r)) := by
  refine VF.enter Tryz.func7 rfl (fun _ _ => rfl) rfl ?_; show U _ _ _ _ _ [(0, .v pV r)] [] _; refine U.seq (U.text ?_); refine J.new (.box) ?_; refine J.c (.assign rfl) ?_; refine J.go (U.seq (U.text ?_)); refine J.c (.fa (.l .o)) ?_; refine J.r (.ld BG) ?_; refine J.r (.rJ) ?_; refine J.c (.leq) (J.c (.move rfl) ?_); refine J.jK (x := 7) rfl (fun arU => ?_) (fun arU => ?_)
  . refine J.c (.fa (.r (.r (.l .o)))) ?_; refine J.r (.ld j0) ?_; refine J.r (.len eU) ?_; refine J.c (.leq) (J.c (.move rfl) ?_); refine J.jK (x := 12) rfl (fun arV => ?_) (fun arV => ?_)
    . refine J.skip (J.skip (J.skip (J.skip ?_))); refine J.c (.iD rfl rfl) (J.c (.iD rfl rfl) (J.c (.move rfl) (J.c (.fa (.r (.r (.r .o)))) ?_))); refine J.r (.ld o5) ?_; refine J.call rfl rfl (VF.call (D9 )) ?_; refine J.c (.iD rfl rfl) (J.c (.assign rfl) (J.go ?_)); refine U.ret ?_; exact aW.one rfl b6 (eS (by simp_all [uF] <;> omega))
    refine J.c (.fa (.r (.r (.l .o)))) ?_; refine J.r (.ld j0) ?_; refine J.r (.len eU) ?_; refine J.c (.eql) (J.c (.dK rfl rfl) (J.c (.iD rfl rfl) (J.c (.move rfl) ?_))); refine J.jK (x := 19) rfl (fun aoG => ?_) (fun aoG => ?_)
    . refine J.c (.fa (.r (.r (.r .o)))) ?_; refine J.r (.ld o5) ?_; refine J.call rfl rfl (VF.call (D9 )) ?_; refine J.c (.iD rfl rfl) (J.c (.assign rfl) (J.go ?_)); refine U.ret ?_; exact aW.one rfl b6 (eS (by simp_all [uF] <;> omega))
    refine J.skip (J.skip (J.skip (J.c (.dK rfl rfl) ?_))); refine J.c (.assign rfl) (J.go ?_); refine U.ret ?_; exact aW.one rfl b6 (eS (by simp_all [uF] <;> omega))
  refine J.skip (J.skip (J.skip (J.skip ?_))); refine J.skip (J.skip (J.skip (J.skip ?_))); refine J.skip (J.skip (J.c (.dK rfl rfl) (J.c (.move rfl) ?_))); refine J.skip (J.skip (J.skip (J.c (.dK rfl rfl) ?_))); refine J.c (.assign rfl) (J.go ?_); refine U.ret ?_; exact aW.one rfl b6 (eS (by simp_all [uF] <;> omega))
end Go.Proofs
namespace Go.Fs
section
variable {P : Program} {fl : VL} {σ : aM} {T T' : TypeId} {x y : Operand} {p q : Int}
theorem aF.VA (hx : aQ fl x = some (.v (.int .u64) p)) (hy : aQ fl y = some (.v (.int .u64) q)) (h0 : 0 <= p * q /\ p * q < 18446744073709551616) : aF P fl σ (.binOp .mul T x y T') (.v (.int .u64) (p * q)) :=
  .rI hx hy (u := .int .u64 (IntKind.u64.wrap (p * q))) rfl fun h S => by rw [tD h0]; exact aE.ofInt _ _
theorem aF.abE (hx : aQ fl x = some (.v (.int .u64) p)) (hy : aQ fl y = some (.v (.int .u64) q)) (h0 : 0 <= p + q /\ p + q < 18446744073709551616) : aF P fl σ (.binOp .add T x y T') (.v (.int .u64) (p + q)) :=
  .rI hx hy (u := .int .u64 (IntKind.u64.wrap (p + q))) rfl fun h S => by rw [tD h0]; exact aE.ofInt _ _
theorem adH {p : Int} (h : 0 <= p /\ p < 4294967296) : ((BitVec.ofInt 64 p &&& BitVec.ofInt 64 4294967295).toNat : Int) = p := by
  obtain ⟨n, rfl⟩ := Int.eq_ofNat_of_zero_le h.1
  have hn : n < 2 ^ 32 := by have := h.2; omega
  have e1 : (BitVec.ofInt 64 (n : Int)).toNat = n := by
    rw [BitVec.toNat_ofInt]; omega
  have e2 : (BitVec.ofInt 64 4294967295).toNat = 2 ^ 32 - 1 := by decide
  rw [BitVec.toNat_and, e1, e2, Nat.and_two_pow_sub_one_eq_mod, Nat.mod_eq_of_lt hn]
theorem aF.andM (hx : aQ fl x = some (.v (.int .u64) p)) (hy : aQ fl y = some (.v (.int .u64) 4294967295)) (h0 : 0 <= p /\ p < 4294967296) : aF P fl σ (.binOp .and T x y T') (.v (.int .u64) p) :=
  .rI hx hy (u := .int .u64 (IntKind.u64.wrap ((BitVec.ofInt 64 p &&& BitVec.ofInt 64 4294967295).toNat : Int))) rfl fun h S => by rw [adH h0, tD ⟨h0.1, by omega⟩]; exact aE.ofInt _ _
theorem LP {p : Int} (h : 0 <= p /\ p < 4294967296) : p.fdiv (2 ^ (32 : Int).toNat) = 0 := by
  have e : (2 ^ (32 : Int).toNat : Int) = 4294967296 := by decide
  rw [e, Int.fdiv_eq_ediv_of_nonneg _ (by decide)]; omega
end
variable {P : Program} {orc : FuncId -> List Value -> Heap -> Option (Value × Heap)} {h h' h0 h1 h2 : Heap} {S S' S0 B G : List Nat} {σ σ' j8 : aM} {t t' : Tr} {ms : List Nat} {fl : VL} {ops : Array Oper} {n i mem : Nat} {l : List Oper} {K : VL -> aM -> Prop}
  {d : Tmp} {ty : TypeId} {pos : String} {after : Array Edge} {op : Op} {v pv : PV} {g : Option (Nat × Bool)} {x y z : Operand} {T T' e : TypeId} {τ τ' : Ty} {w : Value}
theorem bC.ah6 {rs : List Value} {xs : List τ.den} {k : Nat} (he : bC h S τ rs xs) (hk : k <= xs.length) : bC h S τ (rs.take (k * τ.size)) (xs.take k) := by
  have qP := he.1; have ED : k * τ.size <= xs.length * τ.size := Nat.mul_le_mul_right _ hk; refine ⟨by rw [List.length_take, List.length_take, Nat.min_eq_left hk, Nat.min_eq_left (by omega)], fun i hi => ?_⟩
  have pR : i < k := by rw [List.length_take] at hi; omega
  have h2 : (i + 1) * τ.size <= k * τ.size := Nat.mul_le_mul_right _ pR; rw [Nat.add_mul, Nat.one_mul] at h2; rw [List.drop_take, List.take_take, Nat.min_eq_left (by omega), List.getElem_take]; exact he.2 i (by omega)
theorem bC.aoH {rs : List Value} {xs : List τ.den} {k : Nat} (he : bC h S τ rs xs) : bC h S τ (rs.drop (k * τ.size)) (xs.drop k) := by
  have qP := he.1; refine ⟨by rw [List.length_drop, List.length_drop, qP, Nat.sub_mul], fun i hi => ?_⟩; rw [List.length_drop] at hi; rw [List.drop_drop, List.getElem_drop, <- Nat.add_mul]; exact he.2 (k + i) (by omega)
theorem bC.ah7 {rs vs : List Value} {xs ys : List τ.den} {k : Nat} (he : bC h S τ rs xs) (hv : bC h S τ vs ys) (hk : k + ys.length <= xs.length) : bC h S τ (bF rs (k * τ.size) vs) (xs.take k ++ ys ++ xs.drop (k + ys.length)) := by
  unfold bF; rw [hv.1, <- Nat.add_mul]; exact ((he.ah6 (by omega)).append hv).append he.aoH
theorem DD {rs vs : List Value} {xs ys : List τ.den} {k b : Nat} {m : Bool} (L : Lc S0 h ((w, .row e τ xs) :: σ) t fl) (h3 : w = .slice (some ⟨b, 0, none⟩) xs.length 0) (h4 : b ∈ own ((w, Cell.row e τ xs) :: σ)) (h5 : h.get b = some (.row e rs true m)) (h6 : bC h (own ((w, Cell.row e τ xs) :: σ) ++ S0) τ rs xs) (hv : bC h (own ((w, Cell.row e τ xs) :: σ) ++ S0) τ vs ys) (hk : k + ys.length <= xs.length) :
    Made S0 h (h.set b (.row e (bF rs (k * τ.size) vs) true m)) ((w, .row e τ xs) :: σ) ((w, .row e τ (xs.take k ++ ys ++ xs.drop (k + ys.length))) :: σ) := by
  have jC : cD w = [b] := by rw [h3]; rfl
  refine Made.head L (cK.set h5 (by rw [jC]; simp)) (fun b hb => .inl hb) (by rw [jC]; simp) fun hN => ?_; refine .inr ⟨b, _, m, ?_, ?_, by rw [Heap.dE h5, if_pos rfl], (h6.nx hN).ah7 (hv.nx hN) hk⟩
  . rw [List.length_append, List.length_append, List.length_take, List.length_drop, Nat.min_eq_left (by omega), show k + ys.length + (xs.length - (k + ys.length)) = xs.length by omega]; exact h3
  rw [b7]; exact List.mem_append_left _ (List.mem_append_left _ (by rw [jC]; simp))
theorem bO.ZR {xs ys : List τ.den} (hT : fW P T e τ) (hl : ys.length <= xs.length) (hp : 0 < ys.length) (hx : aQ fl x = some (.raw w)) (hy : aQ fl y = some (.v (.sl τ) ys)) :
    bO P fl ((w, .row e τ xs) :: σ) (.call { callee := .builtin .copy, args := #[x, y], argTypes := #[T, T'] }) fun v σ' => v = .v (.int .i64) ((ys.length : Nat) : Int) /\ σ' = (w, .row e τ (xs.take 0 ++ ys ++ xs.drop (0 + ys.length))) :: σ :=
  ⟨rfl, fun S0 h t L => by
    have h1 : aA t x = w := cR L.aH hx; have hu := (cR L.aH hy : aE h _ (.sl τ) (aA t y) ys).sl; obtain ⟨i, z, pR, jB, HX, vN, BC, EY, KU⟩ := hT.sl.info; obtain ⟨c1, vs, c2, c3⟩ := hu.cellsOf hT.sl.pos; have tW : Nat.min ys.length xs.length = ys.length := Nat.min_eq_left hl; have J5 : vs.length = ys.length * τ.size := c3.1; have hvo : vs.all aN = true := bC.kA _ _ c3; rcases L.cells _ List.mem_cons_self with ⟨_, rfl⟩ | ⟨b, rs, m, h3, h4, h5, h6⟩
    . have pK : ys.length <= 0 := hl; omega
    have hw : w = _ := h3; have qP := h6.1; have hM := DD (k := 0) L h3 (by rw [b7]; exact List.mem_append_left _ (by rw [hw]; exact List.mem_cons_self)) h5 h6 c3 (by omega); rw [Nat.zero_mul] at hM; refine ⟨.int .i64 ((ys.length : Nat) : Int), h.set b (.row e (bF rs 0 vs) true m), .v (.int .i64) ((ys.length : Nat) : Int), _, ⟨rfl, rfl⟩, hM, aE.ofInt _ _, fun _ _ _ _ _ => ?_⟩; show (k8 P #[T, T'] (aA t x) (aA t y) h) = _; have e2 : Nat.beq (ys.length * τ.size) 0 = false := dO (Nat.ne_of_gt (Nat.mul_pos hp hT.sl.pos))
    have e3 : Nat.ble (0 + ys.length * τ.size) rs.length = true := by rw [Nat.ble_eq, qP, Nat.zero_add]; exact Nat.mul_le_mul_right _ hl
    have e4 : Nat.beq vs.length (ys.length * τ.size) = true := by rw [J5]; exact Nat.beq_refl _
    rw [h1, hw]; simp only [k8, List.getElem?_toArray, List.getElem?_cons_zero, hT.sl.sl, pR, c1, show ∀ q m, lB (.slice q xs.length m) = some xs.length from fun _ _ => rfl, jB]
    simp only [show Nat.min ys.length xs.length = ys.length from tW, c2, e4, hvo, Bool.and_self, cond_true, e2, cond_false, h5, e3]⟩
theorem J.ZR {xs ys : List τ.den} (hx : aQ fl x = some (.raw w)) (hy : aQ fl y = some (.v (.sl τ) ys)) (hT : fW P T e τ) (hl : ys.length <= xs.length) (hp : 0 < ys.length) (hk : J P orc ops n l ((d, .v (.int .i64) ((ys.length : Nat) : Int)) :: fl) ((w, .row e τ (xs.take 0 ++ ys ++ xs.drop (0 + ys.length))) :: σ) K) (hw : cV ops fl g = some true := by rfl) (hn : (Nat.blt d n && Nat.ble n 4000) = true := by rfl) :
    J P orc ops n (⟨some d, .call { callee := .builtin .copy, args := #[x, y], argTypes := #[T, T'] }, ty, pos, after, g⟩ :: l) fl ((w, .row e τ xs) :: σ) K :=
  J.mk (bO.ZR hT hl hp hx hy) (by rintro _ _ ⟨rfl, rfl⟩; exact hk) hw hn
def yX (w : Value) (k : Nat) : Value :=
  match w with
  | .slice (some ⟨b, o, none⟩) _ mk => .slice (some ⟨b, o, none⟩) k mk
  | u => u
theorem dV.aoI {xs : List τ.den} {k : Nat} {hi : Operand} (hx : aQ fl x = some (.raw w)) (hl : aQ fl hi = some (.v (.int .i64) ((k : Nat) : Int))) (hm : (w, Cell.row e τ xs) ∈ σ) (hT : fW P T e τ) (h0 : 0 < xs.length) (hk : k <= xs.length) : dV P fl σ (.slice T x none (some hi) none) (.raw (yX w k)) :=
  ⟨rfl, fun h S t hs hc => by
    have h1 : aA t x = w := hs x (by simp [Op.operands]) _ hx; have h2 := aE.int (hs hi (by simp [Op.operands]) _ hl); rcases hc _ hm with ⟨_, rfl⟩ | ⟨b, rs, m, h3, h4, h5, h6⟩
    . simp at h0
    have hw : w = _ := h3; refine ⟨_, rfl, fun H hH _ _ _ _ _ => ?_⟩; show (bV P T (aA t x) none (some (aA t hi)) none H).map _ = _; obtain ⟨i, z, pR, jB, _⟩ := hT.sl.info
    have e1 : Nat.ble k xs.length = true := by rw [Nat.ble_eq]; exact hk
    have e2 : Nat.ble 0 k = true := by rw [Nat.ble_eq]; exact Nat.zero_le _
    have h0' : (0 : Int) <= (k : Nat) := Int.natCast_nonneg _; rw [h1, h2, hw]; simp [bV, hT.sl.sl, pR, dA, if_pos h0', Int.toNat_natCast, e1, e2, mA, cutAt, yX]
    rfl⟩
theorem bO.aoJ {xs : List τ.den} {k : Nat} (hT : fW P T e τ) (hk : k < xs.length) (h0 : 0 < k) (hx : aQ fl x = some (.raw (rowFrom w τ.size k))) (hy : aQ fl y = some (.raw (yX w k))) :
    bO P fl ((w, .row e τ xs) :: σ) (.call { callee := .builtin .copy, args := #[x, y], argTypes := #[T, T'] }) fun v σ' => v = .v (.int .i64) ((min k (xs.length - k) : Nat) : Int) /\ σ' = (w, .row e τ (xs.take k ++ xs.take (min k (xs.length - k)) ++ xs.drop (k + (xs.take (min k (xs.length - k))).length))) :: σ :=
  ⟨rfl, fun S0 h t L => by
    have h1 : aA t x = rowFrom w τ.size k := cR L.aH hx; have h2 : aA t y = yX w k := cR L.aH hy; obtain ⟨i, z, pR, jB, HX, vN, BC, EY, KU⟩ := hT.sl.info; rcases L.cells _ List.mem_cons_self with ⟨_, rfl⟩ | ⟨b, rs, m, h3, h4, h5, h6⟩
    . simp at hk
    have hw : w = _ := h3; have qP := h6.1
    have QA : min k (xs.length - k) <= xs.length := by omega
    have hyl : (xs.take (min k (xs.length - k))).length = min k (xs.length - k) := by rw [List.length_take]; omega
    have hv := h6.ah6 QA; have hM := DD (k := k) L h3 (by rw [b7]; exact List.mem_append_left _ (by rw [hw]; exact List.mem_cons_self)) h5 h6 hv (by rw [hyl]; omega); refine ⟨.int .i64 ((min k (xs.length - k) : Nat) : Int), h.set b (.row e (bF rs (k * τ.size) (rs.take (min k (xs.length - k) * τ.size))) true m), .v (.int .i64) ((min k (xs.length - k) : Nat) : Int), _, ⟨rfl, rfl⟩, hM, aE.ofInt _ _, fun _ _ _ _ _ => ?_⟩; show (k8 P #[T, T'] (aA t x) (aA t y) h) = _
    have tA : 0 < min k (xs.length - k) := by omega
    have e2 : Nat.beq (min k (xs.length - k) * τ.size) 0 = false := dO (Nat.ne_of_gt (Nat.mul_pos tA hT.sl.pos))
    have e3 : Nat.ble (0 + min k (xs.length - k) * τ.size) rs.length = true := by rw [Nat.ble_eq, qP, Nat.zero_add]; exact Nat.mul_le_mul_right _ QA
    have e4 : Nat.beq (rs.take (min k (xs.length - k) * τ.size)).length (min k (xs.length - k) * τ.size) = true := by rw [hv.1, hyl]; exact Nat.beq_refl _
    have e5 : Nat.ble (min k (xs.length - k)) k = true := by rw [Nat.ble_eq]; omega
    have e6 : Nat.ble (0 + k * τ.size + min k (xs.length - k) * τ.size) rs.length = true := by rw [Nat.ble_eq, qP, Nat.zero_add, <- Nat.add_mul]; exact Nat.mul_le_mul_right _ (by omega)
    have e7 : (rs.take (min k (xs.length - k) * τ.size)).all aN = true := bC.kA _ _ hv; have tW : Nat.min k (xs.length - k) = min k (xs.length - k) := rfl; rw [h1, h2, hw, agL hk]; simp only [k8, List.getElem?_toArray, List.getElem?_cons_zero, hT.sl.sl, pR, yX, show ∀ q n m, lB (.slice q n m) = some n from fun _ _ _ => rfl, jB, cellsOf, tW, e5, cond_true, e2, cond_false, h5, List.drop_zero, Nat.zero_add]; rw [Nat.zero_add] at e3 e6
    simp only [e3, cond_true, e4, e7, Bool.and_self, e6]⟩
theorem bO.ZS {ys : List τ.den} (hT : fW P T e τ) (hx : aQ fl x = some (.raw w)) (hy : aQ fl y = some (.v (.sl τ) ys)) :
    bO P fl ((w, .row e τ []) :: σ) (.call { callee := .builtin .copy, args := #[x, y], argTypes := #[T, T'] }) fun v σ' => v = .v (.int .i64) ((0 : Nat) : Int) /\ σ' = (w, .row e τ []) :: σ :=
  ⟨rfl, fun S0 h t L => by
    have h1 : aA t x = w := cR L.aH hx; have hu := (cR L.aH hy : aE h _ (.sl τ) (aA t y) ys).sl; obtain ⟨i, z, pR, jB, HX, vN, BC, EY, KU⟩ := hT.sl.info
    have c1 : ∃ m, lB (aA t y) = some m /\ Fs.cellsOf τ.size 0 (aA t y) h = some [] := by
      rcases hu with ⟨hv, _⟩ | ⟨b, o, mk, hv, _⟩
      . rw [hv]; exact ⟨0, rfl, rfl⟩
      rw [hv]; refine ⟨ys.length, rfl, ?_⟩
      have e1 : Nat.ble 0 ys.length = true := by rw [Nat.ble_eq]; exact Nat.zero_le _
      simp only [Fs.cellsOf, e1, cond_true, Nat.zero_mul]; rfl
    obtain ⟨m, c1, c2⟩ := c1; have tW : Nat.min m 0 = 0 := Nat.min_zero _; refine ⟨.int .i64 ((0 : Nat) : Int), h, .v (.int .i64) ((0 : Nat) : Int), _, ⟨rfl, rfl⟩, Made.same L (cK.refl _ _), aE.ofInt _ _, fun _ _ _ _ _ => ?_⟩; show (k8 P #[T, T'] (aA t x) (aA t y) h) = _; rcases L.cells _ List.mem_cons_self with ⟨hw, _⟩ | ⟨b, rs, m', h3, h4, h5, h6⟩
    . have AJ : w = .slice none 0 0 := hw; rw [h1, AJ]; simp only [k8, List.getElem?_toArray, List.getElem?_cons_zero, hT.sl.sl, pR, c1, show lB (.slice none 0 0) = some 0 from rfl, jB, tW, c2, List.length_nil, Nat.zero_mul]; rfl
    have hw : w = .slice (some ⟨b, 0, none⟩) 0 0 := h3; rw [h1, hw]; simp only [k8, List.getElem?_toArray, List.getElem?_cons_zero, hT.sl.sl, pR, c1, show ∀ q m, lB (.slice q 0 m) = some 0 from fun _ _ => rfl, jB, tW, c2, List.length_nil, Nat.zero_mul]
    rfl⟩
theorem J.ZS {xs ys : List τ.den} (hx : aQ fl x = some (.raw w)) (hy : aQ fl y = some (.v (.sl τ) ys)) (hT : fW P T e τ) (hl : xs = []) (hk : J P orc ops n l ((d, .v (.int .i64) ((0 : Nat) : Int)) :: fl) ((w, .row e τ []) :: σ) K) (hw : cV ops fl g = some true := by rfl) (hn : (Nat.blt d n && Nat.ble n 4000) = true := by rfl) :
    J P orc ops n (⟨some d, .call { callee := .builtin .copy, args := #[x, y], argTypes := #[T, T'] }, ty, pos, after, g⟩ :: l) fl ((w, .row e τ xs) :: σ) K := by
  subst hl; exact J.mk (bO.ZS hT hx hy) (by rintro _ _ ⟨rfl, rfl⟩; exact hk) hw hn
end Go.Fs
namespace Go.Proofs
open Go.Fs Ieee
set_option maxHeartbeats 2000000
theorem j3 : fW Tryz.prog 105 4 .bool := u7 (by kernel_rfl)
theorem zt4 : tG Tryz.prog 4 .bool := rK (z := .bool false) (by kernel_rfl) rfl rfl
theorem ZT {x : Int} {y : Int} (hx : 0 <= x /\ x < 4294967296) (hy : 0 <= y /\ y < 4294967296) (hp : 0 <= x * y /\ x * y < 4294967296) : VF Tryz.prog OA 155 [.v (.int .u64) x, .v (.int .u64) y] (.nD [.v (.int .u64) 0, .v (.int .u64) (x * y)]) := by
  refine VF.enter Tryz.func155 rfl (fun _ _ => rfl) rfl ?_; show U _ _ _ _ _ [(0, .v (.int .u64) x), (1, .v (.int .u64) y)] [] _; refine U.seq (U.text ?_); refine J.c (.assign rfl) (J.c (.assign rfl) ?_); refine J.go (U.seq (U.text ?_)); refine J.c (.move rfl) (J.c (.andM rfl rfl hx) (J.c (.assign rfl) ?_)); refine J.go (U.seq (U.text ?_)); refine J.c (.move rfl) (J.c (.LM rfl rfl (by decide)) ?_); rw [LP hx]; refine J.c (.assign rfl) ?_; refine J.go (U.seq (U.text ?_)); refine J.c (.move rfl) (J.c (.andM rfl rfl hy) (J.c (.assign rfl) ?_)); refine J.go (U.seq (U.text ?_)); refine J.c (.move rfl) (J.c (.LM rfl rfl (by decide)) ?_); rw [LP hy]; refine J.c (.assign rfl) ?_; refine J.go (U.seq (U.text ?_)); refine J.c (.move rfl) (J.c (.move rfl) (J.c (.VA rfl rfl (by omega)) (J.c (.assign rfl) ?_))); refine J.go (U.seq (U.text ?_)); refine J.c (.move rfl) (J.c (.move rfl) (J.c (.VA (p := 0) rfl rfl (by omega)) (J.c (.move rfl) ?_))); refine J.c (.LM rfl rfl (by decide)) ?_; rw [LP hp]; refine J.c (.abE rfl rfl (by omega)) ?_; rw [show (0 : Int) * y + 0 = 0 by omega]; refine J.c (.assign rfl) ?_; refine J.go (U.seq (U.text ?_)); refine J.c (.move rfl) (J.c (.andM (p := 0) rfl rfl (by decide)) (J.c (.assign rfl) ?_)); refine J.go (U.seq (U.text ?_)); refine J.c (.move rfl) (J.c (.LM rfl rfl (by decide)) ?_); rw [LP (p := 0) (by decide)]; refine J.c (.assign rfl) ?_; refine J.go (U.seq ?_); refine U.aV [(0, .v (.int .u64) x), (1, .v (.int .u64) y), (6, .v (.int .u64) x), (7, .v (.int .u64) 0), (9, .v (.int .u64) 0), (12, .v (.int .u64) 0), (13, .v (.int .u64) 0)] ⟨rfl, rfl, rfl, rfl, rfl, rfl, rfl, trivial⟩ ?_; refine U.text ?_; refine J.c (.move rfl) (J.c (.move rfl) (J.c (.move rfl) (J.c (.VA (q := 0) rfl rfl (by omega)) ?_))); refine J.c (.abE rfl rfl (by omega)) ?_; rw [show (0 : Int) + x * 0 = 0 by omega]; refine J.c (.assign rfl) ?_; refine J.go (U.seq (U.text ?_)); refine J.c (.move rfl) (J.c (.move rfl) (J.c (.VA (p := 0) (q := 0) rfl rfl (by decide)) (J.c (.move rfl) ?_))); refine J.c (.abE rfl rfl (by decide)) ?_; rw [show (0 : Int) * 0 + 0 = 0 by rfl]; refine J.c (.move rfl) (J.c (.LM rfl rfl (by decide)) ?_); rw [LP (p := 0) (by decide)]; refine J.c (.abE rfl rfl (by decide)) ?_; rw [show (0 : Int) + 0 = 0 by rfl]; refine J.c (.assign rfl) ?_; refine J.go (U.seq (U.text ?_)); refine J.c (.move rfl) (J.c (.move rfl) (J.c (.VA rfl rfl (by omega)) (J.c (.assign rfl) ?_))); refine J.go ?_; refine U.ret ?_; exact aW.two rfl b6 b6 (dM (by rfl)) (dM (by rfl))
theorem VB {x : Int} {y : Int} (hx : 0 <= x /\ x < 4294967296) (hy : 0 <= y /\ y < 4294967296) (hp : 0 <= x * y /\ x * y < 4294967296) : VF Tryz.prog OA 121 [.v (.int .u64) x, .v (.int .u64) y] (.nD [.v (.int .u64) 0, .v (.int .u64) (x * y)]) := by
  refine VF.enter Tryz.func121 rfl (fun _ _ => rfl) rfl ?_; show U _ _ _ _ _ [(0, .v (.int .u64) x), (1, .v (.int .u64) y)] [] _; refine U.seq (U.text ?_); refine J.c (.assign rfl) (J.c (.assign rfl) ?_); refine J.go (U.seq ?_); refine U.BA rfl ?_; refine U.skip (U.seq (U.text ?_)); refine J.c (.move rfl) (J.c (.move rfl) ?_); refine J.call rfl rfl (VF.call (ZT (by first | assumption | omega | simp) (by first | assumption | omega | simp) (by first | assumption | omega | simp))) ?_; refine J.c (.move rfl) (J.c (.extract) (J.c (.extract) (J.c (.assign rfl) ?_))); refine J.c (.assign rfl) ?_; refine J.go (U.seq (U.text ?_)); refine J.c (.move rfl) (J.c (.move rfl) (J.c (.assign rfl) (J.c (.assign rfl) ?_))); refine J.go ?_; refine U.ret ?_; exact aW.two rfl b6 b6 (dM (by rfl)) (dM (by rfl))
def o6 (n c : Nat) : List Bool := List.replicate c true ++ List.replicate (n - c) false
theorem FA {n c : Nat} (h : c <= n) : (o6 n c).length = n := by simp [o6]; omega
theorem VE {n : Nat} {x : List Bool} (hx : x = [true]) (h : 0 < n) : (List.replicate n false).take 0 ++ x ++ (List.replicate n false).drop (0 + x.length) = o6 n 1 := by
  subst hx; simp [o6]
theorem ZU {n c : Nat} (h : c < n) (h0 : 0 < c) : (o6 n c).take c ++ (o6 n c).take (min c ((o6 n c).length - c)) ++ (o6 n c).drop (c + ((o6 n c).take (min c ((o6 n c).length - c))).length) = o6 n (c + min c (n - c)) := by
  have hl := FA (n := n) (c := c) (by omega); rw [hl]
  have e1 : (o6 n c).take c = List.replicate c true := by
    unfold o6; rw [List.take_append_of_le_length (by simp), List.take_of_length_le (by simp)]
  have e2 : (o6 n c).take (min c (n - c)) = List.replicate (min c (n - c)) true := by
    unfold o6; rw [List.take_append_of_le_length (by simp; omega), List.take_replicate]; congr 1; omega
  have e3 : (o6 n c).drop (c + min c (n - c)) = List.replicate (n - (c + min c (n - c))) false := by
    unfold o6; rw [List.drop_append, List.drop_of_length_le (by simp), List.length_replicate, List.drop_replicate, List.nil_append]; congr 1; omega
  rw [e1, e2, List.length_replicate, e3, List.replicate_append_replicate]; rfl
theorem adI {x : List Bool} {n : Nat} (hx : x = [true]) (hn : n <= 4096) (h0 : 0 < n) : gZ Tryz.prog OA 97 [.v (.sl .bool) x, I ((n : Nat) : Int)] [] (fun r g => ∃ w, r = .raw w /\ g = [(w, .row 4 .bool (List.replicate n true))]) := by
  refine gZ.enter Tryz.func97 rfl (fun _ _ => rfl) rfl ?_; show U _ _ _ _ _ [(0, .v (.sl .bool) x), (1, I ((n : Nat) : Int))] [] _; refine U.seq (U.text ?_); refine J.c (.assign rfl) ?_; refine J.go (U.seq (U.seq (U.text ?_))); refine J.c (.move rfl) (J.c (.lss) (J.go ?_)); refine U.b8 rfl (fun c1 => ?_) (fun c1 => ?_)
  . exact absurd c1 (by omega)
  have LD : x.length = 1 := by rw [hx] <;> rfl
  have hxn : ((x.length : Nat) : Int) * ((n : Nat) : Int) = ((n : Nat) : Int) := by rw [LD]; omega
  refine U.skip (U.seq (U.text ?_)); refine J.c (.move rfl) ?_; refine J.r (.len j3) ?_; refine J.c (.EW rfl .u64 (by exact tD (by omega))) (J.c (.move rfl) (J.c (.EW rfl .u64 (by exact tD (by omega))) ?_)); refine J.call rfl rfl (VF.call (VB (by omega) (by omega) (by rw [hxn]; omega))) ?_; refine J.c (.move rfl) (J.c (.extract) (J.c (.extract) ?_)); rw [hxn]; refine J.c (.assign rfl) (J.c (.assign rfl) ?_); refine J.go (U.seq (U.seq (U.text ?_))); refine J.c (.move rfl) (J.c (.gtr) (J.c (.move rfl) ?_)); refine J.cg (r := decide ((0 : Int) < 0)) (w := false) [] trivial (fun _ => (.move rfl)) ?_; refine J.cg (r := decide ((0 : Int) < 0)) (w := false) [(24, .v (.int .u64) ((n : Nat) : Int))] ⟨rfl, trivial⟩ (fun _ => (.gtr)) ?_; refine J.c (.or) (J.go ?_); refine U.fN rfl (fun c4 => ?_) (fun c4 => ?_)
  . try simp only [Bool.and_eq_true, Bool.or_eq_true, Bool.and_eq_false_iff, Bool.or_eq_false_iff, Bool.not_eq_true', Bool.not_eq_false', decide_eq_true_eq, decide_eq_false_iff_not] at c4
    exact absurd c4 (by omega)
  try simp only [Bool.and_eq_true, Bool.or_eq_true, Bool.and_eq_false_iff, Bool.or_eq_false_iff, Bool.not_eq_true', Bool.not_eq_false', decide_eq_true_eq, decide_eq_false_iff_not] at c4
  refine U.skip (U.seq (U.text ?_)); refine J.c (.move rfl) (J.c (.EW rfl .i64 (by exact wrap64 (by omega) (by omega))) ?_); refine J.cell (.make (k := n) rfl rfl j3 zt4 (by omega)) ?_; intro eT; refine J.c (.assign rfl) ?_; refine J.go (U.seq (U.text ?_)); refine J.c (.move rfl) (J.c (.move rfl) ?_); refine J.ZR rfl rfl j3 (by simp; omega) (by omega) ?_; rw [show (yK Ty.bool : Bool) = false from rfl, VE hx h0, LD]; refine J.c (.assign rfl) ?_; refine J.go (U.seq (U.block ?_)); refine U.aV [(7, .raw eT), (8, I ((1 : Nat) : Int))] ⟨rfl, rfl, trivial⟩ ?_; refine U.loop (I := fun kk ff ss => ∃ (c : Nat), kk = n - c /\ ff = [(7, .raw eT), (8, I ((c : Nat) : Int))] /\ ss = [(eT, .row 4 .bool (o6 n c))] /\ (1 <= c /\ c <= n)) ?_ _ _ _ ⟨1, rfl, rfl, rfl, (by omega)⟩; rintro kk ff ss ⟨c, oL, rfl, rfl, hc⟩; refine U.seq (U.seq (U.text ?_)); refine J.c (.move rfl) (J.c (.move rfl) ?_); refine J.r (.U3 m0 j3) ?_; refine J.c (.lss) (J.go ?_); refine U.b8 rfl (fun c8 => ?_) (fun c8 => ?_)
  . have qP := FA (n := n) (c := c) hc.2
    have hcn : c < n := by omega
    refine U.skip (U.block (U.drawn ?_)); refine VD.c (.move rfl) (VD.c (.move rfl) (VD.c (.move rfl) ?_)); refine VD.r [(eT, .row 4 .bool (o6 n c))] (.aoB (k := c) rfl rfl m0 j3 (by omega) (by omega)) (.inr ⟨rfl, rfl⟩) ?_; refine VD.c (.move rfl) (VD.c (.move rfl) (VD.nw [] ?_)); refine VD.r [(eT, .row 4 .bool (o6 n c))] (.aoI (k := c) rfl rfl m0 j3 (by omega) (by omega)) (.inr ⟨rfl, rfl⟩) ?_; refine VD.mk (bO.aoJ (k := c) j3 (by omega) (by omega) rfl rfl) ?_; rintro _ _ tl2 ⟨rfl, rfl⟩; rw [ZU hcn hc.1, qP]; refine VD.c (.add rfl rfl (by omega)) (VD.c (.assign rfl) ?_); refine VD.nil ?_; refine ⟨_, [(7, .raw eT), (8, I (((c + min c (n - c)) : Nat) : Int))], ?_, ⟨rfl, rfl, trivial⟩, (c + min c (n - c)), rfl, rfl, (by simp), (by omega)⟩; omega
  refine U.exit (U.seq (U.text ?_)); refine J.c (.move rfl) (J.c (.assign rfl) (J.go ?_)); refine U.ret ?_; exact L5.row rfl b6 ⟨eT, rfl, (by rw [show c = n by (have atV := FA (n := n) (c := c) hc.2; omega)]; simp [o6])⟩
theorem adJ {x : List Bool} {n : Nat} (hx : x = [true]) (h0 : n = 0) : gZ Tryz.prog OA 97 [.v (.sl .bool) x, I ((n : Nat) : Int)] [] (fun r g => ∃ w, r = .raw w /\ g = [(w, .row 4 .bool [])]) := by
  refine gZ.enter Tryz.func97 rfl (fun _ _ => rfl) rfl ?_; show U _ _ _ _ _ [(0, .v (.sl .bool) x), (1, I ((n : Nat) : Int))] [] _; refine U.seq (U.text ?_); refine J.c (.assign rfl) ?_; refine J.go (U.seq (U.seq (U.text ?_))); refine J.c (.move rfl) (J.c (.lss) (J.go ?_)); refine U.b8 rfl (fun c1 => ?_) (fun c1 => ?_)
  . exact absurd c1 (by omega)
  have LD : x.length = 1 := by rw [hx] <;> rfl
  have hxn : ((x.length : Nat) : Int) * ((n : Nat) : Int) = ((n : Nat) : Int) := by rw [LD]; omega
  refine U.skip (U.seq (U.text ?_)); refine J.c (.move rfl) ?_; refine J.r (.len j3) ?_; refine J.c (.EW rfl .u64 (by exact tD (by omega))) (J.c (.move rfl) (J.c (.EW rfl .u64 (by exact tD (by omega))) ?_)); refine J.call rfl rfl (VF.call (VB (by omega) (by omega) (by rw [hxn]; omega))) ?_; refine J.c (.move rfl) (J.c (.extract) (J.c (.extract) ?_)); rw [hxn]; refine J.c (.assign rfl) (J.c (.assign rfl) ?_); refine J.go (U.seq (U.seq (U.text ?_))); refine J.c (.move rfl) (J.c (.gtr) (J.c (.move rfl) ?_)); refine J.cg (r := decide ((0 : Int) < 0)) (w := false) [] trivial (fun _ => (.move rfl)) ?_; refine J.cg (r := decide ((0 : Int) < 0)) (w := false) [(24, .v (.int .u64) ((n : Nat) : Int))] ⟨rfl, trivial⟩ (fun _ => (.gtr)) ?_; refine J.c (.or) (J.go ?_); refine U.fN rfl (fun c4 => ?_) (fun c4 => ?_)
  . try simp only [Bool.and_eq_true, Bool.or_eq_true, Bool.and_eq_false_iff, Bool.or_eq_false_iff, Bool.not_eq_true', Bool.not_eq_false', decide_eq_true_eq, decide_eq_false_iff_not] at c4
    exact absurd c4 (by omega)
  try simp only [Bool.and_eq_true, Bool.or_eq_true, Bool.and_eq_false_iff, Bool.or_eq_false_iff, Bool.not_eq_true', Bool.not_eq_false', decide_eq_true_eq, decide_eq_false_iff_not] at c4
  refine U.skip (U.seq (U.text ?_)); refine J.c (.move rfl) (J.c (.EW rfl .i64 (by exact wrap64 (by omega) (by omega))) ?_); refine J.cell (.make (k := n) rfl rfl j3 zt4 (by omega)) ?_; intro DC; refine J.c (.assign rfl) ?_; refine J.go (U.seq (U.text ?_)); refine J.c (.move rfl) (J.c (.move rfl) ?_); refine J.ZS rfl rfl j3 (by rw [h0] <;> rfl) ?_; refine J.c (.assign rfl) ?_; refine J.go (U.seq (U.block ?_)); refine U.aV [(7, .raw DC), (8, I ((0 : Nat) : Int))] ⟨rfl, rfl, trivial⟩ ?_; refine U.loop (I := fun kk ff ss => ∃ (c : Nat), kk = 0 /\ ff = [(7, .raw DC), (8, I ((c : Nat) : Int))] /\ ss = [(DC, .row 4 .bool [])] /\ (c = 0)) ?_ _ _ _ ⟨0, rfl, rfl, rfl, (by rfl)⟩; rintro kk ff ss ⟨c, oL, rfl, rfl, hc⟩; refine U.seq (U.seq (U.text ?_)); refine J.c (.move rfl) (J.c (.move rfl) ?_); refine J.r (.U3 m0 j3) ?_; refine J.c (.lss) (J.go ?_); refine U.b8 rfl (fun c8 => ?_) (fun c8 => ?_)
  . exact absurd c8 (by simp)
  refine U.exit (U.seq (U.text ?_)); refine J.c (.move rfl) (J.c (.assign rfl) (J.go ?_)); refine U.ret ?_; exact L5.row rfl b6 ⟨DC, rfl, (by rfl)⟩
theorem ah8 {n : Nat} {x : List Bool} (hx : x = [true]) (hn : n <= 4096) : gZ Tryz.prog OA 97 [.v (.sl .bool) x, I ((n : Nat) : Int)] [] (fun r g => ∃ w, r = .raw w /\ g = [(w, .row 4 .bool (List.replicate n true))]) := by
  by_cases h : n = 0
  . subst h; exact adJ hx rfl
  exact adI hx hn (by omega)
end Go.Proofs
namespace Go.Proofs
open Go.Fs Ieee
set_option maxHeartbeats 2000000
theorem RV : gQ Tryz.prog 4 .bool := iY (by kernel_rfl)
def j9 (n : Nat) (p : Int -> Bool) : List Bool := (List.range n).map fun (t : Nat) => !p (t : Int)
theorem gC {n : Nat} {p : Int -> Bool} : (j9 n p).length = n := by simp [j9]
theorem rM {n t : Nat} {p : Int -> Bool} (h : t < n) : (j9 n p)[t]'(by rw [gC]; exact h) = !p (t : Int) := by
  unfold j9; rw [List.getElem_map, List.getElem_range]
theorem ZV {n : Nat} {p : Int -> Bool} (h : ∀ t : Nat, p t = false) : List.replicate n true = j9 n p := by
  refine List.ext_getElem (by rw [List.length_replicate, gC]) fun i h1 h2 => ?_; rw [gC] at h2; rw [List.getElem_replicate, rM h2, h i] <;> rfl
theorem P6 {n : Nat} {p q : Int -> Bool} (h : ∀ t : Nat, t < n -> p t = q t) : j9 n p = j9 n q := by
  refine List.ext_getElem (by rw [gC, gC]) fun i h1 h2 => ?_; rw [gC] at h2; rw [rM h2, rM h2, h i h2]
theorem adK {n t : Nat} {p q : Int -> Bool} (ht : t < n) (hq : q t = true) (TL : ∀ u : Nat, u ≠ t -> q u = p u) : j9 n q = (j9 n p).set t false := by
  refine List.ext_getElem (by rw [List.length_set, gC, gC]) fun i h1 h2 => ?_; rw [gC] at h1; rw [rM h1, List.getElem_set]; by_cases e : t = i
  . subst e; rw [if_pos rfl, hq] <;> rfl
  rw [if_neg e, rM h1, TL i (fun h => e h.symm)]
def gS (r : bS) : List Bool := j9 r.2.2.1.length (Sp.gK r.2.2.2)
theorem ZW {r : ByteArray × Int × (List Nat) × (List (Int × Int))} (hl : r.2.2.1.length <= 4096) (hg : r.2.2.2.length < 1000000) (nL : ∀ s ∈ r.2.2.2, 0 <= s.1 /\ s.1 < s.2 /\ s.2 <= (r.2.2.1.length : Nat)) : VF Tryz.prog OA 56 [.v jP r] (.v (.sl .bool) (gS r)) := by
  refine VF.enter Tryz.func56 rfl (fun _ _ => rfl) rfl ?_; show U _ _ _ _ _ [(0, .v jP r)] [] _; refine U.seq (U.text ?_); refine J.new (.box) ?_; refine J.c (.assign rfl) ?_; refine J.go (U.seq (U.text ?_)); refine J.new (.lit [true] j3) ?_; refine J.c (.fa (.r (.r (.l .o)))) ?_; refine J.r (.ld j0) ?_; refine J.r (.len eU) ?_; refine J.qT [] rfl rfl rfl (gZ.call (ah8 rfl hl)) ?_; rintro _ _ ⟨eT, rfl, rfl⟩; show J _ _ _ _ _ _ [(eT, .row 4 .bool (List.replicate r.2.2.1.length true))] _; refine J.c (.assign rfl) ?_; refine J.go (U.seq (U.seq (U.text ?_))); refine J.c (.fa (.r (.r (.r .o)))) ?_; refine J.r (.ld o5) ?_; refine J.r (.len dZ) ?_; refine J.c (.move rfl) ?_; refine J.go (U.block ?_); refine U.aV [(3, .raw eT), (13, .v cW r.2.2.2), (14, I ((r.2.2.2.length : Nat) : Int)), (15, I ((0 : Nat) : Int))] ⟨rfl, rfl, rfl, rfl, trivial⟩ ?_; refine U.loop (I := fun kk ff ss => ∃ (i : Nat), kk = r.2.2.2.length - i /\ ff = [(3, .raw eT), (13, .v cW r.2.2.2), (14, I ((r.2.2.2.length : Nat) : Int)), (15, I ((i : Nat) : Int))] /\ ss = [(eT, .row 4 .bool (j9 r.2.2.1.length (Sp.gK (r.2.2.2.take i))))] /\ (i <= r.2.2.2.length)) ?_ _ _ _ ⟨0, rfl, rfl, (by rw [ZV (p := Sp.gK (r.2.2.2.take 0)) fun _ => rfl]), Nat.zero_le _⟩; rintro kk ff ss ⟨i, oL, rfl, rfl, hi⟩; refine U.seq (U.text ?_); refine J.c (.lss) ?_; refine J.go (U.seq ?_); refine U.b8 rfl (fun c3 => ?_) (fun c3 => ?_)
  . have FB : i < r.2.2.2.length := by omega
    have hsi := nL _ (List.getElem_mem FB); have hx := j7 FB; refine U.skip (U.seq (U.block (U.seq (U.text ?_)))); refine J.c (.ix (j := i) rfl rfl dZ (by omega)) ?_; refine J.r (.ld tI) ?_; refine J.cell (.alloc UY) ?_; intro pA; refine J.lJ (cs' := [I ((r.2.2.2[i]).1), I ((r.2.2.2[i]).2)]) tI .v ?_; refine J.shut [(5, .p kP (r.2.2.2[i]))] (.cons rfl (.var m0 .refl) .nil) ?_; refine J.go (U.seq (U.text ?_)); refine J.c (.fa (.l .o)) ?_; refine J.r (.ld kO) ?_; refine J.c (.assign rfl) ?_; refine J.go (U.block ?_); refine U.aV [(3, .raw eT), (5, .p kP (r.2.2.2[i])), (6, I ((((r.2.2.2[i]).1.toNat) : Nat) : Int)), (13, .v cW r.2.2.2), (14, I ((r.2.2.2.length : Nat) : Int)), (15, I ((i : Nat) : Int))] ⟨rfl, rfl, slI rfl (by omega), rfl, rfl, rfl, trivial⟩ ?_; refine U.loop (I := fun kk ff ss => ∃ (t : Nat), kk = r.2.2.1.length - t /\ ff = [(3, .raw eT), (5, .p kP (r.2.2.2[i])), (6, I ((t : Nat) : Int)), (13, .v cW r.2.2.2), (14, I ((r.2.2.2.length : Nat) : Int)), (15, I ((i : Nat) : Int))] /\ ss = [(eT, .row 4 .bool (j9 r.2.2.1.length (yT r.2.2.2 i t)))] /\ ((t : Int) <= (r.2.2.2[i]).2) /\ ((r.2.2.2[i]).1 <= t)) ?_ _ _ _ ⟨(r.2.2.2[i]).1.toNat, rfl, rfl, (by rw [P6 (q := Sp.gK (r.2.2.2.take i)) fun u _ => al2 (by rw [hx]; omega)]), (by omega), (by omega)⟩; rintro kk ff ss ⟨t, ED, rfl, rfl, ht, h0⟩; refine U.seq (U.seq (U.text ?_)); refine J.c (.move rfl) (J.c (.fa (.r .o)) ?_); refine J.r (.ld kO) ?_; refine J.c (.lss) (J.go ?_); refine U.b8 rfl (fun c6 => ?_) (fun c6 => ?_)
    . have bX : t < r.2.2.1.length := by omega
      have hol := gC (n := r.2.2.1.length) (p := yT r.2.2.2 i t); refine U.skip (U.seq (U.block (U.text ?_))); refine J.c (.move rfl) (J.c (.move rfl) (J.c (.U2 (j := t) rfl rfl m0 j3 (by omega)) ?_)); refine J.KV t rfl rfl RV (by omega) ?_; refine J.nil (U.text ?_); refine J.c (.move rfl) (J.c (.add rfl rfl (by omega)) (J.c (.assign rfl) ?_)); refine J.nil ?_; refine ⟨_, [(3, .raw eT), (5, .p kP (r.2.2.2[i])), (6, I (((t + 1) : Nat) : Int)), (13, .v cW r.2.2.2), (14, I ((r.2.2.2.length : Nat) : Int)), (15, I ((i : Nat) : Int))], ?_, ⟨rfl, rfl, rfl, rfl, rfl, rfl, trivial⟩, (t + 1), rfl, rfl, (by rw [adK bX (ZJ (by rw [hx]; exact h0)) (fun u hu => V1 hu)]), (by omega), (by omega)⟩; omega
    refine U.exit (U.text ?_); refine J.c (.add rfl rfl (by omega)) (J.c (.move rfl) ?_); refine J.nil ?_; refine ⟨_, [(3, .raw eT), (13, .v cW r.2.2.2), (14, I ((r.2.2.2.length : Nat) : Int)), (15, I (((i + 1) : Nat) : Int))], ?_, ⟨rfl, rfl, rfl, rfl, trivial⟩, (i + 1), rfl, rfl, (by rw [P6 (q := Sp.gK (r.2.2.2.take (i + 1))) fun u _ => ad5 FB (by omega)]), (by omega)⟩; omega
  refine U.exit (U.seq (U.text ?_)); refine J.c (.move rfl) (J.c (.assign rfl) (J.go ?_)); refine U.ret ?_; exact aW.one rfl (evC (.row m0)) (eS (by rw [List.take_of_length_le (by omega)] <;> rfl))
end Go.Proofs
namespace Go.Fs
variable {P : Program} {fl : VL} {σ : aM} {T : TypeId} {τ : Ty} {h : Heap} {S : List Nat}
inductive LQ : PV -> List PV -> Prop where
  | v {τ : Ty} {x : τ.den} : LQ (.v τ x) (iZ τ x)
  | w {w : Value} (ho : aN w = true) : LQ (.raw w) [.raw w]
theorem ZX {w : Value} (ho : aN w = true) : w.cells.toList = [w] := by
  cases w with
  | agg cs => cases ho
  | _ => rfl
theorem LQ.ok {p : PV} {qs : List PV} {u : Value} (hp : LQ p qs) (hu : aI h S p u) : aX h S qs u.cells.toList /\ u.cells.toList.all aN = true /\ u.cells.toList.length = qs.length := by
  cases hp with
  | v => 
    have hv : aE h S _ u _ := hu; have h1 := kS hv.2
    exact ⟨h1, hv.2.kA, h1.len⟩
  | w ho =>
    obtain rfl : u = _ := hu; rw [ZX ho]; exact ⟨⟨_, [], rfl, rfl, rfl⟩, by rw [List.all_cons, ho]; rfl, rfl⟩
inductive LS (pl : List (Nat × Nat)) : List PV -> List Nat -> List PV -> List PV -> Prop where
  | nil {L L' : List PV} (h : L = L') : LS pl L [] [] L'
  | cons {L L' : List PV} {i o : Nat} {is : List Nat} {p : PV} {ps qs : List PV} (hp : LQ p qs) (hpl : pl[i]? = some (o, qs.length)) (ho : Nat.ble (o + qs.length) L.length = true) (r : LS pl (D1 L o qs) is ps L') : LS pl L (i :: is) (p :: ps) L'
theorem LS.fill {pl : List (Nat × Nat)} : ∀ {is : List Nat} {ps : List PV} {us : List Value} {L L' : List PV} {cs : List Value}, LS pl L is ps L' -> aX h S ps us -> aX h S L cs -> cs.all aN = true ->
    ∃ cs', Instr.fill (pl[·]?) cs.toArray (is.zip us) = some cs'.toArray /\ aX h S L' cs' /\ us.all (fun u => u.cells.toList.all aN) = true /\ is.length = us.length
  | [], [], us, L, L', cs, .nil e, hp, hL, ho => by
    obtain rfl : us = [] := hp; subst e
    exact ⟨cs, rfl, hL, rfl, rfl⟩
  | i :: is, p :: ps, us, L, L', cs, .cons (o := o) (qs := qs) hp hpl arW hr, ⟨u, r, h1, h2, h3⟩, hL, ho => by
    subst h1; have hlen := hL.len; have hle := eP arW; obtain ⟨g1, g2, CX⟩ := hp.ok h2
    have YJ : u.cells.size = qs.length := by simpa using CX
    obtain ⟨cs', f1, f2, f3, f4⟩ := LS.fill hr h3 (hL.D1 o g1) (uA o ho g2); refine ⟨cs', ?_, f2, by rw [List.all_cons, g2, f3]; rfl, by simp [f4]⟩; simp only [List.zip_cons_cons, Instr.fill, hpl]
    have h9 : (u.cells.size ≠ qs.length || o + u.cells.size > cs.toArray.size) = false := by simp [YJ]; omega
    rw [h9]; simp only [Bool.false_eq_true, if_false]
    have nL : u.cells.zipIdx.foldl (fun (cs : Array Value) (p : Value × Nat) => cs.setIfInBounds (o + p.2) p.1) cs.toArray = (bF cs o u.cells.toList).toArray := by
      have e0 : cs = cs.take o ++ ((cs.drop o).take qs.length) ++ cs.drop (o + qs.length) := by
        rw [<- List.drop_drop, List.append_assoc, List.take_append_drop, List.take_append_drop]
      have := CW qs.length o u (cs.take o) ((cs.drop o).take qs.length) (cs.drop (o + qs.length)) (by rw [List.length_take]; omega) (by rw [List.length_take, List.length_drop]; omega) YJ; rw [<- e0] at this; rw [this]; unfold bF; rw [CX]
    rw [nL]; exact f1
theorem aF.al6 {pl : List (Nat × Nat)} {parts : Array (Nat × Operand)} {zs : List Value} {ps cs : List PV} (hT : GN P T τ pl) (hz : mU τ = zs) (AI : lG fl (parts.toList.map (·.2)) = some ps) (hb : LS pl (zs.map .raw) (parts.toList.map (·.1)) ps cs) : aF P fl σ (.build T parts) (.agg cs) :=
  ⟨rfl, fun h S t hs _ => by
    obtain ⟨z, z1, z2, z3⟩ := hT.zer.zero; obtain ⟨y1, y2⟩ := oW h S τ; have hr : aX h S ps ((parts.toList.map (·.2)).map (aA t)) := tF (fun x hx => hs x (by simpa [Op.operands] using hx)) AI; obtain ⟨cs', f1, f2, f3, f4⟩ := hb.fill hr (show aX h S (zs.map .raw) (mU τ) from by rw [hz]; exact F3 zs) (CY y2); refine ⟨.agg cs'.toArray, ⟨cs', rfl, f2⟩, fun _ _ _ _ _ H => ?_⟩; show (bif (parts.toList.all fun p => (aA t p.2).cells.toList.all aN) && ((((P.info? T).bind (·.zero)).map fun z => z.cells.toList.all dQ) == some true) then (aC P (Instr.build T (parts.map fun p => (p.1, aA t p.2)))).map fun v => (v, H) else none) = _
    have c1 : (parts.toList.all fun p => (aA t p.2).cells.toList.all aN) = true := by
      rw [List.map_map, List.all_map] at f3; exact f3
    have c2 : ((((P.info? T).bind (·.zero)).map fun z => z.cells.toList.all dQ) == some true) = true := by
      rw [z1]
      have e : z.cells.toList.all dQ = true := by rw [z2]; exact y2
      simp only [Option.map_some, e]; rfl
    have eD := hT.run z (parts.map fun p => (p.1, aA t p.2)) cs'.toArray z1 (by
      rw [<- f1, Array.toList_map, <- zip_map, List.map_map]; congr 1
      rw [<- z2])
    rw [c1, c2, eD]
    rfl⟩
theorem abF {p : PV} {l : List PV} (h : p.one = true) (r : l.all PV.one = true) : (p :: l).all PV.one = true := by rw [List.all_cons, h, r]; rfl
end Go.Fs
namespace Go.Proofs
open Go.Fs Ieee
set_option maxHeartbeats 2000000
theorem H9 : gQ Tryz.prog 25 pV := iY (by kernel_rfl)
theorem arX : tG Tryz.prog 25 pV := rK (z := .agg #[.string ByteArray.empty, .int .i64 0, .slice none 0 0, .slice none 0 0]) (by kernel_rfl) rfl rfl
theorem arY : tG Tryz.prog 68 (.bJ .f32) := rK (z := .float .f32 0) (by kernel_rfl) rfl rfl
theorem amL : GN Tryz.prog 53 kP [(0, 1), (1, 1)] := D3 UY rfl (by kernel_rfl)
def vT (out : List (Int × Int)) (s : Int × Int) : List (Int × Int) :=
  if s.2 <= s.1 then out
  else if 0 < out.length /\ s.1 <= (p9 out (out.length - 1)).2 then out.set (out.length - 1) ((p9 out (out.length - 1)).1, max (p9 out (out.length - 1)).2 s.2)
  else out ++ [s]
def fO (l : List (Int × Int)) : List (Int × Int) := l.foldl vT []
theorem LU (l : List (Int × Int)) (s : Int × Int) : fO (l ++ [s]) = vT (fO l) s := by simp [fO]
theorem ZY {l : List (Int × Int)} {j : Nat} (h : j < l.length) : fO (l.take (j + 1)) = vT (fO (l.take j)) l[j] := by
  rw [List.take_succ_eq_append_getElem h, LU]
theorem adL (out : List (Int × Int)) (s : Int × Int) : (vT out s).length <= out.length + 1 := by
  unfold vT; split
  . omega
  split
  . rw [List.length_set]; omega
  rw [List.length_append, List.length_singleton]; omega
theorem LV : ∀ (l out : List (Int × Int)), (l.foldl vT out).length <= out.length + l.length
  | [], out => by simp
  | s :: l, out => by
    have h1 := LV l (vT out s); have h2 := adL out s; rw [List.foldl_cons, List.length_cons]; omega
theorem zY (l : List (Int × Int)) : (fO l).length <= l.length := by
  have := LV l []; simpa [fO] using this
theorem al7 {out : List (Int × Int)} {s : Int × Int} (h : s.2 <= s.1) : vT out s = out := by rw [vT, if_pos h]
theorem abG {out : List (Int × Int)} {s : Int × Int} (h : ¬ s.2 <= s.1) (h0 : 0 < out.length) (h1 : s.1 <= (p9 out (out.length - 1)).2) : vT out s = out.set (out.length - 1) ((p9 out (out.length - 1)).1, max (p9 out (out.length - 1)).2 s.2) := by rw [vT, if_neg h, if_pos ⟨h0, h1⟩]
theorem RW {out : List (Int × Int)} {s : Int × Int} (h : ¬ s.2 <= s.1) (h1 : ¬ (0 < out.length /\ s.1 <= (p9 out (out.length - 1)).2)) : vT out s = out ++ [s] := by rw [vT, if_neg h, if_neg h1]
def yY (out : List (Int × Int)) (i : Nat) : List (Int × Int) :=
  if 0 < out.length /\ (p9 out (out.length - 1)).2 = (i : Int) then out.set (out.length - 1) ((p9 out (out.length - 1)).1, (i : Int) + 1)
  else out ++ [((i : Int), (i : Int) + 1)]
def eC (l : List Bool) : Nat -> List (Int × Int)
  | 0 => []
  | i + 1 => if l.getD i false = true then eC l i else yY (eC l i) i
theorem adM (out : List (Int × Int)) (i : Nat) : (yY out i).length <= out.length + 1 := by
  unfold yY; split
  . rw [List.length_set]; omega
  rw [List.length_append, List.length_singleton]; omega
theorem BI (l : List Bool) : ∀ i, (eC l i).length <= i
  | 0 => Nat.le_refl _
  | i + 1 => by
    have h1 := BI l i; have h2 := adM (eC l i) i; unfold eC; split <;> omega
theorem abH {out : List (Int × Int)} {i : Nat} (h0 : 0 < out.length) (h1 : (p9 out (out.length - 1)).2 = (i : Int)) : yY out i = out.set (out.length - 1) ((p9 out (out.length - 1)).1, (i : Int) + 1) := by rw [yY, if_pos ⟨h0, h1⟩]
theorem RX {out : List (Int × Int)} {i : Nat} (h1 : ¬ (0 < out.length /\ (p9 out (out.length - 1)).2 = (i : Int))) : yY out i = out ++ [((i : Int), (i : Int) + 1)] := by rw [yY, if_neg h1]
def kJ (l : List Bool) : Nat -> List (Int × Int)
  | 0 => []
  | i + 1 => if l.getD i false = true then kJ l i else kJ l i ++ [((i : Int), (i : Int) + 1)]
theorem DE {l : List Bool} {i : Nat} (h : i < l.length) (hb : l[i] = true) : kJ l (i + 1) = kJ l i := by
  rw [kJ, if_pos (by rw [List.getD_eq_getElem?_getD, List.getElem?_eq_getElem h]; exact hb)]
theorem DF {l : List Bool} {i : Nat} (h : i < l.length) (hb : ¬ l[i] = true) : kJ l (i + 1) = kJ l i ++ [((i : Int), (i : Int) + 1)] := by
  rw [kJ, if_neg (by rw [List.getD_eq_getElem?_getD, List.getElem?_eq_getElem h]; exact hb)]
theorem xD (l : List Bool) : ∀ i, (kJ l i).length <= i
  | 0 => Nat.le_refl _
  | i + 1 => by
    have h1 := xD l i; unfold kJ; split
    . omega
    rw [List.length_append, List.length_singleton]; omega
theorem O0 {out : List (Int × Int)} {s : Int × Int} (h : 0 < out.length) : p9 (out.set (out.length - 1) s) ((out.set (out.length - 1) s).length - 1) = s := by
  rw [j7 (by rw [List.length_set]; omega), List.getElem_set, if_pos (by rw [List.length_set])]
theorem O1 {out : List (Int × Int)} {s : Int × Int} : p9 (out ++ [s]) ((out ++ [s]).length - 1) = s := by
  rw [j7 (by simp), List.getElem_append_right (by simp)]; simp
theorem LW (l : List Bool) : ∀ i, 0 < (eC l i).length -> (p9 (eC l i) ((eC l i).length - 1)).2 <= (i : Int)
  | 0 => fun h => absurd h (by simp [eC])
  | i + 1 => fun h => by
    unfold eC at h ⊢; split at h
    . rename_i hb; rw [if_pos hb]; have := LW l i h; omega
    rename_i hb; rw [if_neg hb]; unfold yY; split
    . rename_i hc; rw [O0 hc.1]; simp
    rw [O1]; simp
theorem FC (l : List Bool) : ∀ i, fO (kJ l i) = eC l i
  | 0 => rfl
  | i + 1 => by
    unfold kJ eC; split
    . exact FC l i
    rw [LU, FC l i]; have hl := LW l i; by_cases hc : 0 < (eC l i).length /\ (p9 (eC l i) ((eC l i).length - 1)).2 = (i : Int)
    . rw [abH hc.1 hc.2, abG (by show ¬ ((i : Int) + 1 <= (i : Int)); omega) hc.1 (by show (i : Int) <= _; omega)]; congr 2; show max _ ((i : Int) + 1) = _; omega
    rw [RX hc, RW (by show ¬ ((i : Int) + 1 <= (i : Int)); omega) (fun hd => hc ⟨hd.1, by have := hl hd.1; have h2 : (i : Int) <= _ := hd.2; omega⟩)]
theorem VG {l : List (Int × Int)} {n : Nat} (h0 : 0 < n) (h : ((n : Int) - 1).toNat < l.length) : l[((n : Int) - 1).toNat] = p9 l (n - 1) := by
  have e : ((n : Int) - 1).toNat = n - 1 := by omega
  simp only [e] at h ⊢; exact (j7 h).symm
theorem VH {s6 : Value} {xs : List (Int × Int)} (hl : xs.length < 1000000) : gZ Tryz.prog OA 81 [.raw s6] [(s6, .row 53 kP xs)] (fun r' g => r' = (.v cW (fO xs)) /\ g = []) := by
  refine gZ.akY Tryz.func81 rfl (fun _ _ => rfl) rfl ?_; show U _ _ _ _ _ [(0, .raw s6)] [(s6, .row 53 kP xs)] _; refine U.seq (U.text ?_); refine J.c (.assign rfl) ?_; refine J.go (U.seq (U.text ?_)); refine J.c (.assign rfl) ?_; refine J.go (U.seq (U.seq (U.text ?_))); refine J.c (.move rfl) ?_; refine J.r (.U3 m0 dZ) ?_; refine J.c (.move rfl) ?_; refine J.go (U.block ?_); refine U.cell0 53 kP ?_; refine U.aV [(3, .raw (.slice none 0 0)), (7, .raw s6), (8, I ((xs.length : Nat) : Int)), (9, I ((0 : Nat) : Int))] ⟨rfl, rfl, rfl, rfl, trivial⟩ ?_; refine U.loop (I := fun kk ff ss => ∃ (i : Nat) (out : Value), kk = xs.length - i /\ ff = [(3, .raw out), (7, .raw s6), (8, I ((xs.length : Nat) : Int)), (9, I ((i : Nat) : Int))] /\ ss = [(out, .row 53 kP (fO (xs.take i))), (s6, .row 53 kP xs)] /\ (i <= xs.length) /\ ((fO (xs.take i)).length <= i)) ?_ _ _ _ ⟨0, (.slice none 0 0), rfl, rfl, rfl, Nat.zero_le _, (by rw [List.take_zero]; exact Nat.le_refl _)⟩; rintro kk ff ss ⟨i, out, oL, rfl, rfl, hi, sE⟩; refine U.seq (U.text ?_); refine J.c (.lss) ?_; refine J.go (U.seq ?_); refine U.b8 rfl (fun c3 => ?_) (fun c3 => ?_)
  . refine U.skip (U.seq (U.block (U.seq (U.text ?_)))); have e1 := ZY (show i < xs.length by omega); refine J.c (.U2 (j := i) rfl rfl m1 dZ (by omega)) ?_; refine J.r (.ldO rfl m1 tI (by omega)) ?_; refine J.cell (.alloc UY) ?_; intro ww7; refine J.lJ (cs' := [I ((xs[i]).1), I ((xs[i]).2)]) tI .v ?_; refine J.shut [(5, .p kP (xs[i]))] (.cons rfl (.var m0 .refl) .nil) ?_; refine J.go (U.seq (U.text ?_)); refine J.c (.move rfl) ?_; refine J.r (.U3 m0 dZ) ?_; refine J.c (.assign rfl) ?_; refine J.go (U.block (U.seq (U.text ?_))); refine J.c (.fa (.l .o)) ?_; refine J.r (.ld kO) ?_; refine J.c (.fa (.r .o)) ?_; refine J.r (.ld kO) ?_; refine J.c (.geq) (J.c (.assign rfl) (J.go ?_)); refine U.b8 rfl (fun c7 => ?_) (fun c7 => ?_)
    . have e3 := al7 (out := fO (xs.take i)) c7; refine U.skip (U.text ?_); refine J.c (.add rfl rfl (by omega)) (J.c (.move rfl) ?_); refine J.nil ?_; refine ⟨_, [(3, .raw out), (7, .raw s6), (8, I ((xs.length : Nat) : Int)), (9, I (((i + 1) : Nat) : Int))], ?_, ⟨rfl, rfl, rfl, rfl, trivial⟩, (i + 1), out, rfl, rfl, (by first | (rw [e1, e3]; done) | (rw [e1, e3, e2]; simp only [e4]; done) | (rw [e1, e3]; rfl)), (by omega), (by exact Nat.le_trans (zY _) (List.length_take_le _ _))⟩; omega
    refine U.seq (U.drawn ?_); refine VD.c (.move rfl) (VD.c (.gtr) (VD.c (.move rfl) ?_)); refine VD.jK (x := 28) rfl (fun H4 => ?_) (fun H4 => ?_)
    . refine VD.c (.move rfl) (VD.c (.move rfl) (VD.nw [] (VD.c (.sub rfl rfl (by omega)) ?_))); refine VD.co (.ag8 (k := ((((fO (xs.take i)).length : Nat) : Int) - (1 : Int))) rfl rfl m0 dZ (by omega) (by omega)) ?_; refine VD.co (.faE (j := (Int.toNat ((((fO (xs.take i)).length : Nat) : Int) - (1 : Int)))) (k := 1) m0 (by omega)) ?_; refine VD.r [(out, .row 53 kP (fO (xs.take i))), (s6, .row 53 kP xs)] (.ldE (j := (Int.toNat ((((fO (xs.take i)).length : Nat) : Int) - (1 : Int)))) (k := 1) (by omega) (.r .o) rfl m0 kO) (.inr ⟨rfl, rfl⟩) ?_; refine VD.c (.fa (.l .o)) ?_; refine VD.r [] (.ld kO) (.inl rfl) ?_; refine VD.c (.geq) (VD.nw [] (VD.c (.iD rfl rfl) (VD.c (.assign rfl) ?_))); refine VD.go ?_; refine U.b8 rfl (fun c8 => ?_) (fun c8 => ?_)
      . have h0 : 0 < (fO (xs.take i)).length := by omega
        have e2 := VG (l := fO (xs.take i)) h0 (by omega); have e3 := abG (out := fO (xs.take i)) c7 h0 (by rw [<- e2]; exact c8)
        have e4 : ((((fO (xs.take i)).length : Nat) : Int) - (1 : Int)).toNat = (fO (xs.take i)).length - 1 := by omega
        refine U.drawn ?_; refine VD.c (.move rfl) (VD.c (.move rfl) (VD.c (.sub rfl rfl (by omega)) (VD.c (.move rfl) ?_))); refine VD.c (.move rfl) (VD.c (.sub rfl rfl (by omega)) (VD.nw [] ?_)); refine VD.co (.ag8 (k := ((((fO (xs.take i)).length : Nat) : Int) - (1 : Int))) rfl rfl m0 dZ (by omega) (by omega)) ?_; refine VD.co (.faE (j := (Int.toNat ((((fO (xs.take i)).length : Nat) : Int) - (1 : Int)))) (k := 1) m0 (by omega)) ?_; refine VD.r [(out, .row 53 kP (fO (xs.take i))), (s6, .row 53 kP xs)] (.ldE (j := (Int.toNat ((((fO (xs.take i)).length : Nat) : Int) - (1 : Int)))) (k := 1) (by omega) (.r .o) rfl m0 kO) (.inr ⟨rfl, rfl⟩) ?_; refine VD.c (.fa (.r .o)) ?_; refine VD.r [] (.ld kO) (.inl rfl) ?_; refine VD.c (.imax) ?_; refine VD.co (.ag8 (k := ((((fO (xs.take i)).length : Nat) : Int) - (1 : Int))) rfl rfl m0 dZ (by omega) (by omega)) ?_; refine VD.nw [] ?_; refine VD.co (.faE (j := (Int.toNat ((((fO (xs.take i)).length : Nat) : Int) - (1 : Int)))) (k := 1) m0 (by omega)) ?_; refine VD.AH (bO.aoD (j := (Int.toNat ((((fO (xs.take i)).length : Nat) : Int) - (1 : Int)))) (k := 1) (dz := (((fO (xs.take i))[(Int.toNat ((((fO (xs.take i)).length : Nat) : Int) - (1 : Int)))]).1, (max (((fO (xs.take i))[(Int.toNat ((((fO (xs.take i)).length : Nat) : Int) - (1 : Int)))]).2) ((xs[i]).2)))) (by omega) kO (.r .o) rfl rfl) ?_; rintro _ _ tl8 ⟨rfl, rfl⟩; refine VD.nil ?_; refine U.aV [(3, .raw out), (7, .raw s6), (8, I ((xs.length : Nat) : Int)), (9, I ((i : Nat) : Int))] ⟨rfl, rfl, rfl, rfl, trivial⟩ ?_; refine U.text ?_; refine J.c (.add rfl rfl (by omega)) (J.c (.move rfl) ?_); refine J.nil ?_; refine ⟨_, [(3, .raw out), (7, .raw s6), (8, I ((xs.length : Nat) : Int)), (9, I (((i + 1) : Nat) : Int))], ?_, ⟨rfl, rfl, rfl, rfl, trivial⟩, (i + 1), out, rfl, rfl, (by first | (rw [e1, e3]; done) | (rw [e1, e3, e2]; simp only [e4]; done) | (rw [e1, e3]; rfl)), (by omega), (by exact Nat.le_trans (zY _) (List.length_take_le _ _))⟩; omega
      have e3 := RW (out := fO (xs.take i)) c7 (fun hh => by first | exact absurd hh.1 (by omega) | (rw [<- VG hh.1 (by omega)] at hh; exact c8 hh.2)); refine U.text ?_; refine J.c (.move rfl) ?_; refine J.r (.ld tI) ?_; refine J.new (.lit [xs[i]] dZ) ?_; refine J.app rfl rfl dZ dZ (by simp; omega) ?_; intro VI; refine J.c (.assign rfl) ?_; refine J.nil ?_; refine U.aV [(3, .raw VI), (7, .raw s6), (8, I ((xs.length : Nat) : Int)), (9, I ((i : Nat) : Int))] ⟨rfl, rfl, rfl, rfl, trivial⟩ ?_; refine U.text ?_; refine J.c (.add rfl rfl (by omega)) (J.c (.move rfl) ?_); refine J.nil ?_; refine ⟨_, [(3, .raw VI), (7, .raw s6), (8, I ((xs.length : Nat) : Int)), (9, I (((i + 1) : Nat) : Int))], ?_, ⟨rfl, rfl, rfl, rfl, trivial⟩, (i + 1), VI, rfl, rfl, (by first | (rw [e1, e3]; done) | (rw [e1, e3, e2]; simp only [e4]; done) | (rw [e1, e3]; rfl)), (by omega), (by exact Nat.le_trans (zY _) (List.length_take_le _ _))⟩; omega
    have e3 := RW (out := fO (xs.take i)) c7 (fun hh => absurd hh.1 (by omega)); refine VD.skip (VD.skip (VD.nw [] (VD.skip ?_))); refine VD.skip (VD.skip (VD.skip (VD.skip ?_))); refine VD.skip (VD.skip (VD.nw [] (VD.c (.dK rfl rfl) ?_))); refine VD.c (.assign rfl) (VD.go ?_); refine U.BA rfl ?_; refine U.text ?_; refine J.c (.move rfl) ?_; refine J.r (.ld tI) ?_; refine J.new (.lit [xs[i]] dZ) ?_; refine J.app rfl rfl dZ dZ (by simp; omega) ?_; intro HA; refine J.c (.assign rfl) ?_; refine J.nil ?_; refine U.aV [(3, .raw HA), (7, .raw s6), (8, I ((xs.length : Nat) : Int)), (9, I ((i : Nat) : Int))] ⟨rfl, rfl, rfl, rfl, trivial⟩ ?_; refine U.text ?_; refine J.c (.add rfl rfl (by omega)) (J.c (.move rfl) ?_); refine J.nil ?_; refine ⟨_, [(3, .raw HA), (7, .raw s6), (8, I ((xs.length : Nat) : Int)), (9, I (((i + 1) : Nat) : Int))], ?_, ⟨rfl, rfl, rfl, rfl, trivial⟩, (i + 1), HA, rfl, rfl, (by first | (rw [e1, e3]; done) | (rw [e1, e3, e2]; simp only [e4]; done) | (rw [e1, e3]; rfl)), (by omega), (by exact Nat.le_trans (zY _) (List.length_take_le _ _))⟩; omega
  refine U.exit (U.seq (U.text ?_)); refine J.c (.move rfl) (J.c (.assign rfl) (J.go ?_)); refine U.ret ?_; exact aW.one rfl (evC (.row m0)) (eS (by rw [List.take_of_length_le (by omega)]))
def gL (r : bS) (l : List Bool) (f : Nat -> Nat) (n : Nat) : List Nat := (List.range r.2.2.1.length).map fun i => if i < n /\ l.getD i false = true then f (r.2.2.1.getD i 0) else 0
theorem jV {r : bS} {l : List Bool} {f : Nat -> Nat} {n : Nat} : (gL r l f n).length = r.2.2.1.length := by simp [gL]
theorem zZ {r : bS} {l : List Bool} {f : Nat -> Nat} {n i : Nat} (h : i < r.2.2.1.length) : (gL r l f n)[i]'(by rw [jV]; exact h) = if i < n /\ l.getD i false = true then f (r.2.2.1.getD i 0) else 0 := by
  unfold gL; rw [List.getElem_map, List.getElem_range]
def aS (x : Nat) : Nat := (single.add x 0).getD 0
theorem ZZ : u32 0 = some 0 := by decide +kernel
theorem oX {x : Nat} (h : fD x = 0) : single.add x 0 = some (aS x) /\ fD (aS x) = 0 /\ u32 (aS x) = u32 x := by
  obtain ⟨h1, h2, h3⟩ := mF h
  obtain ⟨r, hr, l3⟩ := ao5 h1 ZZ (by
    rw [Int.add_zero, Int.natAbs_mul]
    exact BE (n := (qV x).natAbs) (j := 145) (by show _ < 2 ^ (23 + 1); omega) (by decide))
  have e : aS x = r := by rw [aS, hr] <;> rfl
  rw [Int.add_zero] at l3; rw [e]; exact ⟨hr, (akP l3 h2 h3).1, by rw [l3, h1]⟩
def jE (r : bS) (l : List Bool) (n : Nat) : List Nat := (List.range r.2.2.1.length).map fun i => if i < n then (if l.getD i false = true then aS (r.2.2.1.getD i 0) else 0) else r.2.2.1.getD i 0
theorem jW {r : bS} {l : List Bool} {n : Nat} : (jE r l n).length = r.2.2.1.length := by simp [jE]
theorem vU {r : bS} {l : List Bool} {n i : Nat} (h : i < r.2.2.1.length) : (jE r l n)[i]'(by rw [jW]; exact h) = if i < n then (if l.getD i false = true then aS (r.2.2.1.getD i 0) else 0) else r.2.2.1.getD i 0 := by
  unfold jE; rw [List.getElem_map, List.getElem_range]
theorem dP {α : Type} {l : List α} {i : Nat} {d : α} (h : i < l.length) : l.getD i d = l[i] := by
  rw [List.getD_eq_getElem?_getD, List.getElem?_eq_getElem h] <;> rfl
theorem ah9 {r : bS} {l : List Bool} : r.2.2.1 = jE r l 0 := by
  refine List.ext_getElem (by rw [jW]) fun i h1 h2 => ?_; rw [vU h1, if_neg (by omega), dP h1]
theorem aa0 {r : bS} {l : List Bool} {n : Nat} (hn : n < r.2.2.1.length) (h : n < (jE r l n).length) : (jE r l n)[n] = r.2.2.1[n] := by
  rw [vU hn, if_neg (by omega), dP hn]
theorem VJ {r : bS} {l : List Bool} {n : Nat} (hn : n < r.2.2.1.length) : jE r l (n + 1) = (jE r l n).set n (if l.getD n false = true then aS (r.2.2.1.getD n 0) else 0) := by
  refine List.ext_getElem (by rw [List.length_set, jW, jW]) fun i h1 h2 => ?_; rw [jW] at h1; rw [List.getElem_set, vU h1]; by_cases e : n = i
  . subst e; rw [if_pos rfl, if_pos (by omega)]
  rw [if_neg e, vU h1]; exact ite_congr (propext ⟨fun hh => by omega, fun hh => by omega⟩) (fun _ => rfl) (fun _ => rfl)
theorem DG {r : bS} {l : List Bool} {n : Nat} (hn : n < r.2.2.1.length) (h : n < l.length) (hb : l[n] = true) : jE r l (n + 1) = (jE r l n).set n (aS r.2.2.1[n]) := by
  rw [VJ hn, if_pos (by rw [dP h]; exact hb), dP hn]
theorem DH {r : bS} {l : List Bool} {n : Nat} (hn : n < r.2.2.1.length) (h : n < l.length) (hb : l[n] = false) : jE r l (n + 1) = (jE r l n).set n 0 := by
  rw [VJ hn, if_neg (by rw [dP h, hb]; exact Bool.false_ne_true)]
theorem aa1 {r : bS} {l : List Bool} (h : l.length = r.2.2.1.length) : jE r l l.length = gL r l aS l.length := by
  refine List.ext_getElem (by rw [jW, jV]) fun i h1 h2 => ?_; rw [jW] at h1; rw [vU h1, zZ h1, if_pos (by omega)]; exact ite_congr (propext ⟨fun hh => ⟨by omega, hh⟩, fun hh => hh.2⟩) (fun _ => rfl) (fun _ => rfl)
theorem RY {r : ByteArray × Int × (List Nat) × (List (Int × Int))} {l : List Bool} (hr : r.2.2.1.length < 1000000) (hl : l.length = r.2.2.1.length) (hv : ∀ x ∈ r.2.2.1, fD x = 0) : VF Tryz.prog OA 62 [.v jP r, .v (.sl .bool) l] (.v jP (r.1, r.2.1, gL r l aS l.length, eC l l.length)) := by
  refine VF.enter Tryz.func62 rfl (fun _ _ => rfl) rfl ?_; show U _ _ _ _ _ [(0, .v jP r), (1, .v (.sl .bool) l)] [] _; refine U.seq (U.text ?_); refine J.new (.box) ?_; refine J.cell (.alloc uD) ?_; intro P7; refine J.go (U.seq (U.drawn ?_)); refine VD.c (.fa (.l .o)) ?_; refine VD.r [] (.ld BG) (.inl rfl) ?_; refine VD.c (.fa (.r (.l .o))) ?_; refine VD.r [] (.ld kO) (.inl rfl) ?_; refine VD.c (.fa (.r (.r (.l .o)))) ?_; refine VD.r [] (.ld j0) (.inl rfl) ?_; refine VD.nw [] ?_; refine VD.r [] (.len eU) (.inl rfl) ?_; refine VD.cell (.make (k := r.2.2.1.length) rfl rfl eU arY (by omega)) ?_; intro AY; refine VD.one m0 fun amM => ?_; refine VD.c (.al6 (cs := [St r.1, I r.2.1, .raw AY, tH]) uE rfl rfl (.cons (.v) rfl rfl (.cons (.v) rfl rfl (.cons (.w amM) rfl rfl (.nil rfl))))) ?_; refine VD.cell (.alloc uD) ?_; intro LX; refine VD.AH (bO.pS (k := 0) dT (.ag9 rfl (abF rfl (abF rfl (abF (p := .raw AY) amM (abF rfl rfl))))) (Nat.le_of_ble_eq_true rfl) (.inr ⟨rfl, rfl⟩) rfl rfl) ?_; rintro _ _ atW ⟨rfl, rfl⟩; refine VD.go (U.seq (U.text ?_)); refine J.c (.mS (k := 2) m0) ?_; refine J.r (.tR (k := 2) m0 j0) ?_; refine J.c (.fa (.r (.r (.l .o)))) ?_; refine J.r (.ld j0) ?_; refine J.perm jT ?_; refine J.copy rfl rfl eU (by simp) ?_; refine J.go (U.seq (U.seq (U.text ?_))); refine J.c (.move rfl) ?_; refine J.r (.len j3) ?_; refine J.c (.move rfl) ?_; refine J.go (U.block ?_); refine U.cell0 53 kP ?_; refine U.aV [(4, .raw P7), (5, .raw LX), (22, .v (.sl .bool) l), (23, I ((l.length : Nat) : Int)), (24, I ((0 : Nat) : Int))] ⟨rfl, rfl, rfl, rfl, rfl, trivial⟩ ?_; refine U.loop (I := fun kk ff ss => ∃ (i : Nat) (w : Value), kk = l.length - i /\ ff = [(4, .raw P7), (5, .raw LX), (22, .v (.sl .bool) l), (23, I ((l.length : Nat) : Int)), (24, I ((i : Nat) : Int))] /\ ss = [(w, .row 53 kP (kJ l i)), (AY, .row 68 (.bJ .f32) (jE r l i)), (LX, .var [St r.1, I r.2.1, .raw AY, .raw w]), (P7, .var [St ByteArray.empty, I (0 : Int), .v eZ [], .v cW []])] /\ (i <= l.length) /\ ((jE r l i).length = r.2.2.1.length) /\ ((kJ l i).length <= i)) ?_ _ _ _ ⟨0, (.slice none 0 0), rfl, rfl, (by rw [<- ah9] <;> rfl), Nat.zero_le _, (by exact jW), (by exact Nat.le_refl _)⟩; rintro kk ff ss ⟨i, w, oL, rfl, rfl, hi, NU, CX⟩; refine U.seq (U.text ?_); refine J.c (.lss) ?_; refine J.go (U.seq ?_); refine U.b8 rfl (fun c4 => ?_) (fun c4 => ?_)
  . have FB : i < r.2.2.1.length := by omega
    have NA := aa0 (r := r) (l := l) FB (by omega)
    have hpz : single.add ((jE r l i)[i]'(by omega)) 0 = some (aS r.2.2.1[i]) := by rw [NA]; exact (oX (hv _ (List.getElem_mem FB))).1
    refine U.skip (U.seq (U.block (U.seq (U.text ?_)))); refine J.c (.move rfl) (J.c (.ix (j := i) rfl rfl j3 (by omega)) ?_); refine J.r (.ld RV) ?_; refine J.c (.assign rfl) (J.c (.assign rfl) ?_); refine J.go (U.seq (U.seq (U.text ?_))); refine J.c (.move rfl) (J.go ?_); refine U.fN rfl (fun c6 => ?_) (fun c6 => ?_)
    . refine U.seq (U.text ?_); refine J.c (.mS (k := 2) m2) ?_; refine J.r (.tR (k := 2) m2 j0) ?_; refine J.c (.move rfl) (J.c (.U2 (j := i) rfl rfl m1 eU (by omega)) ?_); refine J.r (.ldO rfl m1 yU (by omega)) ?_; refine J.c (.RJ (ab8 hpz)) (J.c (.U2 (j := i) rfl rfl m1 eU (by omega)) ?_); refine J.perm jT ?_; refine J.KV i rfl rfl yU (by omega) ?_; refine J.go (U.exit (U.text ?_)); refine J.c (.add rfl rfl (by omega)) (J.c (.move rfl) ?_); refine J.perm jD ?_; refine J.perm jD ?_; refine J.perm lY ?_; refine J.perm jD ?_; refine J.nil ?_; refine ⟨_, [(4, .raw P7), (5, .raw LX), (22, .v (.sl .bool) l), (23, I ((l.length : Nat) : Int)), (24, I (((i + 1) : Nat) : Int))], ?_, ⟨rfl, rfl, rfl, rfl, rfl, trivial⟩, (i + 1), w, rfl, rfl, (by first | (rw [DG (by omega) (by omega) c6, DE (by omega) c6]; done) | (rw [DH (by omega) (by omega) c6, DF (by omega) (by rw [c6]; exact Bool.false_ne_true)]; done) | (rw [DG (by omega) (by omega) c6, DE (by omega) c6]; rfl) | (rw [DH (by omega) (by omega) c6, DF (by omega) (by rw [c6]; exact Bool.false_ne_true)]; rfl)), (by omega), (by exact jW), (by exact xD l _)⟩; omega
    refine U.skip (U.seq (U.text ?_)); refine J.c (.mS (k := 2) m2) ?_; refine J.r (.tR (k := 2) m2 j0) ?_; refine J.c (.move rfl) (J.c (.U2 (j := i) rfl rfl m1 eU (by omega)) ?_); refine J.perm jT ?_; refine J.KV i rfl rfl yU (by omega) ?_; refine J.go (U.text ?_); refine J.c (.mS (k := 3) m2) ?_; refine J.r (.tR (k := 3) m2 o5) ?_; refine J.c (.move rfl) (J.c (.move rfl) (J.c (.add rfl rfl (by omega)) (J.c (.build (((i : Nat) : Int), (((i : Nat) : Int) + (1 : Int))) amL) ?_))); refine J.new (.lit [(((i : Nat) : Int), (((i : Nat) : Int) + (1 : Int)))] dZ) ?_; refine J.perm jT ?_; refine J.app rfl rfl dZ dZ (by simp; omega) ?_; intro amN; refine J.c (.mS (k := 3) m2) ?_; refine J.perm lY ?_; refine J.one m1 fun amO => ?_; refine J.pS (cs' := [St r.1, I r.2.1, .raw AY, .raw amN]) 3 o5 (.raw rfl (vQ amO) amO) ?_; refine J.nil (U.text ?_); refine J.c (.add rfl rfl (by omega)) (J.c (.move rfl) ?_); refine J.perm jD ?_; refine J.perm jT ?_; refine J.perm jD ?_; refine J.perm jD ?_; refine J.nil ?_; refine ⟨_, [(4, .raw P7), (5, .raw LX), (22, .v (.sl .bool) l), (23, I ((l.length : Nat) : Int)), (24, I (((i + 1) : Nat) : Int))], ?_, ⟨rfl, rfl, rfl, rfl, rfl, trivial⟩, (i + 1), amN, rfl, rfl, (by first | (rw [DG (by omega) (by omega) c6, DE (by omega) c6]; done) | (rw [DH (by omega) (by omega) c6, DF (by omega) (by rw [c6]; exact Bool.false_ne_true)]; done) | (rw [DG (by omega) (by omega) c6, DE (by omega) c6]; rfl) | (rw [DH (by omega) (by omega) c6, DF (by omega) (by rw [c6]; exact Bool.false_ne_true)]; rfl)), (by omega), (by exact jW), (by exact xD l _)⟩; omega
  refine U.exit (U.seq (U.text ?_)); refine J.c (.mS (k := 3) m2) ?_; refine J.r (.tR (k := 3) m2 o5) ?_; refine J.qT [(w, .row 53 kP (kJ l i))] rfl rfl rfl (gZ.call (VH (Nat.lt_of_le_of_lt (xD _ _) (by omega)))) ?_; rintro _ _ ⟨rfl, rfl⟩; show J _ _ _ _ _ _ [(AY, .row 68 (.bJ .f32) (jE r l i)), (LX, .var [St r.1, I r.2.1, .raw AY, .raw w]), (P7, .var [St ByteArray.empty, I (0 : Int), .v eZ [], .v cW []])] _; refine J.c (.mS (k := 3) m1) ?_; refine J.perm jT ?_; refine J.pS (cs' := [St r.1, I r.2.1, .raw AY, .v cW (fO (kJ l i))]) 3 o5 .v ?_; refine J.go (U.seq ?_); refine U.perm jT ?_; refine U.L8 [(AY, .row 68 (.bJ .f32) (jE r l i)), (LX, .var [St r.1, I r.2.1, .raw AY, .v cW (fO (kJ l i))])] [(5, .p jP (r.1, r.2.1, (jE r l i), fO (kJ l i)))] rfl (.cons rfl (.var m1 (.cons .same (.cons .same (.cons (.row m0) (.cons .same .nil))))) .nil) ?_; refine U.text ?_; refine J.r (.ld dT) ?_; refine J.lJ (cs' := [St r.1, I r.2.1, .v eZ (jE r l i), .v cW (fO (kJ l i))]) dT .v ?_; refine J.go ?_; refine U.ret ?_; exact aW.one rfl (.cell (x := (r.1, r.2.1, (jE r l i), fO (kJ l i))) rfl m0 dT .refl) (eS (by rw [show i = l.length by omega, FC, aa1 hl] <;> rfl))
end Go.Proofs
namespace Go.Fs
variable {P : Program} {fl : VL} {σ : aM} {T T' : TypeId} {x y : Operand} {p q : Int}
end Go.Fs
namespace Go.Fs
variable {P : Program} {orc : FuncId -> List Value -> Heap -> Option (Value × Heap)} {h : Heap} {σ ρ : aM} {fl : VL} {ops : Array Oper} {n i mem : Nat} {l : List Oper} {K : VL -> aM -> Prop} {nw bs : List Nat} {tl : Bool} {hr : Heap} {S0 A : List Nat} {t : Tr} {rd chg : List Nat}
end Go.Fs
namespace Go.Proofs
open Go.Fs Ieee
set_option maxHeartbeats 400000
theorem fF {r : bS} (h : bT r = 0) : (0 <= r.2.1 /\ r.2.1 <= 100000) /\ r.2.2.1.length <= 4096 /\ r.2.2.2.length <= 2048 /\ (∀ x ∈ r.2.2.1, fD x = 0) /\ ∀ s ∈ r.2.2.2, 0 <= s.1 /\ s.1 < s.2 /\ s.2 <= (r.2.2.1.length : Nat) := by
  unfold bT at h; split at h
  . rename_i h1; exact absurd h h1
  rename_i h1; split at h
  . rename_i h2; exact absurd h h2
  rename_i h2; split at h
  . cases h
  rename_i h3; have h1 := eO.1 (Classical.not_not.1 h1); have h2 := rL.1 (Classical.not_not.1 h2); have h4 := sM h2.2; have h5 := ZO (by simpa using h3); have h6 := h1 (kB r.2.1 0 100000) (by simp); have h7 := h1 (cL (decide ((4096 : Int) < (r.2.2.1.length : Nat))) 5) (by simp)
  have h6 : 0 <= r.2.1 /\ r.2.1 <= 100000 := by
    unfold kB at h6; split at h6
    . cases h6
    omega
  rw [mX (by decide), decide_eq_false_iff_not] at h7; refine ⟨h6, by omega, h4.2, fun x hx => eO.1 h2.1 _ (List.mem_map.2 ⟨x, hx, rfl⟩), fun s hs => ?_⟩; have h8 := h4.1.1 s hs; exact ⟨h8.1, h8.2.1, h5 s hs⟩
def rC (a b : List Nat) : Bool := decide (a.length = b.length /\ ∀ i, i < a.length -> dX .neq .f32 (a.getD i 0) (b.getD i 0) = false)
theorem VM {a : List Nat} {b : List Nat} (ha : a.length < 1000000) : VF Tryz.prog OA 35 [.v eZ a, .v eZ b] (B (rC a b)) := by
  refine VF.enter Tryz.func35 rfl (fun _ _ => rfl) rfl ?_; show U _ _ _ _ _ [(0, .v eZ a), (1, .v eZ b)] [] _; refine U.seq (U.text ?_); refine J.c (.assign rfl) ?_; refine J.go (U.seq (U.seq (U.text ?_))); refine J.c (.move rfl) ?_; refine J.r (.len eU) ?_; refine J.c (.move rfl) ?_; refine J.r (.len eU) ?_; refine J.c (.neq) (J.go ?_); refine U.b8 rfl (fun c1 => ?_) (fun c1 => ?_)
  . have cA : ¬ a.length = b.length := by omega
    refine U.seq (U.text ?_); refine J.c (.assign rfl) (J.go ?_); refine U.ret ?_; exact aW.one rfl b6 (eS (by exact (decide_eq_false fun hh => cA hh.1).symm))
  have hle : a.length = b.length := by omega
  refine U.skip (U.seq (U.seq (U.text ?_))); refine J.c (.assign rfl) ?_; refine J.go (U.block ?_); refine U.aV [(0, .v eZ a), (1, .v eZ b), (5, I ((0 : Nat) : Int))] ⟨rfl, rfl, rfl, trivial⟩ ?_; refine U.loop (I := fun kk ff ss => ∃ (i : Nat), kk = a.length - i /\ ff = [(0, .v eZ a), (1, .v eZ b), (5, I ((i : Nat) : Int))] /\ ss = [] /\ (i <= a.length) /\ (∀ j, j < i -> dX .neq .f32 (a.getD j 0) (b.getD j 0) = false)) ?_ _ _ _ ⟨0, rfl, rfl, rfl, Nat.zero_le _, (by intro j hj; omega)⟩; rintro kk ff ss ⟨i, oL, rfl, rfl, hi, hn⟩; refine U.seq (U.seq (U.text ?_)); refine J.c (.move rfl) (J.c (.move rfl) ?_); refine J.r (.len eU) ?_; refine J.c (.lss) (J.go ?_); refine U.b8 rfl (fun c4 => ?_) (fun c4 => ?_)
  . have nA : i < a.length := by omega
    refine U.skip (U.seq (U.block (U.seq (U.drawn ?_)))); refine VD.c (.move rfl) (VD.c (.move rfl) (VD.c (.ix (j := i) rfl rfl eU (by omega)) ?_)); refine VD.r [] (.ld yU) (.inl rfl) ?_; refine VD.c (.move rfl) (VD.c (.move rfl) (VD.nw [] (VD.c (.ix (j := i) rfl rfl eU (by omega)) ?_))); refine VD.r [] (.ld yU) (.inl rfl) ?_; refine VD.c (.UN .neq) (VD.go ?_); refine U.fN rfl (fun c6 => ?_) (fun c6 => ?_)
    . have c6' : dX .neq .f32 (a.getD i 0) (b.getD i 0) = true := by simpa [nA, show i < b.length by omega] using c6
      refine U.seq (U.text ?_); refine J.c (.assign rfl) (J.go ?_); refine U.ret ?_; exact aW.one rfl b6 (eS (by exact (decide_eq_false fun hh => by rw [hh.2 i nA] at c6'; cases c6').symm))
    have c6' : dX .neq .f32 (a.getD i 0) (b.getD i 0) = false := by simpa [nA, show i < b.length by omega] using c6
    refine U.skip (U.text ?_); refine J.c (.move rfl) (J.c (.add rfl rfl (by omega)) (J.c (.assign rfl) ?_)); refine J.nil ?_; refine ⟨_, [(0, .v eZ a), (1, .v eZ b), (5, I (((i + 1) : Nat) : Int))], ?_, ⟨rfl, rfl, rfl, trivial⟩, (i + 1), rfl, rfl, rfl, (by omega), (by intro j hj; rcases Nat.lt_succ_iff_lt_or_eq.1 hj with h | h; exact hn j h; subst h; exact c6')⟩; omega
  refine U.exit (U.seq (U.text ?_)); refine J.c (.assign rfl) (J.go ?_); refine U.ret ?_; exact aW.one rfl b6 (eS (by exact (decide_eq_true ⟨hle, fun j hj => hn j (by omega)⟩).symm))
def tJ (a b : bS) : Bool := decide (a.1 = b.1) && decide (a.2.1 = b.2.1) && rC a.2.2.1 b.2.2.1 && decide (a.2.2.2 = b.2.2.2)
theorem DI {a : ByteArray × Int × (List Nat) × (List (Int × Int))} {b : ByteArray × Int × (List Nat) × (List (Int × Int))} (ha : a.2.2.1.length < 1000000) (TE : a.2.2.2.length < 1000000) (sX : b.2.2.2.length < 1000000) : VF Tryz.prog OA 19 [.v pV a, .v pV b] (B (tJ a b)) := by
  refine VF.enter Tryz.func19 rfl (fun _ _ => rfl) rfl ?_; show U _ _ _ _ _ [(0, .v pV a), (1, .v pV b)] [] _; refine U.seq (U.text ?_); refine J.new (.box) ?_; refine J.new (.box) ?_; refine J.c (.assign rfl) ?_; refine J.go (U.seq (U.text ?_)); refine J.c (.fa (.l .o)) ?_; refine J.r (.ld BG) ?_; refine J.c (.fa (.l .o)) ?_; refine J.r (.ld BG) ?_; refine J.c (.L6) (J.c (.move rfl) ?_); refine J.cg (r := decide (a.1 = b.1)) (w := true) [] trivial (fun _ => (.fa (.r (.l .o)))) ?_; refine J.rg (r := decide (a.1 = b.1)) (w := true) [(11, .p (.int .i64) a.2.1)] ⟨rfl, trivial⟩ (fun _ => (.ld kO)) ?_; refine J.cg (r := decide (a.1 = b.1)) (w := true) [] trivial (fun _ => (.fa (.r (.l .o)))) ?_; refine J.rg (r := decide (a.1 = b.1)) (w := true) [(13, .p (.int .i64) b.2.1)] ⟨rfl, trivial⟩ (fun _ => (.ld kO)) ?_; refine J.cg (r := decide (a.1 = b.1)) (w := true) [(12, I a.2.1), (14, I b.2.1)] ⟨rfl, rfl, trivial⟩ (fun _ => (.eql)) ?_; refine J.c (.and) (J.c (.move rfl) ?_); refine J.cg (r := ((decide (a.1 = b.1)) && (decide (a.2.1 = b.2.1)))) (w := true) [] trivial (fun _ => (.fa (.r (.r (.l .o))))) ?_; refine J.rg (r := ((decide (a.1 = b.1)) && (decide (a.2.1 = b.2.1)))) (w := true) [(18, .p eZ a.2.2.1)] ⟨rfl, trivial⟩ (fun _ => (.ld j0)) ?_; refine J.cg (r := ((decide (a.1 = b.1)) && (decide (a.2.1 = b.2.1)))) (w := true) [] trivial (fun _ => (.fa (.r (.r (.l .o))))) ?_; refine J.rg (r := ((decide (a.1 = b.1)) && (decide (a.2.1 = b.2.1)))) (w := true) [(20, .p eZ b.2.2.1)] ⟨rfl, trivial⟩ (fun _ => (.ld j0)) ?_; refine J.R4 (r0 := ((decide (a.1 = b.1)) && (decide (a.2.1 = b.2.1)))) (w := true) [(19, .v eZ a.2.2.1), (21, .v eZ b.2.2.1)] ⟨rfl, rfl, trivial⟩ rfl rfl .same .refl rfl (fun jL => have atC : ((decide (a.1 = b.1)) && (decide (a.2.1 = b.2.1))) = true := (by simpa using jL); VF.call (VM (by first | assumption | omega | simp))) ?_; refine J.c (.and) (J.c (.move rfl) ?_); refine J.cg (r := (((decide (a.1 = b.1)) && (decide (a.2.1 = b.2.1))) && (rC a.2.2.1 b.2.2.1))) (w := true) [] trivial (fun _ => (.fa (.r (.r (.r (k := 0) .o))))) ?_; refine J.rg (r := (((decide (a.1 = b.1)) && (decide (a.2.1 = b.2.1))) && (rC a.2.2.1 b.2.2.1))) (w := true) [(25, .p cW a.2.2.2)] ⟨rfl, trivial⟩ (fun _ => (.ld o5)) ?_; refine J.cg (r := (((decide (a.1 = b.1)) && (decide (a.2.1 = b.2.1))) && (rC a.2.2.1 b.2.2.1))) (w := true) [] trivial (fun _ => (.fa (.r (.r (.r (k := 0) .o))))) ?_; refine J.rg (r := (((decide (a.1 = b.1)) && (decide (a.2.1 = b.2.1))) && (rC a.2.2.1 b.2.2.1))) (w := true) [(27, .p cW b.2.2.2)] ⟨rfl, trivial⟩ (fun _ => (.ld o5)) ?_; refine J.R4 (r0 := (((decide (a.1 = b.1)) && (decide (a.2.1 = b.2.1))) && (rC a.2.2.1 b.2.2.1))) (w := true) [(26, .v cW a.2.2.2), (28, .v cW b.2.2.2)] ⟨rfl, rfl, trivial⟩ rfl rfl .same .refl rfl (fun jL => have atD : (((decide (a.1 = b.1)) && (decide (a.2.1 = b.2.1))) && (rC a.2.2.1 b.2.2.1)) = true := (by simpa using jL); VF.call (V0 (by first | assumption | omega | simp) (by first | assumption | omega | simp))) ?_; refine J.c (.and) (J.c (.assign rfl) (J.go ?_)); refine U.ret ?_; exact aW.one rfl b6 (eS (by first | rfl | simp [tJ, *]))
theorem VN {r : ByteArray × Int × (List Nat) × (List (Int × Int))} : VF Tryz.prog OA 20 [.v jP r] (.v pV r) := by
  refine VF.enter Tryz.func20 rfl (fun _ _ => rfl) rfl ?_; show U _ _ _ _ _ [(0, .v jP r)] [] _; refine U.seq (U.text ?_); refine J.new (.box) ?_; refine J.cell (.alloc arX) ?_; intro eT; refine J.go (U.seq (U.text ?_)); refine J.r (.ld dT) ?_; refine J.lJ (cs' := [St r.1, I r.2.1, .v eZ r.2.2.1, .v cW r.2.2.2]) H9 .v ?_; refine J.go ?_; refine U.ret ?_; exact aW.one rfl (.cell (x := r) rfl m0 H9 .refl) (eS (by rfl))
def P8 : bS := (ByteArray.empty, 0, [], [])
def ahA (r : bS) (i : Int) : Bool := decide (0 <= i) && decide (i < (r.2.2.1.length : Nat)) && !Sp.gK r.2.2.2 i
theorem VP {r : bS} {i : Nat} (h : i < r.2.2.1.length) : ahA r i = !Sp.gK r.2.2.2 i := by
  unfold ahA; rw [decide_eq_true (show (0 : Int) <= (i : Int) by omega), decide_eq_true (show (i : Int) < (r.2.2.1.length : Nat) by omega)] <;> rfl
theorem aa2 {n : Nat} {p : Int -> Bool} : j9 (n + 1) p = j9 n p ++ [!p (n : Int)] := by
  unfold j9; rw [List.range_succ, List.map_append] <;> rfl
def both (a b : bS) : bS := (a.1, a.2.1, a.2.2.1 ++ b.2.2.1, [])
end Go.Proofs
namespace Go.Fs
variable {P : Program} {h : Heap} {S : List Nat} {σ : aM} {t : Tr} {fl : VL} {x : Operand} {T e : TypeId} {τ : Ty}
end Go.Fs
namespace Go.Fs
variable {P : Program} {σ : aM} {fl : VL} {x y : Operand} {T T' : TypeId} {p q : Bool}
end Go.Fs
namespace Go.Fs
variable {P : Program} {orc : FuncId -> List Value -> Heap -> Option (Value × Heap)} {σ : aM} {fl : VL} {ops : Array Oper} {n : Nat} {l : List Oper} {K : VL -> aM -> Prop} {d : Tmp} {ty : TypeId} {pos : String} {after : Array Edge} {g : Option (Nat × Bool)} {x : Operand} {T e : TypeId} {τ : Ty}
end Go.Fs
namespace Go.Fs
variable {P : Program} {fl : VL} {e : TypeId} {τ : Ty}
theorem P9 {h : Heap} {S : List Nat} : ∀ vs : List Value, aX h S (vs.map PV.raw) vs
  | [] => rfl
  | v :: vs => ⟨v, vs, rfl, rfl, P9 vs⟩
end Go.Fs
namespace Go.Fs
variable {P : Program} {orc : FuncId -> List Value -> Heap -> Option (Value × Heap)} {aR : Option Nat} {h h' h0 h1 h2 hs : Heap} {S S' S0 B G : List Nat} {σ σ' : aM} {t t' : Tr} {ms : List Nat} {fl : VL} {ops : Array Oper} {n i mem : Nat} {l : List Oper} {K : VL -> aM -> Prop} {Q : Ex -> VL -> aM -> Prop}
  {d d1 d2 : Tmp} {ty ty1 ty2 : TypeId} {pos atX atY : String} {after asZ at0 : Array Edge} {op : Op} {v v1 : PV} {g g1 g2 : Option (Nat × Bool)} {bs nw : List Nat} {segs : List (Nat × Nat × Nat)} {tail so : Bool}
section
variable (P orc)
end
end Go.Fs
namespace Go.Fs
variable {P : Program} {orc : FuncId -> List Value -> Heap -> Option (Value × Heap)} {aR : Option Nat} {h h' h0 h1 h2 : Heap} {S S' S0 B G : List Nat} {σ σ' : aM} {t t' : Tr} {ms : List Nat} {fl : VL} {ops : Array Oper} {n i mem : Nat} {l : List Oper} {K : VL -> aM -> Prop} {Q : Ex -> VL -> aM -> Prop}
  {d : Tmp} {ty : TypeId} {pos : String} {after : Array Edge} {op : Op} {v pv : PV} {g : Option (Nat × Bool)} {bs nw : List Nat} {segs : List (Nat × Nat × Nat)} {so : Bool}
end Go.Fs
namespace Go.Fs
variable {P : Program} {orc : FuncId -> List Value -> Heap -> Option (Value × Heap)} {aR : Option Nat} {h h' h0 h1 h2 : Heap} {S S' S0 B G : List Nat} {σ σ' j8 : aM} {t t' : Tr} {ms : List Nat} {fl : VL} {ops : Array Oper} {n i mem : Nat} {l : List Oper} {K : VL -> aM -> Prop} {Q : Ex -> VL -> aM -> Prop}
  {d : Tmp} {ty : TypeId} {pos : String} {after : Array Edge} {op : Op} {v pv : PV} {g : Option (Nat × Bool)} {x y z : Operand} {T T' e e' : TypeId} {τ τ' : Ty} {w w' : Value} {c c' : Cell}
end Go.Fs
namespace Go.Fs
variable {P : Program} {orc : FuncId -> List Value -> Heap -> Option (Value × Heap)} {h h' : Heap} {S S' : List Nat} {σ : aM}
end Go.Fs
namespace Go.Fs
variable {P : Program} {orc : FuncId -> List Value -> Heap -> Option (Value × Heap)} {aR : Option Nat} {h h' h0 h1 h2 : Heap} {S S' S0 B G : List Nat} {σ σ' j8 : aM} {t t' : Tr} {ms : List Nat} {fl : VL} {ops : Array Oper} {n i mem : Nat} {l : List Oper} {K : VL -> aM -> Prop} {Q : Ex -> VL -> aM -> Prop}
  {d : Tmp} {ty : TypeId} {pos : String} {after : Array Edge} {op : Op} {v pv : PV} {g : Option (Nat × Bool)} {x y z : Operand} {T T' e : TypeId} {τ τ' : Ty} {bs nw : List Nat} {segs : List (Nat × Nat × Nat)} {tail so : Bool} {w w' : Value} {c c' : Cell}
end Go.Fs
namespace Go.Fs
variable {P : Program} {orc : FuncId -> List Value -> Heap -> Option (Value × Heap)} {aR : Option Nat} {h h' h0 h1 h2 : Heap} {S S' S0 G : List Nat} {σ σ' j8 γ nE : aM} {t t' : Tr} {ms : List Nat} {fl nw : VL} {ops : Array Oper} {n i mem : Nat} {l : List Oper} {K : VL -> aM -> Prop} {Q : Ex -> VL -> aM -> Prop}
  {d : Tmp} {ty : TypeId} {pos : String} {after : Array Edge} {op : Op} {v pv : PV} {g : Option (Nat × Bool)} {bs U9 : List Nat} {tail so : Bool} {x y z : Operand} {T T' e : TypeId} {τ τ' : Ty} {w w' : Value}
end Go.Fs
namespace Go.Fs
variable {P : Program} {orc : FuncId -> List Value -> Heap -> Option (Value × Heap)} {aR : Option Nat} {h h' h0 h1 h2 : Heap} {S S' S0 G : List Nat} {σ σ' j8 γ nE : aM} {t t' : Tr} {ms : List Nat} {fl nw : VL} {ops : Array Oper} {n i mem : Nat} {l : List Oper} {K : VL -> aM -> Prop} {Q : Ex -> VL -> aM -> Prop}
  {d : Tmp} {ty : TypeId} {pos : String} {after : Array Edge} {op : Op} {v pv : PV} {g : Option (Nat × Bool)} {bs U9 : List Nat} {tail so : Bool} {x y z : Operand} {T T' e : TypeId} {τ τ' : Ty} {w w' : Value}
end Go.Fs
namespace Go.Fs
variable {P : Program} {orc : FuncId -> List Value -> Heap -> Option (Value × Heap)} {aR : Option Nat} {h h' h0 h1 h2 : Heap} {S S' S0 S1 S2 B G : List Nat} {σ σ' j8 γ : aM} {t t' : Tr} {ms : List Nat} {fl : VL} {ops : Array Oper} {n i mem : Nat} {l : List Oper} {K : VL -> aM -> Prop} {Q : Ex -> VL -> aM -> Prop}
  {d : Tmp} {ty : TypeId} {pos : String} {after : Array Edge} {op : Op} {v pv : PV} {g : Option (Nat × Bool)} {x y z : Operand} {T T' e e' e2 : TypeId} {τ τ' : Ty} {w w' : Value} {c c' : Cell}
theorem PA : ∀ {us : List Value}, aX h S (us.map .raw) us
  | [] => rfl
  | u :: us => ⟨u, us, rfl, rfl, PA⟩
theorem VQ : ∀ {us rs : List Value}, aX h S (us.map .raw) rs -> rs = us
  | [], rs, hr => hr
  | u :: us, rs, ⟨v, r, h1, h2, h3⟩ => by
    subst h1; rw [show v = u from h2, VQ h3]
end Go.Fs
