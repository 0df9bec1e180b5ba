/- Parts of the proof: an evaluator of the model, what it is sound for, and contracts of functions. No condition. -/
import Derived.Test.YteooaaiacpcfoaaGreatDoorP5
import Derived.Test.YteooaaiacpcfoaaGreatDoorP2
import Derived.ChangeArms
import Derived.Carry
import Derived.RowKit
import Derived.OpenShut
import Derived.Test.YteooaaiacpcfoaaGreatDoorP3
set_option linter.all false
namespace Go.Proofs
open Go.Fs Ieee
theorem w16 : u32 1098907648 = some (16 * 713623846352979940529142984724747568191373312) := by decide +kernel
theorem u32z : u32 0 = some 0 := by decide +kernel
theorem w64 : u32 1115684864 = some 45671926166590716193865151022383844364247891968 := by decide +kernel
theorem wm64 : u32 3263168512 = some (-45671926166590716193865151022383844364247891968) := by decide +kernel
theorem fitN {n : Int} (h : -100000 ≤ n ∧ n ≤ 100000) : fit n := ⟨by omega, by omega⟩
theorem t16_fit {u : Int} (h : u.natAbs ≤ 45671926166590716193865151022383844364247891968) : -1024 ≤ (16 * u).tdiv 713623846352979940529142984724747568191373312 ∧ (16 * u).tdiv 713623846352979940529142984724747568191373312 ≤ 1024 := by
  have h1 := Int.mul_tdiv_add_tmod (16 * u) 713623846352979940529142984724747568191373312; have h2 := Int.tmod_lt_of_pos (16 * u) (show (0 : Int) < 713623846352979940529142984724747568191373312 by decide)
  have h3 : -713623846352979940529142984724747568191373312 < (16 * u).tmod 713623846352979940529142984724747568191373312 := by
    have h4 := Int.tmod_lt_of_pos (-(16 * u)) (show (0 : Int) < 713623846352979940529142984724747568191373312 by decide); rw [Int.neg_tmod] at h4; omega
  omega
theorem gSix_ok {u : Int} {x : Nat} (hu : u32 x = some u) (h0 : u.natAbs ≤ 45671926166590716193865151022383844364247891968) : VF Tryz.prog OA 57 [.v (.flt .f32) x] (I ((16 * u).tdiv 713623846352979940529142984724747568191373312)) := by
  refine VF.enter Tryz.func57 rfl (fun _ _ => rfl) rfl ?_; show VC _ _ _ _ _ [(0, .v (.flt .f32) x)] [] _; refine VC.seq (VC.text ?_); refine VO.c (.assign rfl) ?_; refine VO.go (VC.seq (VC.text ?_)); refine VO.c (.move rfl) ?_; obtain ⟨r, hr, hr2⟩ := mul16 w16 hu h0; have hf := t16_fit h0; refine VO.c (.fop (mul32E hr)) (VO.c (.cvFI (toInt32E (toInt32 hr2)) (fitN (by omega))) (VO.c (.assign rfl) (VO.go ?_))); refine VC.ret ?_; exact VEnd.one rfl evT (pvI (by first | rfl | simp))
theorem gLvF_ok {u : Int} {x : Nat} (hu : u32 x = some u) : VF Tryz.prog OA 79 [.v (.flt .f32) x] (I (lvlE x)) := by
  refine VF.enter Tryz.func79 rfl (fun _ _ => rfl) rfl ?_; show VC _ _ _ _ _ [(0, .v (.flt .f32) x)] [] _; refine VC.seq (VC.text ?_); refine VO.c (.assign rfl) ?_; refine VO.go (VC.seq (VC.seq (VC.text ?_))); refine VO.c (.move rfl) (VO.c (.move rfl) ?_); obtain ⟨r, hr, hr0⟩ := sub_self32 hu; refine VO.c (.fop (sub32E hr)) (VO.c (.fcmpD (b := .neq) (fcmp32 hr0 u32z).2.1) (VO.go ?_)); refine VC.condD rfl (fun c1 => ?_) (fun c1 => ?_)
  · exact absurd rfl c1
  refine VC.skip (VC.seq (VC.seq (VC.text ?_))); refine VO.c (.move rfl) (VO.c (.fcmpD (b := .lss) (fcmp32 hu wm64).2.2.1) (VO.c (.move rfl) ?_)); refine VO.cg (r := decide (u < -45671926166590716193865151022383844364247891968)) (w := false) [] trivial (fun _ => (.move rfl)) ?_; refine VO.cg (r := decide (u < -45671926166590716193865151022383844364247891968)) (w := false) [(10, .v (.flt .f32) x)] ⟨rfl, trivial⟩ (fun _ => (.fcmpD (b := .gtr) (fcmp32 hu w64).2.2.2.2.1)) ?_; refine VO.c (.or) (VO.go ?_); refine VC.condB rfl (fun c3 => ?_) (fun c3 => ?_)
  · try simp only [Bool.and_eq_true, Bool.or_eq_true, Bool.and_eq_false_iff, Bool.or_eq_false_iff, Bool.not_eq_true', Bool.not_eq_false', decide_eq_true_eq, decide_eq_false_iff_not] at c3
    refine VC.seq (VC.text ?_); refine VO.c (.assign rfl) (VO.go ?_); refine VC.ret ?_; exact VEnd.one rfl evT (pvI (by unfold lvlE; rw [hu]; simp only; rw [if_neg (by omega)]))
  try simp only [Bool.and_eq_true, Bool.or_eq_true, Bool.and_eq_false_iff, Bool.or_eq_false_iff, Bool.not_eq_true', Bool.not_eq_false', decide_eq_true_eq, decide_eq_false_iff_not] at c3
  refine VC.skip (VC.seq (VC.text ?_)); refine VO.c (.move rfl) ?_
  have hb : -45671926166590716193865151022383844364247891968 ≤ u ∧ u ≤ 45671926166590716193865151022383844364247891968 := by omega
  have hf := t16_fit (u := u) (by omega); obtain ⟨r2, hr2, hr3⟩ := mul16 w16 hu (by omega); have hi := ofInt32 (n := (16 * u).tdiv 713623846352979940529142984724747568191373312) (by omega); refine VO.call rfl rfl (VF.call (gSix_ok (u := u) hu (by omega))) ?_; refine VO.c (.cvIF .f32) (VO.c (.move rfl) (VO.c (.fop (mul32E hr2)) (VO.c (.fcmpD (b := .neq) (fcmp32 hi hr3).2.1) ?_))); refine VO.call rfl rfl (VF.call (gWhen_ok )) ?_; refine VO.c (.assign rfl) (VO.go ?_); refine VC.ret ?_; exact VEnd.one rfl evT (pvI (by unfold lvlE whenE; rw [hu]; simp only; have hw := whole_iff32 hb; by_cases h1 : u % 44601490397061246283071436545296723011960832 = 0 <;> simp [h1, hw, hb]))
theorem gLvN_ok {x : Nat} (hu : u32 x = none) : VF Tryz.prog OA 79 [.v (.flt .f32) x] (I (lvlE x)) := by
  refine VF.enter Tryz.func79 rfl (fun _ _ => rfl) rfl ?_; show VC _ _ _ _ _ [(0, .v (.flt .f32) x)] [] _; refine VC.seq (VC.text ?_); refine VO.c (.assign rfl) ?_; refine VO.go (VC.seq (VC.seq (VC.text ?_))); refine VO.c (.move rfl) (VO.c (.move rfl) (VO.c (.fnan (nan32E hu)) (VO.c (.fnancmp (r := true) rfl) ?_))); refine VO.go ?_; refine VC.condT rfl ?_; refine VC.seq (VC.text ?_); refine VO.c (.assign rfl) (VO.go ?_); refine VC.ret ?_; exact VEnd.one rfl evT (pvI (by unfold lvlE; rw [hu]))
theorem gLv_ok {x : Nat} : VF Tryz.prog OA 79 [.v (.flt .f32) x] (I (lvlE x)) := by
  cases hu : u32 x with
  | none => exact gLvN_ok hu
  | some u => exact gLvF_ok hu
theorem v16 : u64 4625196817309499392 = some ((16 : Int) * ((713623846352979940529142984724747568191373312 * kW : Nat) : Int)) := by decide +kernel
theorem v64 : u64 4634204016564240384 = some ((45671926166590716193865151022383844364247891968 : Int) * ((kW : Nat) : Int)) := by decide +kernel
theorem vm64 : u64 13857576053419016192 = some ((-45671926166590716193865151022383844364247891968 : Int) * ((kW : Nat) : Int)) := by decide +kernel
theorem ord_self {f : Format} {x : Nat} {u : Int} (h : f.units x = some u) : f.order x x = some .eq := by
  rw [Format.order_units h h, compare_int, if_neg (by omega), if_pos rfl]
theorem xBits_ok {b : Nat} : VF Tryz.prog OA 148 [.v (.flt .f64) b] (.v (.int .u64) ((b : Nat) : Int)) :=
  VF.extFlt (e := Extern.MathFloatBits.float64bits) Tryz.func148 (fun _ _ => rfl) (by kernel_rfl) (by kernel_rfl) (by kernel_rfl) (w := .int .u64 ((b : Nat) : Int)) rfl fun _ _ => RepV.ofInt _ _
theorem xFrom_ok {n : Nat} : VF Tryz.prog OA 147 [.v (.int .u64) ((n : Nat) : Int)] (.v (.flt .f64) n) :=
  VF.extInt (e := Extern.MathFloatBits.float64frombits) Tryz.func147 (fun _ _ => rfl) (by kernel_rfl) (by kernel_rfl) (by kernel_rfl) (w := .float .f64 n) rfl fun _ _ => RepV.ofFlt _ _
theorem xFloor_ok {y : Nat} (hy : ∃ u, u64 y = some u) : VF Tryz.prog OA 117 [.v (.flt .f64) y] (.v (.flt .f64) (double.write ((double.read y).integral .down))) := by
  obtain ⟨u, hu⟩ := hy; obtain ⟨s, m, p, h1, _, _⟩ := Format.units_inv hu; exact VF.extFlt (e := Extern.MathFloor.toIntegral "math.archFloor" .down) Tryz.func117 (fun _ _ => rfl) (by kernel_rfl) (by kernel_rfl) (by kernel_rfl) (w := .float .f64 (double.write ((double.read y).integral .down))) (floor_run h1) fun _ _ => RepV.ofFlt _ _
theorem mFloor_ok {y : Nat} (hy : ∃ u, u64 y = some u) : VF Tryz.prog OA 93 [.v (.flt .f64) y] (.v (.flt .f64) (double.write ((double.read y).integral .down))) := by
  refine VF.enter Tryz.func93 rfl (fun _ _ => rfl) rfl ?_; show VC _ _ _ _ _ [(0, .v (.flt .f64) y)] [] _; refine VC.seq (VC.text ?_); refine VO.c (.assign rfl) ?_; refine VO.go (VC.seq ?_); refine VC.condT rfl ?_; refine VC.seq (VC.text ?_); refine VO.c (.move rfl) ?_; refine VO.call rfl rfl (VF.call (xFloor_ok (by first | assumption | omega | simp))) ?_; refine VO.c (.assign rfl) (VO.go ?_); refine VC.ret ?_; exact VEnd.one rfl evT (pvE (by first | rfl | simp))
theorem mNaN_ok {y : Nat} (hy : double.order y y = some .eq) : VF Tryz.prog OA 91 [.v (.flt .f64) y] (B false) := by
  refine VF.enter Tryz.func91 rfl (fun _ _ => rfl) rfl ?_; show VC _ _ _ _ _ [(0, .v (.flt .f64) y)] [] _; refine VC.seq (VC.text ?_); refine VO.c (.assign rfl) ?_; refine VO.go (VC.seq (VC.text ?_)); refine VO.c (.move rfl) (VO.c (.move rfl) (VO.c (.fcmpD (b := .neq) (r := false) (fneq_self hy)) (VO.c (.assign rfl) ?_))); refine VO.go ?_; refine VC.ret ?_; exact VEnd.one rfl evT (pvE (by first | rfl | simp))
theorem mAbs_ok {b : Nat} : VF Tryz.prog OA 116 [.v (.flt .f64) b] (.v (.flt .f64) (b % 9223372036854775808)) := by
  refine VF.enter Tryz.func116 rfl (fun _ _ => rfl) rfl ?_; show VC _ _ _ _ _ [(0, .v (.flt .f64) b)] [] _; refine VC.seq (VC.text ?_); refine VO.c (.assign rfl) ?_; refine VO.go (VC.seq (VC.text ?_)); refine VO.c (.move rfl) ?_; refine VO.call rfl rfl (VF.call (xBits_ok )) ?_; refine VO.c (.clr63 rfl rfl) ?_; refine VO.call rfl rfl (VF.call (xFrom_ok )) ?_; refine VO.c (.assign rfl) (VO.go ?_); refine VC.ret ?_; exact VEnd.one rfl evT (pvE (by first | rfl | simp))
theorem mInf_ok {y : Nat} {s : Int} (hs : s = 0) : VF Tryz.prog OA 92 [.v (.flt .f64) y, I s] (B (fcmpE .gtr .f64 (y % 9223372036854775808) 9218868437227405311)) := by
  refine VF.enter Tryz.func92 rfl (fun _ _ => rfl) rfl ?_; show VC _ _ _ _ _ [(0, .v (.flt .f64) y), (1, I s)] [] _; refine VC.seq (VC.text ?_); refine VO.c (.assign rfl) ?_; refine VO.go (VC.seq (VC.seq (VC.text ?_))); refine VO.c (.move rfl) (VO.c (.eql) (VO.go ?_)); refine VC.condD rfl (fun c1 => ?_) (fun c1 => ?_)
  · refine VC.text ?_; refine VO.c (.move rfl) ?_; refine VO.call rfl rfl (VF.call (mAbs_ok )) ?_; refine VO.c (.assign rfl) ?_; refine VO.go (VC.seq (VC.text ?_)); refine VO.c (.move rfl) (VO.c (.fcmp .gtr) (VO.c (.assign rfl) (VO.go ?_))); refine VC.ret ?_; exact VEnd.one rfl evT (pvE (by first | rfl | simp))
  exact absurd hs c1
theorem neW {r : Nat} {u : Int} (hr : u64 r = some (16 * (u * (kW : Nat)))) (hg : (decide (45671926166590716193865151022383844364247891968 < u) || decide (u < -45671926166590716193865151022383844364247891968)) = false) : fcmpE .neq .f64 r (double.write ((double.read r).integral .down)) = decide (u % 44601490397061246283071436545296723011960832 ≠ 0) := by
  have hb : -45671926166590716193865151022383844364247891968 ≤ u ∧ u ≤ 45671926166590716193865151022383844364247891968 := by simp at hg; omega
  rw [(fcmp64 hr (floorw hr hb)).2.1]; exact decide_eq_decide.2 (not_congr whole_iff)
theorem rLvF_ok {u : Int} {x : Nat} (hu : u32 x = some u) : VF Tryz.prog OA 49 [.v (.flt .f32) x] (I (lvlE x)) := by
  refine VF.enter Tryz.func49 rfl (fun _ _ => rfl) rfl ?_; show VC _ _ _ _ _ [(0, .v (.flt .f32) x)] [] _; refine VC.seq (VC.text ?_); refine VO.c (.assign rfl) ?_; refine VO.go (VC.seq (VC.text ?_)); refine VO.c (.move rfl) ?_; have hb := u32_bound hu; have hy := widen hu hb; obtain ⟨r, hr, hr2⟩ := mul16w v16 hu hy hb; refine VO.c (.widen hu hy) (VO.c (.assign rfl) ?_); refine VO.go (VC.seq (VC.seq (VC.text ?_))); refine VO.c (.move rfl) ?_; refine VO.call rfl rfl (VF.call (mNaN_ok (ord_self hy))) ?_; refine VO.c (.move rfl) (VO.c (.move rfl) ?_); refine VO.call rfl rfl (VF.call (mInf_ok rfl)) ?_; refine VO.c (.pickF rfl rfl) (VO.go ?_); refine VC.condB rfl (fun c2 => ?_) (fun c2 => ?_)
  · rw [(fcmp64 (units_clr hy) top64).2.2.2.2.1] at c2; simp at c2; have := top_bound hb; omega
  refine VC.skip (VC.seq (VC.seq (VC.text ?_))); refine VO.c (.move rfl) (VO.c (.fcmpD (b := .gtr) (r := decide (45671926166590716193865151022383844364247891968 < u)) ((fcmp64 hy v64).2.2.2.2.1.trans (decide_eq_decide.2 (Int.mul_lt_mul_right kW_int)))) (VO.c (.move rfl) ?_)); refine VO.cg (r := decide (45671926166590716193865151022383844364247891968 < u)) (w := false) [] trivial (fun _ => (.move rfl)) ?_; refine VO.cg (r := decide (45671926166590716193865151022383844364247891968 < u)) (w := false) [(15, .v (.flt .f64) (double.write (single.read x)))] ⟨rfl, trivial⟩ (fun _ => (.fcmpD (b := .lss) (r := decide (u < -45671926166590716193865151022383844364247891968)) ((fcmp64 hy vm64).2.2.1.trans (decide_eq_decide.2 (Int.mul_lt_mul_right kW_int))))) ?_; refine VO.c (.or) (VO.c (.move rfl) ?_); refine VO.cg (r := ((decide (45671926166590716193865151022383844364247891968 < u)) || (decide (u < -45671926166590716193865151022383844364247891968)))) (w := false) [] trivial (fun _ => (.move rfl)) ?_; refine VO.cg (r := ((decide (45671926166590716193865151022383844364247891968 < u)) || (decide (u < -45671926166590716193865151022383844364247891968)))) (w := false) [(19, .v (.flt .f64) (double.write (single.read x)))] ⟨rfl, trivial⟩ (fun _ => (.fop (mul64E hr))) ?_; refine VO.cg (r := ((decide (45671926166590716193865151022383844364247891968 < u)) || (decide (u < -45671926166590716193865151022383844364247891968)))) (w := false) [] trivial (fun _ => (.move rfl)) ?_; refine VO.cg (r := ((decide (45671926166590716193865151022383844364247891968 < u)) || (decide (u < -45671926166590716193865151022383844364247891968)))) (w := false) [(21, .v (.flt .f64) (double.write (single.read x)))] ⟨rfl, trivial⟩ (fun _ => (.fop (mul64E hr))) ?_; refine VO.callg (r0 := ((decide (45671926166590716193865151022383844364247891968 < u)) || (decide (u < -45671926166590716193865151022383844364247891968)))) (w := false) [(22, .v (.flt .f64) r)] ⟨rfl, trivial⟩ rfl rfl .same .refl rfl (fun _ => VF.call (mFloor_ok ⟨_, hr2⟩)) ?_; refine VO.cg (r := ((decide (45671926166590716193865151022383844364247891968 < u)) || (decide (u < -45671926166590716193865151022383844364247891968)))) (w := false) [(20, .v (.flt .f64) r), (23, .v (.flt .f64) (double.write ((double.read r).integral .down)))] ⟨rfl, rfl, trivial⟩ (fun hgd => have g4_6 : ((decide (45671926166590716193865151022383844364247891968 < u)) || (decide (u < -45671926166590716193865151022383844364247891968))) = false := (by simpa using hgd); (.fcmpD (b := .neq) (neW hr2 g4_6))) ?_; refine VO.c (.or) (VO.go ?_); refine VC.condB rfl (fun c4 => ?_) (fun c4 => ?_)
  · try simp only [Bool.and_eq_true, Bool.or_eq_true, Bool.and_eq_false_iff, Bool.or_eq_false_iff, Bool.not_eq_true', Bool.not_eq_false', decide_eq_true_eq, decide_eq_false_iff_not] at c4
    refine VC.seq (VC.text ?_); refine VO.c (.assign rfl) (VO.go ?_); refine VC.ret ?_; exact VEnd.one rfl evT (pvI (by unfold lvlE; rw [hu]; simp only; rw [if_neg]; omega))
  try simp only [Bool.and_eq_true, Bool.or_eq_true, Bool.and_eq_false_iff, Bool.or_eq_false_iff, Bool.not_eq_true', Bool.not_eq_false', decide_eq_true_eq, decide_eq_false_iff_not] at c4
  refine VC.skip (VC.seq (VC.text ?_)); refine VO.c (.assign rfl) (VO.go ?_); refine VC.ret ?_; exact VEnd.one rfl evT (pvI (by unfold lvlE; rw [hu]; simp only; rw [if_pos]; omega))
theorem rLvI_ok {s : Bool} {x : Nat} (hu : single.read x = .infinity s) : VF Tryz.prog OA 49 [.v (.flt .f32) x] (I (lvlE x)) := by
  refine VF.enter Tryz.func49 rfl (fun _ _ => rfl) rfl ?_; show VC _ _ _ _ _ [(0, .v (.flt .f32) x)] [] _; refine VC.seq (VC.text ?_); refine VO.c (.assign rfl) ?_; refine VO.go (VC.seq (VC.text ?_)); refine VO.c (.move rfl) (VO.c (.widenI hu) (VO.c (.assign rfl) ?_)); refine VO.go (VC.seq (VC.seq (VC.text ?_))); refine VO.c (.move rfl) ?_; refine VO.call rfl rfl (VF.call (mNaN_ok (by cases s <;> decide +kernel))) ?_; refine VO.c (.move rfl) (VO.c (.move rfl) ?_); refine VO.call rfl rfl (VF.call (mInf_ok rfl)) ?_; refine VO.c (.pickF rfl rfl) (VO.go ?_); refine VC.condB rfl (fun c2 => ?_) (fun c2 => ?_)
  · refine VC.seq (VC.text ?_); refine VO.c (.assign rfl) (VO.go ?_); refine VC.ret ?_; exact VEnd.one rfl evT (pvI (by unfold lvlE u32 Format.units; rw [hu]))
  exact absurd c2 (by cases s <;> decide +kernel)
theorem mNaNJ_ok : VF Tryz.prog OA 91 [.raw (nanJ .f64)] (B true) := by
  refine VF.enter Tryz.func91 rfl (fun _ _ => rfl) rfl ?_; show VC _ _ _ _ _ [(0, .raw (nanJ .f64))] [] _; refine VC.seq (VC.text ?_); refine VO.c (.assign rfl) ?_; refine VO.go (VC.seq (VC.text ?_)); refine VO.c (.move rfl) (VO.c (.move rfl) (VO.c (.fnancmp2 (k := .f64) (r := true) rfl) (VO.c (.assign rfl) ?_))); refine VO.go ?_; refine VC.ret ?_; exact VEnd.one rfl evT rfl
theorem rLvN_ok {s : Bool} {m : Nat} {x : Nat} (hu : single.read x = .nan s m) : VF Tryz.prog OA 49 [.v (.flt .f32) x] (I (lvlE x)) := by
  refine VF.enter Tryz.func49 rfl (fun _ _ => rfl) rfl ?_; show VC _ _ _ _ _ [(0, .v (.flt .f32) x)] [] _; refine VC.seq (VC.text ?_); refine VO.c (.assign rfl) ?_; refine VO.go (VC.seq (VC.text ?_)); refine VO.c (.move rfl) (VO.c (.widenN hu) (VO.c (.assign rfl) ?_)); refine VO.go (VC.seq (VC.seq (VC.text ?_))); refine VO.c (.move rfl) ?_; refine VO.call rfl rfl (VF.call (mNaNJ_ok )) ?_; refine VO.c (.move rfl) (VO.skip (VO.skip (VO.c (.pickT rfl rfl) ?_))); refine VO.go ?_; refine VC.condT rfl ?_; refine VC.seq (VC.text ?_); refine VO.c (.assign rfl) (VO.go ?_); refine VC.ret ?_; exact VEnd.one rfl evT (pvI (by unfold lvlE u32 Format.units; rw [hu]))
theorem rLv_ok {x : Nat} : VF Tryz.prog OA 49 [.v (.flt .f32) x] (I (lvlE x)) := by
  cases hu : u32 x with
  | some u => exact rLvF_ok hu
  | none =>
    rcases Format.units_none hu with ⟨s, h⟩ | ⟨s, m, h⟩
    · exact rLvI_ok h
    exact rLvN_ok h
theorem sxW {x r : Nat} (hx : lvlE x = 0) (hr : u64 r = some (16 * ((sxE x * 44601490397061246283071436545296723011960832) * (kW : Nat)))) : (double.read r).toInt .zero = some (sxE x) := by
  rw [Format.toInt_units hr (by decide), n1074, cast_mk]; have hk := kW_int; generalize (kW : Int) = k at hk
  have e : 16 * (sxE x * 44601490397061246283071436545296723011960832 * k) = sxE x * (713623846352979940529142984724747568191373312 * k) := by
    rw [← Int.mul_assoc, ← Int.mul_assoc, ← Int.mul_assoc]; congr 1; omega
  rw [e, Int.mul_tdiv_cancel _ (by omega)]
theorem rSix_ok {x : Nat} (hx : lvlE x = 0) : VF Tryz.prog OA 65 [.v (.flt .f32) x] (I (sxE x)) := by
  refine VF.enter Tryz.func65 rfl (fun _ _ => rfl) rfl ?_; show VC _ _ _ _ _ [(0, .v (.flt .f32) x)] [] _; refine VC.seq (VC.text ?_); refine VO.c (.assign rfl) ?_; refine VO.go (VC.seq (VC.text ?_)); refine VO.c (.move rfl) ?_; obtain ⟨hu, h0, h1⟩ := lvl_ok hx; have hb := u32_bound hu; have hy := widen hu hb; obtain ⟨r, hr, hr2⟩ := mul16w v16 hu hy hb; refine VO.c (.widen hu hy) (VO.c (.fop (mul64E hr)) (VO.c (.cvFI (toInt64E (sxW hx hr2)) (fitN (by omega))) (VO.c (.assign rfl) ?_))); refine VO.go ?_; refine VC.ret ?_; exact VEnd.one rfl evT (pvI (by first | rfl | simp))
theorem gSixL_ok {x : Nat} (hx : lvlE x = 0) : VF Tryz.prog OA 57 [.v (.flt .f32) x] (I (sxE x)) := by
  refine VF.enter Tryz.func57 rfl (fun _ _ => rfl) rfl ?_; show VC _ _ _ _ _ [(0, .v (.flt .f32) x)] [] _; refine VC.seq (VC.text ?_); refine VO.c (.assign rfl) ?_; refine VO.go (VC.seq (VC.text ?_)); refine VO.c (.move rfl) ?_; obtain ⟨hu, h0, h1⟩ := lvl_ok hx; obtain ⟨r, hr, hr2⟩ := mul16 w16 hu (by omega); have hs := sx_tdiv (u := sxE x * 44601490397061246283071436545296723011960832) rfl; have ht := toInt32 hr2; rw [hs] at ht; refine VO.c (.fop (mul32E hr)) (VO.c (.cvFI (toInt32E ht) (fitN (by omega))) (VO.c (.assign rfl) (VO.go ?_))); refine VC.ret ?_; exact VEnd.one rfl evT (pvI (by first | rfl | simp))
end Go.Proofs
namespace Go.Proofs
open Go.Fs Ieee
set_option maxHeartbeats 2000000
abbrev y22 : Ty := (.sl (.flt .f32))
abbrev y25 : Ty := (.pair .str (.pair (.int .i64) (.pair (.sl (.flt .f32)) (.sl (.pair (.int .i64) (.int .i64))))))
abbrev y32 : Ty := (.pair .str (.pair (.int .i64) (.pair (.sl (.flt .f32)) (.sl (.pair (.int .i64) (.int .i64))))))
theorem vt9 : ValT Tryz.prog 9 .str := valT_of (by kernel_rfl)
theorem vt22 : ValT Tryz.prog 22 y22 := valT_of (by kernel_rfl)
theorem vt23 : ValT Tryz.prog 23 y23 := valT_of (by kernel_rfl)
theorem vt68 : ValT Tryz.prog 68 (.flt .f32) := valT_of (by kernel_rfl)
theorem el22 : ElT Tryz.prog 22 68 (.flt .f32) := elT_of (by kernel_rfl)
abbrev Rec1 := ByteArray × Int × List Nat × List (Int × Int)
def idxE {α : Type} (F : α → Bool) : List α → Int → Int
  | [], _ => -1
  | x :: l, k => if F x = true then k else idxE F l (k + 1)
theorem idxE_drop {α : Type} {F : α → Bool} {l : List α} {j : Nat} (hj : j < l.length) : idxE F (l.drop j) (j : Nat) = if F l[j] = true then ((j : Nat) : Int) else idxE F (l.drop (j + 1)) ((j + 1 : Nat) : Int) := by
  rw [List.drop_eq_getElem_cons hj] <;> rfl
theorem idxE_end {α : Type} {F : α → Bool} {l : List α} {j : Nat} {k : Int} (hj : l.length ≤ j) : idxE F (l.drop j) k = -1 := by rw [List.drop_eq_nil_of_le hj] <;> rfl
theorem idxE_any {α : Type} {F : α → Bool} : ∀ {l : List α} {k : Int}, 0 ≤ k → ((0 ≤ idxE F l k) ↔ l.any F = true)
  | [], k, _ => by simp [idxE]
  | x :: l, k, h => by
    unfold idxE; rw [List.any_cons]; by_cases hx : F x = true
    · rw [if_pos hx, hx]; simp [h]
    rw [if_neg hx, idxE_any (l := l) (by omega)]; simp [hx]
theorem zIndexFl_ok {F : Nat → Bool} {l : List Nat} {f : PV} (hl : l.length < 1000000) (hf : ∀ x ∈ l, VCall Tryz.prog OA f [.v (.flt .f32) x] (B (F x))) : VF Tryz.prog OA 115 [.v y22 l, f] (I (idxE F l 0)) := by
  refine VF.enter Tryz.func115 rfl (fun _ _ => rfl) rfl ?_; show VC _ _ _ _ _ [(0, .v y22 l), (1, f)] [] _; refine VC.seq (VC.text ?_); refine VO.c (.assign rfl) ?_; refine VO.go (VC.seq (VC.seq (VC.text ?_))); refine VO.c (.move rfl) ?_; refine VO.r (.len el22) ?_; refine VO.c (.move rfl) ?_; refine VO.go (VC.block ?_); refine VC.keep [(0, .v y22 l), (1, f), (7, I ((l.length : Nat) : Int)), (8, I ((0 : Nat) : Int))] ⟨rfl, rfl, rfl, rfl, trivial⟩ ?_; refine VC.loop (I := fun kk ff ss => ∃ (j : Nat), kk = l.length - j ∧ ff = [(0, .v y22 l), (1, f), (7, I ((l.length : Nat) : Int)), (8, I ((j : Nat) : Int))] ∧ ss = [] ∧ (j ≤ l.length) ∧ (idxE F l 0 = idxE F (l.drop j) (j : Nat))) ?_ _ _ _ ⟨0, rfl, rfl, rfl, Nat.zero_le _, (by rfl)⟩; rintro kk ff ss ⟨j, hk0, rfl, rfl, hj, hi⟩; refine VC.seq (VC.text ?_); refine VO.c (.lss) ?_; refine VO.go (VC.seq ?_); refine VC.condD rfl (fun c2 => ?_) (fun c2 => ?_)
  · refine VC.skip (VC.seq (VC.block (VC.seq (VC.text ?_)))); refine VO.c (.move rfl) (VO.c (.assign rfl) ?_); refine VO.go (VC.seq (VC.text ?_)); refine VO.c (.move rfl) (VO.c (.move rfl) (VO.c (.move rfl) (VO.c (.ix (j := j) rfl rfl el22 (by omega)) ?_))); refine VO.r (.ld vt68) ?_; refine VO.call rfl rfl ((hf _ (List.getElem_mem _)) ) ?_; refine VO.go ?_; refine VC.condB rfl (fun c4 => ?_) (fun c4 => ?_)
    · refine VC.seq (VC.text ?_); refine VO.c (.move rfl) (VO.c (.assign rfl) (VO.go ?_)); refine VC.ret ?_; exact VEnd.one rfl evT (pvI (by rw [hi, idxE_drop (by omega), if_pos c4]))
    refine VC.skip (VC.text ?_); refine VO.c (.add rfl rfl (by omega)) (VO.c (.move rfl) ?_); refine VO.nil ?_; refine ⟨_, [(0, .v y22 l), (1, f), (7, I ((l.length : Nat) : Int)), (8, I (((j + 1) : Nat) : Int))], ?_, ⟨rfl, rfl, rfl, rfl, trivial⟩, (j + 1), rfl, rfl, rfl, (by omega), (by rw [hi, idxE_drop (by omega), if_neg (by rw [c4]; decide)])⟩; omega
  refine VC.exit (VC.seq (VC.text ?_)); refine VO.c (.assign rfl) (VO.go ?_); refine VC.ret ?_; exact VEnd.one rfl evT (pvI (by rw [hi, idxE_end (by omega)]))
theorem zContFl_ok {F : Nat → Bool} {l : List Nat} {f : PV} (hl : l.length < 1000000) (hf : ∀ x ∈ l, VCall Tryz.prog OA f [.v (.flt .f32) x] (B (F x))) : VF Tryz.prog OA 88 [.v y22 l, f] (B (l.any F)) := by
  refine VF.enter Tryz.func88 rfl (fun _ _ => rfl) rfl ?_; show VC _ _ _ _ _ [(0, .v y22 l), (1, f)] [] _; refine VC.seq (VC.text ?_); refine VO.c (.assign rfl) ?_; refine VO.go (VC.seq (VC.text ?_)); refine VO.c (.move rfl) (VO.c (.move rfl) ?_); refine VO.call rfl rfl (VF.call (zIndexFl_ok (F := F) hl hf)) ?_; refine VO.c (.geq) (VO.c (.assign rfl) (VO.go ?_)); refine VC.ret ?_; exact VEnd.one rfl evT (pvE (by have h9 := idxE_any (F := F) (l := l) (k := 0) (by omega); cases h8 : l.any F <;> simp_all))
theorem zIndexSp_ok {F : Int × Int → Bool} {l : List (Int × Int)} {f : PV} (hl : l.length < 1000000) (hf : ∀ x ∈ l, VCall Tryz.prog OA f [.v y53 x] (B (F x))) : VF Tryz.prog OA 114 [.v y23 l, f] (I (idxE F l 0)) := by
  refine VF.enter Tryz.func114 rfl (fun _ _ => rfl) rfl ?_; show VC _ _ _ _ _ [(0, .v y23 l), (1, f)] [] _; refine VC.seq (VC.text ?_); refine VO.c (.assign rfl) ?_; refine VO.go (VC.seq (VC.seq (VC.text ?_))); refine VO.c (.move rfl) ?_; refine VO.r (.len el23) ?_; refine VO.c (.move rfl) ?_; refine VO.go (VC.block ?_); refine VC.keep [(0, .v y23 l), (1, f), (7, I ((l.length : Nat) : Int)), (8, I ((0 : Nat) : Int))] ⟨rfl, rfl, rfl, rfl, trivial⟩ ?_; refine VC.loop (I := fun kk ff ss => ∃ (j : Nat), kk = l.length - j ∧ ff = [(0, .v y23 l), (1, f), (7, I ((l.length : Nat) : Int)), (8, I ((j : Nat) : Int))] ∧ ss = [] ∧ (j ≤ l.length) ∧ (idxE F l 0 = idxE F (l.drop j) (j : Nat))) ?_ _ _ _ ⟨0, rfl, rfl, rfl, Nat.zero_le _, (by rfl)⟩; rintro kk ff ss ⟨j, hk0, rfl, rfl, hj, hi⟩; refine VC.seq (VC.text ?_); refine VO.c (.lss) ?_; refine VO.go (VC.seq ?_); refine VC.condD rfl (fun c2 => ?_) (fun c2 => ?_)
  · refine VC.skip (VC.seq (VC.block (VC.seq (VC.text ?_)))); refine VO.c (.move rfl) (VO.c (.assign rfl) ?_); refine VO.go (VC.seq (VC.text ?_)); refine VO.c (.move rfl) (VO.c (.move rfl) (VO.c (.move rfl) (VO.c (.ix (j := j) rfl rfl el23 (by omega)) ?_))); refine VO.r (.ld vt53) ?_; refine VO.call rfl rfl ((hf _ (List.getElem_mem _)) ) ?_; refine VO.go ?_; refine VC.condB rfl (fun c4 => ?_) (fun c4 => ?_)
    · refine VC.seq (VC.text ?_); refine VO.c (.move rfl) (VO.c (.assign rfl) (VO.go ?_)); refine VC.ret ?_; exact VEnd.one rfl evT (pvI (by rw [hi, idxE_drop (by omega), if_pos c4]))
    refine VC.skip (VC.text ?_); refine VO.c (.add rfl rfl (by omega)) (VO.c (.move rfl) ?_); refine VO.nil ?_; refine ⟨_, [(0, .v y23 l), (1, f), (7, I ((l.length : Nat) : Int)), (8, I (((j + 1) : Nat) : Int))], ?_, ⟨rfl, rfl, rfl, rfl, trivial⟩, (j + 1), rfl, rfl, rfl, (by omega), (by rw [hi, idxE_drop (by omega), if_neg (by rw [c4]; decide)])⟩; omega
  refine VC.exit (VC.seq (VC.text ?_)); refine VO.c (.assign rfl) (VO.go ?_); refine VC.ret ?_; exact VEnd.one rfl evT (pvI (by rw [hi, idxE_end (by omega)]))
theorem zContSp_ok {F : Int × Int → Bool} {l : List (Int × Int)} {f : PV} (hl : l.length < 1000000) (hf : ∀ x ∈ l, VCall Tryz.prog OA f [.v y53 x] (B (F x))) : VF Tryz.prog OA 85 [.v y23 l, f] (B (l.any F)) := by
  refine VF.enter Tryz.func85 rfl (fun _ _ => rfl) rfl ?_; show VC _ _ _ _ _ [(0, .v y23 l), (1, f)] [] _; refine VC.seq (VC.text ?_); refine VO.c (.assign rfl) ?_; refine VO.go (VC.seq (VC.text ?_)); refine VO.c (.move rfl) (VO.c (.move rfl) ?_); refine VO.call rfl rfl (VF.call (zIndexSp_ok (F := F) hl hf)) ?_; refine VO.c (.geq) (VO.c (.assign rfl) (VO.go ?_)); refine VC.ret ?_; exact VEnd.one rfl evT (pvE (by have h9 := idxE_any (F := F) (l := l) (k := 0) (by omega); cases h8 : l.any F <;> simp_all))
def lvlsE (l : List Nat) : Int := firstE (l.map lvlE)
theorem lvls_drop {l : List Nat} {j : Nat} (hj : j < l.length) : lvlsE (l.drop j) = if lvlE l[j] = 0 then lvlsE (l.drop (j + 1)) else lvlE l[j] := by
  unfold lvlsE; rw [List.drop_eq_getElem_cons hj] <;> rfl
theorem lvls_end {l : List Nat} {j : Nat} (hj : l.length ≤ j) : lvlsE (l.drop j) = 0 := by rw [List.drop_eq_nil_of_le hj] <;> rfl
theorem gLvls_ok {l : List Nat} (hl : l.length < 1000000) : VF Tryz.prog OA 83 [.v y22 l] (I (lvlsE l)) := by
  refine VF.enter Tryz.func83 rfl (fun _ _ => rfl) rfl ?_; show VC _ _ _ _ _ [(0, .v y22 l)] [] _; refine VC.seq (VC.text ?_); refine VO.c (.assign rfl) (VO.go ?_); refine VC.scope ?_; refine VC.seq (VC.text ?_); refine VO.c (.assign rfl) ?_; refine VO.go (VC.seq ?_); refine VC.label ?_; refine VC.seq (VC.seq (VC.text ?_)); refine VO.c (.move rfl) ?_; refine VO.r (.len el22) ?_; refine VO.c (.move rfl) ?_; refine VO.go (VC.block ?_); refine VC.keep [(3, I 0), (6, .v y22 l), (7, I ((l.length : Nat) : Int)), (8, I ((0 : Nat) : Int))] ⟨rfl, rfl, rfl, rfl, trivial⟩ ?_; refine VC.loop (I := fun kk ff ss => ∃ (j : Nat), kk = l.length - j ∧ ff = [(3, I 0), (6, .v y22 l), (7, I ((l.length : Nat) : Int)), (8, I ((j : Nat) : Int))] ∧ ss = [] ∧ (j ≤ l.length) ∧ (lvlsE l = lvlsE (l.drop j))) ?_ _ _ _ ⟨0, rfl, rfl, rfl, Nat.zero_le _, (by rfl)⟩; rintro kk ff ss ⟨j, hk0, rfl, rfl, hj, hf⟩; refine VC.seq (VC.text ?_); refine VO.c (.lss) ?_; refine VO.go (VC.seq ?_); refine VC.condD rfl (fun c3 => ?_) (fun c3 => ?_)
  · refine VC.skip (VC.seq (VC.block (VC.seq (VC.text ?_)))); refine VO.c (.ix (j := j) rfl rfl el22 (by omega)) ?_; refine VO.r (.ld vt68) ?_; refine VO.c (.assign rfl) ?_; refine VO.go (VC.seq (VC.text ?_)); refine VO.c (.move rfl) ?_; refine VO.call rfl rfl (VF.call (gLv_ok )) ?_; refine VO.c (.assign rfl) ?_; refine VO.go (VC.seq (VC.text ?_)); refine VO.c (.move rfl) (VO.c (.neq) (VO.go ?_)); refine VC.condD rfl (fun c6 => ?_) (fun c6 => ?_)
    · refine VC.exit (VC.seq (VC.text ?_)); refine VO.c (.move rfl) (VO.c (.assign rfl) (VO.go ?_)); refine VC.ret ?_; exact VEnd.one rfl evT (pvI (by first | (rw [hf, lvls_drop (by omega), if_neg c6]; done) | rw [hf, lvls_end (by omega)]))
    refine VC.skip (VC.text ?_); refine VO.c (.add rfl rfl (by omega)) (VO.c (.move rfl) ?_); refine VO.nil ?_; refine ⟨_, [(3, I 0), (6, .v y22 l), (7, I ((l.length : Nat) : Int)), (8, I (((j + 1) : Nat) : Int))], ?_, ⟨slI rfl (by simpa using c6), rfl, rfl, rfl, trivial⟩, (j + 1), rfl, rfl, rfl, (by omega), (by rw [hf, lvls_drop (by omega), if_pos (by simpa using c6)])⟩; omega
  refine VC.exit (VC.seq (VC.text ?_)); refine VO.c (.move rfl) (VO.c (.assign rfl) (VO.go ?_)); refine VC.ret ?_; exact VEnd.one rfl evT (pvI (by first | (rw [hf, lvls_drop (by omega), if_neg c6]; done) | rw [hf, lvls_end (by omega)]))
def nzE (x : Nat) : Bool := fcmpE .neq .f32 x 0
def beyB (r : Rec1) : Bool := r.2.2.2.any fun s => decide ((r.2.2.1.length : Int) < s.2)
def fillB (r : Rec1) : Bool := r.2.2.2.any fun s => ((r.2.2.1.take s.2.toNat).drop s.1.toNat).any nzE
def headE (r : Rec1) : Int := firstE [whenE (!nameB r.1) 8, rangeE r.2.1 0 100000, whenE (decide ((4096 : Int) < (r.2.2.1.length : Nat))) 5]
def bodyE (r : Rec1) : Int := firstE [lvlsE r.2.2.1, spansE r.2.2.2]
def recE (r : Rec1) : Int := if headE r ≠ 0 then headE r else if bodyE r ≠ 0 then bodyE r else if beyB r = true then 14 else whenE (fillB r) 1
theorem gRec1_ok {s : Int × Int} {r : ByteArray × Int × (List Nat) × (List (Int × Int))} : VF Tryz.prog OA 86 [.v y53 s, .p y32 r] (B (decide ((r.2.2.1.length : Int) < s.2))) := by
  refine VF.enter Tryz.func86 rfl (fun _ _ => rfl) rfl ?_; show VC _ _ _ _ _ [(0, .v y53 s), (1, .p y32 r)] [] _; refine VC.seq (VC.text ?_); refine VO.new (.box) ?_; refine VO.c (.assign rfl) ?_; refine VO.go (VC.seq (VC.text ?_)); refine VO.c (.fa (.r .o)) ?_; refine VO.r (.ld vt3) ?_; refine VO.c (.fa (.r (.r (.l .o)))) ?_; refine VO.r (.ld vt22) ?_; refine VO.r (.len el22) ?_; refine VO.c (.gtr) (VO.c (.assign rfl) (VO.go ?_)); refine VC.ret ?_; exact VEnd.one rfl evT (pvE (by rfl))
theorem gRec21_ok {x : Nat} : VF Tryz.prog OA 89 [.v (.flt .f32) x] (B (nzE x)) := by
  refine VF.enter Tryz.func89 rfl (fun _ _ => rfl) rfl ?_; show VC _ _ _ _ _ [(0, .v (.flt .f32) x)] [] _; refine VC.seq (VC.text ?_); refine VO.c (.assign rfl) ?_; refine VO.go (VC.seq (VC.text ?_)); refine VO.c (.move rfl) (VO.c (.fcmp .neq) (VO.c (.assign rfl) (VO.go ?_))); refine VC.ret ?_; exact VEnd.one rfl evT (pvE (by rfl))
theorem gRec2_ok {s : Int × Int} {r : ByteArray × Int × (List Nat) × (List (Int × Int))} (hs : 0 ≤ s.1 ∧ s.1 ≤ s.2 ∧ s.2 ≤ (r.2.2.1.length : Nat)) (hl : r.2.2.1.length < 1000000) : VF Tryz.prog OA 87 [.v y53 s, .p y32 r] (B (((r.2.2.1.take s.2.toNat).drop s.1.toNat).any nzE)) := by
  refine VF.enter Tryz.func87 rfl (fun _ _ => rfl) rfl ?_; show VC _ _ _ _ _ [(0, .v y53 s), (1, .p y32 r)] [] _; refine VC.seq (VC.text ?_); refine VO.new (.box) ?_; refine VO.c (.assign rfl) ?_; refine VO.go (VC.seq (VC.text ?_)); refine VO.c (.fa (.r (.r (.l .o)))) ?_; refine VO.r (.ld vt22) ?_; refine VO.c (.fa (.l .o)) ?_; refine VO.r (.ld vt3) ?_; refine VO.c (.fa (.r .o)) ?_; refine VO.r (.ld vt3) ?_; refine VO.r (.cut rfl rfl rfl el22 (by exact hs)) ?_; refine VO.call rfl rfl (VF.call (zContFl_ok (F := nzE) (by simp; omega) (fun _ _ => VF.call gRec21_ok))) ?_; refine VO.c (.assign rfl) (VO.go ?_); refine VC.ret ?_; exact VEnd.one rfl evT (pvE (by rfl))
theorem bey_f {r : Rec1} (h : beyB r = false) : ∀ s ∈ r.2.2.2, s.2 ≤ (r.2.2.1.length : Nat) := fun s hs => by
  have := List.any_eq_false.1 h s hs; simp at this; omega
theorem bodyE_zero {r : Rec1} : bodyE r = 0 ↔ lvlsE r.2.2.1 = 0 ∧ spansE r.2.2.2 = 0 := by
  unfold bodyE; rw [firstE_zero]; simp
theorem gRec_ok {r : ByteArray × Int × (List Nat) × (List (Int × Int))} (hl : r.2.2.1.length < 1000000) (hg : r.2.2.2.length < 1000000) : VF Tryz.prog OA 37 [.v y32 r] (I (recE r)) := by
  refine VF.enter Tryz.func37 rfl (fun _ _ => rfl) rfl ?_; show VC _ _ _ _ _ [(0, .v y32 r)] [] _; refine VC.seq (VC.text ?_); refine VO.new (.box) ?_; refine VO.c (.assign rfl) ?_; refine VO.go (VC.seq (VC.seq (VC.drawn ?_))); refine VD.c (.fa (.l .o)) ?_; refine VD.r [] (.ld vt9) (.inl rfl) ?_; refine VD.call rfl rfl (VF.call (gName_ok )) ?_; refine VD.c (.not) ?_; refine VD.call rfl rfl (VF.call (gWhen_ok )) ?_; refine VD.c (.fa (.r (.l .o))) (VD.nw [] ?_); refine VD.r [] (.ld vt3) (.inl rfl) ?_; refine VD.call rfl rfl (VF.call (gWithin_ok )) ?_; refine VD.c (.fa (.r (.r (.l .o)))) ?_; refine VD.r [] (.ld vt22) (.inl rfl) ?_; refine VD.r [] (.len el22) (.inl rfl) ?_; refine VD.c (.gtr) ?_; refine VD.call rfl rfl (VF.call (gWhen_ok )) ?_; refine VD.nw [] ?_; refine VD.new (.lit [whenE (!(nameB r.1)) (8 : Int), rangeE r.2.1 (0 : Int) (100000 : Int), whenE (decide ((4096 : Int) < ((r.2.2.1.length : Nat) : Int))) (5 : Int)] el127) ?_; refine VD.callO rfl rfl (VF.call (gFirst_ok (by first | assumption | omega | simp))) ?_; rw [show firstE [whenE (!nameB r.1) 8, rangeE r.2.1 0 100000, whenE (decide ((4096 : Int) < (r.2.2.1.length : Nat))) 5] = headE r from rfl]; refine VD.c (.assign rfl) ?_; refine VD.go (VC.seq (VC.text ?_)); refine VO.c (.move rfl) (VO.c (.neq) (VO.go ?_)); refine VC.condD rfl (fun c2 => ?_) (fun c2 => ?_)
  · refine VC.seq (VC.text ?_); refine VO.c (.move rfl) (VO.c (.assign rfl) (VO.go ?_)); refine VC.ret ?_; exact VEnd.one rfl evT (pvI (by rw [recE, if_pos c2]))
  refine VC.skip (VC.seq (VC.seq (VC.drawn ?_))); refine VD.c (.fa (.r (.r (.l .o)))) ?_; refine VD.r [] (.ld vt22) (.inl rfl) ?_; refine VD.call rfl rfl (VF.call (gLvls_ok (by first | assumption | omega | simp))) ?_; refine VD.c (.fa (.r (.r (.r .o)))) ?_; refine VD.r [] (.ld vt23) (.inl rfl) ?_; refine VD.call rfl rfl (VF.call (gSpans_ok (by first | assumption | omega | simp))) ?_; refine VD.nw [] ?_; refine VD.new (.lit [lvlsE r.2.2.1, spansE r.2.2.2] el127) ?_; refine VD.callO rfl rfl (VF.call (gFirst_ok (by first | assumption | omega | simp))) ?_; rw [show firstE [lvlsE r.2.2.1, spansE r.2.2.2] = bodyE r from rfl]; refine VD.c (.assign rfl) ?_; refine VD.go (VC.seq (VC.text ?_)); refine VO.c (.move rfl) (VO.c (.neq) (VO.go ?_)); refine VC.condD rfl (fun c5 => ?_) (fun c5 => ?_)
  · refine VC.seq ?_; refine VC.keep [(1, .p y32 r), (4, I (bodyE r))] ⟨rfl, rfl, trivial⟩ ?_; refine VC.text ?_; refine VO.c (.move rfl) (VO.c (.assign rfl) (VO.go ?_)); refine VC.ret ?_; exact VEnd.one rfl evT (pvI (by rw [recE, if_neg c2, if_pos c5]))
  have hb0 := bodyE_zero.1 (Classical.not_not.1 c5); have hcan := (spans_canon hb0.2).1.1; refine VC.skip (VC.seq ?_); refine VC.keep [(1, .p y32 r)] ⟨rfl, trivial⟩ ?_; refine VC.text ?_; refine VO.c (.fa (.r (.r (.r .o)))) ?_; refine VO.r (.ld vt23) ?_; refine VO.c (.func) ?_; refine VO.call rfl rfl (VF.call (zContSp_ok (F := fun s => decide ((r.2.2.1.length : Int) < s.2)) hg (fun _ _ => VF.clo gRec1_ok))) ?_; rw [show (r.2.2.2.any fun s => decide ((r.2.2.1.length : Int) < s.2)) = beyB r from rfl]; refine VO.c (.assign rfl) ?_; refine VO.go (VC.seq (VC.seq (VC.text ?_))); refine VO.c (.move rfl) (VO.go ?_); refine VC.condB rfl (fun c8 => ?_) (fun c8 => ?_)
  · refine VC.seq (VC.text ?_); refine VO.c (.assign rfl) (VO.go ?_); refine VC.ret ?_; exact VEnd.one rfl evT (pvI (by rw [recE, if_neg c2, if_neg c5, if_pos c8]))
  have hbf := bey_f c8
  have hsp : ∀ s ∈ r.2.2.2, 0 ≤ s.1 ∧ s.1 ≤ s.2 ∧ s.2 ≤ (r.2.2.1.length : Nat) := fun s hs => by have := hcan s hs; have := hbf s hs; omega
  refine VC.skip (VC.seq (VC.text ?_)); refine VO.c (.fa (.r (.r (.r .o)))) ?_; refine VO.r (.ld vt23) ?_; refine VO.c (.func) ?_; refine VO.call rfl rfl (VF.call (zContSp_ok (F := fun s => ((r.2.2.1.take s.2.toNat).drop s.1.toNat).any nzE) hg (fun s hs => VF.clo (gRec2_ok (hsp s hs) hl)))) ?_; refine VO.c (.assign rfl) ?_; refine VO.go (VC.seq (VC.text ?_)); refine VO.c (.move rfl) ?_; refine VO.call rfl rfl (VF.call (gWhen_ok )) ?_; refine VO.c (.assign rfl) (VO.go ?_); refine VC.ret ?_; exact VEnd.one rfl evT (pvI (by rw [recE, if_neg c2, if_neg c5, if_neg (by rw [c8]; decide)] <;> rfl))
theorem head_two {r : Rec1} : headE r = if firstE [whenE (!nameB r.1) 8, rangeE r.2.1 0 100000] = 0 then whenE (decide ((4096 : Int) < (r.2.2.1.length : Nat))) 5 else firstE [whenE (!nameB r.1) 8, rangeE r.2.1 0 100000] := by
  unfold headE; show (if _ = 0 then (if _ = 0 then (if _ = 0 then 0 else _) else _) else _) = if (if _ = 0 then (if _ = 0 then 0 else _) else _) = 0 then _ else (if _ = 0 then (if _ = 0 then 0 else _) else _); split
  · split
    · rw [if_pos rfl]; split
      · rename_i h; exact h.symm
      rfl
    rename_i h; first | rfl | (rw [if_neg h]; done)
  rename_i h; first | rfl | (rw [if_neg h]; done)
theorem body_lv {r : Rec1} (h : lvlsE r.2.2.1 ≠ 0) : bodyE r = lvlsE r.2.2.1 := by
  unfold bodyE; show (if _ = 0 then _ else _) = _; rw [if_neg h]
theorem body_sp {r : Rec1} (h : lvlsE r.2.2.1 = 0) : bodyE r = spansE r.2.2.2 := by
  unfold bodyE; show (if _ = 0 then (if _ = 0 then 0 else _) else _) = _; rw [if_pos h]; split
  · rename_i h2; exact h2.symm
  rfl
theorem fill_t {r : Rec1} (hsp : ∀ s ∈ r.2.2.2, 0 ≤ s.1 ∧ s.1 ≤ s.2 ∧ s.2 ≤ (r.2.2.1.length : Nat)) {i : Nat} (hi : i < r.2.2.1.length) (h1 : nzE r.2.2.1[i] = true) (h2 : Sp.inL r.2.2.2 i = true) : fillB r = true := by
  obtain ⟨s, hs, h3⟩ := List.any_eq_true.1 h2; simp only [Bool.and_eq_true, decide_eq_true_eq] at h3; have h4 := hsp s hs; refine List.any_eq_true.2 ⟨s, hs, List.any_eq_true.2 ⟨r.2.2.1[i], ?_, h1⟩⟩; refine List.mem_iff_getElem.2 ⟨i - s.1.toNat, by rw [List.length_drop, List.length_take]; omega, ?_⟩; rw [List.getElem_drop, List.getElem_take]; simp only [show s.1.toNat + (i - s.1.toNat) = i by omega]
theorem fill_f {r : Rec1} (h : ∀ i (hi : i < r.2.2.1.length), ¬ (nzE r.2.2.1[i] = true ∧ Sp.inL r.2.2.2 i = true)) (hsp : ∀ s ∈ r.2.2.2, 0 ≤ s.1 ∧ s.1 ≤ s.2 ∧ s.2 ≤ (r.2.2.1.length : Nat)) : fillB r = false := by
  refine List.any_eq_false.2 fun s hs => ?_; rw [Bool.not_eq_true]; refine List.any_eq_false.2 fun x hx => ?_; obtain ⟨k, hk, rfl⟩ := List.mem_iff_getElem.1 hx; rw [List.length_drop, List.length_take] at hk; rw [List.getElem_drop, List.getElem_take]; have h4 := hsp s hs; intro h1; refine h (s.1.toNat + k) (by omega) ⟨h1, List.any_eq_true.2 ⟨s, hs, ?_⟩⟩; simp only [Bool.and_eq_true, decide_eq_true_eq]; omega
theorem rRec_ok {r : ByteArray × Int × (List Nat) × (List (Int × Int))} (hl : r.2.2.1.length < 1000000) (hg : r.2.2.2.length < 1000000) : VF Tryz.prog OA 11 [.v y25 r] (I (recE r)) := by
  refine VF.enter Tryz.func11 rfl (fun _ _ => rfl) rfl ?_; show VC _ _ _ _ _ [(0, .v y25 r)] [] _; refine VC.seq (VC.text ?_); refine VO.new (.box) ?_; refine VO.c (.assign rfl) ?_; refine VO.go (VC.seq (VC.seq (VC.drawn ?_))); refine VD.c (.fa (.l .o)) ?_; refine VD.r [] (.ld vt9) (.inl rfl) ?_; refine VD.call rfl rfl (VF.call (rNameE_ok )) ?_; refine VD.c (.fa (.r (.l .o))) ?_; refine VD.r [] (.ld vt3) (.inl rfl) ?_; refine VD.call rfl rfl (VF.call (rCheckRange_ok )) ?_; refine VD.nw [] ?_; refine VD.new (.lit [whenE (!nameB r.1) 8, rangeE r.2.1 (0 : Int) (100000 : Int)] el60) ?_; refine VD.callO rfl rfl (VF.call (rFirst_ok (by first | assumption | omega | simp))) ?_; refine VD.c (.assign rfl) ?_; refine VD.go (VC.seq (VC.text ?_)); refine VO.c (.move rfl) (VO.c (.neq) (VO.go ?_)); refine VC.condD rfl (fun c2 => ?_) (fun c2 => ?_)
  · refine VC.seq (VC.text ?_); refine VO.c (.move rfl) (VO.c (.assign rfl) (VO.go ?_)); refine VC.ret ?_; exact VEnd.one rfl evT (pvI (by rw [recE, head_two, if_neg c2, if_pos c2]))
  have ha0 := Classical.not_not.1 c2; refine VC.skip (VC.seq (VC.seq (VC.text ?_))); refine VO.c (.fa (.r (.r (.l .o)))) ?_; refine VO.r (.ld vt22) ?_; refine VO.r (.len el22) ?_; refine VO.c (.gtr) (VO.go ?_); refine VC.condD rfl (fun c4 => ?_) (fun c4 => ?_)
  · refine VC.seq (VC.text ?_); refine VO.c (.assign rfl) (VO.go ?_); refine VC.ret ?_; exact VEnd.one rfl evT (pvI (by rw [recE, head_two, if_pos ha0, decide_eq_true c4] <;> rfl))
  have hh : headE r = 0 := by rw [head_two, if_pos ha0, decide_eq_false c4] <;> rfl
  refine VC.skip (VC.seq (VC.seq (VC.text ?_))); refine VO.c (.assign rfl) ?_; refine VO.go (VC.block ?_); refine VC.keep [(1, .p y25 r), (4, I ((0 : Nat) : Int))] ⟨rfl, rfl, trivial⟩ ?_; refine VC.loop (I := fun kk ff ss => ∃ (j : Nat), kk = r.2.2.1.length - j ∧ ff = [(1, .p y25 r), (4, I ((j : Nat) : Int))] ∧ ss = [] ∧ (j ≤ r.2.2.1.length) ∧ (lvlsE r.2.2.1 = lvlsE (r.2.2.1.drop j))) ?_ _ _ _ ⟨0, rfl, rfl, rfl, Nat.zero_le _, (by rfl)⟩; rintro kk ff ss ⟨j, hk0, rfl, rfl, hj, hf⟩; refine VC.seq (VC.seq (VC.text ?_)); refine VO.c (.move rfl) (VO.c (.fa (.r (.r (.l .o)))) ?_); refine VO.r (.ld vt22) ?_; refine VO.r (.len el22) ?_; refine VO.c (.lss) (VO.go ?_); refine VC.condD rfl (fun c7 => ?_) (fun c7 => ?_)
  · refine VC.skip (VC.seq (VC.block (VC.seq (VC.text ?_)))); refine VO.c (.fa (.r (.r (.l .o)))) ?_; refine VO.r (.ld vt22) ?_; refine VO.c (.move rfl) (VO.c (.ix (j := j) rfl rfl el22 (by omega)) ?_); refine VO.r (.ld vt68) ?_; refine VO.call rfl rfl (VF.call (rLv_ok )) ?_; refine VO.c (.assign rfl) ?_; refine VO.go (VC.seq (VC.text ?_)); refine VO.c (.move rfl) (VO.c (.neq) (VO.go ?_)); refine VC.condD rfl (fun c10 => ?_) (fun c10 => ?_)
    · refine VC.seq (VC.text ?_); refine VO.c (.move rfl) (VO.c (.assign rfl) (VO.go ?_)); refine VC.ret ?_; exact VEnd.one rfl evT (pvI (by rw [recE, if_neg (fun h => h hh), body_lv (by rw [hf, lvls_drop (by omega), if_neg c10]; exact c10), hf, lvls_drop (by omega), if_neg c10, if_pos c10]))
    refine VC.skip (VC.text ?_); refine VO.c (.move rfl) (VO.c (.add rfl rfl (by omega)) (VO.c (.assign rfl) ?_)); refine VO.nil ?_; refine ⟨_, [(1, .p y25 r), (4, I (((j + 1) : Nat) : Int))], ?_, ⟨rfl, rfl, trivial⟩, (j + 1), rfl, rfl, rfl, (by omega), (by rw [hf, lvls_drop (by omega), if_pos (by simpa using c10)])⟩; omega
  have hlv : lvlsE r.2.2.1 = 0 := by rw [hf, lvls_end (by omega)]
  refine VC.exit (VC.seq (VC.seq (VC.text ?_))); refine VO.c (.fa (.r (.r (.r .o)))) ?_; refine VO.r (.ld vt23) ?_; refine VO.call rfl rfl (VF.call (rSpans_ok (by first | assumption | omega | simp))) ?_; refine VO.c (.assign rfl) ?_; refine VO.go (VC.seq (VC.text ?_)); refine VO.c (.move rfl) (VO.c (.neq) (VO.go ?_)); refine VC.condD rfl (fun c13 => ?_) (fun c13 => ?_)
  · refine VC.seq (VC.text ?_); refine VO.c (.move rfl) (VO.c (.assign rfl) (VO.go ?_)); refine VC.ret ?_; exact VEnd.one rfl evT (pvI (by rw [recE, if_neg (fun h => h hh), body_sp hlv, if_pos c13]))
  have hs0 := Classical.not_not.1 c13; have hb0 : bodyE r = 0 := bodyE_zero.2 ⟨hlv, hs0⟩; have hcan := (spans_canon hs0).1.1; refine VC.skip (VC.seq (VC.seq (VC.text ?_))); refine VO.c (.assign rfl) ?_; refine VO.go (VC.block ?_); refine VC.keep [(1, .p y25 r), (7, I ((0 : Nat) : Int))] ⟨rfl, rfl, trivial⟩ ?_; refine VC.loop (I := fun kk ff ss => ∃ (k : Nat), kk = r.2.2.2.length - k ∧ ff = [(1, .p y25 r), (7, I ((k : Nat) : Int))] ∧ ss = [] ∧ (k ≤ r.2.2.2.length) ∧ (∀ q (h : q < r.2.2.2.length), q < k → ¬ (r.2.2.1.length : Int) < r.2.2.2[q].2)) ?_ _ _ _ ⟨0, rfl, rfl, rfl, Nat.zero_le _, (by exact fun q _ h => absurd h (by omega))⟩; rintro kk ff ss ⟨k, hk2, rfl, rfl, hk, hi⟩; refine VC.seq (VC.seq (VC.text ?_)); refine VO.c (.move rfl) (VO.c (.fa (.r (.r (.r .o)))) ?_); refine VO.r (.ld vt23) ?_; refine VO.r (.len el23) ?_; refine VO.c (.lss) (VO.go ?_); refine VC.condD rfl (fun c16 => ?_) (fun c16 => ?_)
  · refine VC.skip (VC.seq (VC.block (VC.seq (VC.drawn ?_)))); refine VD.c (.fa (.r (.r (.r .o)))) ?_; refine VD.r [] (.ld vt23) (.inl rfl) ?_; refine VD.c (.move rfl) (VD.c (.ix (j := k) rfl rfl el23 (by omega)) (VD.c (.fa (.r .o)) ?_)); refine VD.r [] (.ld vt3) (.inl rfl) ?_; refine VD.nw [] (VD.c (.fa (.r (.r (.l .o)))) ?_); refine VD.r [] (.ld vt22) (.inl rfl) ?_; refine VD.r [] (.len el22) (.inl rfl) ?_; refine VD.c (.gtr) (VD.go ?_); refine VC.condD rfl (fun c18 => ?_) (fun c18 => ?_)
    · refine VC.seq (VC.text ?_); refine VO.c (.assign rfl) (VO.go ?_); refine VC.ret ?_; exact VEnd.one rfl evT (pvI (by rw [recE, if_neg (fun h => h hh), if_neg (fun h => h hb0), if_pos (show beyB r = true from List.any_eq_true.2 ⟨_, List.getElem_mem (show k < r.2.2.2.length by omega), decide_eq_true c18⟩)]))
    refine VC.skip (VC.text ?_); refine VO.c (.move rfl) (VO.c (.add rfl rfl (by omega)) (VO.c (.assign rfl) ?_)); refine VO.nil ?_; refine ⟨_, [(1, .p y25 r), (7, I (((k + 1) : Nat) : Int))], ?_, ⟨rfl, rfl, trivial⟩, (k + 1), rfl, rfl, rfl, (by omega), (by exact fun q h h3 => if e : q = k then (by subst e; exact c18) else hi q h (by omega))⟩; omega
  have hbe : beyB r = false := List.any_eq_false.2 fun s hs => by
    obtain ⟨q, hq, rfl⟩ := List.mem_iff_getElem.1 hs; simpa using hi q hq (by omega)
  have hbf := bey_f hbe
  have hsp : ∀ s ∈ r.2.2.2, 0 ≤ s.1 ∧ s.1 ≤ s.2 ∧ s.2 ≤ (r.2.2.1.length : Nat) := fun s hs => by have := hcan s hs; have := hbf s hs; omega
  refine VC.exit (VC.seq (VC.seq (VC.text ?_))); refine VO.c (.assign rfl) ?_; refine VO.go (VC.block ?_); refine VC.keep [(1, .p y25 r), (8, I ((0 : Nat) : Int))] ⟨rfl, rfl, trivial⟩ ?_; refine VC.loop (I := fun kk ff ss => ∃ (i : Nat), kk = r.2.2.1.length - i ∧ ff = [(1, .p y25 r), (8, I ((i : Nat) : Int))] ∧ ss = [] ∧ (i ≤ r.2.2.1.length) ∧ (∀ q (h : q < r.2.2.1.length), q < i → ¬ (nzE r.2.2.1[q] = true ∧ Sp.inL r.2.2.2 q = true))) ?_ _ _ _ ⟨0, rfl, rfl, rfl, Nat.zero_le _, (by exact fun q _ h => absurd h (by omega))⟩; rintro kk ff ss ⟨i, hk4, rfl, rfl, hi4, hno⟩; refine VC.seq (VC.seq (VC.text ?_)); refine VO.c (.move rfl) (VO.c (.fa (.r (.r (.l .o)))) ?_); refine VO.r (.ld vt22) ?_; refine VO.r (.len el22) ?_; refine VO.c (.lss) (VO.go ?_); refine VC.condD rfl (fun c21 => ?_) (fun c21 => ?_)
  · refine VC.skip (VC.seq (VC.block (VC.seq (VC.text ?_)))); refine VO.c (.fa (.r (.r (.l .o)))) ?_; refine VO.r (.ld vt22) ?_; refine VO.c (.move rfl) (VO.c (.ix (j := i) rfl rfl el22 (by omega)) ?_); refine VO.r (.ld vt68) ?_; refine VO.c (.fcmp .neq) (VO.c (.move rfl) ?_); refine VO.cg (r := (fcmpE .neq .f32 (r.2.2.1[i]) (0 : Nat))) (w := true) [] trivial (fun _ => (.fa (.r (.r (.r (k := 0) .o))))) ?_; refine VO.rg (r := (fcmpE .neq .f32 (r.2.2.1[i]) (0 : Nat))) (w := true) [(77, .p y23 r.2.2.2)] ⟨rfl, trivial⟩ (fun _ => (.ld vt23)) ?_; refine VO.cg (r := (fcmpE .neq .f32 (r.2.2.1[i]) (0 : Nat))) (w := true) [] trivial (fun _ => (.move rfl)) ?_; refine VO.callg (r0 := (fcmpE .neq .f32 (r.2.2.1[i]) (0 : Nat))) (w := true) [(78, .v y23 r.2.2.2), (79, I ((i : Nat) : Int))] ⟨rfl, rfl, trivial⟩ rfl rfl .same .refl rfl (fun hgd => have g23_6 : (fcmpE .neq .f32 (r.2.2.1[i]) (0 : Nat)) = true := (by simpa using hgd); VF.call (rHas_ok (by first | assumption | omega | simp))) ?_; refine VO.c (.and) (VO.go ?_); refine VC.condB rfl (fun c23 => ?_) (fun c23 => ?_)
    · try simp only [Bool.and_eq_true, Bool.or_eq_true, Bool.and_eq_false_iff, Bool.or_eq_false_iff, Bool.not_eq_true', Bool.not_eq_false', decide_eq_true_eq, decide_eq_false_iff_not] at c23
      refine VC.seq (VC.text ?_); refine VO.c (.assign rfl) (VO.go ?_); refine VC.ret ?_; exact VEnd.one rfl evT (pvI (by rw [recE, if_neg (fun h => h hh), if_neg (fun h => h hb0), if_neg (by rw [hbe]; decide), fill_t hsp (show i < r.2.2.1.length by omega) c23.1 c23.2] <;> rfl))
    try simp only [Bool.and_eq_true, Bool.or_eq_true, Bool.and_eq_false_iff, Bool.or_eq_false_iff, Bool.not_eq_true', Bool.not_eq_false', decide_eq_true_eq, decide_eq_false_iff_not] at c23
    have hnq : ¬ (nzE r.2.2.1[i] = true ∧ Sp.inL r.2.2.2 i = true) := fun h2 => by
      rcases c23 with h | h
      · exact absurd (h2.1.symm.trans h) (by decide)
      rw [h2.2] at h; cases h
    refine VC.skip (VC.text ?_); refine VO.c (.move rfl) (VO.c (.add rfl rfl (by omega)) (VO.c (.assign rfl) ?_)); refine VO.nil ?_; refine ⟨_, [(1, .p y25 r), (8, I (((i + 1) : Nat) : Int))], ?_, ⟨rfl, rfl, trivial⟩, (i + 1), rfl, rfl, rfl, (by omega), (by exact fun q h h3 => if e : q = i then (by subst e; exact hnq) else hno q h (by omega))⟩; omega
  refine VC.exit (VC.seq (VC.text ?_)); refine VO.c (.assign rfl) (VO.go ?_); refine VC.ret ?_; exact VEnd.one rfl evT (pvI (by rw [recE, if_neg (fun h => h hh), if_neg (fun h => h hb0), if_neg (by rw [hbe]; decide), fill_f (fun q h => hno q h (by omega)) hsp] <;> rfl))
end Go.Proofs
namespace Go.Fs
open Go.RowKit (Below)
variable {P : Program} {H : Type} {enc : TypeId × Value → H} {w : World} {base : Nat} {sp : Nat → Bool} {held : Bool}
def fsB (P : Program) (ty : TypeId → Ty → Bool) : List Field → Nat → Ty → Bool
  | [f], off, .pair a .unit => Nat.beq f.offset off && Nat.beq (P.cellsOf f.type) a.size && ty f.type a
  | [f], off, τ => Nat.beq f.offset off && Nat.beq (P.cellsOf f.type) τ.size && ty f.type τ
  | f :: fs, off, .pair a b => Nat.beq f.offset off && Nat.beq (P.cellsOf f.type) a.size && ty f.type a && fsB P ty fs (off + a.size) b
  | _, _, _ => false
def arrFs (P : Program) (m : Nat) (e : TypeId) : List Field := (List.range m).map fun i => { name := "", type := e, offset := i * P.cellsOf e, embedded := false, tag := "", pkgPath := "", byteOffset := 0 }
def tyB (P : Program) : Nat → TypeId → Ty → Bool
  | 0, _, _ => false
  | n + 1, t, τ =>
    match P.underlying t, τ with
    | some (.int k), .int k' => decide (k = k')
    | some .bool, .bool => true
    | some .string, .str => true
    | some (.float k), .flt k' => decide (k = k')
    | some (.slice te), .sl e => Nat.beq (P.cellsOf te) e.size && Nat.blt 0 e.size && tyB P n te e
    | some (.struct fs), .pair a b => Nat.beq (P.cellsOf t) (Ty.pair a b).size && fsB P (tyB P n) fs.toList 0 (.pair a b)
    | some (.array m e), .pair a b => Nat.beq (P.cellsOf t) (Ty.pair a b).size && fsB P (tyB P n) (arrFs P m e) 0 (.pair a b)
    | _, _ => false
def Wf : (τ : Ty) → τ.den → Prop
  | .int k, n => (Lit.int k n).wf = true
  | .bool, _ => True
  | .str, s => s.size ≤ maxLen
  | .flt k, n => (Lit.float k n).wf = true
  | .sl e, xs => List.length xs ≤ maxLen ∧ ∀ x ∈ (xs : List e.den), Wf e x
  | .pair a b, x => Wf a x.1 ∧ Wf b x.2
  | .unit, _ => True
  | .mp _ _, _ => True
  | .fn, _ => True
  | .hnd, _ => True
structure Got (P : Program) (w : World) (ρ : Ren) (S : Nat → Prop) (h : Heap) (ρ' : Ren) (S' : Nat → Prop) (h' : Heap) : Prop where
  hr : HR P ρ' S' w.heap.size (wz w) h' w
  agree : ∀ b, S b → S' b ∧ ρ' b = ρ b
  aft : After h h'
theorem Got.refl {ρ : Ren} {S : Nat → Prop} {h : Heap} (hr : HR P ρ S w.heap.size (wz w) h w) : Got P w ρ S h ρ S h := ⟨hr, fun _ hb => ⟨hb, rfl⟩, After.refl h⟩
theorem Got.trans {ρ ρ1 ρ2 : Ren} {S S1 S2 : Nat → Prop} {h h1 h2 : Heap} (a : Got P w ρ S h ρ1 S1 h1) (b : Got P w ρ1 S1 h1 ρ2 S2 h2) : Got P w ρ S h ρ2 S2 h2 :=
  ⟨b.hr, fun i hi => let ⟨h3, h4⟩ := a.agree i hi; let ⟨h5, h6⟩ := b.agree i h3; ⟨h5, h6.trans h4⟩, a.aft.trans b.aft⟩
theorem Got.ok {ρ ρ1 : Ren} {S S1 : Nat → Prop} {h h1 : Heap} (a : Got P w ρ S h ρ1 S1 h1) : HOk h1 := fun b o hg => (a.hr.ids b (a.hr.objs b o hg).1).1
theorem hok_of {ρ : Ren} {S : Nat → Prop} {h : Heap} (hr : HR P ρ S w.heap.size (wz w) h w) : HOk h := fun b o hg => (hr.ids b (hr.objs b o hg).1).1
theorem Got.row {ρ : Ren} {S : Nat → Prop} {h : Heap} (hr : HR P ρ S w.heap.size (wz w) h w) {te : TypeId} {cs : List Value} {a : Addr} (ha : a.block < w.heap.size) (hc : ∀ i, i < cs.length → ∃ v, w.cell? ⟨a.block, a.off + i, none⟩ = some v ∧ VR ρ S (cs.getD i undef) v) :
    Got P w ρ S h (fun b => if b = h.next then (.clean a.block a.off 0 (P.cellsOf te)) else ρ b) (fun b => S b ∨ b = h.next) (h.push (.row te cs false false)) := by
  have hag : ∀ b, S b → (S b ∨ b = h.next) ∧ (fun b => if b = h.next then (Loc.clean a.block a.off 0 (P.cellsOf te)) else ρ b) b = ρ b := fun b hb => by
    have := (hr.ids b hb).1; exact ⟨.inl hb, by simp only; rw [if_neg (by omega)]⟩
  have hold : ∀ i o, (h.push (.row te cs false false)).get i = some o → (i = h.next ∧ o = .row te cs false false) ∨ (i ≠ h.next ∧ h.get i = some o) := fun i o hg => by
    rw [Heap.get_push] at hg; by_cases hi : i = h.next
    · rw [if_pos hi] at hg; exact .inl ⟨hi, (Option.some.inj hg).symm⟩
    rw [if_neg hi] at hg; exact .inr ⟨hi, hg⟩
  refine ⟨⟨fun i o hg => ?_, fun i j oi oj hi hj oi1 oj1 he => ?_, fun i o hg ho => ?_, fun i o hg ho => ?_, fun b hb => ?_, Nat.succ_pos _, z_below (Below.refl _ _), Nat.zero_le _, Nat.le_refl _⟩, hag, After.push h _⟩
  · rcases hold i o hg with ⟨rfl, rfl⟩ | ⟨hi, hg'⟩
    · refine ⟨.inr rfl, ?_⟩; simp only [if_true]; refine ⟨rfl, fun i hi => ?_, fun hx => by cases hx⟩; obtain ⟨v, h1, h2⟩ := hc i hi; exact ⟨v, h1, h2.mono hag⟩
    obtain ⟨h1, h2⟩ := hr.objs i o hg'; refine ⟨.inl h1, ?_⟩; simp only [if_neg hi]; exact h2.mono hag
  · rcases hold i oi hi with ⟨rfl, rfl⟩ | ⟨hi', hgi⟩
    · cases oi1
    rcases hold j oj hj with ⟨rfl, rfl⟩ | ⟨hj', hgj⟩
    · cases oj1
    simp only [if_neg hi', if_neg hj'] at he; exact hr.inj i j oi oj hgi hgj oi1 oj1 he
  · rcases hold i o hg with ⟨rfl, rfl⟩ | ⟨hi, hg'⟩
    · cases ho
    simp only [if_neg hi]; exact hr.base i o hg' ho
  · rcases hold i o hg with ⟨rfl, rfl⟩ | ⟨hi, hg'⟩
    · simp only [if_true]; exact ha
    simp only [if_neg hi]; exact hr.ro i o hg' ho
  have hn : (h.push (.row te cs false false)).next = h.next + 1 := rfl; rw [hn]; rcases hb with hb | rfl
  · have := hr.ids b hb; exact ⟨by omega, this.2⟩
  have := hr.pos; exact ⟨by omega, by omega⟩
theorem trod_float {fuel : Nat} {t : TypeId} {cs : List Value} {x : DataW H × List MemPlace} {k : FloatKind} (ht : P.underlying t = some (.float k)) (h : DataW.trod enc P w base sp held fuel t cs = some x) : ∃ n, cs = [.float k n] ∧ (Lit.float k n).wf = true := by
  cases fuel with
  | zero => simp [DataW.trod] at h
  | succ n =>
    unfold DataW.trod at h; rw [ht] at h; split at h <;> simp_all
theorem mapM_all {α β : Type} (f : α → Option β) : ∀ (l : List α) (r : List β), l.mapM f = some r → l.length = r.length ∧ ∀ i (hi : i < l.length) (hr : i < r.length), f l[i] = some r[i]
  | [], r, h => by
    simp only [List.mapM_nil] at h; obtain rfl := Option.some.inj h
    exact ⟨rfl, fun i hi => absurd hi (by simp)⟩
  | a :: l, r, h => by
    rw [List.mapM_cons] at h
    cases hf : f a with
    | none => rw [hf] at h; cases h
    | some b =>
      rw [hf] at h
      cases hl : l.mapM f with
      | none => rw [hl] at h; cases h
      | some bs =>
        rw [hl] at h; obtain rfl := Option.some.inj h; obtain ⟨h1, h2⟩ := mapM_all f l bs hl; refine ⟨by simp [h1], fun i hi hr => ?_⟩
        cases i with
        | zero => exact hf
        | succ i => exact h2 i (by simpa using hi) (by simpa using hr)
theorem cells_some {a : Addr} {n : Nat} {cs : List Value} (h : w.cells? base a n = some cs) : cs.length = n ∧ ∀ i, i < n → w.cell? (a.add i) = some (cs.getD i undef) := by
  unfold World.cells? at h; split at h
  · obtain ⟨h1, h2⟩ := mapM_all _ _ _ h; rw [List.length_range] at h1; refine ⟨h1.symm, fun i hi => ?_⟩; have := h2 i (by simpa using hi) (by omega); rw [List.getElem_range] at this; rw [this]; simp [List.getD, show i < cs.length by omega]
  cases h
theorem cell_some {a : Addr} {v : Value} (h : w.cell? a = some v) : a.spot = none ∧ a.block < w.heap.size := by
  unfold World.cell? at h; split at h
  · rename_i c _ _ hb; refine ⟨?_, (Array.getElem?_eq_some_iff.1 hb).1⟩
    cases hs : a.spot with
    | none => rfl
    | some s => rw [hs] at h; cases h
  cases h
def Tells (P : Program) (w : World) (τ : Ty) (cs : List Value) : Prop := ∀ (ρ : Ren) (S : Nat → Prop) (h : Heap), HR P ρ S w.heap.size (wz w) h w →
  ∃ ρ' S' h' cs' x, Got P w ρ S h ρ' S' h' ∧ LR ρ' S' cs' cs ∧ RepC h' [] τ cs' x ∧ Wf τ x
theorem LR.one {ρ : Ren} {S : Nat → Prop} {v v' : Value} (h : VR ρ S v v') : LR ρ S [v] [v'] := LR.cons h LR.nil
theorem tells_elems {e : Ty} (a : Addr) (len : Nat) (hcs : ∀ i, i < len → ∃ cs, (∀ j, j < e.size → w.cell? (a.add (i * e.size + j)) = some (cs.getD j undef)) ∧ cs.length = e.size ∧ Tells P w e cs) :
    ∀ (ρ : Ren) (S : Nat → Prop) (h : Heap), HR P ρ S w.heap.size (wz w) h w → ∃ ρ' S' h' rs xs, Got P w ρ S h ρ' S' h' ∧ rs.length = len * e.size ∧ List.length xs = len ∧ (∀ i, i < len * e.size → ∃ v, w.cell? (a.add i) = some v ∧ VR ρ' S' (rs.getD i undef) v) ∧
      Elems h' [] e rs xs ∧ ∀ x ∈ (xs : List e.den), Wf e x := by
  induction len with
  | zero =>
    intro ρ S h hr
    exact ⟨ρ, S, h, [], [], Got.refl hr, by simp, rfl, fun i hi => by omega, Elems.nil, fun x hx => by cases hx⟩
  | succ n ih =>
    intro ρ S h hr; obtain ⟨ρ1, S1, h1, rs, xs, g1, l1, l2, c1, e1, w1⟩ := ih (fun i hi => hcs i (by omega)) ρ S h hr; obtain ⟨cs, k1, k2, k3⟩ := hcs n (by omega); obtain ⟨ρ2, S2, h2, cs', x, g2, lr, rc, wf⟩ := k3 ρ1 S1 h1 g1.hr; have hN : Goes h1 [] h2 [] := g2.aft.nx g1.ok; have hl : cs'.length = e.size := rc.len
    have hel : Elems h2 [] e cs' [x] := by
      refine ⟨by simpa using hl, fun i hi => ?_⟩
      obtain rfl : i = 0 := by simpa using hi
      simp only [Nat.zero_mul, List.drop_zero, List.getElem_cons_zero]; rw [List.take_of_length_le (by omega)]; exact rc
    refine ⟨ρ2, S2, h2, rs ++ cs', xs ++ [x], g1.trans g2, by rw [List.length_append, l1, hl, Nat.add_mul]; omega, by simp [l2], fun i hi => ?_, (e1.nx hN).append hel, fun y hy => ?_⟩
    · rw [Nat.add_mul, Nat.one_mul] at hi; by_cases hin : i < n * e.size
      · obtain ⟨v, hv1, hv2⟩ := c1 i hin; refine ⟨v, hv1, ?_⟩; rw [List.getD_eq_getElem?_getD, List.getElem?_append_left (by omega), ← List.getD_eq_getElem?_getD]; exact hv2.mono g2.agree
      have hj : i - n * e.size < e.size := by omega
      refine ⟨cs.getD (i - n * e.size) undef, ?_, ?_⟩
      · have := k1 (i - n * e.size) hj
        rwa [show n * e.size + (i - n * e.size) = i by omega] at this
      rw [List.getD_eq_getElem?_getD, List.getElem?_append_right (by omega), l1, ← List.getD_eq_getElem?_getD]; exact lr.getD _
    rcases List.mem_append.1 hy with hy | hy
    · exact w1 y hy
    obtain rfl := List.mem_singleton.1 hy; exact wf
theorem Addr.add_spot {a : Addr} (h : a.spot = none) (n : Nat) : a.add n = ⟨a.block, a.off + n, none⟩ := by
  obtain ⟨b, o, s⟩ := a; simp only at h; subst h; unfold Addr.add; by_cases hn : n = 0
  · subst hn; simp
  simp [hn]
theorem tells_fields {n : Nat} (ih : ∀ (t : TypeId) (τ : Ty), tyB P n t τ = true → ∀ (fuel : Nat) (cs : List Value) (x : DataW H × List MemPlace), DataW.trod enc P w base sp held fuel t cs = some x → Tells P w τ cs) :
    ∀ (fs : List Field) (off : Nat) (τ : Ty) (cs : List Value) (m : Nat), fsB P (tyB P n) fs off τ = true → cs.length = off + τ.size → (∀ f ∈ fs, ∃ x, DataW.trod enc P w base sp held m f.type ((cs.drop f.offset).take (P.cellsOf f.type)) = some x) → Tells P w τ (cs.drop off) := by
  have one : ∀ (f : Field) (off : Nat) (τ : Ty) (cs : List Value) (m : Nat), f.offset = off → P.cellsOf f.type = τ.size → tyB P n f.type τ = true → off + τ.size ≤ cs.length → (∃ x, DataW.trod enc P w base sp held m f.type ((cs.drop f.offset).take (P.cellsOf f.type)) = some x) → Tells P w τ ((cs.drop off).take τ.size) := by
    intro f off τ cs m h1 h2 h3 h4 ⟨x, hx⟩; rw [h1, h2] at hx; exact ih f.type τ h3 m _ x hx
  intro fs
  induction fs with
  | nil => intro off τ cs m hb; cases hb
  | cons f fs ihf =>
    intro off τ cs m hb hl hall; have hf := hall f List.mem_cons_self
    cases fs with
    | nil =>
      by_cases hs : ∃ a, τ = .pair a .unit
      · obtain ⟨a, rfl⟩ := hs; have hb' : (Nat.beq f.offset off && Nat.beq (P.cellsOf f.type) a.size && tyB P n f.type a) = true := hb; obtain ⟨hb', h3⟩ := band hb'; obtain ⟨h1, h2⟩ := band hb'
        have hs : (Ty.pair a .unit).size = a.size := by simp [Ty.size]
        rw [hs] at hl; have := one f off a cs m (nbeq h1) (nbeq h2) h3 (by omega) hf; intro ρ S h hr; obtain ⟨ρ', S', h', cs', x, g, lr, rc, wf⟩ := this ρ S h hr; have e1 : (cs.drop off).take a.size = cs.drop off := List.take_of_length_le (by rw [List.length_drop]; omega); rw [e1] at lr; have hcl := rc.len; exact ⟨ρ', S', h', cs', (x, ()), g, lr, ⟨by rw [List.take_of_length_le (by omega)]; exact rc, by rw [List.drop_eq_nil_of_le (by omega)]; rfl⟩, wf, trivial⟩
      have hb' : (Nat.beq f.offset off && Nat.beq (P.cellsOf f.type) τ.size && tyB P n f.type τ) = true := by
        cases τ with
        | pair a b =>
          cases b with
          | unit => exact absurd ⟨a, rfl⟩ hs
          | _ => exact hb
        | _ => exact hb
      obtain ⟨hb', h3⟩ := band hb'; obtain ⟨h1, h2⟩ := band hb'; have := one f off τ cs m (nbeq h1) (nbeq h2) h3 (by omega) hf; have e1 : (cs.drop off).take τ.size = cs.drop off := List.take_of_length_le (by rw [List.length_drop]; omega)
      rwa [e1] at this
    | cons g fs =>
      cases τ with
      | pair a b =>
        have hb' : (Nat.beq f.offset off && Nat.beq (P.cellsOf f.type) a.size && tyB P n f.type a && fsB P (tyB P n) (g :: fs) (off + a.size) b) = true := hb; obtain ⟨hb', h4⟩ := band hb'; obtain ⟨hb', h3⟩ := band hb'; obtain ⟨h1, h2⟩ := band hb'; have hs : (Ty.pair a b).size = a.size + b.size := rfl; rw [hs] at hl; have ha := one f off a cs m (nbeq h1) (nbeq h2) h3 (by omega) hf; have hrest := ihf (off + a.size) b cs m h4 (by omega) (fun g hg => hall g (List.mem_cons_of_mem _ hg)); intro ρ S h hr; obtain ⟨ρ1, S1, h1', cs1, x1, g1, lr1, rc1, wf1⟩ := ha ρ S h hr; obtain ⟨ρ2, S2, h2', cs2, x2, g2, lr2, rc2, wf2⟩ := hrest ρ1 S1 h1' g1.hr; have hN : Goes h1' [] h2' [] := g2.aft.nx g1.ok; have hc1 := rc1.len; refine ⟨ρ2, S2, h2', cs1 ++ cs2, (x1, x2), g1.trans g2, ?_, ⟨?_, ?_⟩, wf1, wf2⟩
        · have := (lr1.mono g2.agree).append lr2
          rwa [show (cs.drop off).take a.size ++ cs.drop (off + a.size) = cs.drop off from by rw [← List.drop_drop, List.take_append_drop]] at this
        · rw [List.take_left' hc1]; exact rc1.nx hN
        rw [List.drop_left' hc1]; exact rc2
      | _ => cases hb
theorem tells : ∀ (n : Nat) (t : TypeId) (τ : Ty), tyB P n t τ = true → ∀ (fuel : Nat) (cs : List Value) (x : DataW H × List MemPlace), DataW.trod enc P w base sp held fuel t cs = some x → Tells P w τ cs := by
  intro n
  induction n with
  | zero => intro t τ h; cases h
  | succ n ih =>
    intro t τ hb fuel cs x hx; unfold tyB at hb; split at hb
    · rename_i k k' hu; obtain rfl : k = k' := of_decide_eq_true hb; obtain ⟨m, rfl, _, hwf⟩ := DataW.trod_int hu hx; exact fun ρ S h hr => ⟨ρ, S, h, _, m, Got.refl hr, LR.one (.lit rfl), rfl, hwf⟩
    · rename_i hu; obtain ⟨b, rfl, _⟩ := DataW.trod_bool hu hx; exact fun ρ S h hr => ⟨ρ, S, h, _, b, Got.refl hr, LR.one (.lit rfl), rfl, trivial⟩
    · rename_i hu; obtain ⟨s, rfl, _, hs⟩ := DataW.trod_string hu hx; exact fun ρ S h hr => ⟨ρ, S, h, _, s, Got.refl hr, LR.one (.lit rfl), rfl, hs⟩
    · rename_i k k' hu; obtain rfl : k = k' := of_decide_eq_true hb; obtain ⟨m, rfl, hwf⟩ := trod_float hu hx; exact fun ρ S h hr => ⟨ρ, S, h, _, m, Got.refl hr, LR.one (.lit rfl), rfl, hwf⟩
    · rename_i te e hu; obtain ⟨hb, h3⟩ := band hb; obtain ⟨h1, h2⟩ := band hb; have hce := nbeq h1; have hpos := nblt h2; rcases DataW.trod_slice hu hx with ⟨rfl, _⟩ | ⟨a, len, cap, elems, rest, m, _, rfl, _, hba, hlc, hcap, hlen, hel, _⟩
      · exact fun ρ S h hr => ⟨ρ, S, h, [.slice none 0 0], [], Got.refl hr, LR.one (.lit rfl), ⟨_, rfl, .inl ⟨rfl, rfl⟩⟩, Nat.zero_le _, fun x hx => by cases hx⟩
      by_cases h0 : len = 0
      · subst h0; exact fun ρ S h hr => ⟨ρ, S, h, [.slice (some ⟨0, 0, none⟩) 0 2], [], Got.refl hr, LR.one (.slice 0 0 0 2 cap a (Nat.zero_le _) (fun h => by cases h) (fun _ => rfl) (fun h => absurd rfl h)), ⟨_, rfl, .inr ⟨0, 0, 2, rfl, .inl rfl⟩⟩, Nat.zero_le _, fun x hx => by cases hx⟩
      have hcs : ∀ i, i < len → ∃ cs, (∀ j, j < e.size → w.cell? (a.add (i * e.size + j)) = some (cs.getD j undef)) ∧ cs.length = e.size ∧ Tells P w e cs := by
        intro i hi; have := hel i hi; rw [List.getElem?_eq_getElem (by omega)] at this; rw [hce] at this
        cases hc : w.cells? base (a.add (i * e.size)) e.size with
        | none => rw [hc] at this; cases this
        | some cs =>
          rw [hc] at this; obtain ⟨k1, k2⟩ := cells_some hc; refine ⟨cs, fun j hj => ?_, k1, ih te e h3 m cs _ this⟩; rw [← k2 j hj]; congr 1; obtain ⟨b, o, s⟩ := a; unfold Addr.add; by_cases hx1 : i * e.size = 0
          · simp [hx1]
          by_cases hx2 : j = 0
          · subst hx2; simp [hx1]
          simp [hx1, hx2, Nat.add_assoc]
      have hfirst : a.spot = none ∧ a.block < w.heap.size := by
        obtain ⟨cs, k1, _⟩ := hcs 0 (by omega); have := k1 0 hpos; rw [Nat.zero_mul, Nat.zero_add] at this; have h4 := cell_some this; simpa [Addr.add] using h4
      intro ρ S h hr; obtain ⟨ρ1, S1, h1', rs, xs, g1, l1, l2, c1, e1, w1⟩ := tells_elems (P := P) a len hcs ρ S h hr
      have hrow := Got.row (te := te) g1.hr (cs := rs) (a := a) hfirst.2 (fun i hi => by
        have := c1 i (by omega)
        rwa [Addr.add_spot hfirst.1] at this)
      have hsl : SlV (h1'.push (.row te rs false false)) [] e (.slice (some ⟨h1'.next, 0, none⟩) (List.length xs) 2) xs := (e1.nx (hrow.aft.nx g1.ok)).slv (by rw [Heap.get_push, if_pos rfl]) (by simp); refine ⟨_, _, _, [.slice (some ⟨h1'.next, 0, none⟩) (List.length xs) 2], xs, g1.trans hrow, ?_, ⟨_, rfl, hsl⟩, by omega, w1⟩; rw [l2]; refine LR.one (.slice h1'.next 0 len 2 cap a hlc (fun h => by cases h) (fun h5 => by have := g1.hr.pos; omega) fun _ => ⟨.inr rfl, ?_, fun h => by cases h⟩); simp only [if_true, Loc.at, Nat.add_zero]; obtain ⟨b, o, s⟩ := a; simp only at hfirst; rw [hfirst.1]
    · rename_i fs a b hu; obtain ⟨h1, h2⟩ := band hb; obtain ⟨xs, m, _, _, hl, hsz, hall⟩ := DataW.trod_struct hu hx
      have hcl : cs.length = (Ty.pair a b).size := by rw [hl, nbeq h1]
      have := tells_fields ih fs.toList 0 (.pair a b) cs m h2 (by omega) (fun f hf => by
        obtain ⟨i, hi, rfl⟩ := List.getElem_of_mem hf
        have hi' : i < fs.size := by simpa using hi
        have := hall i fs[i] (by simp [hi']); rw [List.getElem?_eq_getElem (by omega)] at this
        exact ⟨_, by simpa using this⟩)
      simpa using this
    · rename_i m e a b hu; obtain ⟨h1, h2⟩ := band hb; obtain ⟨xs, m', _, _, hl, hsz, hall⟩ := DataW.trod_array hu hx
      have hcl : cs.length = (Ty.pair a b).size := by rw [hl, nbeq h1]
      have := tells_fields ih (arrFs P m e) 0 (.pair a b) cs m' h2 (by omega) (fun f hf => by
        obtain ⟨i, hi, rfl⟩ := List.mem_map.1 hf; have hi' : i < m := List.mem_range.1 hi; have := hall i hi'; rw [List.getElem?_eq_getElem (by omega)] at this
        exact ⟨_, this⟩)
      simpa using this
    cases hb
theorem okWide_agg {n : Nat} {r : Reach} {b0 : Nat} {t : TypeId} {τ : Ty} {v : Value} (hb : tyB P n t τ = true) (hval : Value.okWide P w r b0 t v) : isAggV v = τ.agg := by
  cases n with
  | zero => cases hb
  | succ n =>
    unfold tyB at hb; unfold Value.okWide at hval; split at hb
    · rename_i k k' hu; rw [hu] at hval; simp only [Cell.okWide, hu, Cell.ok] at hval; cases v <;> simp_all [isAggV, Ty.agg]
    · rename_i hu; rw [hu] at hval; simp only [Cell.okWide, hu, Cell.ok] at hval; cases v <;> simp_all [isAggV, Ty.agg]
    · rename_i hu; rw [hu] at hval; simp only [Cell.okWide, hu, Cell.ok] at hval; cases v <;> simp_all [isAggV, Ty.agg]
    · rename_i k k' hu; rw [hu] at hval; simp only [Cell.okWide, hu, Cell.ok] at hval; cases v <;> simp_all [isAggV, Ty.agg]
    · rename_i te e hu; rw [hu] at hval; simp only [Cell.okWide, hu, Cell.ok] at hval; cases v <;> simp_all [isAggV, Ty.agg]
    · rename_i fs a b hu; rw [hu] at hval; obtain ⟨cs, rfl, _⟩ := hval; rfl
    · rename_i m e a b hu; rw [hu] at hval; obtain ⟨cs, rfl, _⟩ := hval; rfl
    cases hb
theorem tell_arg {ρ : Ren} {S : Nat → Prop} {h : Heap} (hr : HR P ρ S w.heap.size (wz w) h w) {n : Nat} {r : Reach} {b0 : Nat} {t : TypeId} {τ : Ty} {v : Value} {d : DataW H} {ps : List MemPlace} (hb : tyB P n t τ = true) (hval : Value.okWide P w r b0 t v) (hd : DataW.Trod enc P w base sp held t v d ps) :
    ∃ ρ' S' h' v' x, Got P w ρ S h ρ' S' h' ∧ VR ρ' S' v' v ∧ RepV h' [] τ v' x ∧ Wf τ x := by
  have hag := okWide_agg hb hval; obtain ⟨fuel, hf⟩ := hd; obtain ⟨ρ', S', h', cs', x, g, lr, rc, wf⟩ := tells n t τ hb fuel _ _ hf ρ S h hr
  cases hτ : τ.agg with
  | true =>
    rw [hτ] at hag
    cases v with
    | agg cs =>
      refine ⟨ρ', S', h', .agg cs'.toArray, x, g, VR.agg' (by simpa [Value.cells] using lr), ⟨hτ.symm, by simpa [Value.cells] using rc⟩, wf⟩
    | _ => cases hag
  | false =>
    rw [hτ] at hag; rw [cells_one hag] at lr; obtain ⟨u, rfl, hu⟩ := rc.one hτ; have := lr.2 0 (by simp); exact ⟨ρ', S', h', u, x, g, by simpa using this, hu, wf⟩
theorem hr_empty (hw : 0 ≤ w.heap.size) : HR P (fun _ => Loc.clean 0 0 0 0) (fun _ => False) w.heap.size (wz w) ⟨1, 1, []⟩ w where
  objs := fun i o h => by cases h
  inj := fun i j oi oj h => by cases h
  base := fun i o h => by cases h
  ro := fun i o h => by cases h
  ids := fun b hb => hb.elim
  pos := Nat.one_pos
  below := z_below (Below.refl _ _)
  drawn := Nat.zero_le _
  size := Nat.le_refl _
section
open Go.WideElems Go.ChangeShapes
theorem trodAll_below (hl : laidOutB P = true) {W W' : World} (hb : Below W.heap.size W W') : ∀ {ts : List TypeId} {vs : List Value} {ds : List (DataW H)} {ps : List MemPlace}, (ts.all fun t => P.readableRec t && decide (t < P.types.size)) = true →
    DataW.TrodAll enc P W 0 (fun _ => true) true ts vs ds ps → (∀ x ∈ ps, x.block < W.heap.size) → DataW.TrodAll enc P W' 0 (fun b => decide (b < W.heap.size)) true ts vs ds ps
  | [], [], [], _, _, h, _ => h
  | [], _ :: _, _, _, _, h, _ => h.elim
  | [], [], _ :: _, _, _, h, _ => h.elim
  | _ :: _, [], _, _, _, h, _ => h.elim
  | _ :: _, _ :: _, [], _, _, h, _ => h.elim
  | t :: ts, v :: vs, d :: ds, ps, ha, h, hp => by
    obtain ⟨p, q, h1, h2, rfl⟩ := h; simp only [List.all_cons, Bool.and_eq_true, decide_eq_true_eq] at ha; exact ⟨p, q, Go.RowKit.Below.trod hl ha.1.1 ha.1.2 h1 hb (fun x hx => hp x (List.mem_append_left _ hx)), trodAll_below hl hb (by simpa using ha.2) h2 (fun x hx => hp x (List.mem_append_right _ hx)), rfl⟩
theorem law_post {f : Func} {s : ChangeSpec} {tb : TypeId} (hl : laidOutB P = true) (hrd : (f.params.toList.all fun t => P.readableRec t && decide (t < P.types.size)) = true) (hres : f.resultTypes = #[tb]) (htb : P.underlying tb = some .bool) (hvars : s.vars = []) {W W' : World} {args : Array Value} {ds gs : List (DataW H)}
    {before : List MemPlace} (hW : DataW.Whole enc P f.params.toList s.vars false W args.toList ds gs before) (hr : (s.fn H (ds ++ gs)).results = [.lit (.bool true)]) (ha : (s.fn H (ds ++ gs)).args = ds) (hv : (s.fn H (ds ++ gs)).vars = []) (hb : Below W.heap.size W W') :
    s.post enc P f false true false false W args (.bool true) W' := by
  have hlt := hW.lt; have hW' := hW; obtain ⟨p, q, hA, hV, rfl, _, _⟩ := hW; rw [hvars] at hV; have hV' : gs = [] ∧ q = [] := trodVars_none hV; obtain ⟨rfl, rfl⟩ := hV'; refine ⟨ds, [], p ++ [], [], p, [], hW', ?_, ?_, ?_, hb.frame _, fun h => by cases h⟩
  · rw [hr, hres]; exact trodAll_mk1 (Go.RowKit.shut_bool htb _)
  · rw [ha]; exact trodAll_below hl hb hrd hA fun x hx => hlt x (List.mem_append_left _ hx)
  rw [hvars, hv]; exact rfl
end
theorem law_calls2 (hP : ProgOk P) {orc : FuncId → List Value → Heap → Option (Value × Heap)} {W : World} (horc : CallSound P W.heap.size (wz W) orc) {ρz : Ren} {Sz : Nat → Prop} {hz : Heap} (hrz : HR P ρz Sz W.heap.size (wz W) hz W) (hGz : GT hz []) {f : FuncId} (hen : Enters P f) {fn : Func} {n : Nat} {t0 t1 : TypeId} {τ0 τ1 : Ty} (hp : fn.params = #[t0, t1]) (hb0 : tyB P n t0 τ0 = true) (hb1 : tyB P n t1 τ1 = true)
    (hE : ∀ (h : Heap) (v0 v1 : Value) (x0 : τ0.den) (x1 : τ1.den), HOkG h → RepV h [] τ0 v0 x0 → RepV h [] τ1 v1 x1 → Wf τ0 x0 → Wf τ1 x1 → EvF P orc f [v0, v1] h fun r h' => r = .bool true ∧ h' = h)
    {args : Array Value} {ds : List (DataW H)} {ps : List MemPlace} (hval : ∀ (j : Nat) t v, fn.params[j]? = some t → args[j]? = some v → Value.okWide P W .any base t v) (hA : DataW.TrodAll enc P W 0 sp held fn.params.toList args.toList ds ps) :
    Calls P f args W fun | .returned v', w' => v' = .bool true ∧ Below W.heap.size W w' | _, _ => False := by
  rw [hp] at hA hval; obtain ⟨v0, vs0, d0, ds0, p0, q0, ha, rfl, rfl, k0, r0⟩ := Go.ChangeShapes.trodAll_cons hA; obtain ⟨v1, vs1, d1, ds1, p1, q1, rfl, rfl, rfl, k1, r1⟩ := Go.ChangeShapes.trodAll_cons r0; obtain ⟨rfl, rfl, rfl⟩ := Go.ChangeShapes.trodAll_nil r1
  obtain rfl : args = #[v0, v1] := by cases args; simp_all
  obtain ⟨ρ0, S0, h0, u0, x0, g0, c0, e0, w0⟩ := tell_arg hrz hb0 (hval 0 t0 v0 rfl rfl) k0; obtain ⟨ρ1, S1, h1, u1, x1, g1, c1, e1, w1⟩ := tell_arg g0.hr hb1 (hval 1 t1 v1 rfl rfl) k1; have hR := hE h1 u0 u1 x0 x1 ⟨g1.ok, (hGz.nx (g0.aft.nx (hok_of hrz))).nx (g1.aft.nx g0.ok)⟩ (e0.nx (g1.aft.nx g0.ok)) e1 w0 w1; refine (fs_open (args' := [v0, v1]) hP horc hen g1.hr (LR.cons (c0.mono g1.agree) (LR.one c1)) (EvF.mono hR fun v h' h => h.1) rfl).mono fun e w' he => ?_
  cases e with
  | returned v => exact ⟨he.1, below_z he.2⟩
  | panicked c => exact he
  | outgrown => exact he
end Go.Fs
namespace Go.Proofs
open Go.Fs Ieee
set_option maxHeartbeats 2000000
theorem vt32 : ValT Tryz.prog 32 y32 := valT_of (by kernel_rfl)
theorem zt32 : ZerT Tryz.prog 32 y32 := zerT_of (z := .agg #[.string ByteArray.empty, .int .i64 0, .slice none 0 0, .slice none 0 0]) (by kernel_rfl) rfl rfl
theorem bt32 : BldT Tryz.prog 32 y32 [(0, 1), (1, 1), (2, 1), (3, 1)] := bldT_of zt32 rfl (by kernel_rfl)
theorem lLevels_ok {l : List Nat} (hl : l.length < 1000000) : VF Tryz.prog OA 40 [.v y22 l] (.v y22 l) := by
  refine VF.enter Tryz.func40 rfl (fun _ _ => rfl) rfl ?_; show VC _ _ _ _ _ [(0, .v y22 l)] [] _; refine VC.seq (VC.text ?_); refine VO.c (.assign rfl) ?_; refine VO.go (VC.seq (VC.text ?_)); refine VO.cell (.lit0 el22) ?_; intro ww1; refine VO.c (.move rfl) ?_; refine VO.app rfl rfl el22 el22 (by simp; omega) ?_; intro ww2; refine VO.c (.assign rfl) (VO.go ?_); refine VC.ret ?_; exact VEnd.one rfl (evC (.row m0)) (pvE (by rfl))
theorem lRecord_ok {r : ByteArray × Int × (List Nat) × (List (Int × Int))} (hl : r.2.2.1.length < 1000000) (hg : r.2.2.2.length < 1000000) : VF Tryz.prog OA 9 [.v y25 r] (.v y32 r) := by
  refine VF.enter Tryz.func9 rfl (fun _ _ => rfl) rfl ?_; show VC _ _ _ _ _ [(0, .v y25 r)] [] _; refine VC.seq (VC.text ?_); refine VO.new (.box) ?_; refine VO.cell (.alloc zt32) ?_; intro ww3; refine VO.go (VC.seq (VC.drawn ?_)); refine VD.c (.fa (.l .o)) ?_; refine VD.r [] (.ld vt9) (.inl rfl) ?_; refine VD.c (.fa (.r (.l .o))) ?_; refine VD.r [] (.ld vt3) (.inl rfl) ?_; refine VD.c (.fa (.r (.r (.l .o)))) ?_; refine VD.r [] (.ld vt22) (.inl rfl) ?_; refine VD.nw [] ?_; refine VD.call rfl rfl (VF.call (lLevels_ok (by first | assumption | omega | simp))) ?_; refine VD.c (.fa (.r (.r (.r .o)))) ?_; refine VD.r [] (.ld vt23) (.inl rfl) ?_; refine VD.call rfl rfl (VF.call (lSpans_ok (by first | assumption | omega | simp))) ?_; refine VD.c (.build (r.1, r.2.1, r.2.2.1, r.2.2.2) bt32) ?_; refine VD.mk0 (MakeV.setF (k := 0) vt32 .v (Nat.le_of_ble_eq_true rfl) (.inr ⟨rfl, rfl⟩) rfl rfl) ?_; rintro _ _ tl4 ⟨rfl, rfl⟩; refine VD.go ?_; refine VC.ret ?_; exact VEnd.one rfl (.cell (x := (r.1, r.2.1, r.2.2.1, r.2.2.2)) rfl m0 vt32 .refl) (pvE (by rfl))
def shortE (r : Rec1) : Bool := decide ((r.1.size : Int) ≤ 60) && (decide ((r.2.2.1.length : Int) ≤ 40) || decide ((r.2.2.1.length : Int) = 4097)) && (decide ((r.2.2.2.length : Int) ≤ 8) || decide ((r.2.2.2.length : Int) = 2049))
theorem shortE_t {r : Rec1} (h : shortE r = true) : r.1.size ≤ 60 ∧ (r.2.2.1.length ≤ 40 ∨ r.2.2.1.length = 4097) ∧ (r.2.2.2.length ≤ 8 ∨ r.2.2.2.length = 2049) := by
  unfold shortE at h; simp only [Bool.and_eq_true, Bool.or_eq_true, decide_eq_true_eq] at h; omega
theorem rShort_ok {r : ByteArray × Int × (List Nat) × (List (Int × Int))} : VF Tryz.prog OA 7 [.v y25 r] (B (shortE r)) := by
  refine VF.enter Tryz.func7 rfl (fun _ _ => rfl) rfl ?_; show VC _ _ _ _ _ [(0, .v y25 r)] [] _; refine VC.seq (VC.text ?_); refine VO.new (.box) ?_; refine VO.c (.assign rfl) ?_; refine VO.go (VC.seq (VC.text ?_)); refine VO.c (.fa (.l .o)) ?_; refine VO.r (.ld vt9) ?_; refine VO.r (.lenS) ?_; refine VO.c (.leq) (VO.c (.move rfl) ?_); refine VO.splitD (x := 7) rfl (fun g1_4 => ?_) (fun g1_4 => ?_)
  · refine VO.c (.fa (.r (.r (.l .o)))) ?_; refine VO.r (.ld vt22) ?_; refine VO.r (.len el22) ?_; refine VO.c (.leq) (VO.c (.move rfl) ?_); refine VO.splitD (x := 12) rfl (fun g1_9 => ?_) (fun g1_9 => ?_)
    · refine VO.skip (VO.skip (VO.skip (VO.skip ?_))); refine VO.c (.pickT rfl rfl) (VO.c (.pickT rfl rfl) (VO.c (.move rfl) (VO.c (.fa (.r (.r (.r .o)))) ?_))); refine VO.r (.ld vt23) ?_; refine VO.call rfl rfl (VF.call (rShortSp_ok )) ?_; refine VO.c (.pickT rfl rfl) (VO.c (.assign rfl) (VO.go ?_)); refine VC.ret ?_; exact VEnd.one rfl evT (pvE (by simp_all [shortE] <;> omega))
    refine VO.c (.fa (.r (.r (.l .o)))) ?_; refine VO.r (.ld vt22) ?_; refine VO.r (.len el22) ?_; refine VO.c (.eql) (VO.c (.pickF rfl rfl) (VO.c (.pickT rfl rfl) (VO.c (.move rfl) ?_))); refine VO.splitD (x := 19) rfl (fun g1_16 => ?_) (fun g1_16 => ?_)
    · refine VO.c (.fa (.r (.r (.r .o)))) ?_; refine VO.r (.ld vt23) ?_; refine VO.call rfl rfl (VF.call (rShortSp_ok )) ?_; refine VO.c (.pickT rfl rfl) (VO.c (.assign rfl) (VO.go ?_)); refine VC.ret ?_; exact VEnd.one rfl evT (pvE (by simp_all [shortE] <;> omega))
    refine VO.skip (VO.skip (VO.skip (VO.c (.pickF rfl rfl) ?_))); refine VO.c (.assign rfl) (VO.go ?_); refine VC.ret ?_; exact VEnd.one rfl evT (pvE (by simp_all [shortE] <;> omega))
  refine VO.skip (VO.skip (VO.skip (VO.skip ?_))); refine VO.skip (VO.skip (VO.skip (VO.skip ?_))); refine VO.skip (VO.skip (VO.c (.pickF rfl rfl) (VO.c (.move rfl) ?_))); refine VO.skip (VO.skip (VO.skip (VO.c (.pickF rfl rfl) ?_))); refine VO.c (.assign rfl) (VO.go ?_); refine VC.ret ?_; exact VEnd.one rfl evT (pvE (by simp_all [shortE] <;> omega))
end Go.Proofs
namespace Go.Fs
section
variable {P : Program} {fl : VL} {σ : Sto} {T T' : TypeId} {x y : Operand} {p q : Int}
theorem CalmV.mulU (hx : evV fl x = some (.v (.int .u64) p)) (hy : evV fl y = some (.v (.int .u64) q)) (h0 : 0 ≤ p * q ∧ p * q < 18446744073709551616) : CalmV P fl σ (.binOp .mul T x y T') (.v (.int .u64) (p * q)) :=
  .binI hx hy (u := .int .u64 (IntKind.u64.wrap (p * q))) rfl fun h S => by rw [wrapU64 h0]; exact RepV.ofInt _ _
theorem CalmV.addU (hx : evV fl x = some (.v (.int .u64) p)) (hy : evV fl y = some (.v (.int .u64) q)) (h0 : 0 ≤ p + q ∧ p + q < 18446744073709551616) : CalmV P fl σ (.binOp .add T x y T') (.v (.int .u64) (p + q)) :=
  .binI hx hy (u := .int .u64 (IntKind.u64.wrap (p + q))) rfl fun h S => by rw [wrapU64 h0]; exact RepV.ofInt _ _
theorem and_mask {p : Int} (h : 0 ≤ p ∧ p < 4294967296) : ((BitVec.ofInt 64 p &&& BitVec.ofInt 64 4294967295).toNat : Int) = p := by
  obtain ⟨n, rfl⟩ := Int.eq_ofNat_of_zero_le h.1
  have hn : n < 2 ^ 32 := by have := h.2; omega
  have e1 : (BitVec.ofInt 64 (n : Int)).toNat = n := by
    rw [BitVec.toNat_ofInt]; omega
  have e2 : (BitVec.ofInt 64 4294967295).toNat = 2 ^ 32 - 1 := by decide
  rw [BitVec.toNat_and, e1, e2, Nat.and_two_pow_sub_one_eq_mod, Nat.mod_eq_of_lt hn]
theorem CalmV.andM (hx : evV fl x = some (.v (.int .u64) p)) (hy : evV fl y = some (.v (.int .u64) 4294967295)) (h0 : 0 ≤ p ∧ p < 4294967296) : CalmV P fl σ (.binOp .and T x y T') (.v (.int .u64) p) :=
  .binI hx hy (u := .int .u64 (IntKind.u64.wrap ((BitVec.ofInt 64 p &&& BitVec.ofInt 64 4294967295).toNat : Int))) rfl fun h S => by rw [and_mask h0, wrapU64 ⟨h0.1, by omega⟩]; exact RepV.ofInt _ _
theorem fdiv0 {p : Int} (h : 0 ≤ p ∧ p < 4294967296) : p.fdiv (2 ^ (32 : Int).toNat) = 0 := by
  have e : (2 ^ (32 : Int).toNat : Int) = 4294967296 := by decide
  rw [e, Int.fdiv_eq_ediv_of_nonneg _ (by decide)]; omega
end
variable {P : Program} {orc : FuncId → List Value → Heap → Option (Value × Heap)} {h h' h0 h1 h2 : Heap} {S S' S0 B G : List Nat} {σ σ' σr : Sto} {t t' : Tr} {ms : List Nat} {fl : VL} {ops : Array Oper} {n i mem : Nat} {l : List Oper} {K : VL → Sto → Prop}
  {d : Tmp} {ty : TypeId} {pos : String} {after : Array Edge} {op : Op} {v pv : PV} {g : Option (Nat × Bool)} {x y z : Operand} {T T' e : TypeId} {τ τ' : Ty} {w : Value}
theorem Elems.takeE {rs : List Value} {xs : List τ.den} {k : Nat} (he : Elems h S τ rs xs) (hk : k ≤ xs.length) : Elems h S τ (rs.take (k * τ.size)) (xs.take k) := by
  have hrl := he.1; have hk2 : k * τ.size ≤ xs.length * τ.size := Nat.mul_le_mul_right _ hk; refine ⟨by rw [List.length_take, List.length_take, Nat.min_eq_left hk, Nat.min_eq_left (by omega)], fun i hi => ?_⟩
  have hi1 : i < k := by rw [List.length_take] at hi; omega
  have h2 : (i + 1) * τ.size ≤ k * τ.size := Nat.mul_le_mul_right _ hi1; rw [Nat.add_mul, Nat.one_mul] at h2; rw [List.drop_take, List.take_take, Nat.min_eq_left (by omega), List.getElem_take]; exact he.2 i (by omega)
theorem Elems.dropE {rs : List Value} {xs : List τ.den} {k : Nat} (he : Elems h S τ rs xs) : Elems h S τ (rs.drop (k * τ.size)) (xs.drop k) := by
  have hrl := he.1; refine ⟨by rw [List.length_drop, List.length_drop, hrl, Nat.sub_mul], fun i hi => ?_⟩; rw [List.length_drop] at hi; rw [List.drop_drop, List.getElem_drop, ← Nat.add_mul]; exact he.2 (k + i) (by omega)
theorem Elems.spliceE {rs vs : List Value} {xs ys : List τ.den} {k : Nat} (he : Elems h S τ rs xs) (hv : Elems h S τ vs ys) (hk : k + ys.length ≤ xs.length) : Elems h S τ (splice rs (k * τ.size) vs) (xs.take k ++ ys ++ xs.drop (k + ys.length)) := by
  unfold splice; rw [hv.1, ← Nat.add_mul]; exact ((he.takeE (by omega)).append hv).append he.dropE
theorem made_splice {rs vs : List Value} {xs ys : List τ.den} {k b : Nat} {m : Bool} (L : Lc S0 h ((w, .row e τ xs) :: σ) t fl) (h3 : w = .slice (some ⟨b, 0, none⟩) xs.length 0) (h4 : b ∈ own ((w, Cell.row e τ xs) :: σ)) (h5 : h.get b = some (.row e rs true m)) (h6 : Elems h (own ((w, Cell.row e τ xs) :: σ) ++ S0) τ rs xs) (hv : Elems h (own ((w, Cell.row e τ xs) :: σ) ++ S0) τ vs ys) (hk : k + ys.length ≤ xs.length) :
    Made S0 h (h.set b (.row e (splice rs (k * τ.size) vs) true m)) ((w, .row e τ xs) :: σ) ((w, .row e τ (xs.take k ++ ys ++ xs.drop (k + ys.length))) :: σ) := by
  have hbk : blk w = [b] := by rw [h3]; rfl
  refine Made.head L (Aft.set h5 (by rw [hbk]; simp)) (fun b hb => .inl hb) (by rw [hbk]; simp) fun hN => ?_; refine .inr ⟨b, _, m, ?_, ?_, by rw [Heap.get_set h5, if_pos rfl], (h6.nx hN).spliceE (hv.nx hN) hk⟩
  · rw [List.length_append, List.length_append, List.length_take, List.length_drop, Nat.min_eq_left (by omega), show k + ys.length + (xs.length - (k + ys.length)) = xs.length by omega]; exact h3
  rw [own_cons]; exact List.mem_append_left _ (List.mem_append_left _ (by rw [hbk]; simp))
theorem MakeV.copyP {xs ys : List τ.den} (hT : ElT P T e τ) (hl : ys.length ≤ xs.length) (hp : 0 < ys.length) (hx : evV fl x = some (.raw w)) (hy : evV fl y = some (.v (.sl τ) ys)) :
    MakeV P fl ((w, .row e τ xs) :: σ) (.call { callee := .builtin .copy, args := #[x, y], argTypes := #[T, T'] }) fun v σ' => v = .v (.int .i64) ((ys.length : Nat) : Int) ∧ σ' = (w, .row e τ (xs.take 0 ++ ys ++ xs.drop (0 + ys.length))) :: σ :=
  ⟨rfl, fun S0 h t L => by
    have h1 : evalO t x = w := evV_ok L.slots hx; have hu := (evV_ok L.slots hy : RepV h _ (.sl τ) (evalO t y) ys).sl; obtain ⟨i, z, hi1, hi2, hi3, hi3', hi4, hi5, hi6⟩ := hT.sl.info; obtain ⟨c1, vs, c2, c3⟩ := hu.cellsOf hT.sl.pos; have hmin : Nat.min ys.length xs.length = ys.length := Nat.min_eq_left hl; have hvl : vs.length = ys.length * τ.size := c3.1; have hvo : vs.all oneCell = true := Elems.allOne _ _ c3; rcases L.cells _ List.mem_cons_self with ⟨_, rfl⟩ | ⟨b, rs, m, h3, h4, h5, h6⟩
    · have hl0 : ys.length ≤ 0 := hl; omega
    have hw : w = _ := h3; have hrl := h6.1; have hM := made_splice (k := 0) L h3 (by rw [own_cons]; exact List.mem_append_left _ (by rw [hw]; exact List.mem_cons_self)) h5 h6 c3 (by omega); rw [Nat.zero_mul] at hM; refine ⟨.int .i64 ((ys.length : Nat) : Int), h.set b (.row e (splice rs 0 vs) true m), .v (.int .i64) ((ys.length : Nat) : Int), _, ⟨rfl, rfl⟩, hM, RepV.ofInt _ _, fun _ _ _ _ _ => ?_⟩; show (fsCopy P #[T, T'] (evalO t x) (evalO t y) h) = _; have e2 : Nat.beq (ys.length * τ.size) 0 = false := beq_no (Nat.ne_of_gt (Nat.mul_pos hp hT.sl.pos))
    have e3 : Nat.ble (0 + ys.length * τ.size) rs.length = true := by rw [Nat.ble_eq, hrl, Nat.zero_add]; exact Nat.mul_le_mul_right _ hl
    have e4 : Nat.beq vs.length (ys.length * τ.size) = true := by rw [hvl]; exact Nat.beq_refl _
    rw [h1, hw]; simp only [fsCopy, List.getElem?_toArray, List.getElem?_cons_zero, hT.sl.sl, hi1, c1, show ∀ q m, lenV (.slice q xs.length m) = some xs.length from fun _ _ => rfl, hi2]
    simp only [show Nat.min ys.length xs.length = ys.length from hmin, c2, e4, hvo, Bool.and_self, cond_true, e2, cond_false, h5, e3]⟩
theorem VO.copyP {xs ys : List τ.den} (hx : evV fl x = some (.raw w)) (hy : evV fl y = some (.v (.sl τ) ys)) (hT : ElT P T e τ) (hl : ys.length ≤ xs.length) (hp : 0 < ys.length) (hk : VO P orc ops n l ((d, .v (.int .i64) ((ys.length : Nat) : Int)) :: fl) ((w, .row e τ (xs.take 0 ++ ys ++ xs.drop (0 + ys.length))) :: σ) K) (hw : wantV ops fl g = some true := by rfl) (hn : (Nat.blt d n && Nat.ble n 4000) = true := by rfl) :
    VO P orc ops n (⟨some d, .call { callee := .builtin .copy, args := #[x, y], argTypes := #[T, T'] }, ty, pos, after, g⟩ :: l) fl ((w, .row e τ xs) :: σ) K :=
  VO.mk (MakeV.copyP hT hl hp hx hy) (by rintro _ _ ⟨rfl, rfl⟩; exact hk) hw hn
def rowHead (w : Value) (k : Nat) : Value :=
  match w with
  | .slice (some ⟨b, o, none⟩) _ mk => .slice (some ⟨b, o, none⟩) k mk
  | u => u
theorem ReadV.headO {xs : List τ.den} {k : Nat} {hi : Operand} (hx : evV fl x = some (.raw w)) (hl : evV fl hi = some (.v (.int .i64) ((k : Nat) : Int))) (hm : (w, Cell.row e τ xs) ∈ σ) (hT : ElT P T e τ) (h0 : 0 < xs.length) (hk : k ≤ xs.length) : ReadV P fl σ (.slice T x none (some hi) none) (.raw (rowHead w k)) :=
  ⟨rfl, fun h S t hs hc => by
    have h1 : evalO t x = w := hs x (by simp [Op.operands]) _ hx; have h2 := RepV.int (hs hi (by simp [Op.operands]) _ hl); rcases hc _ hm with ⟨_, rfl⟩ | ⟨b, rs, m, h3, h4, h5, h6⟩
    · simp at h0
    have hw : w = _ := h3; refine ⟨_, rfl, fun H hH _ _ _ _ _ => ?_⟩; show (fsSlice P T (evalO t x) none (some (evalO t hi)) none H).map _ = _; obtain ⟨i, z, hi1, hi2, _⟩ := hT.sl.info
    have e1 : Nat.ble k xs.length = true := by rw [Nat.ble_eq]; exact hk
    have e2 : Nat.ble 0 k = true := by rw [Nat.ble_eq]; exact Nat.zero_le _
    have h0' : (0 : Int) ≤ (k : Nat) := Int.natCast_nonneg _; rw [h1, h2, hw]; simp [fsSlice, hT.sl.sl, hi1, boundOf, if_pos h0', Int.toNat_natCast, e1, e2, markOf, cutAt, rowHead]
    rfl⟩
theorem MakeV.copyS {xs : List τ.den} {k : Nat} (hT : ElT P T e τ) (hk : k < xs.length) (h0 : 0 < k) (hx : evV fl x = some (.raw (rowFrom w τ.size k))) (hy : evV fl y = some (.raw (rowHead w k))) :
    MakeV P fl ((w, .row e τ xs) :: σ) (.call { callee := .builtin .copy, args := #[x, y], argTypes := #[T, T'] }) fun v σ' => v = .v (.int .i64) ((min k (xs.length - k) : Nat) : Int) ∧ σ' = (w, .row e τ (xs.take k ++ xs.take (min k (xs.length - k)) ++ xs.drop (k + (xs.take (min k (xs.length - k))).length))) :: σ :=
  ⟨rfl, fun S0 h t L => by
    have h1 : evalO t x = rowFrom w τ.size k := evV_ok L.slots hx; have h2 : evalO t y = rowHead w k := evV_ok L.slots hy; obtain ⟨i, z, hi1, hi2, hi3, hi3', hi4, hi5, hi6⟩ := hT.sl.info; rcases L.cells _ List.mem_cons_self with ⟨_, rfl⟩ | ⟨b, rs, m, h3, h4, h5, h6⟩
    · simp at hk
    have hw : w = _ := h3; have hrl := h6.1
    have hm1 : min k (xs.length - k) ≤ xs.length := by omega
    have hyl : (xs.take (min k (xs.length - k))).length = min k (xs.length - k) := by rw [List.length_take]; omega
    have hv := h6.takeE hm1; have hM := made_splice (k := k) L h3 (by rw [own_cons]; exact List.mem_append_left _ (by rw [hw]; exact List.mem_cons_self)) h5 h6 hv (by rw [hyl]; omega); refine ⟨.int .i64 ((min k (xs.length - k) : Nat) : Int), h.set b (.row e (splice rs (k * τ.size) (rs.take (min k (xs.length - k) * τ.size))) true m), .v (.int .i64) ((min k (xs.length - k) : Nat) : Int), _, ⟨rfl, rfl⟩, hM, RepV.ofInt _ _, fun _ _ _ _ _ => ?_⟩; show (fsCopy P #[T, T'] (evalO t x) (evalO t y) h) = _
    have hpos : 0 < min k (xs.length - k) := by omega
    have e2 : Nat.beq (min k (xs.length - k) * τ.size) 0 = false := beq_no (Nat.ne_of_gt (Nat.mul_pos hpos hT.sl.pos))
    have e3 : Nat.ble (0 + min k (xs.length - k) * τ.size) rs.length = true := by rw [Nat.ble_eq, hrl, Nat.zero_add]; exact Nat.mul_le_mul_right _ hm1
    have e4 : Nat.beq (rs.take (min k (xs.length - k) * τ.size)).length (min k (xs.length - k) * τ.size) = true := by rw [hv.1, hyl]; exact Nat.beq_refl _
    have e5 : Nat.ble (min k (xs.length - k)) k = true := by rw [Nat.ble_eq]; omega
    have e6 : Nat.ble (0 + k * τ.size + min k (xs.length - k) * τ.size) rs.length = true := by rw [Nat.ble_eq, hrl, Nat.zero_add, ← Nat.add_mul]; exact Nat.mul_le_mul_right _ (by omega)
    have e7 : (rs.take (min k (xs.length - k) * τ.size)).all oneCell = true := Elems.allOne _ _ hv; have hmin : Nat.min k (xs.length - k) = min k (xs.length - k) := rfl; rw [h1, h2, hw, rest_eq hk]; simp only [fsCopy, List.getElem?_toArray, List.getElem?_cons_zero, hT.sl.sl, hi1, rowHead, show ∀ q n m, lenV (.slice q n m) = some n from fun _ _ _ => rfl, hi2, cellsOf, hmin, e5, cond_true, e2, cond_false, h5, List.drop_zero, Nat.zero_add]; rw [Nat.zero_add] at e3 e6
    simp only [e3, cond_true, e4, e7, Bool.and_self, e6]⟩
theorem MakeV.copyZ {ys : List τ.den} (hT : ElT P T e τ) (hx : evV fl x = some (.raw w)) (hy : evV fl y = some (.v (.sl τ) ys)) :
    MakeV P fl ((w, .row e τ []) :: σ) (.call { callee := .builtin .copy, args := #[x, y], argTypes := #[T, T'] }) fun v σ' => v = .v (.int .i64) ((0 : Nat) : Int) ∧ σ' = (w, .row e τ []) :: σ :=
  ⟨rfl, fun S0 h t L => by
    have h1 : evalO t x = w := evV_ok L.slots hx; have hu := (evV_ok L.slots hy : RepV h _ (.sl τ) (evalO t y) ys).sl; obtain ⟨i, z, hi1, hi2, hi3, hi3', hi4, hi5, hi6⟩ := hT.sl.info
    have c1 : ∃ m, lenV (evalO t y) = some m ∧ Fs.cellsOf τ.size 0 (evalO t y) h = some [] := by
      rcases hu with ⟨hv, _⟩ | ⟨b, o, mk, hv, _⟩
      · rw [hv]; exact ⟨0, rfl, rfl⟩
      rw [hv]; refine ⟨ys.length, rfl, ?_⟩
      have e1 : Nat.ble 0 ys.length = true := by rw [Nat.ble_eq]; exact Nat.zero_le _
      simp only [Fs.cellsOf, e1, cond_true, Nat.zero_mul]; rfl
    obtain ⟨m, c1, c2⟩ := c1; have hmin : Nat.min m 0 = 0 := Nat.min_zero _; refine ⟨.int .i64 ((0 : Nat) : Int), h, .v (.int .i64) ((0 : Nat) : Int), _, ⟨rfl, rfl⟩, Made.same L (Aft.refl _ _), RepV.ofInt _ _, fun _ _ _ _ _ => ?_⟩; show (fsCopy P #[T, T'] (evalO t x) (evalO t y) h) = _; rcases L.cells _ List.mem_cons_self with ⟨hw, _⟩ | ⟨b, rs, m', h3, h4, h5, h6⟩
    · have hw' : w = .slice none 0 0 := hw; rw [h1, hw']; simp only [fsCopy, List.getElem?_toArray, List.getElem?_cons_zero, hT.sl.sl, hi1, c1, show lenV (.slice none 0 0) = some 0 from rfl, hi2, hmin, c2, List.length_nil, Nat.zero_mul]; rfl
    have hw : w = .slice (some ⟨b, 0, none⟩) 0 0 := h3; rw [h1, hw]; simp only [fsCopy, List.getElem?_toArray, List.getElem?_cons_zero, hT.sl.sl, hi1, c1, show ∀ q m, lenV (.slice q 0 m) = some 0 from fun _ _ => rfl, hi2, hmin, c2, List.length_nil, Nat.zero_mul]
    rfl⟩
theorem VO.copyZ {xs ys : List τ.den} (hx : evV fl x = some (.raw w)) (hy : evV fl y = some (.v (.sl τ) ys)) (hT : ElT P T e τ) (hl : xs = []) (hk : VO P orc ops n l ((d, .v (.int .i64) ((0 : Nat) : Int)) :: fl) ((w, .row e τ []) :: σ) K) (hw : wantV ops fl g = some true := by rfl) (hn : (Nat.blt d n && Nat.ble n 4000) = true := by rfl) :
    VO P orc ops n (⟨some d, .call { callee := .builtin .copy, args := #[x, y], argTypes := #[T, T'] }, ty, pos, after, g⟩ :: l) fl ((w, .row e τ xs) :: σ) K := by
  subst hl; exact VO.mk (MakeV.copyZ hT hx hy) (by rintro _ _ ⟨rfl, rfl⟩; exact hk) hw hn
end Go.Fs
namespace Go.Proofs
open Go.Fs Ieee
set_option maxHeartbeats 2000000
theorem el105 : ElT Tryz.prog 105 4 .bool := elT_of (by kernel_rfl)
theorem zt4 : ZerT Tryz.prog 4 .bool := zerT_of (z := .bool false) (by kernel_rfl) rfl rfl
theorem bMul64_ok {x : Int} {y : Int} (hx : 0 ≤ x ∧ x < 4294967296) (hy : 0 ≤ y ∧ y < 4294967296) (hp : 0 ≤ x * y ∧ x * y < 4294967296) : VF Tryz.prog OA 155 [.v (.int .u64) x, .v (.int .u64) y] (.tup [.v (.int .u64) 0, .v (.int .u64) (x * y)]) := by
  refine VF.enter Tryz.func155 rfl (fun _ _ => rfl) rfl ?_; show VC _ _ _ _ _ [(0, .v (.int .u64) x), (1, .v (.int .u64) y)] [] _; refine VC.seq (VC.text ?_); refine VO.c (.assign rfl) (VO.c (.assign rfl) ?_); refine VO.go (VC.seq (VC.text ?_)); refine VO.c (.move rfl) (VO.c (.andM rfl rfl hx) (VO.c (.assign rfl) ?_)); refine VO.go (VC.seq (VC.text ?_)); refine VO.c (.move rfl) (VO.c (.shrUU rfl rfl (by decide)) ?_); rw [fdiv0 hx]; refine VO.c (.assign rfl) ?_; refine VO.go (VC.seq (VC.text ?_)); refine VO.c (.move rfl) (VO.c (.andM rfl rfl hy) (VO.c (.assign rfl) ?_)); refine VO.go (VC.seq (VC.text ?_)); refine VO.c (.move rfl) (VO.c (.shrUU rfl rfl (by decide)) ?_); rw [fdiv0 hy]; refine VO.c (.assign rfl) ?_; refine VO.go (VC.seq (VC.text ?_)); refine VO.c (.move rfl) (VO.c (.move rfl) (VO.c (.mulU rfl rfl (by omega)) (VO.c (.assign rfl) ?_))); refine VO.go (VC.seq (VC.text ?_)); refine VO.c (.move rfl) (VO.c (.move rfl) (VO.c (.mulU (p := 0) rfl rfl (by omega)) (VO.c (.move rfl) ?_))); refine VO.c (.shrUU rfl rfl (by decide)) ?_; rw [fdiv0 hp]; refine VO.c (.addU rfl rfl (by omega)) ?_; rw [show (0 : Int) * y + 0 = 0 by omega]; refine VO.c (.assign rfl) ?_; refine VO.go (VC.seq (VC.text ?_)); refine VO.c (.move rfl) (VO.c (.andM (p := 0) rfl rfl (by decide)) (VO.c (.assign rfl) ?_)); refine VO.go (VC.seq (VC.text ?_)); refine VO.c (.move rfl) (VO.c (.shrUU rfl rfl (by decide)) ?_); rw [fdiv0 (p := 0) (by decide)]; refine VO.c (.assign rfl) ?_; refine VO.go (VC.seq ?_); refine VC.keep [(0, .v (.int .u64) x), (1, .v (.int .u64) y), (6, .v (.int .u64) x), (7, .v (.int .u64) 0), (9, .v (.int .u64) 0), (12, .v (.int .u64) 0), (13, .v (.int .u64) 0)] ⟨rfl, rfl, rfl, rfl, rfl, rfl, rfl, trivial⟩ ?_; refine VC.text ?_; refine VO.c (.move rfl) (VO.c (.move rfl) (VO.c (.move rfl) (VO.c (.mulU (q := 0) rfl rfl (by omega)) ?_))); refine VO.c (.addU rfl rfl (by omega)) ?_; rw [show (0 : Int) + x * 0 = 0 by omega]; refine VO.c (.assign rfl) ?_; refine VO.go (VC.seq (VC.text ?_)); refine VO.c (.move rfl) (VO.c (.move rfl) (VO.c (.mulU (p := 0) (q := 0) rfl rfl (by decide)) (VO.c (.move rfl) ?_))); refine VO.c (.addU rfl rfl (by decide)) ?_; rw [show (0 : Int) * 0 + 0 = 0 by rfl]; refine VO.c (.move rfl) (VO.c (.shrUU rfl rfl (by decide)) ?_); rw [fdiv0 (p := 0) (by decide)]; refine VO.c (.addU rfl rfl (by decide)) ?_; rw [show (0 : Int) + 0 = 0 by rfl]; refine VO.c (.assign rfl) ?_; refine VO.go (VC.seq (VC.text ?_)); refine VO.c (.move rfl) (VO.c (.move rfl) (VO.c (.mulU rfl rfl (by omega)) (VO.c (.assign rfl) ?_))); refine VO.go ?_; refine VC.ret ?_; exact VEnd.two rfl evT evT (pvI (by rfl)) (pvI (by rfl))
theorem bMul_ok {x : Int} {y : Int} (hx : 0 ≤ x ∧ x < 4294967296) (hy : 0 ≤ y ∧ y < 4294967296) (hp : 0 ≤ x * y ∧ x * y < 4294967296) : VF Tryz.prog OA 121 [.v (.int .u64) x, .v (.int .u64) y] (.tup [.v (.int .u64) 0, .v (.int .u64) (x * y)]) := by
  refine VF.enter Tryz.func121 rfl (fun _ _ => rfl) rfl ?_; show VC _ _ _ _ _ [(0, .v (.int .u64) x), (1, .v (.int .u64) y)] [] _; refine VC.seq (VC.text ?_); refine VO.c (.assign rfl) (VO.c (.assign rfl) ?_); refine VO.go (VC.seq ?_); refine VC.condF rfl ?_; refine VC.skip (VC.seq (VC.text ?_)); refine VO.c (.move rfl) (VO.c (.move rfl) ?_); refine VO.call rfl rfl (VF.call (bMul64_ok (by first | assumption | omega | simp) (by first | assumption | omega | simp) (by first | assumption | omega | simp))) ?_; refine VO.c (.move rfl) (VO.c (.extract) (VO.c (.extract) (VO.c (.assign rfl) ?_))); refine VO.c (.assign rfl) ?_; refine VO.go (VC.seq (VC.text ?_)); refine VO.c (.move rfl) (VO.c (.move rfl) (VO.c (.assign rfl) (VO.c (.assign rfl) ?_))); refine VO.go ?_; refine VC.ret ?_; exact VEnd.two rfl evT evT (pvI (by rfl)) (pvI (by rfl))
def repB (n c : Nat) : List Bool := List.replicate c true ++ List.replicate (n - c) false
theorem repB_len {n c : Nat} (h : c ≤ n) : (repB n c).length = n := by simp [repB]; omega
theorem repB_first {n : Nat} {x : List Bool} (hx : x = [true]) (h : 0 < n) : (List.replicate n false).take 0 ++ x ++ (List.replicate n false).drop (0 + x.length) = repB n 1 := by
  subst hx; simp [repB]
theorem repB_next {n c : Nat} (h : c < n) (h0 : 0 < c) : (repB n c).take c ++ (repB n c).take (min c ((repB n c).length - c)) ++ (repB n c).drop (c + ((repB n c).take (min c ((repB n c).length - c))).length) = repB n (c + min c (n - c)) := by
  have hl := repB_len (n := n) (c := c) (by omega); rw [hl]
  have e1 : (repB n c).take c = List.replicate c true := by
    unfold repB; rw [List.take_append_of_le_length (by simp), List.take_of_length_le (by simp)]
  have e2 : (repB n c).take (min c (n - c)) = List.replicate (min c (n - c)) true := by
    unfold repB; rw [List.take_append_of_le_length (by simp; omega), List.take_replicate]; congr 1; omega
  have e3 : (repB n c).drop (c + min c (n - c)) = List.replicate (n - (c + min c (n - c))) false := by
    unfold repB; rw [List.drop_append, List.drop_of_length_le (by simp), List.length_replicate, List.drop_replicate, List.nil_append]; congr 1; omega
  rw [e1, e2, List.length_replicate, e3, List.replicate_append_replicate]; rfl
theorem zRep1_ok {x : List Bool} {n : Nat} (hx : x = [true]) (hn : n ≤ 4096) (h0 : 0 < n) : VFG Tryz.prog OA 97 [.v (.sl .bool) x, I ((n : Nat) : Int)] [] (fun r g => ∃ w, r = .raw w ∧ g = [(w, .row 4 .bool (List.replicate n true))]) := by
  refine VFG.enter Tryz.func97 rfl (fun _ _ => rfl) rfl ?_; show VC _ _ _ _ _ [(0, .v (.sl .bool) x), (1, I ((n : Nat) : Int))] [] _; refine VC.seq (VC.text ?_); refine VO.c (.assign rfl) ?_; refine VO.go (VC.seq (VC.seq (VC.text ?_))); refine VO.c (.move rfl) (VO.c (.lss) (VO.go ?_)); refine VC.condD rfl (fun c1 => ?_) (fun c1 => ?_)
  · exact absurd c1 (by omega)
  have hx1 : x.length = 1 := by rw [hx] <;> rfl
  have hxn : ((x.length : Nat) : Int) * ((n : Nat) : Int) = ((n : Nat) : Int) := by rw [hx1]; omega
  refine VC.skip (VC.seq (VC.text ?_)); refine VO.c (.move rfl) ?_; refine VO.r (.len el105) ?_; refine VO.c (.convI rfl .u64 (by exact wrapU64 (by omega))) (VO.c (.move rfl) (VO.c (.convI rfl .u64 (by exact wrapU64 (by omega))) ?_)); refine VO.call rfl rfl (VF.call (bMul_ok (by omega) (by omega) (by rw [hxn]; omega))) ?_; refine VO.c (.move rfl) (VO.c (.extract) (VO.c (.extract) ?_)); rw [hxn]; refine VO.c (.assign rfl) (VO.c (.assign rfl) ?_); refine VO.go (VC.seq (VC.seq (VC.text ?_))); refine VO.c (.move rfl) (VO.c (.gtr) (VO.c (.move rfl) ?_)); refine VO.cg (r := decide ((0 : Int) < 0)) (w := false) [] trivial (fun _ => (.move rfl)) ?_; refine VO.cg (r := decide ((0 : Int) < 0)) (w := false) [(24, .v (.int .u64) ((n : Nat) : Int))] ⟨rfl, trivial⟩ (fun _ => (.gtr)) ?_; refine VO.c (.or) (VO.go ?_); refine VC.condB rfl (fun c4 => ?_) (fun c4 => ?_)
  · try simp only [Bool.and_eq_true, Bool.or_eq_true, Bool.and_eq_false_iff, Bool.or_eq_false_iff, Bool.not_eq_true', Bool.not_eq_false', decide_eq_true_eq, decide_eq_false_iff_not] at c4
    exact absurd c4 (by omega)
  try simp only [Bool.and_eq_true, Bool.or_eq_true, Bool.and_eq_false_iff, Bool.or_eq_false_iff, Bool.not_eq_true', Bool.not_eq_false', decide_eq_true_eq, decide_eq_false_iff_not] at c4
  refine VC.skip (VC.seq (VC.text ?_)); refine VO.c (.move rfl) (VO.c (.convI rfl .i64 (by exact wrap64 (by omega) (by omega))) ?_); refine VO.cell (.make (k := n) rfl rfl el105 zt4 (by omega)) ?_; intro ww1; refine VO.c (.assign rfl) ?_; refine VO.go (VC.seq (VC.text ?_)); refine VO.c (.move rfl) (VO.c (.move rfl) ?_); refine VO.copyP rfl rfl el105 (by simp; omega) (by omega) ?_; rw [show (zeroD Ty.bool : Bool) = false from rfl, repB_first hx h0, hx1]; refine VO.c (.assign rfl) ?_; refine VO.go (VC.seq (VC.block ?_)); refine VC.keep [(7, .raw ww1), (8, I ((1 : Nat) : Int))] ⟨rfl, rfl, trivial⟩ ?_; refine VC.loop (I := fun kk ff ss => ∃ (c : Nat), kk = n - c ∧ ff = [(7, .raw ww1), (8, I ((c : Nat) : Int))] ∧ ss = [(ww1, .row 4 .bool (repB n c))] ∧ (1 ≤ c ∧ c ≤ n)) ?_ _ _ _ ⟨1, rfl, rfl, rfl, (by omega)⟩; rintro kk ff ss ⟨c, hk0, rfl, rfl, hc⟩; refine VC.seq (VC.seq (VC.text ?_)); refine VO.c (.move rfl) (VO.c (.move rfl) ?_); refine VO.r (.lenO m0 el105) ?_; refine VO.c (.lss) (VO.go ?_); refine VC.condD rfl (fun c8 => ?_) (fun c8 => ?_)
  · have hrl := repB_len (n := n) (c := c) hc.2
    have hcn : c < n := by omega
    refine VC.skip (VC.block (VC.drawn ?_)); refine VD.c (.move rfl) (VD.c (.move rfl) (VD.c (.move rfl) ?_)); refine VD.r [(ww1, .row 4 .bool (repB n c))] (.restO (k := c) rfl rfl m0 el105 (by omega) (by omega)) (.inr ⟨rfl, rfl⟩) ?_; refine VD.c (.move rfl) (VD.c (.move rfl) (VD.nw [] ?_)); refine VD.r [(ww1, .row 4 .bool (repB n c))] (.headO (k := c) rfl rfl m0 el105 (by omega) (by omega)) (.inr ⟨rfl, rfl⟩) ?_; refine VD.mk (MakeV.copyS (k := c) el105 (by omega) (by omega) rfl rfl) ?_; rintro _ _ tl2 ⟨rfl, rfl⟩; rw [repB_next hcn hc.1, hrl]; refine VD.c (.add rfl rfl (by omega)) (VD.c (.assign rfl) ?_); refine VD.nil ?_; refine ⟨_, [(7, .raw ww1), (8, I (((c + min c (n - c)) : Nat) : Int))], ?_, ⟨rfl, rfl, trivial⟩, (c + min c (n - c)), rfl, rfl, (by simp), (by omega)⟩; omega
  refine VC.exit (VC.seq (VC.text ?_)); refine VO.c (.move rfl) (VO.c (.assign rfl) (VO.go ?_)); refine VC.ret ?_; exact VEndG.row rfl evT ⟨ww1, rfl, (by rw [show c = n by (have hrl2 := repB_len (n := n) (c := c) hc.2; omega)]; simp [repB])⟩
theorem zRep0_ok {x : List Bool} {n : Nat} (hx : x = [true]) (h0 : n = 0) : VFG Tryz.prog OA 97 [.v (.sl .bool) x, I ((n : Nat) : Int)] [] (fun r g => ∃ w, r = .raw w ∧ g = [(w, .row 4 .bool [])]) := by
  refine VFG.enter Tryz.func97 rfl (fun _ _ => rfl) rfl ?_; show VC _ _ _ _ _ [(0, .v (.sl .bool) x), (1, I ((n : Nat) : Int))] [] _; refine VC.seq (VC.text ?_); refine VO.c (.assign rfl) ?_; refine VO.go (VC.seq (VC.seq (VC.text ?_))); refine VO.c (.move rfl) (VO.c (.lss) (VO.go ?_)); refine VC.condD rfl (fun c1 => ?_) (fun c1 => ?_)
  · exact absurd c1 (by omega)
  have hx1 : x.length = 1 := by rw [hx] <;> rfl
  have hxn : ((x.length : Nat) : Int) * ((n : Nat) : Int) = ((n : Nat) : Int) := by rw [hx1]; omega
  refine VC.skip (VC.seq (VC.text ?_)); refine VO.c (.move rfl) ?_; refine VO.r (.len el105) ?_; refine VO.c (.convI rfl .u64 (by exact wrapU64 (by omega))) (VO.c (.move rfl) (VO.c (.convI rfl .u64 (by exact wrapU64 (by omega))) ?_)); refine VO.call rfl rfl (VF.call (bMul_ok (by omega) (by omega) (by rw [hxn]; omega))) ?_; refine VO.c (.move rfl) (VO.c (.extract) (VO.c (.extract) ?_)); rw [hxn]; refine VO.c (.assign rfl) (VO.c (.assign rfl) ?_); refine VO.go (VC.seq (VC.seq (VC.text ?_))); refine VO.c (.move rfl) (VO.c (.gtr) (VO.c (.move rfl) ?_)); refine VO.cg (r := decide ((0 : Int) < 0)) (w := false) [] trivial (fun _ => (.move rfl)) ?_; refine VO.cg (r := decide ((0 : Int) < 0)) (w := false) [(24, .v (.int .u64) ((n : Nat) : Int))] ⟨rfl, trivial⟩ (fun _ => (.gtr)) ?_; refine VO.c (.or) (VO.go ?_); refine VC.condB rfl (fun c4 => ?_) (fun c4 => ?_)
  · try simp only [Bool.and_eq_true, Bool.or_eq_true, Bool.and_eq_false_iff, Bool.or_eq_false_iff, Bool.not_eq_true', Bool.not_eq_false', decide_eq_true_eq, decide_eq_false_iff_not] at c4
    exact absurd c4 (by omega)
  try simp only [Bool.and_eq_true, Bool.or_eq_true, Bool.and_eq_false_iff, Bool.or_eq_false_iff, Bool.not_eq_true', Bool.not_eq_false', decide_eq_true_eq, decide_eq_false_iff_not] at c4
  refine VC.skip (VC.seq (VC.text ?_)); refine VO.c (.move rfl) (VO.c (.convI rfl .i64 (by exact wrap64 (by omega) (by omega))) ?_); refine VO.cell (.make (k := n) rfl rfl el105 zt4 (by omega)) ?_; intro ww3; refine VO.c (.assign rfl) ?_; refine VO.go (VC.seq (VC.text ?_)); refine VO.c (.move rfl) (VO.c (.move rfl) ?_); refine VO.copyZ rfl rfl el105 (by rw [h0] <;> rfl) ?_; refine VO.c (.assign rfl) ?_; refine VO.go (VC.seq (VC.block ?_)); refine VC.keep [(7, .raw ww3), (8, I ((0 : Nat) : Int))] ⟨rfl, rfl, trivial⟩ ?_; refine VC.loop (I := fun kk ff ss => ∃ (c : Nat), kk = 0 ∧ ff = [(7, .raw ww3), (8, I ((c : Nat) : Int))] ∧ ss = [(ww3, .row 4 .bool [])] ∧ (c = 0)) ?_ _ _ _ ⟨0, rfl, rfl, rfl, (by rfl)⟩; rintro kk ff ss ⟨c, hk0, rfl, rfl, hc⟩; refine VC.seq (VC.seq (VC.text ?_)); refine VO.c (.move rfl) (VO.c (.move rfl) ?_); refine VO.r (.lenO m0 el105) ?_; refine VO.c (.lss) (VO.go ?_); refine VC.condD rfl (fun c8 => ?_) (fun c8 => ?_)
  · exact absurd c8 (by simp)
  refine VC.exit (VC.seq (VC.text ?_)); refine VO.c (.move rfl) (VO.c (.assign rfl) (VO.go ?_)); refine VC.ret ?_; exact VEndG.row rfl evT ⟨ww3, rfl, (by rfl)⟩
theorem zRep_ok {n : Nat} {x : List Bool} (hx : x = [true]) (hn : n ≤ 4096) : VFG Tryz.prog OA 97 [.v (.sl .bool) x, I ((n : Nat) : Int)] [] (fun r g => ∃ w, r = .raw w ∧ g = [(w, .row 4 .bool (List.replicate n true))]) := by
  by_cases h : n = 0
  · subst h; exact zRep0_ok hx rfl
  exact zRep1_ok hx hn (by omega)
end Go.Proofs
namespace Go.Proofs
open Go.Fs Ieee
set_option maxHeartbeats 2000000
theorem vt4 : ValT Tryz.prog 4 .bool := valT_of (by kernel_rfl)
def offB (n : Nat) (p : Int → Bool) : List Bool := (List.range n).map fun (t : Nat) => !p (t : Int)
theorem offB_len {n : Nat} {p : Int → Bool} : (offB n p).length = n := by simp [offB]
theorem offB_at {n t : Nat} {p : Int → Bool} (h : t < n) : (offB n p)[t]'(by rw [offB_len]; exact h) = !p (t : Int) := by
  unfold offB; rw [List.getElem_map, List.getElem_range]
theorem offB_none {n : Nat} {p : Int → Bool} (h : ∀ t : Nat, p t = false) : List.replicate n true = offB n p := by
  refine List.ext_getElem (by rw [List.length_replicate, offB_len]) fun i h1 h2 => ?_; rw [offB_len] at h2; rw [List.getElem_replicate, offB_at h2, h i] <;> rfl
theorem offB_ext {n : Nat} {p q : Int → Bool} (h : ∀ t : Nat, t < n → p t = q t) : offB n p = offB n q := by
  refine List.ext_getElem (by rw [offB_len, offB_len]) fun i h1 h2 => ?_; rw [offB_len] at h2; rw [offB_at h2, offB_at h2, h i h2]
theorem offB_set {n t : Nat} {p q : Int → Bool} (ht : t < n) (hq : q t = true) (hpq : ∀ u : Nat, u ≠ t → q u = p u) : offB n q = (offB n p).set t false := by
  refine List.ext_getElem (by rw [List.length_set, offB_len, offB_len]) fun i h1 h2 => ?_; rw [offB_len] at h1; rw [offB_at h1, List.getElem_set]; by_cases e : t = i
  · subst e; rw [if_pos rfl, hq] <;> rfl
  rw [if_neg e, offB_at h1, hpq i (fun h => e h.symm)]
def thereE (r : Rec1) : List Bool := offB r.2.2.1.length (Sp.inL r.2.2.2)
theorem gThere_ok {r : ByteArray × Int × (List Nat) × (List (Int × Int))} (hl : r.2.2.1.length ≤ 4096) (hg : r.2.2.2.length < 1000000) (hsp : ∀ s ∈ r.2.2.2, 0 ≤ s.1 ∧ s.1 < s.2 ∧ s.2 ≤ (r.2.2.1.length : Nat)) : VF Tryz.prog OA 56 [.v y32 r] (.v (.sl .bool) (thereE r)) := by
  refine VF.enter Tryz.func56 rfl (fun _ _ => rfl) rfl ?_; show VC _ _ _ _ _ [(0, .v y32 r)] [] _; refine VC.seq (VC.text ?_); refine VO.new (.box) ?_; refine VO.c (.assign rfl) ?_; refine VO.go (VC.seq (VC.text ?_)); refine VO.new (.lit [true] el105) ?_; refine VO.c (.fa (.r (.r (.l .o)))) ?_; refine VO.r (.ld vt22) ?_; refine VO.r (.len el22) ?_; refine VO.callG [] rfl rfl rfl (VFG.call (zRep_ok rfl hl)) ?_; rintro _ _ ⟨ww1, rfl, rfl⟩; show VO _ _ _ _ _ _ [(ww1, .row 4 .bool (List.replicate r.2.2.1.length true))] _; refine VO.c (.assign rfl) ?_; refine VO.go (VC.seq (VC.seq (VC.text ?_))); refine VO.c (.fa (.r (.r (.r .o)))) ?_; refine VO.r (.ld vt23) ?_; refine VO.r (.len el23) ?_; refine VO.c (.move rfl) ?_; refine VO.go (VC.block ?_); refine VC.keep [(3, .raw ww1), (13, .v y23 r.2.2.2), (14, I ((r.2.2.2.length : Nat) : Int)), (15, I ((0 : Nat) : Int))] ⟨rfl, rfl, rfl, rfl, trivial⟩ ?_; refine VC.loop (I := fun kk ff ss => ∃ (i : Nat), kk = r.2.2.2.length - i ∧ ff = [(3, .raw ww1), (13, .v y23 r.2.2.2), (14, I ((r.2.2.2.length : Nat) : Int)), (15, I ((i : Nat) : Int))] ∧ ss = [(ww1, .row 4 .bool (offB r.2.2.1.length (Sp.inL (r.2.2.2.take i))))] ∧ (i ≤ r.2.2.2.length)) ?_ _ _ _ ⟨0, rfl, rfl, (by rw [offB_none (p := Sp.inL (r.2.2.2.take 0)) fun _ => rfl]), Nat.zero_le _⟩; rintro kk ff ss ⟨i, hk0, rfl, rfl, hi⟩; refine VC.seq (VC.text ?_); refine VO.c (.lss) ?_; refine VO.go (VC.seq ?_); refine VC.condD rfl (fun c3 => ?_) (fun c3 => ?_)
  · have hil : i < r.2.2.2.length := by omega
    have hsi := hsp _ (List.getElem_mem hil); have hx := spX_eq hil; refine VC.skip (VC.seq (VC.block (VC.seq (VC.text ?_)))); refine VO.c (.ix (j := i) rfl rfl el23 (by omega)) ?_; refine VO.r (.ld vt53) ?_; refine VO.cell (.alloc zt53) ?_; intro ww2; refine VO.setV (cs' := [I ((r.2.2.2[i]).1), I ((r.2.2.2[i]).2)]) vt53 .v ?_; refine VO.shut [(5, .p y53 (r.2.2.2[i]))] (.cons rfl (.var m0 .refl) .nil) ?_; refine VO.go (VC.seq (VC.text ?_)); refine VO.c (.fa (.l .o)) ?_; refine VO.r (.ld vt3) ?_; refine VO.c (.assign rfl) ?_; refine VO.go (VC.block ?_); refine VC.keep [(3, .raw ww1), (5, .p y53 (r.2.2.2[i])), (6, I ((((r.2.2.2[i]).1.toNat) : Nat) : Int)), (13, .v y23 r.2.2.2), (14, I ((r.2.2.2.length : Nat) : Int)), (15, I ((i : Nat) : Int))] ⟨rfl, rfl, slI rfl (by omega), rfl, rfl, rfl, trivial⟩ ?_; refine VC.loop (I := fun kk ff ss => ∃ (t : Nat), kk = r.2.2.1.length - t ∧ ff = [(3, .raw ww1), (5, .p y53 (r.2.2.2[i])), (6, I ((t : Nat) : Int)), (13, .v y23 r.2.2.2), (14, I ((r.2.2.2.length : Nat) : Int)), (15, I ((i : Nat) : Int))] ∧ ss = [(ww1, .row 4 .bool (offB r.2.2.1.length (upTo r.2.2.2 i t)))] ∧ ((t : Int) ≤ (r.2.2.2[i]).2) ∧ ((r.2.2.2[i]).1 ≤ t)) ?_ _ _ _ ⟨(r.2.2.2[i]).1.toNat, rfl, rfl, (by rw [offB_ext (q := Sp.inL (r.2.2.2.take i)) fun u _ => upTo_0 (by rw [hx]; omega)]), (by omega), (by omega)⟩; rintro kk ff ss ⟨t, hk2, rfl, rfl, ht, h0⟩; refine VC.seq (VC.seq (VC.text ?_)); refine VO.c (.move rfl) (VO.c (.fa (.r .o)) ?_); refine VO.r (.ld vt3) ?_; refine VO.c (.lss) (VO.go ?_); refine VC.condD rfl (fun c6 => ?_) (fun c6 => ?_)
    · have hlt : t < r.2.2.1.length := by omega
      have hol := offB_len (n := r.2.2.1.length) (p := upTo r.2.2.2 i t); refine VC.skip (VC.seq (VC.block (VC.text ?_))); refine VO.c (.move rfl) (VO.c (.move rfl) (VO.c (.ixO (j := t) rfl rfl m0 el105 (by omega)) ?_)); refine VO.setE t rfl rfl vt4 (by omega) ?_; refine VO.nil (VC.text ?_); refine VO.c (.move rfl) (VO.c (.add rfl rfl (by omega)) (VO.c (.assign rfl) ?_)); refine VO.nil ?_; refine ⟨_, [(3, .raw ww1), (5, .p y53 (r.2.2.2[i])), (6, I (((t + 1) : Nat) : Int)), (13, .v y23 r.2.2.2), (14, I ((r.2.2.2.length : Nat) : Int)), (15, I ((i : Nat) : Int))], ?_, ⟨rfl, rfl, rfl, rfl, rfl, rfl, trivial⟩, (t + 1), rfl, rfl, (by rw [offB_set hlt (upTo_self (by rw [hx]; exact h0)) (fun u hu => upTo_other hu)]), (by omega), (by omega)⟩; omega
    refine VC.exit (VC.text ?_); refine VO.c (.add rfl rfl (by omega)) (VO.c (.move rfl) ?_); refine VO.nil ?_; refine ⟨_, [(3, .raw ww1), (13, .v y23 r.2.2.2), (14, I ((r.2.2.2.length : Nat) : Int)), (15, I (((i + 1) : Nat) : Int))], ?_, ⟨rfl, rfl, rfl, rfl, trivial⟩, (i + 1), rfl, rfl, (by rw [offB_ext (q := Sp.inL (r.2.2.2.take (i + 1))) fun u _ => upTo_end hil (by omega)]), (by omega)⟩; omega
  refine VC.exit (VC.seq (VC.text ?_)); refine VO.c (.move rfl) (VO.c (.assign rfl) (VO.go ?_)); refine VC.ret ?_; exact VEnd.one rfl (evC (.row m0)) (pvE (by rw [List.take_of_length_le (by omega)] <;> rfl))
end Go.Proofs
namespace Go.Fs
variable {P : Program} {fl : VL} {σ : Sto} {T : TypeId} {τ : Ty} {h : Heap} {S : List Nat}
inductive PartP : PV → List PV → Prop where
  | v {τ : Ty} {x : τ.den} : PartP (.v τ x) (cellsPV τ x)
  | w {w : Value} (ho : oneCell w = true) : PartP (.raw w) [.raw w]
theorem one_cells {w : Value} (ho : oneCell w = true) : w.cells.toList = [w] := by
  cases w with
  | agg cs => cases ho
  | _ => rfl
theorem PartP.ok {p : PV} {qs : List PV} {u : Value} (hp : PartP p qs) (hu : RepPV h S p u) : RepL h S qs u.cells.toList ∧ u.cells.toList.all oneCell = true ∧ u.cells.toList.length = qs.length := by
  cases hp with
  | v => 
    have hv : RepV h S _ u _ := hu; have h1 := cells_repC hv.2
    exact ⟨h1, hv.2.allOne, h1.len⟩
  | w ho =>
    obtain rfl : u = _ := hu; rw [one_cells ho]; exact ⟨⟨_, [], rfl, rfl, rfl⟩, by rw [List.all_cons, ho]; rfl, rfl⟩
inductive BldR (pl : List (Nat × Nat)) : List PV → List Nat → List PV → List PV → Prop where
  | nil {L L' : List PV} (h : L = L') : BldR pl L [] [] L'
  | cons {L L' : List PV} {i o : Nat} {is : List Nat} {p : PV} {ps qs : List PV} (hp : PartP p qs) (hpl : pl[i]? = some (o, qs.length)) (ho : Nat.ble (o + qs.length) L.length = true) (r : BldR pl (spl L o qs) is ps L') : BldR pl L (i :: is) (p :: ps) L'
theorem BldR.fill {pl : List (Nat × Nat)} : ∀ {is : List Nat} {ps : List PV} {us : List Value} {L L' : List PV} {cs : List Value}, BldR pl L is ps L' → RepL h S ps us → RepL h S L cs → cs.all oneCell = true →
    ∃ cs', Instr.fill (pl[·]?) cs.toArray (is.zip us) = some cs'.toArray ∧ RepL h S L' cs' ∧ us.all (fun u => u.cells.toList.all oneCell) = true ∧ is.length = us.length
  | [], [], us, L, L', cs, .nil e, hp, hL, ho => by
    obtain rfl : us = [] := hp; subst e
    exact ⟨cs, rfl, hL, rfl, rfl⟩
  | i :: is, p :: ps, us, L, L', cs, .cons (o := o) (qs := qs) hp hpl hle0 hr, ⟨u, r, h1, h2, h3⟩, hL, ho => by
    subst h1; have hlen := hL.len; have hle := nble hle0; obtain ⟨g1, g2, hul⟩ := hp.ok h2
    have hus : u.cells.size = qs.length := by simpa using hul
    obtain ⟨cs', f1, f2, f3, f4⟩ := BldR.fill hr h3 (hL.spl o g1) (allOne_spl o ho g2); refine ⟨cs', ?_, f2, by rw [List.all_cons, g2, f3]; rfl, by simp [f4]⟩; simp only [List.zip_cons_cons, Instr.fill, hpl]
    have h9 : (u.cells.size ≠ qs.length || o + u.cells.size > cs.toArray.size) = false := by simp [hus]; omega
    rw [h9]; simp only [Bool.false_eq_true, if_false]
    have hsp : u.cells.zipIdx.foldl (fun (cs : Array Value) (p : Value × Nat) => cs.setIfInBounds (o + p.2) p.1) cs.toArray = (splice cs o u.cells.toList).toArray := by
      have e0 : cs = cs.take o ++ ((cs.drop o).take qs.length) ++ cs.drop (o + qs.length) := by
        rw [← List.drop_drop, List.append_assoc, List.take_append_drop, List.take_append_drop]
      have := fill_at qs.length o u (cs.take o) ((cs.drop o).take qs.length) (cs.drop (o + qs.length)) (by rw [List.length_take]; omega) (by rw [List.length_take, List.length_drop]; omega) hus; rw [← e0] at this; rw [this]; unfold splice; rw [hul]
    rw [hsp]; exact f1
theorem CalmV.buildR {pl : List (Nat × Nat)} {parts : Array (Nat × Operand)} {zs : List Value} {ps cs : List PV} (hT : BldT P T τ pl) (hz : zeroC τ = zs) (hps : evVs fl (parts.toList.map (·.2)) = some ps) (hb : BldR pl (zs.map .raw) (parts.toList.map (·.1)) ps cs) : CalmV P fl σ (.build T parts) (.agg cs) :=
  ⟨rfl, fun h S t hs _ => by
    obtain ⟨z, z1, z2, z3⟩ := hT.zer.zero; obtain ⟨y1, y2⟩ := zero_rep h S τ; have hr : RepL h S ps ((parts.toList.map (·.2)).map (evalO t)) := sees_list (fun x hx => hs x (by simpa [Op.operands] using hx)) hps; obtain ⟨cs', f1, f2, f3, f4⟩ := hb.fill hr (show RepL h S (zs.map .raw) (zeroC τ) from by rw [hz]; exact repL_raw zs) (af0_one y2); refine ⟨.agg cs'.toArray, ⟨cs', rfl, f2⟩, fun _ _ _ _ _ H => ?_⟩; show (bif (parts.toList.all fun p => (evalO t p.2).cells.toList.all oneCell) && ((((P.info? T).bind (·.zero)).map fun z => z.cells.toList.all af0) == some true) then (runPure P (Instr.build T (parts.map fun p => (p.1, evalO t p.2)))).map fun v => (v, H) else none) = _
    have c1 : (parts.toList.all fun p => (evalO t p.2).cells.toList.all oneCell) = true := by
      rw [List.map_map, List.all_map] at f3; exact f3
    have c2 : ((((P.info? T).bind (·.zero)).map fun z => z.cells.toList.all af0) == some true) = true := by
      rw [z1]
      have e : z.cells.toList.all af0 = true := by rw [z2]; exact y2
      simp only [Option.map_some, e]; rfl
    have hrun := hT.run z (parts.map fun p => (p.1, evalO t p.2)) cs'.toArray z1 (by
      rw [← f1, Array.toList_map, ← zip_map, List.map_map]; congr 1
      rw [← z2])
    rw [c1, c2, hrun]
    rfl⟩
theorem allC {p : PV} {l : List PV} (h : p.one = true) (r : l.all PV.one = true) : (p :: l).all PV.one = true := by rw [List.all_cons, h, r]; rfl
end Go.Fs
namespace Go.Proofs
open Go.Fs Ieee
set_option maxHeartbeats 2000000
theorem vt25 : ValT Tryz.prog 25 y25 := valT_of (by kernel_rfl)
theorem zt25 : ZerT Tryz.prog 25 y25 := zerT_of (z := .agg #[.string ByteArray.empty, .int .i64 0, .slice none 0 0, .slice none 0 0]) (by kernel_rfl) rfl rfl
theorem zt68 : ZerT Tryz.prog 68 (.flt .f32) := zerT_of (z := .float .f32 0) (by kernel_rfl) rfl rfl
theorem bt25 : BldT Tryz.prog 25 y25 [(0, 1), (1, 1), (2, 1), (3, 1)] := bldT_of zt25 rfl (by kernel_rfl)
theorem bt53 : BldT Tryz.prog 53 y53 [(0, 1), (1, 1)] := bldT_of zt53 rfl (by kernel_rfl)
def canS (out : List (Int × Int)) (s : Int × Int) : List (Int × Int) :=
  if s.2 ≤ s.1 then out
  else if 0 < out.length ∧ s.1 ≤ (spX out (out.length - 1)).2 then out.set (out.length - 1) ((spX out (out.length - 1)).1, max (spX out (out.length - 1)).2 s.2)
  else out ++ [s]
def canE (l : List (Int × Int)) : List (Int × Int) := l.foldl canS []
theorem canE_snoc (l : List (Int × Int)) (s : Int × Int) : canE (l ++ [s]) = canS (canE l) s := by simp [canE]
theorem canE_next {l : List (Int × Int)} {j : Nat} (h : j < l.length) : canE (l.take (j + 1)) = canS (canE (l.take j)) l[j] := by
  rw [List.take_succ_eq_append_getElem h, canE_snoc]
theorem canS_len (out : List (Int × Int)) (s : Int × Int) : (canS out s).length ≤ out.length + 1 := by
  unfold canS; split
  · omega
  split
  · rw [List.length_set]; omega
  rw [List.length_append, List.length_singleton]; omega
theorem foldl_len : ∀ (l out : List (Int × Int)), (l.foldl canS out).length ≤ out.length + l.length
  | [], out => by simp
  | s :: l, out => by
    have h1 := foldl_len l (canS out s); have h2 := canS_len out s; rw [List.foldl_cons, List.length_cons]; omega
theorem canE_len (l : List (Int × Int)) : (canE l).length ≤ l.length := by
  have := foldl_len l []; simpa [canE] using this
theorem canS_0 {out : List (Int × Int)} {s : Int × Int} (h : s.2 ≤ s.1) : canS out s = out := by rw [canS, if_pos h]
theorem canS_1 {out : List (Int × Int)} {s : Int × Int} (h : ¬ s.2 ≤ s.1) (h0 : 0 < out.length) (h1 : s.1 ≤ (spX out (out.length - 1)).2) : canS out s = out.set (out.length - 1) ((spX out (out.length - 1)).1, max (spX out (out.length - 1)).2 s.2) := by rw [canS, if_neg h, if_pos ⟨h0, h1⟩]
theorem canS_2 {out : List (Int × Int)} {s : Int × Int} (h : ¬ s.2 ≤ s.1) (h1 : ¬ (0 < out.length ∧ s.1 ≤ (spX out (out.length - 1)).2)) : canS out s = out ++ [s] := by rw [canS, if_neg h, if_neg h1]
def gapS (out : List (Int × Int)) (i : Nat) : List (Int × Int) :=
  if 0 < out.length ∧ (spX out (out.length - 1)).2 = (i : Int) then out.set (out.length - 1) ((spX out (out.length - 1)).1, (i : Int) + 1)
  else out ++ [((i : Int), (i : Int) + 1)]
def gapsE (l : List Bool) : Nat → List (Int × Int)
  | 0 => []
  | i + 1 => if l.getD i false = true then gapsE l i else gapS (gapsE l i) i
theorem gapS_len (out : List (Int × Int)) (i : Nat) : (gapS out i).length ≤ out.length + 1 := by
  unfold gapS; split
  · rw [List.length_set]; omega
  rw [List.length_append, List.length_singleton]; omega
theorem gapsE_len (l : List Bool) : ∀ i, (gapsE l i).length ≤ i
  | 0 => Nat.le_refl _
  | i + 1 => by
    have h1 := gapsE_len l i; have h2 := gapS_len (gapsE l i) i; unfold gapsE; split <;> omega
theorem gapsE_t {l : List Bool} {i : Nat} (h : i < l.length) (hb : l[i] = true) : gapsE l (i + 1) = gapsE l i := by
  rw [gapsE, if_pos (by rw [List.getD_eq_getElem?_getD, List.getElem?_eq_getElem h]; exact hb)]
theorem gapsE_f {l : List Bool} {i : Nat} (h : i < l.length) (hb : ¬ l[i] = true) : gapsE l (i + 1) = gapS (gapsE l i) i := by
  rw [gapsE, if_neg (by rw [List.getD_eq_getElem?_getD, List.getElem?_eq_getElem h]; exact hb)]
theorem gapS_1 {out : List (Int × Int)} {i : Nat} (h0 : 0 < out.length) (h1 : (spX out (out.length - 1)).2 = (i : Int)) : gapS out i = out.set (out.length - 1) ((spX out (out.length - 1)).1, (i : Int) + 1) := by rw [gapS, if_pos ⟨h0, h1⟩]
theorem gapS_2 {out : List (Int × Int)} {i : Nat} (h1 : ¬ (0 < out.length ∧ (spX out (out.length - 1)).2 = (i : Int))) : gapS out i = out ++ [((i : Int), (i : Int) + 1)] := by rw [gapS, if_neg h1]
def unitE (l : List Bool) : Nat → List (Int × Int)
  | 0 => []
  | i + 1 => if l.getD i false = true then unitE l i else unitE l i ++ [((i : Int), (i : Int) + 1)]
theorem unitE_t {l : List Bool} {i : Nat} (h : i < l.length) (hb : l[i] = true) : unitE l (i + 1) = unitE l i := by
  rw [unitE, if_pos (by rw [List.getD_eq_getElem?_getD, List.getElem?_eq_getElem h]; exact hb)]
theorem unitE_f {l : List Bool} {i : Nat} (h : i < l.length) (hb : ¬ l[i] = true) : unitE l (i + 1) = unitE l i ++ [((i : Int), (i : Int) + 1)] := by
  rw [unitE, if_neg (by rw [List.getD_eq_getElem?_getD, List.getElem?_eq_getElem h]; exact hb)]
theorem unitE_len (l : List Bool) : ∀ i, (unitE l i).length ≤ i
  | 0 => Nat.le_refl _
  | i + 1 => by
    have h1 := unitE_len l i; unfold unitE; split
    · omega
    rw [List.length_append, List.length_singleton]; omega
theorem spX_last_set {out : List (Int × Int)} {s : Int × Int} (h : 0 < out.length) : spX (out.set (out.length - 1) s) ((out.set (out.length - 1) s).length - 1) = s := by
  rw [spX_eq (by rw [List.length_set]; omega), List.getElem_set, if_pos (by rw [List.length_set])]
theorem spX_last_app {out : List (Int × Int)} {s : Int × Int} : spX (out ++ [s]) ((out ++ [s]).length - 1) = s := by
  rw [spX_eq (by simp), List.getElem_append_right (by simp)]; simp
theorem gaps_last (l : List Bool) : ∀ i, 0 < (gapsE l i).length → (spX (gapsE l i) ((gapsE l i).length - 1)).2 ≤ (i : Int)
  | 0 => fun h => absurd h (by simp [gapsE])
  | i + 1 => fun h => by
    unfold gapsE at h ⊢; split at h
    · rename_i hb; rw [if_pos hb]; have := gaps_last l i h; omega
    rename_i hb; rw [if_neg hb]; unfold gapS; split
    · rename_i hc; rw [spX_last_set hc.1]; simp
    rw [spX_last_app]; simp
theorem unit_can (l : List Bool) : ∀ i, canE (unitE l i) = gapsE l i
  | 0 => rfl
  | i + 1 => by
    unfold unitE gapsE; split
    · exact unit_can l i
    rw [canE_snoc, unit_can l i]; have hl := gaps_last l i; by_cases hc : 0 < (gapsE l i).length ∧ (spX (gapsE l i) ((gapsE l i).length - 1)).2 = (i : Int)
    · rw [gapS_1 hc.1 hc.2, canS_1 (by show ¬ ((i : Int) + 1 ≤ (i : Int)); omega) hc.1 (by show (i : Int) ≤ _; omega)]; congr 2; show max _ ((i : Int) + 1) = _; omega
    rw [gapS_2 hc, canS_2 (by show ¬ ((i : Int) + 1 ≤ (i : Int)); omega) (fun hd => hc ⟨hd.1, by have := hl hd.1; have h2 : (i : Int) ≤ _ := hd.2; omega⟩)]
theorem spX_pre {l : List (Int × Int)} {n : Nat} (h0 : 0 < n) (h : ((n : Int) - 1).toNat < l.length) : l[((n : Int) - 1).toNat] = spX l (n - 1) := by
  have e : ((n : Int) - 1).toNat = n - 1 := by omega
  simp only [e] at h ⊢; exact (spX_eq h).symm
theorem rGaps_ok {l : List Bool} (hl : l.length < 1000000) : VF Tryz.prog OA 103 [.v (.sl .bool) l] (.v y23 (gapsE l l.length)) := by
  refine VF.enter Tryz.func103 rfl (fun _ _ => rfl) rfl ?_; show VC _ _ _ _ _ [(0, .v (.sl .bool) l)] [] _; refine VC.seq (VC.text ?_); refine VO.c (.assign rfl) ?_; refine VO.go (VC.seq (VC.text ?_)); refine VO.c (.assign rfl) ?_; refine VO.go (VC.seq (VC.seq (VC.text ?_))); refine VO.c (.assign rfl) ?_; refine VO.go (VC.block ?_); refine VC.cell0 53 y53 ?_; refine VC.keep [(0, .v (.sl .bool) l), (3, .raw (.slice none 0 0)), (4, I ((0 : Nat) : Int))] ⟨rfl, rfl, rfl, trivial⟩ ?_; refine VC.loop (I := fun kk ff ss => ∃ (i : Nat) (out : Value), kk = l.length - i ∧ ff = [(0, .v (.sl .bool) l), (3, .raw out), (4, I ((i : Nat) : Int))] ∧ ss = [(out, .row 53 y53 (gapsE l i))] ∧ (i ≤ l.length) ∧ ((gapsE l i).length ≤ i)) ?_ _ _ _ ⟨0, (.slice none 0 0), rfl, rfl, rfl, Nat.zero_le _, (by exact Nat.le_refl _)⟩; rintro kk ff ss ⟨i, out, hk0, rfl, rfl, hi, hgl⟩; refine VC.seq (VC.seq (VC.text ?_)); refine VO.c (.move rfl) (VO.c (.move rfl) ?_); refine VO.r (.len el105) ?_; refine VO.c (.lss) (VO.go ?_); refine VC.condD rfl (fun c3 => ?_) (fun c3 => ?_)
  · refine VC.skip (VC.seq (VC.block (VC.seq (VC.seq (VC.text ?_))))); refine VO.c (.move rfl) (VO.c (.move rfl) (VO.c (.ix (j := i) rfl rfl el105 (by omega)) ?_)); refine VO.r (.ld vt4) ?_; refine VO.go ?_; refine VC.condB rfl (fun c5 => ?_) (fun c5 => ?_)
    · have e1 := gapsE_t (show i < l.length by omega) c5; refine VC.exit (VC.text ?_); refine VO.c (.move rfl) (VO.c (.add rfl rfl (by omega)) (VO.c (.assign rfl) ?_)); refine VO.nil ?_; refine ⟨_, [(0, .v (.sl .bool) l), (3, .raw out), (4, I (((i + 1) : Nat) : Int))], ?_, ⟨rfl, rfl, rfl, trivial⟩, (i + 1), out, rfl, rfl, (by first | (rw [e1]; done) | (rw [e1, e3]; done) | (rw [e1, e3, e2]; simp only [e4]; done) | (rw [e1, e3]; rfl)), (by omega), (by exact gapsE_len l _)⟩; omega
    have e1 := gapsE_f (l := l) (i := i) (by omega) (by rw [c5]; exact Bool.false_ne_true); refine VC.skip (VC.seq (VC.text ?_)); refine VO.c (.move rfl) ?_; refine VO.r (.lenO m0 el23) ?_; refine VO.c (.assign rfl) ?_; refine VO.go (VC.seq (VC.text ?_)); refine VO.c (.move rfl) (VO.c (.gtr) (VO.c (.move rfl) ?_)); refine VO.splitD (x := 20) rfl (fun g7_2 => ?_) (fun g7_2 => ?_)
    · refine VO.c (.move rfl) (VO.c (.move rfl) (VO.c (.sub rfl rfl (by omega)) (VO.c (.ixOZ (k := ((((gapsE l i).length : Nat) : Int) - (1 : Int))) rfl rfl m0 el23 (by omega) (by omega)) ?_))); refine VO.c (.faE (j := (Int.toNat ((((gapsE l i).length : Nat) : Int) - (1 : Int)))) (k := 1) m0 (by omega)) ?_; refine VO.r (.ldE (j := (Int.toNat ((((gapsE l i).length : Nat) : Int) - (1 : Int)))) (k := 1) (by omega) (.r .o) rfl m0 vt3) ?_; refine VO.c (.move rfl) (VO.c (.eql) (VO.c (.pickT rfl rfl) (VO.go ?_))); refine VC.condD rfl (fun c7 => ?_) (fun c7 => ?_)
      · have h0 : 0 < (gapsE l i).length := by omega
        have e2 := spX_pre (l := gapsE l i) h0 (by omega); have e3 := gapS_1 (out := gapsE l i) (i := i) h0 (by rw [← e2]; exact c7)
        have e4 : ((((gapsE l i).length : Nat) : Int) - (1 : Int)).toNat = (gapsE l i).length - 1 := by omega
        refine VC.text ?_; refine VO.c (.move rfl) (VO.c (.move rfl) (VO.c (.sub rfl rfl (by omega)) (VO.c (.move rfl) ?_))); refine VO.c (.add rfl rfl (by omega)) (VO.c (.ixOZ (k := ((((gapsE l i).length : Nat) : Int) - (1 : Int))) rfl rfl m0 el23 (by omega) (by omega)) (VO.c (.faE (j := (Int.toNat ((((gapsE l i).length : Nat) : Int) - (1 : Int)))) (k := 1) m0 (by omega)) ?_)); refine VO.setEF (j := (Int.toNat ((((gapsE l i).length : Nat) : Int) - (1 : Int)))) (k := 1) (dz := (((gapsE l i)[(Int.toNat ((((gapsE l i).length : Nat) : Int) - (1 : Int)))]).1, (((i : Nat) : Int) + (1 : Int)))) (by omega) vt3 (.r .o) ?_; refine VO.nil (VC.text ?_); refine VO.c (.move rfl) (VO.c (.add rfl rfl (by omega)) (VO.c (.assign rfl) ?_)); refine VO.nil ?_; refine ⟨_, [(0, .v (.sl .bool) l), (3, .raw out), (4, I (((i + 1) : Nat) : Int))], ?_, ⟨rfl, rfl, rfl, trivial⟩, (i + 1), out, rfl, rfl, (by first | (rw [e1]; done) | (rw [e1, e3]; done) | (rw [e1, e3, e2]; simp only [e4]; done) | (rw [e1, e3]; rfl)), (by omega), (by exact gapsE_len l _)⟩; omega
      have e3 := gapS_2 (out := gapsE l i) (i := i) (fun hh => by first | exact absurd hh.1 (by omega) | (rw [← spX_pre hh.1 (by omega)] at hh; exact c7 hh.2)); refine VC.text ?_; refine VO.c (.move rfl) (VO.c (.move rfl) (VO.c (.move rfl) (VO.c (.add rfl rfl (by omega)) ?_))); refine VO.c (.build (((i : Nat) : Int), (((i : Nat) : Int) + (1 : Int))) bt53) ?_; refine VO.new (.lit [(((i : Nat) : Int), (((i : Nat) : Int) + (1 : Int)))] el23) ?_; refine VO.app rfl rfl el23 el23 (by simp; omega) ?_; intro ww1; refine VO.c (.assign rfl) ?_; refine VO.nil ?_; refine VC.keep [(0, .v (.sl .bool) l), (3, .raw ww1), (4, I ((i : Nat) : Int))] ⟨rfl, rfl, rfl, trivial⟩ ?_; refine VC.text ?_; refine VO.c (.move rfl) (VO.c (.add rfl rfl (by omega)) (VO.c (.assign rfl) ?_)); refine VO.nil ?_; refine ⟨_, [(0, .v (.sl .bool) l), (3, .raw ww1), (4, I (((i + 1) : Nat) : Int))], ?_, ⟨rfl, rfl, rfl, trivial⟩, (i + 1), ww1, rfl, rfl, (by first | (rw [e1]; done) | (rw [e1, e3]; done) | (rw [e1, e3, e2]; simp only [e4]; done) | (rw [e1, e3]; rfl)), (by omega), (by exact gapsE_len l _)⟩; omega
    have e3 := gapS_2 (out := gapsE l i) (i := i) (fun hh => absurd hh.1 (by omega)); refine VO.skip (VO.skip (VO.skip (VO.skip ?_))); refine VO.skip (VO.skip (VO.skip (VO.skip ?_))); refine VO.c (.pickF rfl rfl) (VO.go ?_); refine VC.condF rfl ?_; refine VC.text ?_; refine VO.c (.move rfl) (VO.c (.move rfl) (VO.c (.move rfl) (VO.c (.add rfl rfl (by omega)) ?_))); refine VO.c (.build (((i : Nat) : Int), (((i : Nat) : Int) + (1 : Int))) bt53) ?_; refine VO.new (.lit [(((i : Nat) : Int), (((i : Nat) : Int) + (1 : Int)))] el23) ?_; refine VO.app rfl rfl el23 el23 (by simp; omega) ?_; intro ww2; refine VO.c (.assign rfl) ?_; refine VO.nil ?_; refine VC.keep [(0, .v (.sl .bool) l), (3, .raw ww2), (4, I ((i : Nat) : Int))] ⟨rfl, rfl, rfl, trivial⟩ ?_; refine VC.text ?_; refine VO.c (.move rfl) (VO.c (.add rfl rfl (by omega)) (VO.c (.assign rfl) ?_)); refine VO.nil ?_; refine ⟨_, [(0, .v (.sl .bool) l), (3, .raw ww2), (4, I (((i + 1) : Nat) : Int))], ?_, ⟨rfl, rfl, rfl, trivial⟩, (i + 1), ww2, rfl, rfl, (by first | (rw [e1]; done) | (rw [e1, e3]; done) | (rw [e1, e3, e2]; simp only [e4]; done) | (rw [e1, e3]; rfl)), (by omega), (by exact gapsE_len l _)⟩; omega
  refine VC.exit (VC.seq (VC.text ?_)); refine VO.c (.move rfl) (VO.c (.assign rfl) (VO.go ?_)); refine VC.ret ?_; exact VEnd.one rfl (evC (.row m0)) (pvE (by rw [show i = l.length by omega]))
theorem gCanonO_ok {w_xs : Value} {xs : List (Int × Int)} (hl : xs.length < 1000000) : VFG Tryz.prog OA 81 [.raw w_xs] [(w_xs, .row 53 y53 xs)] (fun r' g => r' = (.v y23 (canE xs)) ∧ g = []) := by
  refine VFG.enterC Tryz.func81 rfl (fun _ _ => rfl) rfl ?_; show VC _ _ _ _ _ [(0, .raw w_xs)] [(w_xs, .row 53 y53 xs)] _; refine VC.seq (VC.text ?_); refine VO.c (.assign rfl) ?_; refine VO.go (VC.seq (VC.text ?_)); refine VO.c (.assign rfl) ?_; refine VO.go (VC.seq (VC.seq (VC.text ?_))); refine VO.c (.move rfl) ?_; refine VO.r (.lenO m0 el23) ?_; refine VO.c (.move rfl) ?_; refine VO.go (VC.block ?_); refine VC.cell0 53 y53 ?_; refine VC.keep [(3, .raw (.slice none 0 0)), (7, .raw w_xs), (8, I ((xs.length : Nat) : Int)), (9, I ((0 : Nat) : Int))] ⟨rfl, rfl, rfl, rfl, trivial⟩ ?_; refine VC.loop (I := fun kk ff ss => ∃ (i : Nat) (out : Value), kk = xs.length - i ∧ ff = [(3, .raw out), (7, .raw w_xs), (8, I ((xs.length : Nat) : Int)), (9, I ((i : Nat) : Int))] ∧ ss = [(out, .row 53 y53 (canE (xs.take i))), (w_xs, .row 53 y53 xs)] ∧ (i ≤ xs.length) ∧ ((canE (xs.take i)).length ≤ i)) ?_ _ _ _ ⟨0, (.slice none 0 0), rfl, rfl, rfl, Nat.zero_le _, (by rw [List.take_zero]; exact Nat.le_refl _)⟩; rintro kk ff ss ⟨i, out, hk0, rfl, rfl, hi, hcl⟩; refine VC.seq (VC.text ?_); refine VO.c (.lss) ?_; refine VO.go (VC.seq ?_); refine VC.condD rfl (fun c3 => ?_) (fun c3 => ?_)
  · refine VC.skip (VC.seq (VC.block (VC.seq (VC.text ?_)))); have e1 := canE_next (show i < xs.length by omega); refine VO.c (.ixO (j := i) rfl rfl m1 el23 (by omega)) ?_; refine VO.r (.ldO rfl m1 vt53 (by omega)) ?_; refine VO.cell (.alloc zt53) ?_; intro ww7; refine VO.setV (cs' := [I ((xs[i]).1), I ((xs[i]).2)]) vt53 .v ?_; refine VO.shut [(5, .p y53 (xs[i]))] (.cons rfl (.var m0 .refl) .nil) ?_; refine VO.go (VC.seq (VC.text ?_)); refine VO.c (.move rfl) ?_; refine VO.r (.lenO m0 el23) ?_; refine VO.c (.assign rfl) ?_; refine VO.go (VC.block (VC.seq (VC.text ?_))); refine VO.c (.fa (.l .o)) ?_; refine VO.r (.ld vt3) ?_; refine VO.c (.fa (.r .o)) ?_; refine VO.r (.ld vt3) ?_; refine VO.c (.geq) (VO.c (.assign rfl) (VO.go ?_)); refine VC.condD rfl (fun c7 => ?_) (fun c7 => ?_)
    · have e3 := canS_0 (out := canE (xs.take i)) c7; refine VC.skip (VC.text ?_); refine VO.c (.add rfl rfl (by omega)) (VO.c (.move rfl) ?_); refine VO.nil ?_; refine ⟨_, [(3, .raw out), (7, .raw w_xs), (8, I ((xs.length : Nat) : Int)), (9, I (((i + 1) : Nat) : Int))], ?_, ⟨rfl, rfl, rfl, rfl, trivial⟩, (i + 1), out, rfl, rfl, (by first | (rw [e1, e3]; done) | (rw [e1, e3, e2]; simp only [e4]; done) | (rw [e1, e3]; rfl)), (by omega), (by exact Nat.le_trans (canE_len _) (List.length_take_le _ _))⟩; omega
    refine VC.seq (VC.drawn ?_); refine VD.c (.move rfl) (VD.c (.gtr) (VD.c (.move rfl) ?_)); refine VD.splitD (x := 28) rfl (fun g8_2 => ?_) (fun g8_2 => ?_)
    · refine VD.c (.move rfl) (VD.c (.move rfl) (VD.nw [] (VD.c (.sub rfl rfl (by omega)) ?_))); refine VD.co (.ixOZ (k := ((((canE (xs.take i)).length : Nat) : Int) - (1 : Int))) rfl rfl m0 el23 (by omega) (by omega)) ?_; refine VD.co (.faE (j := (Int.toNat ((((canE (xs.take i)).length : Nat) : Int) - (1 : Int)))) (k := 1) m0 (by omega)) ?_; refine VD.r [(out, .row 53 y53 (canE (xs.take i))), (w_xs, .row 53 y53 xs)] (.ldE (j := (Int.toNat ((((canE (xs.take i)).length : Nat) : Int) - (1 : Int)))) (k := 1) (by omega) (.r .o) rfl m0 vt3) (.inr ⟨rfl, rfl⟩) ?_; refine VD.c (.fa (.l .o)) ?_; refine VD.r [] (.ld vt3) (.inl rfl) ?_; refine VD.c (.geq) (VD.nw [] (VD.c (.pickT rfl rfl) (VD.c (.assign rfl) ?_))); refine VD.go ?_; refine VC.condD rfl (fun c8 => ?_) (fun c8 => ?_)
      · have h0 : 0 < (canE (xs.take i)).length := by omega
        have e2 := spX_pre (l := canE (xs.take i)) h0 (by omega); have e3 := canS_1 (out := canE (xs.take i)) c7 h0 (by rw [← e2]; exact c8)
        have e4 : ((((canE (xs.take i)).length : Nat) : Int) - (1 : Int)).toNat = (canE (xs.take i)).length - 1 := by omega
        refine VC.drawn ?_; refine VD.c (.move rfl) (VD.c (.move rfl) (VD.c (.sub rfl rfl (by omega)) (VD.c (.move rfl) ?_))); refine VD.c (.move rfl) (VD.c (.sub rfl rfl (by omega)) (VD.nw [] ?_)); refine VD.co (.ixOZ (k := ((((canE (xs.take i)).length : Nat) : Int) - (1 : Int))) rfl rfl m0 el23 (by omega) (by omega)) ?_; refine VD.co (.faE (j := (Int.toNat ((((canE (xs.take i)).length : Nat) : Int) - (1 : Int)))) (k := 1) m0 (by omega)) ?_; refine VD.r [(out, .row 53 y53 (canE (xs.take i))), (w_xs, .row 53 y53 xs)] (.ldE (j := (Int.toNat ((((canE (xs.take i)).length : Nat) : Int) - (1 : Int)))) (k := 1) (by omega) (.r .o) rfl m0 vt3) (.inr ⟨rfl, rfl⟩) ?_; refine VD.c (.fa (.r .o)) ?_; refine VD.r [] (.ld vt3) (.inl rfl) ?_; refine VD.c (.imax) ?_; refine VD.co (.ixOZ (k := ((((canE (xs.take i)).length : Nat) : Int) - (1 : Int))) rfl rfl m0 el23 (by omega) (by omega)) ?_; refine VD.nw [] ?_; refine VD.co (.faE (j := (Int.toNat ((((canE (xs.take i)).length : Nat) : Int) - (1 : Int)))) (k := 1) m0 (by omega)) ?_; refine VD.mk0 (MakeV.setEF (j := (Int.toNat ((((canE (xs.take i)).length : Nat) : Int) - (1 : Int)))) (k := 1) (dz := (((canE (xs.take i))[(Int.toNat ((((canE (xs.take i)).length : Nat) : Int) - (1 : Int)))]).1, (max (((canE (xs.take i))[(Int.toNat ((((canE (xs.take i)).length : Nat) : Int) - (1 : Int)))]).2) ((xs[i]).2)))) (by omega) vt3 (.r .o) rfl rfl) ?_; rintro _ _ tl8 ⟨rfl, rfl⟩; refine VD.nil ?_; refine VC.keep [(3, .raw out), (7, .raw w_xs), (8, I ((xs.length : Nat) : Int)), (9, I ((i : Nat) : Int))] ⟨rfl, rfl, rfl, rfl, trivial⟩ ?_; refine VC.text ?_; refine VO.c (.add rfl rfl (by omega)) (VO.c (.move rfl) ?_); refine VO.nil ?_; refine ⟨_, [(3, .raw out), (7, .raw w_xs), (8, I ((xs.length : Nat) : Int)), (9, I (((i + 1) : Nat) : Int))], ?_, ⟨rfl, rfl, rfl, rfl, trivial⟩, (i + 1), out, rfl, rfl, (by first | (rw [e1, e3]; done) | (rw [e1, e3, e2]; simp only [e4]; done) | (rw [e1, e3]; rfl)), (by omega), (by exact Nat.le_trans (canE_len _) (List.length_take_le _ _))⟩; omega
      have e3 := canS_2 (out := canE (xs.take i)) c7 (fun hh => by first | exact absurd hh.1 (by omega) | (rw [← spX_pre hh.1 (by omega)] at hh; exact c8 hh.2)); refine VC.text ?_; refine VO.c (.move rfl) ?_; refine VO.r (.ld vt53) ?_; refine VO.new (.lit [xs[i]] el23) ?_; refine VO.app rfl rfl el23 el23 (by simp; omega) ?_; intro ww9; refine VO.c (.assign rfl) ?_; refine VO.nil ?_; refine VC.keep [(3, .raw ww9), (7, .raw w_xs), (8, I ((xs.length : Nat) : Int)), (9, I ((i : Nat) : Int))] ⟨rfl, rfl, rfl, rfl, trivial⟩ ?_; refine VC.text ?_; refine VO.c (.add rfl rfl (by omega)) (VO.c (.move rfl) ?_); refine VO.nil ?_; refine ⟨_, [(3, .raw ww9), (7, .raw w_xs), (8, I ((xs.length : Nat) : Int)), (9, I (((i + 1) : Nat) : Int))], ?_, ⟨rfl, rfl, rfl, rfl, trivial⟩, (i + 1), ww9, rfl, rfl, (by first | (rw [e1, e3]; done) | (rw [e1, e3, e2]; simp only [e4]; done) | (rw [e1, e3]; rfl)), (by omega), (by exact Nat.le_trans (canE_len _) (List.length_take_le _ _))⟩; omega
    have e3 := canS_2 (out := canE (xs.take i)) c7 (fun hh => absurd hh.1 (by omega)); refine VD.skip (VD.skip (VD.nw [] (VD.skip ?_))); refine VD.skip (VD.skip (VD.skip (VD.skip ?_))); refine VD.skip (VD.skip (VD.nw [] (VD.c (.pickF rfl rfl) ?_))); refine VD.c (.assign rfl) (VD.go ?_); refine VC.condF rfl ?_; refine VC.text ?_; refine VO.c (.move rfl) ?_; refine VO.r (.ld vt53) ?_; refine VO.new (.lit [xs[i]] el23) ?_; refine VO.app rfl rfl el23 el23 (by simp; omega) ?_; intro ww10; refine VO.c (.assign rfl) ?_; refine VO.nil ?_; refine VC.keep [(3, .raw ww10), (7, .raw w_xs), (8, I ((xs.length : Nat) : Int)), (9, I ((i : Nat) : Int))] ⟨rfl, rfl, rfl, rfl, trivial⟩ ?_; refine VC.text ?_; refine VO.c (.add rfl rfl (by omega)) (VO.c (.move rfl) ?_); refine VO.nil ?_; refine ⟨_, [(3, .raw ww10), (7, .raw w_xs), (8, I ((xs.length : Nat) : Int)), (9, I (((i + 1) : Nat) : Int))], ?_, ⟨rfl, rfl, rfl, rfl, trivial⟩, (i + 1), ww10, rfl, rfl, (by first | (rw [e1, e3]; done) | (rw [e1, e3, e2]; simp only [e4]; done) | (rw [e1, e3]; rfl)), (by omega), (by exact Nat.le_trans (canE_len _) (List.length_take_le _ _))⟩; omega
  refine VC.exit (VC.seq (VC.text ?_)); refine VO.c (.move rfl) (VO.c (.assign rfl) (VO.go ?_)); refine VC.ret ?_; exact VEnd.one rfl (evC (.row m0)) (pvE (by rw [List.take_of_length_le (by omega)]))
def keptL (r : Rec1) (l : List Bool) (f : Nat → Nat) (n : Nat) : List Nat := (List.range r.2.2.1.length).map fun i => if i < n ∧ l.getD i false = true then f (r.2.2.1.getD i 0) else 0
theorem keptL_len {r : Rec1} {l : List Bool} {f : Nat → Nat} {n : Nat} : (keptL r l f n).length = r.2.2.1.length := by simp [keptL]
theorem keptL_at {r : Rec1} {l : List Bool} {f : Nat → Nat} {n i : Nat} (h : i < r.2.2.1.length) : (keptL r l f n)[i]'(by rw [keptL_len]; exact h) = if i < n ∧ l.getD i false = true then f (r.2.2.1.getD i 0) else 0 := by
  unfold keptL; rw [List.getElem_map, List.getElem_range]
theorem keptL_0 {r : Rec1} {l : List Bool} {f : Nat → Nat} : List.replicate r.2.2.1.length 0 = keptL r l f 0 := by
  refine List.ext_getElem (by rw [List.length_replicate, keptL_len]) fun i h1 h2 => ?_; rw [keptL_len] at h2; rw [List.getElem_replicate, keptL_at h2, if_neg (by omega)]
theorem keptL_t {r : Rec1} {l : List Bool} {f : Nat → Nat} {n : Nat} (hn : n < r.2.2.1.length) (h : n < l.length) (hb : l[n] = true) : keptL r l f (n + 1) = (keptL r l f n).set n (f r.2.2.1[n]) := by
  refine List.ext_getElem (by rw [List.length_set, keptL_len, keptL_len]) fun i h1 h2 => ?_; rw [keptL_len] at h1; rw [List.getElem_set, keptL_at h1]; by_cases e : n = i
  · subst e; rw [if_pos rfl, if_pos ⟨by omega, by rw [List.getD_eq_getElem?_getD, List.getElem?_eq_getElem h]; exact hb⟩, List.getD_eq_getElem?_getD, List.getElem?_eq_getElem hn] <;> rfl
  rw [if_neg e, keptL_at h1]; exact ite_congr (propext ⟨fun hh => ⟨by omega, hh.2⟩, fun hh => ⟨by omega, hh.2⟩⟩) (fun _ => rfl) (fun _ => rfl)
theorem keptL_f {r : Rec1} {l : List Bool} {f : Nat → Nat} {n : Nat} (h : n < l.length) (hb : l[n] = false) : keptL r l f (n + 1) = keptL r l f n := by
  refine List.ext_getElem (by rw [keptL_len, keptL_len]) fun i h1 h2 => ?_; rw [keptL_len] at h1; rw [keptL_at h1, keptL_at h1]; by_cases e : n = i
  · subst e; rw [if_neg (fun hh => absurd hh.2 (by rw [List.getD_eq_getElem?_getD, List.getElem?_eq_getElem h]; show ¬ l[n] = true; rw [hb]; exact Bool.false_ne_true)), if_neg (by omega)]
  exact ite_congr (propext ⟨fun hh => ⟨by omega, hh.2⟩, fun hh => ⟨by omega, hh.2⟩⟩) (fun _ => rfl) (fun _ => rfl)
def keptE (r : Rec1) (l : List Bool) : Rec1 := (r.1, r.2.1, keptL r l id l.length, gapsE l l.length)
theorem rKept_ok {r : ByteArray × Int × (List Nat) × (List (Int × Int))} {l : List Bool} (hr : r.2.2.1.length < 1000000) (hl : l.length = r.2.2.1.length) : VF Tryz.prog OA 70 [.v y25 r, .v (.sl .bool) l] (.v y25 (keptE r l)) := by
  refine VF.enter Tryz.func70 rfl (fun _ _ => rfl) rfl ?_; show VC _ _ _ _ _ [(0, .v y25 r), (1, .v (.sl .bool) l)] [] _; refine VC.seq (VC.text ?_); refine VO.new (.box) ?_; refine VO.cell (.alloc zt25) ?_; intro ww11; refine VO.go (VC.seq (VC.drawn ?_)); refine VD.c (.fa (.l .o)) ?_; refine VD.r [] (.ld vt9) (.inl rfl) ?_; refine VD.c (.fa (.r (.l .o))) ?_; refine VD.r [] (.ld vt3) (.inl rfl) ?_; refine VD.c (.fa (.r (.r (.l .o)))) ?_; refine VD.r [] (.ld vt22) (.inl rfl) ?_; refine VD.nw [] ?_; refine VD.r [] (.len el22) (.inl rfl) ?_; refine VD.cell (.make (k := r.2.2.1.length) rfl rfl el22 zt68 (by omega)) ?_; intro ww12; refine VD.c (.move rfl) ?_; refine VD.call rfl rfl (VF.call (rGaps_ok (by omega))) ?_; refine VD.one m0 fun ho13 => ?_; refine VD.c (.buildR (cs := [St r.1, I r.2.1, .raw ww12, .v y23 (gapsE l l.length)]) bt25 rfl rfl (.cons (.v) rfl rfl (.cons (.v) rfl rfl (.cons (.w ho13) rfl rfl (.cons (.v) rfl rfl (.nil rfl)))))) ?_; refine VD.cell (.alloc zt25) ?_; intro ww14; refine VD.mk0 (MakeV.setF (k := 0) vt25 (.aggs rfl (allC rfl (allC rfl (allC (p := .raw ww12) ho13 (allC rfl rfl))))) (Nat.le_of_ble_eq_true rfl) (.inr ⟨rfl, rfl⟩) rfl rfl) ?_; rintro _ _ tl15 ⟨rfl, rfl⟩; refine VD.go (VC.seq (VC.seq (VC.text ?_))); refine VO.c (.assign rfl) ?_; refine VO.go (VC.block ?_); refine VC.keep [(1, .v (.sl .bool) l), (2, .p y25 r), (4, .raw ww11), (5, .raw ww14), (6, I ((0 : Nat) : Int))] ⟨rfl, rfl, rfl, rfl, rfl, trivial⟩ ?_; refine VC.loop (I := fun kk ff ss => ∃ (i : Nat), kk = l.length - i ∧ ff = [(1, .v (.sl .bool) l), (2, .p y25 r), (4, .raw ww11), (5, .raw ww14), (6, I ((i : Nat) : Int))] ∧ ss = [(ww14, .var [St r.1, I r.2.1, .raw ww12, .v y23 (gapsE l l.length)]), (ww12, .row 68 (.flt .f32) (keptL r l id i)), (ww11, .var [St ByteArray.empty, I (0 : Int), .v y22 [], .v y23 []])] ∧ (i ≤ l.length) ∧ ((keptL r l id i).length = r.2.2.1.length)) ?_ _ _ _ ⟨0, rfl, rfl, (by rw [← keptL_0] <;> rfl), Nat.zero_le _, (by exact keptL_len)⟩; rintro kk ff ss ⟨i, hk0, rfl, rfl, hi, hkl⟩; refine VC.seq (VC.seq (VC.text ?_)); refine VO.c (.move rfl) (VO.c (.move rfl) ?_); refine VO.r (.len el105) ?_; refine VO.c (.lss) (VO.go ?_); refine VC.condD rfl (fun c3 => ?_) (fun c3 => ?_)
  · refine VC.skip (VC.seq (VC.block (VC.seq (VC.text ?_)))); refine VO.c (.move rfl) (VO.c (.move rfl) (VO.c (.ix (j := i) rfl rfl el105 (by omega)) ?_)); refine VO.r (.ld vt4) ?_; refine VO.go ?_; refine VC.condB rfl (fun c5 => ?_) (fun c5 => ?_)
    · refine VC.drawn ?_; refine VD.co (.faO (k := 2) m0) ?_; refine VD.r [(ww14, .var [St r.1, I r.2.1, .raw ww12, .v y23 (gapsE l l.length)]), (ww12, .row 68 (.flt .f32) (keptL r l id i)), (ww11, .var [St ByteArray.empty, I (0 : Int), .v y22 [], .v y23 []])] (.ldF (k := 2) m0 vt22) (.inr ⟨rfl, rfl⟩) ?_; refine VD.c (.move rfl) (VD.c (.fa (.r (.r (.l .o)))) ?_); refine VD.r [] (.ld vt22) (.inl rfl) ?_; refine VD.c (.move rfl) (VD.nw [] (VD.c (.ix (j := i) rfl rfl el22 (by omega)) ?_)); refine VD.r [] (.ld vt68) (.inl rfl) ?_; refine VD.co (.ixO (j := i) rfl rfl m1 el22 (by omega)) ?_; refine VD.perm swap1 ?_; refine VD.mk0 (MakeV.setE (j := i) vt68 (by omega) rfl rfl) ?_; rintro _ _ tl16 ⟨rfl, rfl⟩; refine VD.nil ?_; refine VC.text ?_; refine VO.c (.move rfl) (VO.c (.add rfl rfl (by omega)) (VO.c (.assign rfl) ?_)); refine VO.perm swap2 ?_; refine VO.perm swap1 ?_; refine VO.perm swap2 ?_; refine VO.nil ?_; refine ⟨_, [(1, .v (.sl .bool) l), (2, .p y25 r), (4, .raw ww11), (5, .raw ww14), (6, I (((i + 1) : Nat) : Int))], ?_, ⟨rfl, rfl, rfl, rfl, rfl, trivial⟩, (i + 1), rfl, rfl, (by first | (rw [keptL_t (by omega) (by omega) c5]; rfl) | (rw [keptL_f (by omega) c5])), (by omega), (by exact keptL_len)⟩; omega
    refine VC.skip (VC.text ?_); refine VO.c (.move rfl) (VO.c (.add rfl rfl (by omega)) (VO.c (.assign rfl) ?_)); refine VO.nil ?_; refine ⟨_, [(1, .v (.sl .bool) l), (2, .p y25 r), (4, .raw ww11), (5, .raw ww14), (6, I (((i + 1) : Nat) : Int))], ?_, ⟨rfl, rfl, rfl, rfl, rfl, trivial⟩, (i + 1), rfl, rfl, (by first | (rw [keptL_t (by omega) (by omega) c5]; rfl) | (rw [keptL_f (by omega) c5])), (by omega), (by exact keptL_len)⟩; omega
  refine VC.exit (VC.seq ?_); refine VC.perm swap1 ?_; refine VC.shutL [(ww12, .row 68 (.flt .f32) (keptL r l id i)), (ww14, .var [St r.1, I r.2.1, .raw ww12, .v y23 (gapsE l l.length)])] [(5, .p y25 (r.1, r.2.1, (keptL r l id i), gapsE l l.length))] rfl (.cons rfl (.var m1 (.cons .same (.cons .same (.cons (.row m0) (.cons .same .nil))))) .nil) ?_; refine VC.text ?_; refine VO.r (.ld vt25) ?_; refine VO.setV (cs' := [St r.1, I r.2.1, .v y22 (keptL r l id i), .v y23 (gapsE l l.length)]) vt25 .v ?_; refine VO.go ?_; refine VC.ret ?_; exact VEnd.one rfl (.cell (x := (r.1, r.2.1, (keptL r l id i), gapsE l l.length)) rfl m0 vt25 .refl) (pvE (by rw [show i = l.length by omega] <;> rfl))
def plusZ (x : Nat) : Nat := (single.add x 0).getD 0
theorem u32_0 : u32 0 = some 0 := by decide +kernel
theorem plusZ_ok {x : Nat} (h : lvlE x = 0) : single.add x 0 = some (plusZ x) ∧ lvlE (plusZ x) = 0 ∧ u32 (plusZ x) = u32 x := by
  obtain ⟨h1, h2, h3⟩ := lvl_ok h
  obtain ⟨r, hr, hr2⟩ := add32 h1 u32_0 (by
    rw [Int.add_zero, Int.natAbs_mul]
    exact rep_small (n := (sxE x).natAbs) (j := 145) (by show _ < 2 ^ (23 + 1); omega) (by decide))
  have e : plusZ x = r := by rw [plusZ, hr] <;> rfl
  rw [Int.add_zero] at hr2; rw [e]; exact ⟨hr, (lvl_of hr2 h2 h3).1, by rw [hr2, h1]⟩
def keepL (r : Rec1) (l : List Bool) (n : Nat) : List Nat := (List.range r.2.2.1.length).map fun i => if i < n then (if l.getD i false = true then plusZ (r.2.2.1.getD i 0) else 0) else r.2.2.1.getD i 0
theorem keepL_len {r : Rec1} {l : List Bool} {n : Nat} : (keepL r l n).length = r.2.2.1.length := by simp [keepL]
theorem keepL_at {r : Rec1} {l : List Bool} {n i : Nat} (h : i < r.2.2.1.length) : (keepL r l n)[i]'(by rw [keepL_len]; exact h) = if i < n then (if l.getD i false = true then plusZ (r.2.2.1.getD i 0) else 0) else r.2.2.1.getD i 0 := by
  unfold keepL; rw [List.getElem_map, List.getElem_range]
theorem getDat {α : Type} {l : List α} {i : Nat} {d : α} (h : i < l.length) : l.getD i d = l[i] := by
  rw [List.getD_eq_getElem?_getD, List.getElem?_eq_getElem h] <;> rfl
theorem keepL_0 {r : Rec1} {l : List Bool} : r.2.2.1 = keepL r l 0 := by
  refine List.ext_getElem (by rw [keepL_len]) fun i h1 h2 => ?_; rw [keepL_at h1, if_neg (by omega), getDat h1]
theorem keepL_cur {r : Rec1} {l : List Bool} {n : Nat} (hn : n < r.2.2.1.length) (h : n < (keepL r l n).length) : (keepL r l n)[n] = r.2.2.1[n] := by
  rw [keepL_at hn, if_neg (by omega), getDat hn]
theorem keepL_s {r : Rec1} {l : List Bool} {n : Nat} (hn : n < r.2.2.1.length) : keepL r l (n + 1) = (keepL r l n).set n (if l.getD n false = true then plusZ (r.2.2.1.getD n 0) else 0) := by
  refine List.ext_getElem (by rw [List.length_set, keepL_len, keepL_len]) fun i h1 h2 => ?_; rw [keepL_len] at h1; rw [List.getElem_set, keepL_at h1]; by_cases e : n = i
  · subst e; rw [if_pos rfl, if_pos (by omega)]
  rw [if_neg e, keepL_at h1]; exact ite_congr (propext ⟨fun hh => by omega, fun hh => by omega⟩) (fun _ => rfl) (fun _ => rfl)
theorem keepL_t {r : Rec1} {l : List Bool} {n : Nat} (hn : n < r.2.2.1.length) (h : n < l.length) (hb : l[n] = true) : keepL r l (n + 1) = (keepL r l n).set n (plusZ r.2.2.1[n]) := by
  rw [keepL_s hn, if_pos (by rw [getDat h]; exact hb), getDat hn]
theorem keepL_f {r : Rec1} {l : List Bool} {n : Nat} (hn : n < r.2.2.1.length) (h : n < l.length) (hb : l[n] = false) : keepL r l (n + 1) = (keepL r l n).set n 0 := by
  rw [keepL_s hn, if_neg (by rw [getDat h, hb]; exact Bool.false_ne_true)]
theorem keepL_all {r : Rec1} {l : List Bool} (h : l.length = r.2.2.1.length) : keepL r l l.length = keptL r l plusZ l.length := by
  refine List.ext_getElem (by rw [keepL_len, keptL_len]) fun i h1 h2 => ?_; rw [keepL_len] at h1; rw [keepL_at h1, keptL_at h1, if_pos (by omega)]; exact ite_congr (propext ⟨fun hh => ⟨by omega, hh⟩, fun hh => hh.2⟩) (fun _ => rfl) (fun _ => rfl)
theorem gKeeping_ok {r : ByteArray × Int × (List Nat) × (List (Int × Int))} {l : List Bool} (hr : r.2.2.1.length < 1000000) (hl : l.length = r.2.2.1.length) (hv : ∀ x ∈ r.2.2.1, lvlE x = 0) : VF Tryz.prog OA 62 [.v y32 r, .v (.sl .bool) l] (.v y32 (r.1, r.2.1, keptL r l plusZ l.length, gapsE l l.length)) := by
  refine VF.enter Tryz.func62 rfl (fun _ _ => rfl) rfl ?_; show VC _ _ _ _ _ [(0, .v y32 r), (1, .v (.sl .bool) l)] [] _; refine VC.seq (VC.text ?_); refine VO.new (.box) ?_; refine VO.cell (.alloc zt32) ?_; intro ww17; refine VO.go (VC.seq (VC.drawn ?_)); refine VD.c (.fa (.l .o)) ?_; refine VD.r [] (.ld vt9) (.inl rfl) ?_; refine VD.c (.fa (.r (.l .o))) ?_; refine VD.r [] (.ld vt3) (.inl rfl) ?_; refine VD.c (.fa (.r (.r (.l .o)))) ?_; refine VD.r [] (.ld vt22) (.inl rfl) ?_; refine VD.nw [] ?_; refine VD.r [] (.len el22) (.inl rfl) ?_; refine VD.cell (.make (k := r.2.2.1.length) rfl rfl el22 zt68 (by omega)) ?_; intro ww18; refine VD.one m0 fun ho19 => ?_; refine VD.c (.buildR (cs := [St r.1, I r.2.1, .raw ww18, nilV]) bt32 rfl rfl (.cons (.v) rfl rfl (.cons (.v) rfl rfl (.cons (.w ho19) rfl rfl (.nil rfl))))) ?_; refine VD.cell (.alloc zt32) ?_; intro ww20; refine VD.mk0 (MakeV.setF (k := 0) vt32 (.aggs rfl (allC rfl (allC rfl (allC (p := .raw ww18) ho19 (allC rfl rfl))))) (Nat.le_of_ble_eq_true rfl) (.inr ⟨rfl, rfl⟩) rfl rfl) ?_; rintro _ _ tl21 ⟨rfl, rfl⟩; refine VD.go (VC.seq (VC.text ?_)); refine VO.c (.faO (k := 2) m0) ?_; refine VO.r (.ldF (k := 2) m0 vt22) ?_; refine VO.c (.fa (.r (.r (.l .o)))) ?_; refine VO.r (.ld vt22) ?_; refine VO.perm swap1 ?_; refine VO.copy rfl rfl el22 (by simp) ?_; refine VO.go (VC.seq (VC.seq (VC.text ?_))); refine VO.c (.move rfl) ?_; refine VO.r (.len el105) ?_; refine VO.c (.move rfl) ?_; refine VO.go (VC.block ?_); refine VC.cell0 53 y53 ?_; refine VC.keep [(4, .raw ww17), (5, .raw ww20), (22, .v (.sl .bool) l), (23, I ((l.length : Nat) : Int)), (24, I ((0 : Nat) : Int))] ⟨rfl, rfl, rfl, rfl, rfl, trivial⟩ ?_; refine VC.loop (I := fun kk ff ss => ∃ (i : Nat) (w : Value), kk = l.length - i ∧ ff = [(4, .raw ww17), (5, .raw ww20), (22, .v (.sl .bool) l), (23, I ((l.length : Nat) : Int)), (24, I ((i : Nat) : Int))] ∧ ss = [(w, .row 53 y53 (unitE l i)), (ww18, .row 68 (.flt .f32) (keepL r l i)), (ww20, .var [St r.1, I r.2.1, .raw ww18, .raw w]), (ww17, .var [St ByteArray.empty, I (0 : Int), .v y22 [], .v y23 []])] ∧ (i ≤ l.length) ∧ ((keepL r l i).length = r.2.2.1.length) ∧ ((unitE l i).length ≤ i)) ?_ _ _ _ ⟨0, (.slice none 0 0), rfl, rfl, (by rw [← keepL_0] <;> rfl), Nat.zero_le _, (by exact keepL_len), (by exact Nat.le_refl _)⟩; rintro kk ff ss ⟨i, w, hk0, rfl, rfl, hi, hkl, hul⟩; refine VC.seq (VC.text ?_); refine VO.c (.lss) ?_; refine VO.go (VC.seq ?_); refine VC.condD rfl (fun c4 => ?_) (fun c4 => ?_)
  · have hil : i < r.2.2.1.length := by omega
    have hkc := keepL_cur (r := r) (l := l) hil (by omega)
    have hpz : single.add ((keepL r l i)[i]'(by omega)) 0 = some (plusZ r.2.2.1[i]) := by rw [hkc]; exact (plusZ_ok (hv _ (List.getElem_mem hil))).1
    refine VC.skip (VC.seq (VC.block (VC.seq (VC.text ?_)))); refine VO.c (.move rfl) (VO.c (.ix (j := i) rfl rfl el105 (by omega)) ?_); refine VO.r (.ld vt4) ?_; refine VO.c (.assign rfl) (VO.c (.assign rfl) ?_); refine VO.go (VC.seq (VC.seq (VC.text ?_))); refine VO.c (.move rfl) (VO.go ?_); refine VC.condB rfl (fun c6 => ?_) (fun c6 => ?_)
    · refine VC.seq (VC.text ?_); refine VO.c (.faO (k := 2) m2) ?_; refine VO.r (.ldF (k := 2) m2 vt22) ?_; refine VO.c (.move rfl) (VO.c (.ixO (j := i) rfl rfl m1 el22 (by omega)) ?_); refine VO.r (.ldO rfl m1 vt68 (by omega)) ?_; refine VO.c (.fop (add32E hpz)) (VO.c (.ixO (j := i) rfl rfl m1 el22 (by omega)) ?_); refine VO.perm swap1 ?_; refine VO.setE i rfl rfl vt68 (by omega) ?_; refine VO.go (VC.exit (VC.text ?_)); refine VO.c (.add rfl rfl (by omega)) (VO.c (.move rfl) ?_); refine VO.perm swap3 ?_; refine VO.perm swap3 ?_; refine VO.perm swap2 ?_; refine VO.perm swap3 ?_; refine VO.nil ?_; refine ⟨_, [(4, .raw ww17), (5, .raw ww20), (22, .v (.sl .bool) l), (23, I ((l.length : Nat) : Int)), (24, I (((i + 1) : Nat) : Int))], ?_, ⟨rfl, rfl, rfl, rfl, rfl, trivial⟩, (i + 1), w, rfl, rfl, (by first | (rw [keepL_t (by omega) (by omega) c6, unitE_t (by omega) c6]; done) | (rw [keepL_f (by omega) (by omega) c6, unitE_f (by omega) (by rw [c6]; exact Bool.false_ne_true)]; done) | (rw [keepL_t (by omega) (by omega) c6, unitE_t (by omega) c6]; rfl) | (rw [keepL_f (by omega) (by omega) c6, unitE_f (by omega) (by rw [c6]; exact Bool.false_ne_true)]; rfl)), (by omega), (by exact keepL_len), (by exact unitE_len l _)⟩; omega
    refine VC.skip (VC.seq (VC.text ?_)); refine VO.c (.faO (k := 2) m2) ?_; refine VO.r (.ldF (k := 2) m2 vt22) ?_; refine VO.c (.move rfl) (VO.c (.ixO (j := i) rfl rfl m1 el22 (by omega)) ?_); refine VO.perm swap1 ?_; refine VO.setE i rfl rfl vt68 (by omega) ?_; refine VO.go (VC.text ?_); refine VO.c (.faO (k := 3) m2) ?_; refine VO.r (.ldF (k := 3) m2 vt23) ?_; refine VO.c (.move rfl) (VO.c (.move rfl) (VO.c (.add rfl rfl (by omega)) (VO.c (.build (((i : Nat) : Int), (((i : Nat) : Int) + (1 : Int))) bt53) ?_))); refine VO.new (.lit [(((i : Nat) : Int), (((i : Nat) : Int) + (1 : Int)))] el23) ?_; refine VO.perm swap1 ?_; refine VO.app rfl rfl el23 el23 (by simp; omega) ?_; intro ww22; refine VO.c (.faO (k := 3) m2) ?_; refine VO.perm swap2 ?_; refine VO.one m1 fun ho23 => ?_; refine VO.setF (cs' := [St r.1, I r.2.1, .raw ww18, .raw ww22]) 3 vt23 (.raw rfl (agg_one ho23) ho23) ?_; refine VO.nil (VC.text ?_); refine VO.c (.add rfl rfl (by omega)) (VO.c (.move rfl) ?_); refine VO.perm swap3 ?_; refine VO.perm swap1 ?_; refine VO.perm swap3 ?_; refine VO.perm swap3 ?_; refine VO.nil ?_; refine ⟨_, [(4, .raw ww17), (5, .raw ww20), (22, .v (.sl .bool) l), (23, I ((l.length : Nat) : Int)), (24, I (((i + 1) : Nat) : Int))], ?_, ⟨rfl, rfl, rfl, rfl, rfl, trivial⟩, (i + 1), ww22, rfl, rfl, (by first | (rw [keepL_t (by omega) (by omega) c6, unitE_t (by omega) c6]; done) | (rw [keepL_f (by omega) (by omega) c6, unitE_f (by omega) (by rw [c6]; exact Bool.false_ne_true)]; done) | (rw [keepL_t (by omega) (by omega) c6, unitE_t (by omega) c6]; rfl) | (rw [keepL_f (by omega) (by omega) c6, unitE_f (by omega) (by rw [c6]; exact Bool.false_ne_true)]; rfl)), (by omega), (by exact keepL_len), (by exact unitE_len l _)⟩; omega
  refine VC.exit (VC.seq (VC.text ?_)); refine VO.c (.faO (k := 3) m2) ?_; refine VO.r (.ldF (k := 3) m2 vt23) ?_; refine VO.callG [(w, .row 53 y53 (unitE l i))] rfl rfl rfl (VFG.call (gCanonO_ok (Nat.lt_of_le_of_lt (unitE_len _ _) (by omega)))) ?_; rintro _ _ ⟨rfl, rfl⟩; show VO _ _ _ _ _ _ [(ww18, .row 68 (.flt .f32) (keepL r l i)), (ww20, .var [St r.1, I r.2.1, .raw ww18, .raw w]), (ww17, .var [St ByteArray.empty, I (0 : Int), .v y22 [], .v y23 []])] _; refine VO.c (.faO (k := 3) m1) ?_; refine VO.perm swap1 ?_; refine VO.setF (cs' := [St r.1, I r.2.1, .raw ww18, .v y23 (canE (unitE l i))]) 3 vt23 .v ?_; refine VO.go (VC.seq ?_); refine VC.perm swap1 ?_; refine VC.shutL [(ww18, .row 68 (.flt .f32) (keepL r l i)), (ww20, .var [St r.1, I r.2.1, .raw ww18, .v y23 (canE (unitE l i))])] [(5, .p y32 (r.1, r.2.1, (keepL r l i), canE (unitE l i)))] rfl (.cons rfl (.var m1 (.cons .same (.cons .same (.cons (.row m0) (.cons .same .nil))))) .nil) ?_; refine VC.text ?_; refine VO.r (.ld vt32) ?_; refine VO.setV (cs' := [St r.1, I r.2.1, .v y22 (keepL r l i), .v y23 (canE (unitE l i))]) vt32 .v ?_; refine VO.go ?_; refine VC.ret ?_; exact VEnd.one rfl (.cell (x := (r.1, r.2.1, (keepL r l i), canE (unitE l i))) rfl m0 vt32 .refl) (pvE (by rw [show i = l.length by omega, unit_can, keepL_all hl] <;> rfl))
end Go.Proofs
namespace Go.Fs
variable {P : Program} {fl : VL} {σ : Sto} {T T' : TypeId} {x y : Operand} {p q : Int}
end Go.Fs
namespace Go.Fs
variable {P : Program} {orc : FuncId → List Value → Heap → Option (Value × Heap)} {h : Heap} {σ ρ : Sto} {fl : VL} {ops : Array Oper} {n i mem : Nat} {l : List Oper} {K : VL → Sto → Prop} {nw bs : List Nat} {tl : Bool} {hr : Heap} {S0 A : List Nat} {t : Tr} {rd chg : List Nat}
end Go.Fs
namespace Go.Proofs
open Go.Fs Ieee
set_option maxHeartbeats 400000
theorem rec_ok {r : Rec1} (h : recE r = 0) : (0 ≤ r.2.1 ∧ r.2.1 ≤ 100000) ∧ r.2.2.1.length ≤ 4096 ∧ r.2.2.2.length ≤ 2048 ∧ (∀ x ∈ r.2.2.1, lvlE x = 0) ∧ ∀ s ∈ r.2.2.2, 0 ≤ s.1 ∧ s.1 < s.2 ∧ s.2 ≤ (r.2.2.1.length : Nat) := by
  unfold recE at h; split at h
  · rename_i h1; exact absurd h h1
  rename_i h1; split at h
  · rename_i h2; exact absurd h h2
  rename_i h2; split at h
  · cases h
  rename_i h3; have h1 := firstE_zero.1 (Classical.not_not.1 h1); have h2 := bodyE_zero.1 (Classical.not_not.1 h2); have h4 := spans_canon h2.2; have h5 := bey_f (by simpa using h3); have h6 := h1 (rangeE r.2.1 0 100000) (by simp); have h7 := h1 (whenE (decide ((4096 : Int) < (r.2.2.1.length : Nat))) 5) (by simp)
  have h6 : 0 ≤ r.2.1 ∧ r.2.1 ≤ 100000 := by
    unfold rangeE at h6; split at h6
    · cases h6
    omega
  rw [whenE_zero (by decide), decide_eq_false_iff_not] at h7; refine ⟨h6, by omega, h4.2, fun x hx => firstE_zero.1 h2.1 _ (List.mem_map.2 ⟨x, hx, rfl⟩), fun s hs => ?_⟩; have h8 := h4.1.1 s hs; exact ⟨h8.1, h8.2.1, h5 s hs⟩
def sameLv (a b : List Nat) : Bool := decide (a.length = b.length ∧ ∀ i, i < a.length → fcmpE .neq .f32 (a.getD i 0) (b.getD i 0) = false)
theorem rSameLv_ok {a : List Nat} {b : List Nat} (ha : a.length < 1000000) : VF Tryz.prog OA 35 [.v y22 a, .v y22 b] (B (sameLv a b)) := by
  refine VF.enter Tryz.func35 rfl (fun _ _ => rfl) rfl ?_; show VC _ _ _ _ _ [(0, .v y22 a), (1, .v y22 b)] [] _; refine VC.seq (VC.text ?_); refine VO.c (.assign rfl) ?_; refine VO.go (VC.seq (VC.seq (VC.text ?_))); refine VO.c (.move rfl) ?_; refine VO.r (.len el22) ?_; refine VO.c (.move rfl) ?_; refine VO.r (.len el22) ?_; refine VO.c (.neq) (VO.go ?_); refine VC.condD rfl (fun c1 => ?_) (fun c1 => ?_)
  · have hne : ¬ a.length = b.length := by omega
    refine VC.seq (VC.text ?_); refine VO.c (.assign rfl) (VO.go ?_); refine VC.ret ?_; exact VEnd.one rfl evT (pvE (by exact (decide_eq_false fun hh => hne hh.1).symm))
  have hle : a.length = b.length := by omega
  refine VC.skip (VC.seq (VC.seq (VC.text ?_))); refine VO.c (.assign rfl) ?_; refine VO.go (VC.block ?_); refine VC.keep [(0, .v y22 a), (1, .v y22 b), (5, I ((0 : Nat) : Int))] ⟨rfl, rfl, rfl, trivial⟩ ?_; refine VC.loop (I := fun kk ff ss => ∃ (i : Nat), kk = a.length - i ∧ ff = [(0, .v y22 a), (1, .v y22 b), (5, I ((i : Nat) : Int))] ∧ ss = [] ∧ (i ≤ a.length) ∧ (∀ j, j < i → fcmpE .neq .f32 (a.getD j 0) (b.getD j 0) = false)) ?_ _ _ _ ⟨0, rfl, rfl, rfl, Nat.zero_le _, (by intro j hj; omega)⟩; rintro kk ff ss ⟨i, hk0, rfl, rfl, hi, hn⟩; refine VC.seq (VC.seq (VC.text ?_)); refine VO.c (.move rfl) (VO.c (.move rfl) ?_); refine VO.r (.len el22) ?_; refine VO.c (.lss) (VO.go ?_); refine VC.condD rfl (fun c4 => ?_) (fun c4 => ?_)
  · have hi' : i < a.length := by omega
    refine VC.skip (VC.seq (VC.block (VC.seq (VC.drawn ?_)))); refine VD.c (.move rfl) (VD.c (.move rfl) (VD.c (.ix (j := i) rfl rfl el22 (by omega)) ?_)); refine VD.r [] (.ld vt68) (.inl rfl) ?_; refine VD.c (.move rfl) (VD.c (.move rfl) (VD.nw [] (VD.c (.ix (j := i) rfl rfl el22 (by omega)) ?_))); refine VD.r [] (.ld vt68) (.inl rfl) ?_; refine VD.c (.fcmp .neq) (VD.go ?_); refine VC.condB rfl (fun c6 => ?_) (fun c6 => ?_)
    · have c6' : fcmpE .neq .f32 (a.getD i 0) (b.getD i 0) = true := by simpa [hi', show i < b.length by omega] using c6
      refine VC.seq (VC.text ?_); refine VO.c (.assign rfl) (VO.go ?_); refine VC.ret ?_; exact VEnd.one rfl evT (pvE (by exact (decide_eq_false fun hh => by rw [hh.2 i hi'] at c6'; cases c6').symm))
    have c6' : fcmpE .neq .f32 (a.getD i 0) (b.getD i 0) = false := by simpa [hi', show i < b.length by omega] using c6
    refine VC.skip (VC.text ?_); refine VO.c (.move rfl) (VO.c (.add rfl rfl (by omega)) (VO.c (.assign rfl) ?_)); refine VO.nil ?_; refine ⟨_, [(0, .v y22 a), (1, .v y22 b), (5, I (((i + 1) : Nat) : Int))], ?_, ⟨rfl, rfl, rfl, trivial⟩, (i + 1), rfl, rfl, rfl, (by omega), (by intro j hj; rcases Nat.lt_succ_iff_lt_or_eq.1 hj with h | h; exact hn j h; subst h; exact c6')⟩; omega
  refine VC.exit (VC.seq (VC.text ?_)); refine VO.c (.assign rfl) (VO.go ?_); refine VC.ret ?_; exact VEnd.one rfl evT (pvE (by exact (decide_eq_true ⟨hle, fun j hj => hn j (by omega)⟩).symm))
def sameRec (a b : Rec1) : Bool := decide (a.1 = b.1) && decide (a.2.1 = b.2.1) && sameLv a.2.2.1 b.2.2.1 && decide (a.2.2.2 = b.2.2.2)
theorem rSameRec_ok {a : ByteArray × Int × (List Nat) × (List (Int × Int))} {b : ByteArray × Int × (List Nat) × (List (Int × Int))} (ha : a.2.2.1.length < 1000000) (ha2 : a.2.2.2.length < 1000000) (hb2 : b.2.2.2.length < 1000000) : VF Tryz.prog OA 19 [.v y25 a, .v y25 b] (B (sameRec a b)) := by
  refine VF.enter Tryz.func19 rfl (fun _ _ => rfl) rfl ?_; show VC _ _ _ _ _ [(0, .v y25 a), (1, .v y25 b)] [] _; refine VC.seq (VC.text ?_); refine VO.new (.box) ?_; refine VO.new (.box) ?_; refine VO.c (.assign rfl) ?_; refine VO.go (VC.seq (VC.text ?_)); refine VO.c (.fa (.l .o)) ?_; refine VO.r (.ld vt9) ?_; refine VO.c (.fa (.l .o)) ?_; refine VO.r (.ld vt9) ?_; refine VO.c (.seql) (VO.c (.move rfl) ?_); refine VO.cg (r := decide (a.1 = b.1)) (w := true) [] trivial (fun _ => (.fa (.r (.l .o)))) ?_; refine VO.rg (r := decide (a.1 = b.1)) (w := true) [(11, .p (.int .i64) a.2.1)] ⟨rfl, trivial⟩ (fun _ => (.ld vt3)) ?_; refine VO.cg (r := decide (a.1 = b.1)) (w := true) [] trivial (fun _ => (.fa (.r (.l .o)))) ?_; refine VO.rg (r := decide (a.1 = b.1)) (w := true) [(13, .p (.int .i64) b.2.1)] ⟨rfl, trivial⟩ (fun _ => (.ld vt3)) ?_; refine VO.cg (r := decide (a.1 = b.1)) (w := true) [(12, I a.2.1), (14, I b.2.1)] ⟨rfl, rfl, trivial⟩ (fun _ => (.eql)) ?_; refine VO.c (.and) (VO.c (.move rfl) ?_); refine VO.cg (r := ((decide (a.1 = b.1)) && (decide (a.2.1 = b.2.1)))) (w := true) [] trivial (fun _ => (.fa (.r (.r (.l .o))))) ?_; refine VO.rg (r := ((decide (a.1 = b.1)) && (decide (a.2.1 = b.2.1)))) (w := true) [(18, .p y22 a.2.2.1)] ⟨rfl, trivial⟩ (fun _ => (.ld vt22)) ?_; refine VO.cg (r := ((decide (a.1 = b.1)) && (decide (a.2.1 = b.2.1)))) (w := true) [] trivial (fun _ => (.fa (.r (.r (.l .o))))) ?_; refine VO.rg (r := ((decide (a.1 = b.1)) && (decide (a.2.1 = b.2.1)))) (w := true) [(20, .p y22 b.2.2.1)] ⟨rfl, trivial⟩ (fun _ => (.ld vt22)) ?_; refine VO.callg (r0 := ((decide (a.1 = b.1)) && (decide (a.2.1 = b.2.1)))) (w := true) [(19, .v y22 a.2.2.1), (21, .v y22 b.2.2.1)] ⟨rfl, rfl, trivial⟩ rfl rfl .same .refl rfl (fun hgd => have g1_12 : ((decide (a.1 = b.1)) && (decide (a.2.1 = b.2.1))) = true := (by simpa using hgd); VF.call (rSameLv_ok (by first | assumption | omega | simp))) ?_; refine VO.c (.and) (VO.c (.move rfl) ?_); refine VO.cg (r := (((decide (a.1 = b.1)) && (decide (a.2.1 = b.2.1))) && (sameLv a.2.2.1 b.2.2.1))) (w := true) [] trivial (fun _ => (.fa (.r (.r (.r (k := 0) .o))))) ?_; refine VO.rg (r := (((decide (a.1 = b.1)) && (decide (a.2.1 = b.2.1))) && (sameLv a.2.2.1 b.2.2.1))) (w := true) [(25, .p y23 a.2.2.2)] ⟨rfl, trivial⟩ (fun _ => (.ld vt23)) ?_; refine VO.cg (r := (((decide (a.1 = b.1)) && (decide (a.2.1 = b.2.1))) && (sameLv a.2.2.1 b.2.2.1))) (w := true) [] trivial (fun _ => (.fa (.r (.r (.r (k := 0) .o))))) ?_; refine VO.rg (r := (((decide (a.1 = b.1)) && (decide (a.2.1 = b.2.1))) && (sameLv a.2.2.1 b.2.2.1))) (w := true) [(27, .p y23 b.2.2.2)] ⟨rfl, trivial⟩ (fun _ => (.ld vt23)) ?_; refine VO.callg (r0 := (((decide (a.1 = b.1)) && (decide (a.2.1 = b.2.1))) && (sameLv a.2.2.1 b.2.2.1))) (w := true) [(26, .v y23 a.2.2.2), (28, .v y23 b.2.2.2)] ⟨rfl, rfl, trivial⟩ rfl rfl .same .refl rfl (fun hgd => have g1_19 : (((decide (a.1 = b.1)) && (decide (a.2.1 = b.2.1))) && (sameLv a.2.2.1 b.2.2.1)) = true := (by simpa using hgd); VF.call (rSameSp_ok (by first | assumption | omega | simp) (by first | assumption | omega | simp))) ?_; refine VO.c (.and) (VO.c (.assign rfl) (VO.go ?_)); refine VC.ret ?_; exact VEnd.one rfl evT (pvE (by first | rfl | simp [sameRec, *]))
theorem lOwn_ok {r : ByteArray × Int × (List Nat) × (List (Int × Int))} : VF Tryz.prog OA 20 [.v y32 r] (.v y25 r) := by
  refine VF.enter Tryz.func20 rfl (fun _ _ => rfl) rfl ?_; show VC _ _ _ _ _ [(0, .v y32 r)] [] _; refine VC.seq (VC.text ?_); refine VO.new (.box) ?_; refine VO.cell (.alloc zt25) ?_; intro ww1; refine VO.go (VC.seq (VC.text ?_)); refine VO.r (.ld vt32) ?_; refine VO.setV (cs' := [St r.1, I r.2.1, .v y22 r.2.2.1, .v y23 r.2.2.2]) vt25 .v ?_; refine VO.go ?_; refine VC.ret ?_; exact VEnd.one rfl (.cell (x := r) rfl m0 vt25 .refl) (pvE (by rfl))
def zRec : Rec1 := (ByteArray.empty, 0, [], [])
def toldE (have_ : Rec1) (e bad : Int) (want : Rec1) : Bool := if bad ≠ 0 then sameRec have_ zRec && decide (e = bad) else decide (e = 0) && sameRec have_ want
theorem lTold_ok {v : ByteArray × Int × (List Nat) × (List (Int × Int))} {e : Int} {bad : Int} {want : ByteArray × Int × (List Nat) × (List (Int × Int))} (ha : v.2.2.1.length < 1000000) (ha2 : v.2.2.2.length < 1000000) (hb2 : want.2.2.2.length < 1000000) : VF Tryz.prog OA 14 [.v y32 v, I e, I bad, .v y25 want] (B (toldE v e bad want)) := by
  refine VF.enter Tryz.func14 rfl (fun _ _ => rfl) rfl ?_; show VC _ _ _ _ _ [(0, .v y32 v), (1, I e), (2, I bad), (3, .v y25 want)] [] _; refine VC.seq (VC.text ?_); refine VO.new (.box) ?_; refine VO.new (.box) ?_; refine VO.c (.assign rfl) ?_; refine VO.go (VC.seq (VC.seq (VC.text ?_))); refine VO.c (.move rfl) (VO.c (.neq) (VO.go ?_)); refine VC.condD rfl (fun c1 => ?_) (fun c1 => ?_)
  · refine VC.seq (VC.text ?_); refine VO.r (.ld vt32) ?_; refine VO.call rfl rfl (VF.call (lOwn_ok )) ?_; refine VO.c (.build (ByteArray.empty, 0, [], []) bt25) ?_; refine VO.call rfl rfl (VF.call (rSameRec_ok ha ha2 (by decide))) ?_; refine VO.c (.move rfl) ?_; refine VO.cg (r := sameRec v (ByteArray.empty, 0, [], [])) (w := true) [] trivial (fun _ => (.move rfl)) ?_; refine VO.cg (r := sameRec v (ByteArray.empty, 0, [], [])) (w := true) [] trivial (fun _ => (.move rfl)) ?_; refine VO.cg (r := sameRec v (ByteArray.empty, 0, [], [])) (w := true) [(16, I e), (17, I bad)] ⟨rfl, rfl, trivial⟩ (fun _ => (.eql)) ?_; refine VO.c (.and) (VO.c (.assign rfl) (VO.go ?_)); refine VC.ret ?_; exact VEnd.one rfl evT (pvE (by rw [toldE, if_pos c1] <;> rfl))
  refine VC.skip (VC.seq (VC.drawn ?_)); refine VD.c (.move rfl) (VD.c (.eql) (VD.c (.move rfl) ?_)); refine VD.splitD (x := 22) rfl (fun g3_2 => ?_) (fun g3_2 => ?_)
  · refine VD.r [] (.ld vt32) (.inl rfl) ?_; refine VD.call rfl rfl (VF.call (lOwn_ok )) ?_; refine VD.nw [24] ?_; refine VD.r [] (.ld vt25) (.inl rfl) ?_; refine VD.callO rfl rfl (VF.call (rSameRec_ok (by first | assumption | omega | simp) (by first | assumption | omega | simp) (by first | assumption | omega | simp))) ?_; refine VD.c (.pickT rfl rfl) (VD.c (.assign rfl) (VD.go ?_)); refine VC.ret ?_; exact VEnd.one rfl evT (pvE (by rw [toldE, if_neg c1]; first | rfl | simp [*]))
  refine VD.skip (VD.skip (VD.nw [] (VD.skip ?_))); refine VD.skip (VD.c (.pickF rfl rfl) (VD.c (.assign rfl) (VD.go ?_))); refine VC.ret ?_; exact VEnd.one rfl evT (pvE (by rw [toldE, if_neg c1]; first | rfl | simp [*]))
def recB (r : Rec1) (i : Int) : Bool := decide (0 ≤ i) && decide (i < (r.2.2.1.length : Nat)) && !Sp.inL r.2.2.2 i
theorem rRecorded_ok {r : ByteArray × Int × (List Nat) × (List (Int × Int))} {i : Int} (hg : r.2.2.2.length < 1000000) : VF Tryz.prog OA 64 [.v y25 r, I i] (B (recB r i)) := by
  refine VF.enter Tryz.func64 rfl (fun _ _ => rfl) rfl ?_; show VC _ _ _ _ _ [(0, .v y25 r), (1, I i)] [] _; refine VC.seq (VC.text ?_); refine VO.new (.box) ?_; refine VO.c (.assign rfl) ?_; refine VO.go (VC.seq (VC.text ?_)); refine VO.c (.move rfl) (VO.c (.geq) (VO.c (.move rfl) ?_)); refine VO.cg (r := decide ((0 : Int) ≤ i)) (w := true) [] trivial (fun _ => (.move rfl)) ?_; refine VO.cg (r := decide ((0 : Int) ≤ i)) (w := true) [] trivial (fun _ => (.fa (.r (.r (.l .o))))) ?_; refine VO.rg (r := decide ((0 : Int) ≤ i)) (w := true) [(9, .p y22 r.2.2.1)] ⟨rfl, trivial⟩ (fun _ => (.ld vt22)) ?_; refine VO.rg (r := decide ((0 : Int) ≤ i)) (w := true) [(10, .v y22 r.2.2.1)] ⟨rfl, trivial⟩ (fun _ => (.len el22)) ?_; refine VO.cg (r := decide ((0 : Int) ≤ i)) (w := true) [(8, I i), (11, I ((r.2.2.1.length : Nat) : Int))] ⟨rfl, rfl, trivial⟩ (fun _ => (.lss)) ?_; refine VO.c (.and) (VO.c (.move rfl) ?_); refine VO.cg (r := ((decide ((0 : Int) ≤ i)) && (decide (i < ((r.2.2.1.length : Nat) : Int))))) (w := true) [] trivial (fun _ => (.fa (.r (.r (.r (k := 0) .o))))) ?_; refine VO.rg (r := ((decide ((0 : Int) ≤ i)) && (decide (i < ((r.2.2.1.length : Nat) : Int))))) (w := true) [(15, .p y23 r.2.2.2)] ⟨rfl, trivial⟩ (fun _ => (.ld vt23)) ?_; refine VO.cg (r := ((decide ((0 : Int) ≤ i)) && (decide (i < ((r.2.2.1.length : Nat) : Int))))) (w := true) [] trivial (fun _ => (.move rfl)) ?_; refine VO.callg (r0 := ((decide ((0 : Int) ≤ i)) && (decide (i < ((r.2.2.1.length : Nat) : Int))))) (w := true) [(16, .v y23 r.2.2.2), (17, I i)] ⟨rfl, rfl, trivial⟩ rfl rfl .same .refl rfl (fun hgd => have g1_9 : ((decide ((0 : Int) ≤ i)) && (decide (i < ((r.2.2.1.length : Nat) : Int)))) = true := (by simpa using hgd); VF.call (rHas_ok (by first | assumption | omega | simp))) ?_; refine VO.cg (r := ((decide ((0 : Int) ≤ i)) && (decide (i < ((r.2.2.1.length : Nat) : Int))))) (w := true) [(18, B (Sp.inL r.2.2.2 i))] ⟨rfl, trivial⟩ (fun _ => (.not)) ?_; refine VO.c (.and) (VO.c (.assign rfl) (VO.go ?_)); refine VC.ret ?_; exact VEnd.one rfl evT (pvE (by first | rfl | simp [recB, *]))
theorem recB_in {r : Rec1} {i : Nat} (h : i < r.2.2.1.length) : recB r i = !Sp.inL r.2.2.2 i := by
  unfold recB; rw [decide_eq_true (show (0 : Int) ≤ (i : Int) by omega), decide_eq_true (show (i : Int) < (r.2.2.1.length : Nat) by omega)] <;> rfl
def both (a b : Rec1) : Rec1 := (a.1, a.2.1, a.2.2.1 ++ b.2.2.1, [])
end Go.Proofs
namespace Go.Fs
variable {P : Program} {h : Heap} {S : List Nat} {σ : Sto} {t : Tr} {fl : VL} {x : Operand} {T e : TypeId} {τ : Ty}
end Go.Fs
namespace Go.Fs
variable {P : Program} {σ : Sto} {fl : VL} {x y : Operand} {T T' : TypeId} {p q : Bool}
end Go.Fs
namespace Go.Fs
variable {P : Program} {orc : FuncId → List Value → Heap → Option (Value × Heap)} {σ : Sto} {fl : VL} {ops : Array Oper} {n : Nat} {l : List Oper} {K : VL → Sto → Prop} {d : Tmp} {ty : TypeId} {pos : String} {after : Array Edge} {g : Option (Nat × Bool)} {x : Operand} {T e : TypeId} {τ : Ty}
end Go.Fs
namespace Go.Fs
variable {P : Program} {fl : VL} {e : TypeId} {τ : Ty}
theorem rep_raws {h : Heap} {S : List Nat} : ∀ vs : List Value, RepL h S (vs.map PV.raw) vs
  | [] => rfl
  | v :: vs => ⟨v, vs, rfl, rfl, rep_raws vs⟩
end Go.Fs
namespace Go.Fs
variable {P : Program} {orc : FuncId → List Value → Heap → Option (Value × Heap)} {rnd : Option Nat} {h h' h0 h1 h2 hs : Heap} {S S' S0 B G : List Nat} {σ σ' : Sto} {t t' : Tr} {ms : List Nat} {fl : VL} {ops : Array Oper} {n i mem : Nat} {l : List Oper} {K : VL → Sto → Prop} {Q : Ex → VL → Sto → Prop}
  {d d1 d2 : Tmp} {ty ty1 ty2 : TypeId} {pos pos1 pos2 : String} {after after1 after2 : Array Edge} {op : Op} {v v1 : PV} {g g1 g2 : Option (Nat × Bool)} {bs nw : List Nat} {segs : List (Nat × Nat × Nat)} {tail so : Bool}
section
variable (P orc)
end
end Go.Fs
namespace Go.Fs
variable {P : Program} {orc : FuncId → List Value → Heap → Option (Value × Heap)} {rnd : Option Nat} {h h' h0 h1 h2 : Heap} {S S' S0 B G : List Nat} {σ σ' : Sto} {t t' : Tr} {ms : List Nat} {fl : VL} {ops : Array Oper} {n i mem : Nat} {l : List Oper} {K : VL → Sto → Prop} {Q : Ex → VL → Sto → Prop}
  {d : Tmp} {ty : TypeId} {pos : String} {after : Array Edge} {op : Op} {v pv : PV} {g : Option (Nat × Bool)} {bs nw : List Nat} {segs : List (Nat × Nat × Nat)} {so : Bool}
end Go.Fs
namespace Go.Fs
variable {P : Program} {orc : FuncId → List Value → Heap → Option (Value × Heap)} {rnd : Option Nat} {h h' h0 h1 h2 : Heap} {S S' S0 B G : List Nat} {σ σ' σr : Sto} {t t' : Tr} {ms : List Nat} {fl : VL} {ops : Array Oper} {n i mem : Nat} {l : List Oper} {K : VL → Sto → Prop} {Q : Ex → VL → Sto → Prop}
  {d : Tmp} {ty : TypeId} {pos : String} {after : Array Edge} {op : Op} {v pv : PV} {g : Option (Nat × Bool)} {x y z : Operand} {T T' e e' : TypeId} {τ τ' : Ty} {w w' : Value} {c c' : Cell}
end Go.Fs
namespace Go.Fs
variable {P : Program} {orc : FuncId → List Value → Heap → Option (Value × Heap)} {h h' : Heap} {S S' : List Nat} {σ : Sto}
end Go.Fs
namespace Go.Fs
variable {P : Program} {orc : FuncId → List Value → Heap → Option (Value × Heap)} {rnd : Option Nat} {h h' h0 h1 h2 : Heap} {S S' S0 B G : List Nat} {σ σ' σr : Sto} {t t' : Tr} {ms : List Nat} {fl : VL} {ops : Array Oper} {n i mem : Nat} {l : List Oper} {K : VL → Sto → Prop} {Q : Ex → VL → Sto → Prop}
  {d : Tmp} {ty : TypeId} {pos : String} {after : Array Edge} {op : Op} {v pv : PV} {g : Option (Nat × Bool)} {x y z : Operand} {T T' e : TypeId} {τ τ' : Ty} {bs nw : List Nat} {segs : List (Nat × Nat × Nat)} {tail so : Bool} {w w' : Value} {c c' : Cell}
end Go.Fs
namespace Go.Fs
variable {P : Program} {orc : FuncId → List Value → Heap → Option (Value × Heap)} {rnd : Option Nat} {h h' h0 h1 h2 : Heap} {S S' S0 G : List Nat} {σ σ' σr γ γ' : Sto} {t t' : Tr} {ms : List Nat} {fl nw : VL} {ops : Array Oper} {n i mem : Nat} {l : List Oper} {K : VL → Sto → Prop} {Q : Ex → VL → Sto → Prop}
  {d : Tmp} {ty : TypeId} {pos : String} {after : Array Edge} {op : Op} {v pv : PV} {g : Option (Nat × Bool)} {bs nw0 : List Nat} {tail so : Bool} {x y z : Operand} {T T' e : TypeId} {τ τ' : Ty} {w w' : Value}
end Go.Fs
namespace Go.Fs
variable {P : Program} {orc : FuncId → List Value → Heap → Option (Value × Heap)} {rnd : Option Nat} {h h' h0 h1 h2 : Heap} {S S' S0 G : List Nat} {σ σ' σr γ γ' : Sto} {t t' : Tr} {ms : List Nat} {fl nw : VL} {ops : Array Oper} {n i mem : Nat} {l : List Oper} {K : VL → Sto → Prop} {Q : Ex → VL → Sto → Prop}
  {d : Tmp} {ty : TypeId} {pos : String} {after : Array Edge} {op : Op} {v pv : PV} {g : Option (Nat × Bool)} {bs nw0 : List Nat} {tail so : Bool} {x y z : Operand} {T T' e : TypeId} {τ τ' : Ty} {w w' : Value}
end Go.Fs
namespace Go.Fs
variable {P : Program} {orc : FuncId → List Value → Heap → Option (Value × Heap)} {rnd : Option Nat} {h h' h0 h1 h2 : Heap} {S S' S0 S1 S2 B G : List Nat} {σ σ' σr γ : Sto} {t t' : Tr} {ms : List Nat} {fl : VL} {ops : Array Oper} {n i mem : Nat} {l : List Oper} {K : VL → Sto → Prop} {Q : Ex → VL → Sto → Prop}
  {d : Tmp} {ty : TypeId} {pos : String} {after : Array Edge} {op : Op} {v pv : PV} {g : Option (Nat × Bool)} {x y z : Operand} {T T' e e' e2 : TypeId} {τ τ' : Ty} {w w' : Value} {c c' : Cell}
theorem raws_rep : ∀ {us : List Value}, RepL h S (us.map .raw) us
  | [] => rfl
  | u :: us => ⟨u, us, rfl, rfl, raws_rep⟩
theorem raws_eq : ∀ {us rs : List Value}, RepL h S (us.map .raw) rs → rs = us
  | [], rs, hr => hr
  | u :: us, rs, ⟨v, r, h1, h2, h3⟩ => by
    subst h1; rw [show v = u from h2, raws_eq h3]
end Go.Fs
