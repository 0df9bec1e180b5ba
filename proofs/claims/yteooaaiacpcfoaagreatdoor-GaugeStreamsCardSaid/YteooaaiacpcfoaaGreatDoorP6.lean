/- Parts of the proof: an evaluator of the model, what it is sound for, and contracts of functions. No condition. -/
import Derived.Test.YteooaaiacpcfoaaGreatDoorP5
import Derived.Test.YteooaaiacpcfoaaGreatDoorP2
import Derived.ChangeArms
import Derived.Carry
import Derived.RowKit
import Derived.OpenShut
import Derived.Test.YteooaaiacpcfoaaGreatDoorP3
import Derived.Sort.OwnSorted
import Derived.Lib.Bytealg
import Derived.Test.YteooaaiacpcfoaaGreatDoorP4
import Derived.Lib.ConvBytes
set_option linter.all false
namespace Go.Proofs
open Go.Fs Ieee
theorem w16 : u32 1098907648 = some (16 * 713623846352979940529142984724747568191373312) := by decide +kernel
theorem u32z : u32 0 = some 0 := by decide +kernel
theorem w64 : u32 1115684864 = some 45671926166590716193865151022383844364247891968 := by decide +kernel
theorem wm64 : u32 3263168512 = some (-45671926166590716193865151022383844364247891968) := by decide +kernel
theorem fitN {n : Int} (h : -100000 ≤ n ∧ n ≤ 100000) : fit n := ⟨by omega, by omega⟩
theorem t16_fit {u : Int} (h : u.natAbs ≤ 45671926166590716193865151022383844364247891968) : -1024 ≤ (16 * u).tdiv 713623846352979940529142984724747568191373312 ∧ (16 * u).tdiv 713623846352979940529142984724747568191373312 ≤ 1024 := by
  have h1 := Int.mul_tdiv_add_tmod (16 * u) 713623846352979940529142984724747568191373312; have h2 := Int.tmod_lt_of_pos (16 * u) (show (0 : Int) < 713623846352979940529142984724747568191373312 by decide)
  have h3 : -713623846352979940529142984724747568191373312 < (16 * u).tmod 713623846352979940529142984724747568191373312 := by
    have h4 := Int.tmod_lt_of_pos (-(16 * u)) (show (0 : Int) < 713623846352979940529142984724747568191373312 by decide); rw [Int.neg_tmod] at h4; omega
  omega
theorem gSix_ok {u : Int} {x : Nat} (hu : u32 x = some u) (h0 : u.natAbs ≤ 45671926166590716193865151022383844364247891968) : VF Tryz.prog OA 57 [.v (.flt .f32) x] (I ((16 * u).tdiv 713623846352979940529142984724747568191373312)) := by
  refine VF.enter Tryz.func57 rfl (fun _ _ => rfl) rfl ?_; show VC _ _ _ _ _ [(0, .v (.flt .f32) x)] [] _; refine VC.seq (VC.text ?_); refine VO.c (.assign rfl) ?_; refine VO.go (VC.seq (VC.text ?_)); refine VO.c (.move rfl) ?_; obtain ⟨r, hr, hr2⟩ := mul16 w16 hu h0; have hf := t16_fit h0; refine VO.c (.fop (mul32E hr)) (VO.c (.cvFI (toInt32E (toInt32 hr2)) (fitN (by omega))) (VO.c (.assign rfl) (VO.go ?_))); refine VC.ret ?_; exact VEnd.one rfl evT (pvI (by first | rfl | simp))
theorem gLvF_ok {u : Int} {x : Nat} (hu : u32 x = some u) : VF Tryz.prog OA 79 [.v (.flt .f32) x] (I (lvlE x)) := by
  refine VF.enter Tryz.func79 rfl (fun _ _ => rfl) rfl ?_; show VC _ _ _ _ _ [(0, .v (.flt .f32) x)] [] _; refine VC.seq (VC.text ?_); refine VO.c (.assign rfl) ?_; refine VO.go (VC.seq (VC.seq (VC.text ?_))); refine VO.c (.move rfl) (VO.c (.move rfl) ?_); obtain ⟨r, hr, hr0⟩ := sub_self32 hu; refine VO.c (.fop (sub32E hr)) (VO.c (.fcmpD (b := .neq) (fcmp32 hr0 u32z).2.1) (VO.go ?_)); refine VC.condD rfl (fun c1 => ?_) (fun c1 => ?_)
  · exact absurd rfl c1
  refine VC.skip (VC.seq (VC.seq (VC.text ?_))); refine VO.c (.move rfl) (VO.c (.fcmpD (b := .lss) (fcmp32 hu wm64).2.2.1) (VO.c (.move rfl) ?_)); refine VO.cg (r := decide (u < -45671926166590716193865151022383844364247891968)) (w := false) [] trivial (fun _ => (.move rfl)) ?_; refine VO.cg (r := decide (u < -45671926166590716193865151022383844364247891968)) (w := false) [(10, .v (.flt .f32) x)] ⟨rfl, trivial⟩ (fun _ => (.fcmpD (b := .gtr) (fcmp32 hu w64).2.2.2.2.1)) ?_; refine VO.c (.or) (VO.go ?_); refine VC.condB rfl (fun c3 => ?_) (fun c3 => ?_)
  · try simp only [Bool.and_eq_true, Bool.or_eq_true, Bool.and_eq_false_iff, Bool.or_eq_false_iff, Bool.not_eq_true', Bool.not_eq_false', decide_eq_true_eq, decide_eq_false_iff_not] at c3
    refine VC.seq (VC.text ?_); refine VO.c (.assign rfl) (VO.go ?_); refine VC.ret ?_; exact VEnd.one rfl evT (pvI (by unfold lvlE; rw [hu]; simp only; rw [if_neg (by omega)]))
  try simp only [Bool.and_eq_true, Bool.or_eq_true, Bool.and_eq_false_iff, Bool.or_eq_false_iff, Bool.not_eq_true', Bool.not_eq_false', decide_eq_true_eq, decide_eq_false_iff_not] at c3
  refine VC.skip (VC.seq (VC.text ?_)); refine VO.c (.move rfl) ?_
  have hb : -45671926166590716193865151022383844364247891968 ≤ u ∧ u ≤ 45671926166590716193865151022383844364247891968 := by omega
  have hf := t16_fit (u := u) (by omega); obtain ⟨r2, hr2, hr3⟩ := mul16 w16 hu (by omega); have hi := ofInt32 (n := (16 * u).tdiv 713623846352979940529142984724747568191373312) (by omega); refine VO.call rfl rfl (VF.call (gSix_ok (u := u) hu (by omega))) ?_; refine VO.c (.cvIF .f32) (VO.c (.move rfl) (VO.c (.fop (mul32E hr2)) (VO.c (.fcmpD (b := .neq) (fcmp32 hi hr3).2.1) ?_))); refine VO.call rfl rfl (VF.call (gWhen_ok )) ?_; refine VO.c (.assign rfl) (VO.go ?_); refine VC.ret ?_; exact VEnd.one rfl evT (pvI (by unfold lvlE whenE; rw [hu]; simp only; have hw := whole_iff32 hb; by_cases h1 : u % 44601490397061246283071436545296723011960832 = 0 <;> simp [h1, hw, hb]))
theorem gLvN_ok {x : Nat} (hu : u32 x = none) : VF Tryz.prog OA 79 [.v (.flt .f32) x] (I (lvlE x)) := by
  refine VF.enter Tryz.func79 rfl (fun _ _ => rfl) rfl ?_; show VC _ _ _ _ _ [(0, .v (.flt .f32) x)] [] _; refine VC.seq (VC.text ?_); refine VO.c (.assign rfl) ?_; refine VO.go (VC.seq (VC.seq (VC.text ?_))); refine VO.c (.move rfl) (VO.c (.move rfl) (VO.c (.fnan (nan32E hu)) (VO.c (.fnancmp (r := true) rfl) ?_))); refine VO.go ?_; refine VC.condT rfl ?_; refine VC.seq (VC.text ?_); refine VO.c (.assign rfl) (VO.go ?_); refine VC.ret ?_; exact VEnd.one rfl evT (pvI (by unfold lvlE; rw [hu]))
theorem gLv_ok {x : Nat} : VF Tryz.prog OA 79 [.v (.flt .f32) x] (I (lvlE x)) := by
  cases hu : u32 x with
  | none => exact gLvN_ok hu
  | some u => exact gLvF_ok hu
theorem v16 : u64 4625196817309499392 = some ((16 : Int) * ((713623846352979940529142984724747568191373312 * kW : Nat) : Int)) := by decide +kernel
theorem v64 : u64 4634204016564240384 = some ((45671926166590716193865151022383844364247891968 : Int) * ((kW : Nat) : Int)) := by decide +kernel
theorem vm64 : u64 13857576053419016192 = some ((-45671926166590716193865151022383844364247891968 : Int) * ((kW : Nat) : Int)) := by decide +kernel
theorem ord_self {f : Format} {x : Nat} {u : Int} (h : f.units x = some u) : f.order x x = some .eq := by
  rw [Format.order_units h h, compare_int, if_neg (by omega), if_pos rfl]
theorem xBits_ok {b : Nat} : VF Tryz.prog OA 148 [.v (.flt .f64) b] (.v (.int .u64) ((b : Nat) : Int)) :=
  VF.extFlt (e := Extern.MathFloatBits.float64bits) Tryz.func148 (fun _ _ => rfl) (by kernel_rfl) (by kernel_rfl) (by kernel_rfl) (w := .int .u64 ((b : Nat) : Int)) rfl fun _ _ => RepV.ofInt _ _
theorem xFrom_ok {n : Nat} : VF Tryz.prog OA 147 [.v (.int .u64) ((n : Nat) : Int)] (.v (.flt .f64) n) :=
  VF.extInt (e := Extern.MathFloatBits.float64frombits) Tryz.func147 (fun _ _ => rfl) (by kernel_rfl) (by kernel_rfl) (by kernel_rfl) (w := .float .f64 n) rfl fun _ _ => RepV.ofFlt _ _
theorem xFloor_ok {y : Nat} (hy : ∃ u, u64 y = some u) : VF Tryz.prog OA 117 [.v (.flt .f64) y] (.v (.flt .f64) (double.write ((double.read y).integral .down))) := by
  obtain ⟨u, hu⟩ := hy; obtain ⟨s, m, p, h1, _, _⟩ := Format.units_inv hu; exact VF.extFlt (e := Extern.MathFloor.toIntegral "math.archFloor" .down) Tryz.func117 (fun _ _ => rfl) (by kernel_rfl) (by kernel_rfl) (by kernel_rfl) (w := .float .f64 (double.write ((double.read y).integral .down))) (floor_run h1) fun _ _ => RepV.ofFlt _ _
theorem mFloor_ok {y : Nat} (hy : ∃ u, u64 y = some u) : VF Tryz.prog OA 93 [.v (.flt .f64) y] (.v (.flt .f64) (double.write ((double.read y).integral .down))) := by
  refine VF.enter Tryz.func93 rfl (fun _ _ => rfl) rfl ?_; show VC _ _ _ _ _ [(0, .v (.flt .f64) y)] [] _; refine VC.seq (VC.text ?_); refine VO.c (.assign rfl) ?_; refine VO.go (VC.seq ?_); refine VC.condT rfl ?_; refine VC.seq (VC.text ?_); refine VO.c (.move rfl) ?_; refine VO.call rfl rfl (VF.call (xFloor_ok (by first | assumption | omega | simp))) ?_; refine VO.c (.assign rfl) (VO.go ?_); refine VC.ret ?_; exact VEnd.one rfl evT (pvE (by first | rfl | simp))
theorem mNaN_ok {y : Nat} (hy : double.order y y = some .eq) : VF Tryz.prog OA 91 [.v (.flt .f64) y] (B false) := by
  refine VF.enter Tryz.func91 rfl (fun _ _ => rfl) rfl ?_; show VC _ _ _ _ _ [(0, .v (.flt .f64) y)] [] _; refine VC.seq (VC.text ?_); refine VO.c (.assign rfl) ?_; refine VO.go (VC.seq (VC.text ?_)); refine VO.c (.move rfl) (VO.c (.move rfl) (VO.c (.fcmpD (b := .neq) (r := false) (fneq_self hy)) (VO.c (.assign rfl) ?_))); refine VO.go ?_; refine VC.ret ?_; exact VEnd.one rfl evT (pvE (by first | rfl | simp))
theorem mAbs_ok {b : Nat} : VF Tryz.prog OA 116 [.v (.flt .f64) b] (.v (.flt .f64) (b % 9223372036854775808)) := by
  refine VF.enter Tryz.func116 rfl (fun _ _ => rfl) rfl ?_; show VC _ _ _ _ _ [(0, .v (.flt .f64) b)] [] _; refine VC.seq (VC.text ?_); refine VO.c (.assign rfl) ?_; refine VO.go (VC.seq (VC.text ?_)); refine VO.c (.move rfl) ?_; refine VO.call rfl rfl (VF.call (xBits_ok )) ?_; refine VO.c (.clr63 rfl rfl) ?_; refine VO.call rfl rfl (VF.call (xFrom_ok )) ?_; refine VO.c (.assign rfl) (VO.go ?_); refine VC.ret ?_; exact VEnd.one rfl evT (pvE (by first | rfl | simp))
theorem mInf_ok {y : Nat} {s : Int} (hs : s = 0) : VF Tryz.prog OA 92 [.v (.flt .f64) y, I s] (B (fcmpE .gtr .f64 (y % 9223372036854775808) 9218868437227405311)) := by
  refine VF.enter Tryz.func92 rfl (fun _ _ => rfl) rfl ?_; show VC _ _ _ _ _ [(0, .v (.flt .f64) y), (1, I s)] [] _; refine VC.seq (VC.text ?_); refine VO.c (.assign rfl) ?_; refine VO.go (VC.seq (VC.seq (VC.text ?_))); refine VO.c (.move rfl) (VO.c (.eql) (VO.go ?_)); refine VC.condD rfl (fun c1 => ?_) (fun c1 => ?_)
  · refine VC.text ?_; refine VO.c (.move rfl) ?_; refine VO.call rfl rfl (VF.call (mAbs_ok )) ?_; refine VO.c (.assign rfl) ?_; refine VO.go (VC.seq (VC.text ?_)); refine VO.c (.move rfl) (VO.c (.fcmp .gtr) (VO.c (.assign rfl) (VO.go ?_))); refine VC.ret ?_; exact VEnd.one rfl evT (pvE (by first | rfl | simp))
  exact absurd hs c1
theorem neW {r : Nat} {u : Int} (hr : u64 r = some (16 * (u * (kW : Nat)))) (hg : (decide (45671926166590716193865151022383844364247891968 < u) || decide (u < -45671926166590716193865151022383844364247891968)) = false) : fcmpE .neq .f64 r (double.write ((double.read r).integral .down)) = decide (u % 44601490397061246283071436545296723011960832 ≠ 0) := by
  have hb : -45671926166590716193865151022383844364247891968 ≤ u ∧ u ≤ 45671926166590716193865151022383844364247891968 := by simp at hg; omega
  rw [(fcmp64 hr (floorw hr hb)).2.1]; exact decide_eq_decide.2 (not_congr whole_iff)
theorem rLvF_ok {u : Int} {x : Nat} (hu : u32 x = some u) : VF Tryz.prog OA 49 [.v (.flt .f32) x] (I (lvlE x)) := by
  refine VF.enter Tryz.func49 rfl (fun _ _ => rfl) rfl ?_; show VC _ _ _ _ _ [(0, .v (.flt .f32) x)] [] _; refine VC.seq (VC.text ?_); refine VO.c (.assign rfl) ?_; refine VO.go (VC.seq (VC.text ?_)); refine VO.c (.move rfl) ?_; have hb := u32_bound hu; have hy := widen hu hb; obtain ⟨r, hr, hr2⟩ := mul16w v16 hu hy hb; refine VO.c (.widen hu hy) (VO.c (.assign rfl) ?_); refine VO.go (VC.seq (VC.seq (VC.text ?_))); refine VO.c (.move rfl) ?_; refine VO.call rfl rfl (VF.call (mNaN_ok (ord_self hy))) ?_; refine VO.c (.move rfl) (VO.c (.move rfl) ?_); refine VO.call rfl rfl (VF.call (mInf_ok rfl)) ?_; refine VO.c (.pickF rfl rfl) (VO.go ?_); refine VC.condB rfl (fun c2 => ?_) (fun c2 => ?_)
  · rw [(fcmp64 (units_clr hy) top64).2.2.2.2.1] at c2; simp at c2; have := top_bound hb; omega
  refine VC.skip (VC.seq (VC.seq (VC.text ?_))); refine VO.c (.move rfl) (VO.c (.fcmpD (b := .gtr) (r := decide (45671926166590716193865151022383844364247891968 < u)) ((fcmp64 hy v64).2.2.2.2.1.trans (decide_eq_decide.2 (Int.mul_lt_mul_right kW_int)))) (VO.c (.move rfl) ?_)); refine VO.cg (r := decide (45671926166590716193865151022383844364247891968 < u)) (w := false) [] trivial (fun _ => (.move rfl)) ?_; refine VO.cg (r := decide (45671926166590716193865151022383844364247891968 < u)) (w := false) [(15, .v (.flt .f64) (double.write (single.read x)))] ⟨rfl, trivial⟩ (fun _ => (.fcmpD (b := .lss) (r := decide (u < -45671926166590716193865151022383844364247891968)) ((fcmp64 hy vm64).2.2.1.trans (decide_eq_decide.2 (Int.mul_lt_mul_right kW_int))))) ?_; refine VO.c (.or) (VO.c (.move rfl) ?_); refine VO.cg (r := ((decide (45671926166590716193865151022383844364247891968 < u)) || (decide (u < -45671926166590716193865151022383844364247891968)))) (w := false) [] trivial (fun _ => (.move rfl)) ?_; refine VO.cg (r := ((decide (45671926166590716193865151022383844364247891968 < u)) || (decide (u < -45671926166590716193865151022383844364247891968)))) (w := false) [(19, .v (.flt .f64) (double.write (single.read x)))] ⟨rfl, trivial⟩ (fun _ => (.fop (mul64E hr))) ?_; refine VO.cg (r := ((decide (45671926166590716193865151022383844364247891968 < u)) || (decide (u < -45671926166590716193865151022383844364247891968)))) (w := false) [] trivial (fun _ => (.move rfl)) ?_; refine VO.cg (r := ((decide (45671926166590716193865151022383844364247891968 < u)) || (decide (u < -45671926166590716193865151022383844364247891968)))) (w := false) [(21, .v (.flt .f64) (double.write (single.read x)))] ⟨rfl, trivial⟩ (fun _ => (.fop (mul64E hr))) ?_; refine VO.callg (r0 := ((decide (45671926166590716193865151022383844364247891968 < u)) || (decide (u < -45671926166590716193865151022383844364247891968)))) (w := false) [(22, .v (.flt .f64) r)] ⟨rfl, trivial⟩ rfl rfl .same .refl rfl (fun _ => VF.call (mFloor_ok ⟨_, hr2⟩)) ?_; refine VO.cg (r := ((decide (45671926166590716193865151022383844364247891968 < u)) || (decide (u < -45671926166590716193865151022383844364247891968)))) (w := false) [(20, .v (.flt .f64) r), (23, .v (.flt .f64) (double.write ((double.read r).integral .down)))] ⟨rfl, rfl, trivial⟩ (fun hgd => have g4_6 : ((decide (45671926166590716193865151022383844364247891968 < u)) || (decide (u < -45671926166590716193865151022383844364247891968))) = false := (by simpa using hgd); (.fcmpD (b := .neq) (neW hr2 g4_6))) ?_; refine VO.c (.or) (VO.go ?_); refine VC.condB rfl (fun c4 => ?_) (fun c4 => ?_)
  · try simp only [Bool.and_eq_true, Bool.or_eq_true, Bool.and_eq_false_iff, Bool.or_eq_false_iff, Bool.not_eq_true', Bool.not_eq_false', decide_eq_true_eq, decide_eq_false_iff_not] at c4
    refine VC.seq (VC.text ?_); refine VO.c (.assign rfl) (VO.go ?_); refine VC.ret ?_; exact VEnd.one rfl evT (pvI (by unfold lvlE; rw [hu]; simp only; rw [if_neg]; omega))
  try simp only [Bool.and_eq_true, Bool.or_eq_true, Bool.and_eq_false_iff, Bool.or_eq_false_iff, Bool.not_eq_true', Bool.not_eq_false', decide_eq_true_eq, decide_eq_false_iff_not] at c4
  refine VC.skip (VC.seq (VC.text ?_)); refine VO.c (.assign rfl) (VO.go ?_); refine VC.ret ?_; exact VEnd.one rfl evT (pvI (by unfold lvlE; rw [hu]; simp only; rw [if_pos]; omega))
theorem rLvI_ok {s : Bool} {x : Nat} (hu : single.read x = .infinity s) : VF Tryz.prog OA 49 [.v (.flt .f32) x] (I (lvlE x)) := by
  refine VF.enter Tryz.func49 rfl (fun _ _ => rfl) rfl ?_; show VC _ _ _ _ _ [(0, .v (.flt .f32) x)] [] _; refine VC.seq (VC.text ?_); refine VO.c (.assign rfl) ?_; refine VO.go (VC.seq (VC.text ?_)); refine VO.c (.move rfl) (VO.c (.widenI hu) (VO.c (.assign rfl) ?_)); refine VO.go (VC.seq (VC.seq (VC.text ?_))); refine VO.c (.move rfl) ?_; refine VO.call rfl rfl (VF.call (mNaN_ok (by cases s <;> decide +kernel))) ?_; refine VO.c (.move rfl) (VO.c (.move rfl) ?_); refine VO.call rfl rfl (VF.call (mInf_ok rfl)) ?_; refine VO.c (.pickF rfl rfl) (VO.go ?_); refine VC.condB rfl (fun c2 => ?_) (fun c2 => ?_)
  · refine VC.seq (VC.text ?_); refine VO.c (.assign rfl) (VO.go ?_); refine VC.ret ?_; exact VEnd.one rfl evT (pvI (by unfold lvlE u32 Format.units; rw [hu]))
  exact absurd c2 (by cases s <;> decide +kernel)
theorem mNaNJ_ok : VF Tryz.prog OA 91 [.raw (nanJ .f64)] (B true) := by
  refine VF.enter Tryz.func91 rfl (fun _ _ => rfl) rfl ?_; show VC _ _ _ _ _ [(0, .raw (nanJ .f64))] [] _; refine VC.seq (VC.text ?_); refine VO.c (.assign rfl) ?_; refine VO.go (VC.seq (VC.text ?_)); refine VO.c (.move rfl) (VO.c (.move rfl) (VO.c (.fnancmp2 (k := .f64) (r := true) rfl) (VO.c (.assign rfl) ?_))); refine VO.go ?_; refine VC.ret ?_; exact VEnd.one rfl evT rfl
theorem rLvN_ok {s : Bool} {m : Nat} {x : Nat} (hu : single.read x = .nan s m) : VF Tryz.prog OA 49 [.v (.flt .f32) x] (I (lvlE x)) := by
  refine VF.enter Tryz.func49 rfl (fun _ _ => rfl) rfl ?_; show VC _ _ _ _ _ [(0, .v (.flt .f32) x)] [] _; refine VC.seq (VC.text ?_); refine VO.c (.assign rfl) ?_; refine VO.go (VC.seq (VC.text ?_)); refine VO.c (.move rfl) (VO.c (.widenN hu) (VO.c (.assign rfl) ?_)); refine VO.go (VC.seq (VC.seq (VC.text ?_))); refine VO.c (.move rfl) ?_; refine VO.call rfl rfl (VF.call (mNaNJ_ok )) ?_; refine VO.c (.move rfl) (VO.skip (VO.skip (VO.c (.pickT rfl rfl) ?_))); refine VO.go ?_; refine VC.condT rfl ?_; refine VC.seq (VC.text ?_); refine VO.c (.assign rfl) (VO.go ?_); refine VC.ret ?_; exact VEnd.one rfl evT (pvI (by unfold lvlE u32 Format.units; rw [hu]))
theorem rLv_ok {x : Nat} : VF Tryz.prog OA 49 [.v (.flt .f32) x] (I (lvlE x)) := by
  cases hu : u32 x with
  | some u => exact rLvF_ok hu
  | none =>
    rcases Format.units_none hu with ⟨s, h⟩ | ⟨s, m, h⟩
    · exact rLvI_ok h
    exact rLvN_ok h
end Go.Proofs
namespace Go.Proofs
open Go.Fs Ieee
set_option maxHeartbeats 2000000
abbrev y22 : Ty := (.sl (.flt .f32))
abbrev y25 : Ty := (.pair .str (.pair (.int .i64) (.pair (.sl (.flt .f32)) (.sl (.pair (.int .i64) (.int .i64))))))
abbrev y32 : Ty := (.pair .str (.pair (.int .i64) (.pair (.sl (.flt .f32)) (.sl (.pair (.int .i64) (.int .i64))))))
theorem vt9 : ValT Tryz.prog 9 .str := valT_of (by kernel_rfl)
theorem vt22 : ValT Tryz.prog 22 y22 := valT_of (by kernel_rfl)
theorem vt23 : ValT Tryz.prog 23 y23 := valT_of (by kernel_rfl)
theorem vt68 : ValT Tryz.prog 68 (.flt .f32) := valT_of (by kernel_rfl)
theorem el22 : ElT Tryz.prog 22 68 (.flt .f32) := elT_of (by kernel_rfl)
abbrev Rec1 := ByteArray × Int × List Nat × List (Int × Int)
def idxE {α : Type} (F : α → Bool) : List α → Int → Int
  | [], _ => -1
  | x :: l, k => if F x = true then k else idxE F l (k + 1)
theorem idxE_drop {α : Type} {F : α → Bool} {l : List α} {j : Nat} (hj : j < l.length) : idxE F (l.drop j) (j : Nat) = if F l[j] = true then ((j : Nat) : Int) else idxE F (l.drop (j + 1)) ((j + 1 : Nat) : Int) := by
  rw [List.drop_eq_getElem_cons hj] <;> rfl
theorem idxE_end {α : Type} {F : α → Bool} {l : List α} {j : Nat} {k : Int} (hj : l.length ≤ j) : idxE F (l.drop j) k = -1 := by rw [List.drop_eq_nil_of_le hj] <;> rfl
theorem idxE_any {α : Type} {F : α → Bool} : ∀ {l : List α} {k : Int}, 0 ≤ k → ((0 ≤ idxE F l k) ↔ l.any F = true)
  | [], k, _ => by simp [idxE]
  | x :: l, k, h => by
    unfold idxE; rw [List.any_cons]; by_cases hx : F x = true
    · rw [if_pos hx, hx]; simp [h]
    rw [if_neg hx, idxE_any (l := l) (by omega)]; simp [hx]
theorem zIndexFl_ok {F : Nat → Bool} {l : List Nat} {f : PV} (hl : l.length < 1000000) (hf : ∀ x ∈ l, VCall Tryz.prog OA f [.v (.flt .f32) x] (B (F x))) : VF Tryz.prog OA 115 [.v y22 l, f] (I (idxE F l 0)) := by
  refine VF.enter Tryz.func115 rfl (fun _ _ => rfl) rfl ?_; show VC _ _ _ _ _ [(0, .v y22 l), (1, f)] [] _; refine VC.seq (VC.text ?_); refine VO.c (.assign rfl) ?_; refine VO.go (VC.seq (VC.seq (VC.text ?_))); refine VO.c (.move rfl) ?_; refine VO.r (.len el22) ?_; refine VO.c (.move rfl) ?_; refine VO.go (VC.block ?_); refine VC.keep [(0, .v y22 l), (1, f), (7, I ((l.length : Nat) : Int)), (8, I ((0 : Nat) : Int))] ⟨rfl, rfl, rfl, rfl, trivial⟩ ?_; refine VC.loop (I := fun kk ff ss => ∃ (j : Nat), kk = l.length - j ∧ ff = [(0, .v y22 l), (1, f), (7, I ((l.length : Nat) : Int)), (8, I ((j : Nat) : Int))] ∧ ss = [] ∧ (j ≤ l.length) ∧ (idxE F l 0 = idxE F (l.drop j) (j : Nat))) ?_ _ _ _ ⟨0, rfl, rfl, rfl, Nat.zero_le _, (by rfl)⟩; rintro kk ff ss ⟨j, hk0, rfl, rfl, hj, hi⟩; refine VC.seq (VC.text ?_); refine VO.c (.lss) ?_; refine VO.go (VC.seq ?_); refine VC.condD rfl (fun c2 => ?_) (fun c2 => ?_)
  · refine VC.skip (VC.seq (VC.block (VC.seq (VC.text ?_)))); refine VO.c (.move rfl) (VO.c (.assign rfl) ?_); refine VO.go (VC.seq (VC.text ?_)); refine VO.c (.move rfl) (VO.c (.move rfl) (VO.c (.move rfl) (VO.c (.ix (j := j) rfl rfl el22 (by omega)) ?_))); refine VO.r (.ld vt68) ?_; refine VO.call rfl rfl ((hf _ (List.getElem_mem _)) ) ?_; refine VO.go ?_; refine VC.condB rfl (fun c4 => ?_) (fun c4 => ?_)
    · refine VC.seq (VC.text ?_); refine VO.c (.move rfl) (VO.c (.assign rfl) (VO.go ?_)); refine VC.ret ?_; exact VEnd.one rfl evT (pvI (by rw [hi, idxE_drop (by omega), if_pos c4]))
    refine VC.skip (VC.text ?_); refine VO.c (.add rfl rfl (by omega)) (VO.c (.move rfl) ?_); refine VO.nil ?_; refine ⟨_, [(0, .v y22 l), (1, f), (7, I ((l.length : Nat) : Int)), (8, I (((j + 1) : Nat) : Int))], ?_, ⟨rfl, rfl, rfl, rfl, trivial⟩, (j + 1), rfl, rfl, rfl, (by omega), (by rw [hi, idxE_drop (by omega), if_neg (by rw [c4]; decide)])⟩; omega
  refine VC.exit (VC.seq (VC.text ?_)); refine VO.c (.assign rfl) (VO.go ?_); refine VC.ret ?_; exact VEnd.one rfl evT (pvI (by rw [hi, idxE_end (by omega)]))
theorem zContFl_ok {F : Nat → Bool} {l : List Nat} {f : PV} (hl : l.length < 1000000) (hf : ∀ x ∈ l, VCall Tryz.prog OA f [.v (.flt .f32) x] (B (F x))) : VF Tryz.prog OA 88 [.v y22 l, f] (B (l.any F)) := by
  refine VF.enter Tryz.func88 rfl (fun _ _ => rfl) rfl ?_; show VC _ _ _ _ _ [(0, .v y22 l), (1, f)] [] _; refine VC.seq (VC.text ?_); refine VO.c (.assign rfl) ?_; refine VO.go (VC.seq (VC.text ?_)); refine VO.c (.move rfl) (VO.c (.move rfl) ?_); refine VO.call rfl rfl (VF.call (zIndexFl_ok (F := F) hl hf)) ?_; refine VO.c (.geq) (VO.c (.assign rfl) (VO.go ?_)); refine VC.ret ?_; exact VEnd.one rfl evT (pvE (by have h9 := idxE_any (F := F) (l := l) (k := 0) (by omega); cases h8 : l.any F <;> simp_all))
theorem zIndexSp_ok {F : Int × Int → Bool} {l : List (Int × Int)} {f : PV} (hl : l.length < 1000000) (hf : ∀ x ∈ l, VCall Tryz.prog OA f [.v y53 x] (B (F x))) : VF Tryz.prog OA 114 [.v y23 l, f] (I (idxE F l 0)) := by
  refine VF.enter Tryz.func114 rfl (fun _ _ => rfl) rfl ?_; show VC _ _ _ _ _ [(0, .v y23 l), (1, f)] [] _; refine VC.seq (VC.text ?_); refine VO.c (.assign rfl) ?_; refine VO.go (VC.seq (VC.seq (VC.text ?_))); refine VO.c (.move rfl) ?_; refine VO.r (.len el23) ?_; refine VO.c (.move rfl) ?_; refine VO.go (VC.block ?_); refine VC.keep [(0, .v y23 l), (1, f), (7, I ((l.length : Nat) : Int)), (8, I ((0 : Nat) : Int))] ⟨rfl, rfl, rfl, rfl, trivial⟩ ?_; refine VC.loop (I := fun kk ff ss => ∃ (j : Nat), kk = l.length - j ∧ ff = [(0, .v y23 l), (1, f), (7, I ((l.length : Nat) : Int)), (8, I ((j : Nat) : Int))] ∧ ss = [] ∧ (j ≤ l.length) ∧ (idxE F l 0 = idxE F (l.drop j) (j : Nat))) ?_ _ _ _ ⟨0, rfl, rfl, rfl, Nat.zero_le _, (by rfl)⟩; rintro kk ff ss ⟨j, hk0, rfl, rfl, hj, hi⟩; refine VC.seq (VC.text ?_); refine VO.c (.lss) ?_; refine VO.go (VC.seq ?_); refine VC.condD rfl (fun c2 => ?_) (fun c2 => ?_)
  · refine VC.skip (VC.seq (VC.block (VC.seq (VC.text ?_)))); refine VO.c (.move rfl) (VO.c (.assign rfl) ?_); refine VO.go (VC.seq (VC.text ?_)); refine VO.c (.move rfl) (VO.c (.move rfl) (VO.c (.move rfl) (VO.c (.ix (j := j) rfl rfl el23 (by omega)) ?_))); refine VO.r (.ld vt53) ?_; refine VO.call rfl rfl ((hf _ (List.getElem_mem _)) ) ?_; refine VO.go ?_; refine VC.condB rfl (fun c4 => ?_) (fun c4 => ?_)
    · refine VC.seq (VC.text ?_); refine VO.c (.move rfl) (VO.c (.assign rfl) (VO.go ?_)); refine VC.ret ?_; exact VEnd.one rfl evT (pvI (by rw [hi, idxE_drop (by omega), if_pos c4]))
    refine VC.skip (VC.text ?_); refine VO.c (.add rfl rfl (by omega)) (VO.c (.move rfl) ?_); refine VO.nil ?_; refine ⟨_, [(0, .v y23 l), (1, f), (7, I ((l.length : Nat) : Int)), (8, I (((j + 1) : Nat) : Int))], ?_, ⟨rfl, rfl, rfl, rfl, trivial⟩, (j + 1), rfl, rfl, rfl, (by omega), (by rw [hi, idxE_drop (by omega), if_neg (by rw [c4]; decide)])⟩; omega
  refine VC.exit (VC.seq (VC.text ?_)); refine VO.c (.assign rfl) (VO.go ?_); refine VC.ret ?_; exact VEnd.one rfl evT (pvI (by rw [hi, idxE_end (by omega)]))
theorem zContSp_ok {F : Int × Int → Bool} {l : List (Int × Int)} {f : PV} (hl : l.length < 1000000) (hf : ∀ x ∈ l, VCall Tryz.prog OA f [.v y53 x] (B (F x))) : VF Tryz.prog OA 85 [.v y23 l, f] (B (l.any F)) := by
  refine VF.enter Tryz.func85 rfl (fun _ _ => rfl) rfl ?_; show VC _ _ _ _ _ [(0, .v y23 l), (1, f)] [] _; refine VC.seq (VC.text ?_); refine VO.c (.assign rfl) ?_; refine VO.go (VC.seq (VC.text ?_)); refine VO.c (.move rfl) (VO.c (.move rfl) ?_); refine VO.call rfl rfl (VF.call (zIndexSp_ok (F := F) hl hf)) ?_; refine VO.c (.geq) (VO.c (.assign rfl) (VO.go ?_)); refine VC.ret ?_; exact VEnd.one rfl evT (pvE (by have h9 := idxE_any (F := F) (l := l) (k := 0) (by omega); cases h8 : l.any F <;> simp_all))
def lvlsE (l : List Nat) : Int := firstE (l.map lvlE)
theorem lvls_drop {l : List Nat} {j : Nat} (hj : j < l.length) : lvlsE (l.drop j) = if lvlE l[j] = 0 then lvlsE (l.drop (j + 1)) else lvlE l[j] := by
  unfold lvlsE; rw [List.drop_eq_getElem_cons hj] <;> rfl
theorem lvls_end {l : List Nat} {j : Nat} (hj : l.length ≤ j) : lvlsE (l.drop j) = 0 := by rw [List.drop_eq_nil_of_le hj] <;> rfl
theorem gLvls_ok {l : List Nat} (hl : l.length < 1000000) : VF Tryz.prog OA 83 [.v y22 l] (I (lvlsE l)) := by
  refine VF.enter Tryz.func83 rfl (fun _ _ => rfl) rfl ?_; show VC _ _ _ _ _ [(0, .v y22 l)] [] _; refine VC.seq (VC.text ?_); refine VO.c (.assign rfl) (VO.go ?_); refine VC.scope ?_; refine VC.seq (VC.text ?_); refine VO.c (.assign rfl) ?_; refine VO.go (VC.seq ?_); refine VC.label ?_; refine VC.seq (VC.seq (VC.text ?_)); refine VO.c (.move rfl) ?_; refine VO.r (.len el22) ?_; refine VO.c (.move rfl) ?_; refine VO.go (VC.block ?_); refine VC.keep [(3, I 0), (6, .v y22 l), (7, I ((l.length : Nat) : Int)), (8, I ((0 : Nat) : Int))] ⟨rfl, rfl, rfl, rfl, trivial⟩ ?_; refine VC.loop (I := fun kk ff ss => ∃ (j : Nat), kk = l.length - j ∧ ff = [(3, I 0), (6, .v y22 l), (7, I ((l.length : Nat) : Int)), (8, I ((j : Nat) : Int))] ∧ ss = [] ∧ (j ≤ l.length) ∧ (lvlsE l = lvlsE (l.drop j))) ?_ _ _ _ ⟨0, rfl, rfl, rfl, Nat.zero_le _, (by rfl)⟩; rintro kk ff ss ⟨j, hk0, rfl, rfl, hj, hf⟩; refine VC.seq (VC.text ?_); refine VO.c (.lss) ?_; refine VO.go (VC.seq ?_); refine VC.condD rfl (fun c3 => ?_) (fun c3 => ?_)
  · refine VC.skip (VC.seq (VC.block (VC.seq (VC.text ?_)))); refine VO.c (.ix (j := j) rfl rfl el22 (by omega)) ?_; refine VO.r (.ld vt68) ?_; refine VO.c (.assign rfl) ?_; refine VO.go (VC.seq (VC.text ?_)); refine VO.c (.move rfl) ?_; refine VO.call rfl rfl (VF.call (gLv_ok )) ?_; refine VO.c (.assign rfl) ?_; refine VO.go (VC.seq (VC.text ?_)); refine VO.c (.move rfl) (VO.c (.neq) (VO.go ?_)); refine VC.condD rfl (fun c6 => ?_) (fun c6 => ?_)
    · refine VC.exit (VC.seq (VC.text ?_)); refine VO.c (.move rfl) (VO.c (.assign rfl) (VO.go ?_)); refine VC.ret ?_; exact VEnd.one rfl evT (pvI (by first | (rw [hf, lvls_drop (by omega), if_neg c6]; done) | rw [hf, lvls_end (by omega)]))
    refine VC.skip (VC.text ?_); refine VO.c (.add rfl rfl (by omega)) (VO.c (.move rfl) ?_); refine VO.nil ?_; refine ⟨_, [(3, I 0), (6, .v y22 l), (7, I ((l.length : Nat) : Int)), (8, I (((j + 1) : Nat) : Int))], ?_, ⟨slI rfl (by simpa using c6), rfl, rfl, rfl, trivial⟩, (j + 1), rfl, rfl, rfl, (by omega), (by rw [hf, lvls_drop (by omega), if_pos (by simpa using c6)])⟩; omega
  refine VC.exit (VC.seq (VC.text ?_)); refine VO.c (.move rfl) (VO.c (.assign rfl) (VO.go ?_)); refine VC.ret ?_; exact VEnd.one rfl evT (pvI (by first | (rw [hf, lvls_drop (by omega), if_neg c6]; done) | rw [hf, lvls_end (by omega)]))
def nzE (x : Nat) : Bool := fcmpE .neq .f32 x 0
def beyB (r : Rec1) : Bool := r.2.2.2.any fun s => decide ((r.2.2.1.length : Int) < s.2)
def fillB (r : Rec1) : Bool := r.2.2.2.any fun s => ((r.2.2.1.take s.2.toNat).drop s.1.toNat).any nzE
def headE (r : Rec1) : Int := firstE [whenE (!nameB r.1) 8, rangeE r.2.1 0 100000, whenE (decide ((4096 : Int) < (r.2.2.1.length : Nat))) 5]
def bodyE (r : Rec1) : Int := firstE [lvlsE r.2.2.1, spansE r.2.2.2]
def recE (r : Rec1) : Int := if headE r ≠ 0 then headE r else if bodyE r ≠ 0 then bodyE r else if beyB r = true then 14 else whenE (fillB r) 1
theorem gRec1_ok {s : Int × Int} {r : ByteArray × Int × (List Nat) × (List (Int × Int))} : VF Tryz.prog OA 86 [.v y53 s, .p y32 r] (B (decide ((r.2.2.1.length : Int) < s.2))) := by
  refine VF.enter Tryz.func86 rfl (fun _ _ => rfl) rfl ?_; show VC _ _ _ _ _ [(0, .v y53 s), (1, .p y32 r)] [] _; refine VC.seq (VC.text ?_); refine VO.new (.box) ?_; refine VO.c (.assign rfl) ?_; refine VO.go (VC.seq (VC.text ?_)); refine VO.c (.fa (.r .o)) ?_; refine VO.r (.ld vt3) ?_; refine VO.c (.fa (.r (.r (.l .o)))) ?_; refine VO.r (.ld vt22) ?_; refine VO.r (.len el22) ?_; refine VO.c (.gtr) (VO.c (.assign rfl) (VO.go ?_)); refine VC.ret ?_; exact VEnd.one rfl evT (pvE (by rfl))
theorem gRec21_ok {x : Nat} : VF Tryz.prog OA 89 [.v (.flt .f32) x] (B (nzE x)) := by
  refine VF.enter Tryz.func89 rfl (fun _ _ => rfl) rfl ?_; show VC _ _ _ _ _ [(0, .v (.flt .f32) x)] [] _; refine VC.seq (VC.text ?_); refine VO.c (.assign rfl) ?_; refine VO.go (VC.seq (VC.text ?_)); refine VO.c (.move rfl) (VO.c (.fcmp .neq) (VO.c (.assign rfl) (VO.go ?_))); refine VC.ret ?_; exact VEnd.one rfl evT (pvE (by rfl))
theorem gRec2_ok {s : Int × Int} {r : ByteArray × Int × (List Nat) × (List (Int × Int))} (hs : 0 ≤ s.1 ∧ s.1 ≤ s.2 ∧ s.2 ≤ (r.2.2.1.length : Nat)) (hl : r.2.2.1.length < 1000000) : VF Tryz.prog OA 87 [.v y53 s, .p y32 r] (B (((r.2.2.1.take s.2.toNat).drop s.1.toNat).any nzE)) := by
  refine VF.enter Tryz.func87 rfl (fun _ _ => rfl) rfl ?_; show VC _ _ _ _ _ [(0, .v y53 s), (1, .p y32 r)] [] _; refine VC.seq (VC.text ?_); refine VO.new (.box) ?_; refine VO.c (.assign rfl) ?_; refine VO.go (VC.seq (VC.text ?_)); refine VO.c (.fa (.r (.r (.l .o)))) ?_; refine VO.r (.ld vt22) ?_; refine VO.c (.fa (.l .o)) ?_; refine VO.r (.ld vt3) ?_; refine VO.c (.fa (.r .o)) ?_; refine VO.r (.ld vt3) ?_; refine VO.r (.cut rfl rfl rfl el22 (by exact hs)) ?_; refine VO.call rfl rfl (VF.call (zContFl_ok (F := nzE) (by simp; omega) (fun _ _ => VF.call gRec21_ok))) ?_; refine VO.c (.assign rfl) (VO.go ?_); refine VC.ret ?_; exact VEnd.one rfl evT (pvE (by rfl))
theorem bey_f {r : Rec1} (h : beyB r = false) : ∀ s ∈ r.2.2.2, s.2 ≤ (r.2.2.1.length : Nat) := fun s hs => by
  have := List.any_eq_false.1 h s hs; simp at this; omega
theorem bodyE_zero {r : Rec1} : bodyE r = 0 ↔ lvlsE r.2.2.1 = 0 ∧ spansE r.2.2.2 = 0 := by
  unfold bodyE; rw [firstE_zero]; simp
theorem gRec_ok {r : ByteArray × Int × (List Nat) × (List (Int × Int))} (hl : r.2.2.1.length < 1000000) (hg : r.2.2.2.length < 1000000) : VF Tryz.prog OA 37 [.v y32 r] (I (recE r)) := by
  refine VF.enter Tryz.func37 rfl (fun _ _ => rfl) rfl ?_; show VC _ _ _ _ _ [(0, .v y32 r)] [] _; refine VC.seq (VC.text ?_); refine VO.new (.box) ?_; refine VO.c (.assign rfl) ?_; refine VO.go (VC.seq (VC.seq (VC.drawn ?_))); refine VD.c (.fa (.l .o)) ?_; refine VD.r [] (.ld vt9) (.inl rfl) ?_; refine VD.call rfl rfl (VF.call (gName_ok )) ?_; refine VD.c (.not) ?_; refine VD.call rfl rfl (VF.call (gWhen_ok )) ?_; refine VD.c (.fa (.r (.l .o))) (VD.nw [] ?_); refine VD.r [] (.ld vt3) (.inl rfl) ?_; refine VD.call rfl rfl (VF.call (gWithin_ok )) ?_; refine VD.c (.fa (.r (.r (.l .o)))) ?_; refine VD.r [] (.ld vt22) (.inl rfl) ?_; refine VD.r [] (.len el22) (.inl rfl) ?_; refine VD.c (.gtr) ?_; refine VD.call rfl rfl (VF.call (gWhen_ok )) ?_; refine VD.nw [] ?_; refine VD.new (.lit [whenE (!(nameB r.1)) (8 : Int), rangeE r.2.1 (0 : Int) (100000 : Int), whenE (decide ((4096 : Int) < ((r.2.2.1.length : Nat) : Int))) (5 : Int)] el127) ?_; refine VD.callO rfl rfl (VF.call (gFirst_ok (by first | assumption | omega | simp))) ?_; rw [show firstE [whenE (!nameB r.1) 8, rangeE r.2.1 0 100000, whenE (decide ((4096 : Int) < (r.2.2.1.length : Nat))) 5] = headE r from rfl]; refine VD.c (.assign rfl) ?_; refine VD.go (VC.seq (VC.text ?_)); refine VO.c (.move rfl) (VO.c (.neq) (VO.go ?_)); refine VC.condD rfl (fun c2 => ?_) (fun c2 => ?_)
  · refine VC.seq (VC.text ?_); refine VO.c (.move rfl) (VO.c (.assign rfl) (VO.go ?_)); refine VC.ret ?_; exact VEnd.one rfl evT (pvI (by rw [recE, if_pos c2]))
  refine VC.skip (VC.seq (VC.seq (VC.drawn ?_))); refine VD.c (.fa (.r (.r (.l .o)))) ?_; refine VD.r [] (.ld vt22) (.inl rfl) ?_; refine VD.call rfl rfl (VF.call (gLvls_ok (by first | assumption | omega | simp))) ?_; refine VD.c (.fa (.r (.r (.r .o)))) ?_; refine VD.r [] (.ld vt23) (.inl rfl) ?_; refine VD.call rfl rfl (VF.call (gSpans_ok (by first | assumption | omega | simp))) ?_; refine VD.nw [] ?_; refine VD.new (.lit [lvlsE r.2.2.1, spansE r.2.2.2] el127) ?_; refine VD.callO rfl rfl (VF.call (gFirst_ok (by first | assumption | omega | simp))) ?_; rw [show firstE [lvlsE r.2.2.1, spansE r.2.2.2] = bodyE r from rfl]; refine VD.c (.assign rfl) ?_; refine VD.go (VC.seq (VC.text ?_)); refine VO.c (.move rfl) (VO.c (.neq) (VO.go ?_)); refine VC.condD rfl (fun c5 => ?_) (fun c5 => ?_)
  · refine VC.seq ?_; refine VC.keep [(1, .p y32 r), (4, I (bodyE r))] ⟨rfl, rfl, trivial⟩ ?_; refine VC.text ?_; refine VO.c (.move rfl) (VO.c (.assign rfl) (VO.go ?_)); refine VC.ret ?_; exact VEnd.one rfl evT (pvI (by rw [recE, if_neg c2, if_pos c5]))
  have hb0 := bodyE_zero.1 (Classical.not_not.1 c5); have hcan := (spans_canon hb0.2).1.1; refine VC.skip (VC.seq ?_); refine VC.keep [(1, .p y32 r)] ⟨rfl, trivial⟩ ?_; refine VC.text ?_; refine VO.c (.fa (.r (.r (.r .o)))) ?_; refine VO.r (.ld vt23) ?_; refine VO.c (.func) ?_; refine VO.call rfl rfl (VF.call (zContSp_ok (F := fun s => decide ((r.2.2.1.length : Int) < s.2)) hg (fun _ _ => VF.clo gRec1_ok))) ?_; rw [show (r.2.2.2.any fun s => decide ((r.2.2.1.length : Int) < s.2)) = beyB r from rfl]; refine VO.c (.assign rfl) ?_; refine VO.go (VC.seq (VC.seq (VC.text ?_))); refine VO.c (.move rfl) (VO.go ?_); refine VC.condB rfl (fun c8 => ?_) (fun c8 => ?_)
  · refine VC.seq (VC.text ?_); refine VO.c (.assign rfl) (VO.go ?_); refine VC.ret ?_; exact VEnd.one rfl evT (pvI (by rw [recE, if_neg c2, if_neg c5, if_pos c8]))
  have hbf := bey_f c8
  have hsp : ∀ s ∈ r.2.2.2, 0 ≤ s.1 ∧ s.1 ≤ s.2 ∧ s.2 ≤ (r.2.2.1.length : Nat) := fun s hs => by have := hcan s hs; have := hbf s hs; omega
  refine VC.skip (VC.seq (VC.text ?_)); refine VO.c (.fa (.r (.r (.r .o)))) ?_; refine VO.r (.ld vt23) ?_; refine VO.c (.func) ?_; refine VO.call rfl rfl (VF.call (zContSp_ok (F := fun s => ((r.2.2.1.take s.2.toNat).drop s.1.toNat).any nzE) hg (fun s hs => VF.clo (gRec2_ok (hsp s hs) hl)))) ?_; refine VO.c (.assign rfl) ?_; refine VO.go (VC.seq (VC.text ?_)); refine VO.c (.move rfl) ?_; refine VO.call rfl rfl (VF.call (gWhen_ok )) ?_; refine VO.c (.assign rfl) (VO.go ?_); refine VC.ret ?_; exact VEnd.one rfl evT (pvI (by rw [recE, if_neg c2, if_neg c5, if_neg (by rw [c8]; decide)] <;> rfl))
theorem head_two {r : Rec1} : headE r = if firstE [whenE (!nameB r.1) 8, rangeE r.2.1 0 100000] = 0 then whenE (decide ((4096 : Int) < (r.2.2.1.length : Nat))) 5 else firstE [whenE (!nameB r.1) 8, rangeE r.2.1 0 100000] := by
  unfold headE; show (if _ = 0 then (if _ = 0 then (if _ = 0 then 0 else _) else _) else _) = if (if _ = 0 then (if _ = 0 then 0 else _) else _) = 0 then _ else (if _ = 0 then (if _ = 0 then 0 else _) else _); split
  · split
    · rw [if_pos rfl]; split
      · rename_i h; exact h.symm
      rfl
    rename_i h; first | rfl | (rw [if_neg h]; done)
  rename_i h; first | rfl | (rw [if_neg h]; done)
theorem body_lv {r : Rec1} (h : lvlsE r.2.2.1 ≠ 0) : bodyE r = lvlsE r.2.2.1 := by
  unfold bodyE; show (if _ = 0 then _ else _) = _; rw [if_neg h]
theorem body_sp {r : Rec1} (h : lvlsE r.2.2.1 = 0) : bodyE r = spansE r.2.2.2 := by
  unfold bodyE; show (if _ = 0 then (if _ = 0 then 0 else _) else _) = _; rw [if_pos h]; split
  · rename_i h2; exact h2.symm
  rfl
theorem fill_t {r : Rec1} (hsp : ∀ s ∈ r.2.2.2, 0 ≤ s.1 ∧ s.1 ≤ s.2 ∧ s.2 ≤ (r.2.2.1.length : Nat)) {i : Nat} (hi : i < r.2.2.1.length) (h1 : nzE r.2.2.1[i] = true) (h2 : Sp.inL r.2.2.2 i = true) : fillB r = true := by
  obtain ⟨s, hs, h3⟩ := List.any_eq_true.1 h2; simp only [Bool.and_eq_true, decide_eq_true_eq] at h3; have h4 := hsp s hs; refine List.any_eq_true.2 ⟨s, hs, List.any_eq_true.2 ⟨r.2.2.1[i], ?_, h1⟩⟩; refine List.mem_iff_getElem.2 ⟨i - s.1.toNat, by rw [List.length_drop, List.length_take]; omega, ?_⟩; rw [List.getElem_drop, List.getElem_take]; simp only [show s.1.toNat + (i - s.1.toNat) = i by omega]
theorem fill_f {r : Rec1} (h : ∀ i (hi : i < r.2.2.1.length), ¬ (nzE r.2.2.1[i] = true ∧ Sp.inL r.2.2.2 i = true)) (hsp : ∀ s ∈ r.2.2.2, 0 ≤ s.1 ∧ s.1 ≤ s.2 ∧ s.2 ≤ (r.2.2.1.length : Nat)) : fillB r = false := by
  refine List.any_eq_false.2 fun s hs => ?_; rw [Bool.not_eq_true]; refine List.any_eq_false.2 fun x hx => ?_; obtain ⟨k, hk, rfl⟩ := List.mem_iff_getElem.1 hx; rw [List.length_drop, List.length_take] at hk; rw [List.getElem_drop, List.getElem_take]; have h4 := hsp s hs; intro h1; refine h (s.1.toNat + k) (by omega) ⟨h1, List.any_eq_true.2 ⟨s, hs, ?_⟩⟩; simp only [Bool.and_eq_true, decide_eq_true_eq]; omega
theorem rRec_ok {r : ByteArray × Int × (List Nat) × (List (Int × Int))} (hl : r.2.2.1.length < 1000000) (hg : r.2.2.2.length < 1000000) : VF Tryz.prog OA 11 [.v y25 r] (I (recE r)) := by
  refine VF.enter Tryz.func11 rfl (fun _ _ => rfl) rfl ?_; show VC _ _ _ _ _ [(0, .v y25 r)] [] _; refine VC.seq (VC.text ?_); refine VO.new (.box) ?_; refine VO.c (.assign rfl) ?_; refine VO.go (VC.seq (VC.seq (VC.drawn ?_))); refine VD.c (.fa (.l .o)) ?_; refine VD.r [] (.ld vt9) (.inl rfl) ?_; refine VD.call rfl rfl (VF.call (rNameE_ok )) ?_; refine VD.c (.fa (.r (.l .o))) ?_; refine VD.r [] (.ld vt3) (.inl rfl) ?_; refine VD.call rfl rfl (VF.call (rCheckRange_ok )) ?_; refine VD.nw [] ?_; refine VD.new (.lit [whenE (!nameB r.1) 8, rangeE r.2.1 (0 : Int) (100000 : Int)] el60) ?_; refine VD.callO rfl rfl (VF.call (rFirst_ok (by first | assumption | omega | simp))) ?_; refine VD.c (.assign rfl) ?_; refine VD.go (VC.seq (VC.text ?_)); refine VO.c (.move rfl) (VO.c (.neq) (VO.go ?_)); refine VC.condD rfl (fun c2 => ?_) (fun c2 => ?_)
  · refine VC.seq (VC.text ?_); refine VO.c (.move rfl) (VO.c (.assign rfl) (VO.go ?_)); refine VC.ret ?_; exact VEnd.one rfl evT (pvI (by rw [recE, head_two, if_neg c2, if_pos c2]))
  have ha0 := Classical.not_not.1 c2; refine VC.skip (VC.seq (VC.seq (VC.text ?_))); refine VO.c (.fa (.r (.r (.l .o)))) ?_; refine VO.r (.ld vt22) ?_; refine VO.r (.len el22) ?_; refine VO.c (.gtr) (VO.go ?_); refine VC.condD rfl (fun c4 => ?_) (fun c4 => ?_)
  · refine VC.seq (VC.text ?_); refine VO.c (.assign rfl) (VO.go ?_); refine VC.ret ?_; exact VEnd.one rfl evT (pvI (by rw [recE, head_two, if_pos ha0, decide_eq_true c4] <;> rfl))
  have hh : headE r = 0 := by rw [head_two, if_pos ha0, decide_eq_false c4] <;> rfl
  refine VC.skip (VC.seq (VC.seq (VC.text ?_))); refine VO.c (.assign rfl) ?_; refine VO.go (VC.block ?_); refine VC.keep [(1, .p y25 r), (4, I ((0 : Nat) : Int))] ⟨rfl, rfl, trivial⟩ ?_; refine VC.loop (I := fun kk ff ss => ∃ (j : Nat), kk = r.2.2.1.length - j ∧ ff = [(1, .p y25 r), (4, I ((j : Nat) : Int))] ∧ ss = [] ∧ (j ≤ r.2.2.1.length) ∧ (lvlsE r.2.2.1 = lvlsE (r.2.2.1.drop j))) ?_ _ _ _ ⟨0, rfl, rfl, rfl, Nat.zero_le _, (by rfl)⟩; rintro kk ff ss ⟨j, hk0, rfl, rfl, hj, hf⟩; refine VC.seq (VC.seq (VC.text ?_)); refine VO.c (.move rfl) (VO.c (.fa (.r (.r (.l .o)))) ?_); refine VO.r (.ld vt22) ?_; refine VO.r (.len el22) ?_; refine VO.c (.lss) (VO.go ?_); refine VC.condD rfl (fun c7 => ?_) (fun c7 => ?_)
  · refine VC.skip (VC.seq (VC.block (VC.seq (VC.text ?_)))); refine VO.c (.fa (.r (.r (.l .o)))) ?_; refine VO.r (.ld vt22) ?_; refine VO.c (.move rfl) (VO.c (.ix (j := j) rfl rfl el22 (by omega)) ?_); refine VO.r (.ld vt68) ?_; refine VO.call rfl rfl (VF.call (rLv_ok )) ?_; refine VO.c (.assign rfl) ?_; refine VO.go (VC.seq (VC.text ?_)); refine VO.c (.move rfl) (VO.c (.neq) (VO.go ?_)); refine VC.condD rfl (fun c10 => ?_) (fun c10 => ?_)
    · refine VC.seq (VC.text ?_); refine VO.c (.move rfl) (VO.c (.assign rfl) (VO.go ?_)); refine VC.ret ?_; exact VEnd.one rfl evT (pvI (by rw [recE, if_neg (fun h => h hh), body_lv (by rw [hf, lvls_drop (by omega), if_neg c10]; exact c10), hf, lvls_drop (by omega), if_neg c10, if_pos c10]))
    refine VC.skip (VC.text ?_); refine VO.c (.move rfl) (VO.c (.add rfl rfl (by omega)) (VO.c (.assign rfl) ?_)); refine VO.nil ?_; refine ⟨_, [(1, .p y25 r), (4, I (((j + 1) : Nat) : Int))], ?_, ⟨rfl, rfl, trivial⟩, (j + 1), rfl, rfl, rfl, (by omega), (by rw [hf, lvls_drop (by omega), if_pos (by simpa using c10)])⟩; omega
  have hlv : lvlsE r.2.2.1 = 0 := by rw [hf, lvls_end (by omega)]
  refine VC.exit (VC.seq (VC.seq (VC.text ?_))); refine VO.c (.fa (.r (.r (.r .o)))) ?_; refine VO.r (.ld vt23) ?_; refine VO.call rfl rfl (VF.call (rSpans_ok (by first | assumption | omega | simp))) ?_; refine VO.c (.assign rfl) ?_; refine VO.go (VC.seq (VC.text ?_)); refine VO.c (.move rfl) (VO.c (.neq) (VO.go ?_)); refine VC.condD rfl (fun c13 => ?_) (fun c13 => ?_)
  · refine VC.seq (VC.text ?_); refine VO.c (.move rfl) (VO.c (.assign rfl) (VO.go ?_)); refine VC.ret ?_; exact VEnd.one rfl evT (pvI (by rw [recE, if_neg (fun h => h hh), body_sp hlv, if_pos c13]))
  have hs0 := Classical.not_not.1 c13; have hb0 : bodyE r = 0 := bodyE_zero.2 ⟨hlv, hs0⟩; have hcan := (spans_canon hs0).1.1; refine VC.skip (VC.seq (VC.seq (VC.text ?_))); refine VO.c (.assign rfl) ?_; refine VO.go (VC.block ?_); refine VC.keep [(1, .p y25 r), (7, I ((0 : Nat) : Int))] ⟨rfl, rfl, trivial⟩ ?_; refine VC.loop (I := fun kk ff ss => ∃ (k : Nat), kk = r.2.2.2.length - k ∧ ff = [(1, .p y25 r), (7, I ((k : Nat) : Int))] ∧ ss = [] ∧ (k ≤ r.2.2.2.length) ∧ (∀ q (h : q < r.2.2.2.length), q < k → ¬ (r.2.2.1.length : Int) < r.2.2.2[q].2)) ?_ _ _ _ ⟨0, rfl, rfl, rfl, Nat.zero_le _, (by exact fun q _ h => absurd h (by omega))⟩; rintro kk ff ss ⟨k, hk2, rfl, rfl, hk, hi⟩; refine VC.seq (VC.seq (VC.text ?_)); refine VO.c (.move rfl) (VO.c (.fa (.r (.r (.r .o)))) ?_); refine VO.r (.ld vt23) ?_; refine VO.r (.len el23) ?_; refine VO.c (.lss) (VO.go ?_); refine VC.condD rfl (fun c16 => ?_) (fun c16 => ?_)
  · refine VC.skip (VC.seq (VC.block (VC.seq (VC.drawn ?_)))); refine VD.c (.fa (.r (.r (.r .o)))) ?_; refine VD.r [] (.ld vt23) (.inl rfl) ?_; refine VD.c (.move rfl) (VD.c (.ix (j := k) rfl rfl el23 (by omega)) (VD.c (.fa (.r .o)) ?_)); refine VD.r [] (.ld vt3) (.inl rfl) ?_; refine VD.nw [] (VD.c (.fa (.r (.r (.l .o)))) ?_); refine VD.r [] (.ld vt22) (.inl rfl) ?_; refine VD.r [] (.len el22) (.inl rfl) ?_; refine VD.c (.gtr) (VD.go ?_); refine VC.condD rfl (fun c18 => ?_) (fun c18 => ?_)
    · refine VC.seq (VC.text ?_); refine VO.c (.assign rfl) (VO.go ?_); refine VC.ret ?_; exact VEnd.one rfl evT (pvI (by rw [recE, if_neg (fun h => h hh), if_neg (fun h => h hb0), if_pos (show beyB r = true from List.any_eq_true.2 ⟨_, List.getElem_mem (show k < r.2.2.2.length by omega), decide_eq_true c18⟩)]))
    refine VC.skip (VC.text ?_); refine VO.c (.move rfl) (VO.c (.add rfl rfl (by omega)) (VO.c (.assign rfl) ?_)); refine VO.nil ?_; refine ⟨_, [(1, .p y25 r), (7, I (((k + 1) : Nat) : Int))], ?_, ⟨rfl, rfl, trivial⟩, (k + 1), rfl, rfl, rfl, (by omega), (by exact fun q h h3 => if e : q = k then (by subst e; exact c18) else hi q h (by omega))⟩; omega
  have hbe : beyB r = false := List.any_eq_false.2 fun s hs => by
    obtain ⟨q, hq, rfl⟩ := List.mem_iff_getElem.1 hs; simpa using hi q hq (by omega)
  have hbf := bey_f hbe
  have hsp : ∀ s ∈ r.2.2.2, 0 ≤ s.1 ∧ s.1 ≤ s.2 ∧ s.2 ≤ (r.2.2.1.length : Nat) := fun s hs => by have := hcan s hs; have := hbf s hs; omega
  refine VC.exit (VC.seq (VC.seq (VC.text ?_))); refine VO.c (.assign rfl) ?_; refine VO.go (VC.block ?_); refine VC.keep [(1, .p y25 r), (8, I ((0 : Nat) : Int))] ⟨rfl, rfl, trivial⟩ ?_; refine VC.loop (I := fun kk ff ss => ∃ (i : Nat), kk = r.2.2.1.length - i ∧ ff = [(1, .p y25 r), (8, I ((i : Nat) : Int))] ∧ ss = [] ∧ (i ≤ r.2.2.1.length) ∧ (∀ q (h : q < r.2.2.1.length), q < i → ¬ (nzE r.2.2.1[q] = true ∧ Sp.inL r.2.2.2 q = true))) ?_ _ _ _ ⟨0, rfl, rfl, rfl, Nat.zero_le _, (by exact fun q _ h => absurd h (by omega))⟩; rintro kk ff ss ⟨i, hk4, rfl, rfl, hi4, hno⟩; refine VC.seq (VC.seq (VC.text ?_)); refine VO.c (.move rfl) (VO.c (.fa (.r (.r (.l .o)))) ?_); refine VO.r (.ld vt22) ?_; refine VO.r (.len el22) ?_; refine VO.c (.lss) (VO.go ?_); refine VC.condD rfl (fun c21 => ?_) (fun c21 => ?_)
  · refine VC.skip (VC.seq (VC.block (VC.seq (VC.text ?_)))); refine VO.c (.fa (.r (.r (.l .o)))) ?_; refine VO.r (.ld vt22) ?_; refine VO.c (.move rfl) (VO.c (.ix (j := i) rfl rfl el22 (by omega)) ?_); refine VO.r (.ld vt68) ?_; refine VO.c (.fcmp .neq) (VO.c (.move rfl) ?_); refine VO.cg (r := (fcmpE .neq .f32 (r.2.2.1[i]) (0 : Nat))) (w := true) [] trivial (fun _ => (.fa (.r (.r (.r (k := 0) .o))))) ?_; refine VO.rg (r := (fcmpE .neq .f32 (r.2.2.1[i]) (0 : Nat))) (w := true) [(77, .p y23 r.2.2.2)] ⟨rfl, trivial⟩ (fun _ => (.ld vt23)) ?_; refine VO.cg (r := (fcmpE .neq .f32 (r.2.2.1[i]) (0 : Nat))) (w := true) [] trivial (fun _ => (.move rfl)) ?_; refine VO.callg (r0 := (fcmpE .neq .f32 (r.2.2.1[i]) (0 : Nat))) (w := true) [(78, .v y23 r.2.2.2), (79, I ((i : Nat) : Int))] ⟨rfl, rfl, trivial⟩ rfl rfl .same .refl rfl (fun hgd => have g23_6 : (fcmpE .neq .f32 (r.2.2.1[i]) (0 : Nat)) = true := (by simpa using hgd); VF.call (rHas_ok (by first | assumption | omega | simp))) ?_; refine VO.c (.and) (VO.go ?_); refine VC.condB rfl (fun c23 => ?_) (fun c23 => ?_)
    · try simp only [Bool.and_eq_true, Bool.or_eq_true, Bool.and_eq_false_iff, Bool.or_eq_false_iff, Bool.not_eq_true', Bool.not_eq_false', decide_eq_true_eq, decide_eq_false_iff_not] at c23
      refine VC.seq (VC.text ?_); refine VO.c (.assign rfl) (VO.go ?_); refine VC.ret ?_; exact VEnd.one rfl evT (pvI (by rw [recE, if_neg (fun h => h hh), if_neg (fun h => h hb0), if_neg (by rw [hbe]; decide), fill_t hsp (show i < r.2.2.1.length by omega) c23.1 c23.2] <;> rfl))
    try simp only [Bool.and_eq_true, Bool.or_eq_true, Bool.and_eq_false_iff, Bool.or_eq_false_iff, Bool.not_eq_true', Bool.not_eq_false', decide_eq_true_eq, decide_eq_false_iff_not] at c23
    have hnq : ¬ (nzE r.2.2.1[i] = true ∧ Sp.inL r.2.2.2 i = true) := fun h2 => by
      rcases c23 with h | h
      · exact absurd (h2.1.symm.trans h) (by decide)
      rw [h2.2] at h; cases h
    refine VC.skip (VC.text ?_); refine VO.c (.move rfl) (VO.c (.add rfl rfl (by omega)) (VO.c (.assign rfl) ?_)); refine VO.nil ?_; refine ⟨_, [(1, .p y25 r), (8, I (((i + 1) : Nat) : Int))], ?_, ⟨rfl, rfl, trivial⟩, (i + 1), rfl, rfl, rfl, (by omega), (by exact fun q h h3 => if e : q = i then (by subst e; exact hnq) else hno q h (by omega))⟩; omega
  refine VC.exit (VC.seq (VC.text ?_)); refine VO.c (.assign rfl) (VO.go ?_); refine VC.ret ?_; exact VEnd.one rfl evT (pvI (by rw [recE, if_neg (fun h => h hh), if_neg (fun h => h hb0), if_neg (by rw [hbe]; decide), fill_f (fun q h => hno q h (by omega)) hsp] <;> rfl))
end Go.Proofs
namespace Go.Fs
open Go.RowKit (Below)
variable {P : Program} {H : Type} {enc : TypeId × Value → H} {w : World} {base : Nat} {sp : Nat → Bool} {held : Bool}
def fsB (P : Program) (ty : TypeId → Ty → Bool) : List Field → Nat → Ty → Bool
  | [f], off, .pair a .unit => Nat.beq f.offset off && Nat.beq (P.cellsOf f.type) a.size && ty f.type a
  | [f], off, τ => Nat.beq f.offset off && Nat.beq (P.cellsOf f.type) τ.size && ty f.type τ
  | f :: fs, off, .pair a b => Nat.beq f.offset off && Nat.beq (P.cellsOf f.type) a.size && ty f.type a && fsB P ty fs (off + a.size) b
  | _, _, _ => false
def arrFs (P : Program) (m : Nat) (e : TypeId) : List Field := (List.range m).map fun i => { name := "", type := e, offset := i * P.cellsOf e, embedded := false, tag := "", pkgPath := "", byteOffset := 0 }
def tyB (P : Program) : Nat → TypeId → Ty → Bool
  | 0, _, _ => false
  | n + 1, t, τ =>
    match P.underlying t, τ with
    | some (.int k), .int k' => decide (k = k')
    | some .bool, .bool => true
    | some .string, .str => true
    | some (.float k), .flt k' => decide (k = k')
    | some (.slice te), .sl e => Nat.beq (P.cellsOf te) e.size && Nat.blt 0 e.size && tyB P n te e
    | some (.struct fs), .pair a b => Nat.beq (P.cellsOf t) (Ty.pair a b).size && fsB P (tyB P n) fs.toList 0 (.pair a b)
    | some (.array m e), .pair a b => Nat.beq (P.cellsOf t) (Ty.pair a b).size && fsB P (tyB P n) (arrFs P m e) 0 (.pair a b)
    | _, _ => false
def Wf : (τ : Ty) → τ.den → Prop
  | .int k, n => (Lit.int k n).wf = true
  | .bool, _ => True
  | .str, s => s.size ≤ maxLen
  | .flt k, n => (Lit.float k n).wf = true
  | .sl e, xs => List.length xs ≤ maxLen ∧ ∀ x ∈ (xs : List e.den), Wf e x
  | .pair a b, x => Wf a x.1 ∧ Wf b x.2
  | .unit, _ => True
  | .mp _ _, _ => True
  | .fn, _ => True
  | .hnd, _ => True
structure Got (P : Program) (w : World) (ρ : Ren) (S : Nat → Prop) (h : Heap) (ρ' : Ren) (S' : Nat → Prop) (h' : Heap) : Prop where
  hr : HR P ρ' S' w.heap.size (wz w) h' w
  agree : ∀ b, S b → S' b ∧ ρ' b = ρ b
  aft : After h h'
theorem Got.refl {ρ : Ren} {S : Nat → Prop} {h : Heap} (hr : HR P ρ S w.heap.size (wz w) h w) : Got P w ρ S h ρ S h := ⟨hr, fun _ hb => ⟨hb, rfl⟩, After.refl h⟩
theorem Got.trans {ρ ρ1 ρ2 : Ren} {S S1 S2 : Nat → Prop} {h h1 h2 : Heap} (a : Got P w ρ S h ρ1 S1 h1) (b : Got P w ρ1 S1 h1 ρ2 S2 h2) : Got P w ρ S h ρ2 S2 h2 :=
  ⟨b.hr, fun i hi => let ⟨h3, h4⟩ := a.agree i hi; let ⟨h5, h6⟩ := b.agree i h3; ⟨h5, h6.trans h4⟩, a.aft.trans b.aft⟩
theorem Got.ok {ρ ρ1 : Ren} {S S1 : Nat → Prop} {h h1 : Heap} (a : Got P w ρ S h ρ1 S1 h1) : HOk h1 := fun b o hg => (a.hr.ids b (a.hr.objs b o hg).1).1
theorem hok_of {ρ : Ren} {S : Nat → Prop} {h : Heap} (hr : HR P ρ S w.heap.size (wz w) h w) : HOk h := fun b o hg => (hr.ids b (hr.objs b o hg).1).1
theorem Got.row {ρ : Ren} {S : Nat → Prop} {h : Heap} (hr : HR P ρ S w.heap.size (wz w) h w) {te : TypeId} {cs : List Value} {a : Addr} (ha : a.block < w.heap.size) (hc : ∀ i, i < cs.length → ∃ v, w.cell? ⟨a.block, a.off + i, none⟩ = some v ∧ VR ρ S (cs.getD i undef) v) :
    Got P w ρ S h (fun b => if b = h.next then (.clean a.block a.off 0 (P.cellsOf te)) else ρ b) (fun b => S b ∨ b = h.next) (h.push (.row te cs false false)) := by
  have hag : ∀ b, S b → (S b ∨ b = h.next) ∧ (fun b => if b = h.next then (Loc.clean a.block a.off 0 (P.cellsOf te)) else ρ b) b = ρ b := fun b hb => by
    have := (hr.ids b hb).1; exact ⟨.inl hb, by simp only; rw [if_neg (by omega)]⟩
  have hold : ∀ i o, (h.push (.row te cs false false)).get i = some o → (i = h.next ∧ o = .row te cs false false) ∨ (i ≠ h.next ∧ h.get i = some o) := fun i o hg => by
    rw [Heap.get_push] at hg; by_cases hi : i = h.next
    · rw [if_pos hi] at hg; exact .inl ⟨hi, (Option.some.inj hg).symm⟩
    rw [if_neg hi] at hg; exact .inr ⟨hi, hg⟩
  refine ⟨⟨fun i o hg => ?_, fun i j oi oj hi hj oi1 oj1 he => ?_, fun i o hg ho => ?_, fun i o hg ho => ?_, fun b hb => ?_, Nat.succ_pos _, z_below (Below.refl _ _), Nat.zero_le _, Nat.le_refl _⟩, hag, After.push h _⟩
  · rcases hold i o hg with ⟨rfl, rfl⟩ | ⟨hi, hg'⟩
    · refine ⟨.inr rfl, ?_⟩; simp only [if_true]; refine ⟨rfl, fun i hi => ?_, fun hx => by cases hx⟩; obtain ⟨v, h1, h2⟩ := hc i hi; exact ⟨v, h1, h2.mono hag⟩
    obtain ⟨h1, h2⟩ := hr.objs i o hg'; refine ⟨.inl h1, ?_⟩; simp only [if_neg hi]; exact h2.mono hag
  · rcases hold i oi hi with ⟨rfl, rfl⟩ | ⟨hi', hgi⟩
    · cases oi1
    rcases hold j oj hj with ⟨rfl, rfl⟩ | ⟨hj', hgj⟩
    · cases oj1
    simp only [if_neg hi', if_neg hj'] at he; exact hr.inj i j oi oj hgi hgj oi1 oj1 he
  · rcases hold i o hg with ⟨rfl, rfl⟩ | ⟨hi, hg'⟩
    · cases ho
    simp only [if_neg hi]; exact hr.base i o hg' ho
  · rcases hold i o hg with ⟨rfl, rfl⟩ | ⟨hi, hg'⟩
    · simp only [if_true]; exact ha
    simp only [if_neg hi]; exact hr.ro i o hg' ho
  have hn : (h.push (.row te cs false false)).next = h.next + 1 := rfl; rw [hn]; rcases hb with hb | rfl
  · have := hr.ids b hb; exact ⟨by omega, this.2⟩
  have := hr.pos; exact ⟨by omega, by omega⟩
theorem trod_float {fuel : Nat} {t : TypeId} {cs : List Value} {x : DataW H × List MemPlace} {k : FloatKind} (ht : P.underlying t = some (.float k)) (h : DataW.trod enc P w base sp held fuel t cs = some x) : ∃ n, cs = [.float k n] ∧ (Lit.float k n).wf = true := by
  cases fuel with
  | zero => simp [DataW.trod] at h
  | succ n =>
    unfold DataW.trod at h; rw [ht] at h; split at h <;> simp_all
theorem mapM_all {α β : Type} (f : α → Option β) : ∀ (l : List α) (r : List β), l.mapM f = some r → l.length = r.length ∧ ∀ i (hi : i < l.length) (hr : i < r.length), f l[i] = some r[i]
  | [], r, h => by
    simp only [List.mapM_nil] at h; obtain rfl := Option.some.inj h
    exact ⟨rfl, fun i hi => absurd hi (by simp)⟩
  | a :: l, r, h => by
    rw [List.mapM_cons] at h
    cases hf : f a with
    | none => rw [hf] at h; cases h
    | some b =>
      rw [hf] at h
      cases hl : l.mapM f with
      | none => rw [hl] at h; cases h
      | some bs =>
        rw [hl] at h; obtain rfl := Option.some.inj h; obtain ⟨h1, h2⟩ := mapM_all f l bs hl; refine ⟨by simp [h1], fun i hi hr => ?_⟩
        cases i with
        | zero => exact hf
        | succ i => exact h2 i (by simpa using hi) (by simpa using hr)
theorem cells_some {a : Addr} {n : Nat} {cs : List Value} (h : w.cells? base a n = some cs) : cs.length = n ∧ ∀ i, i < n → w.cell? (a.add i) = some (cs.getD i undef) := by
  unfold World.cells? at h; split at h
  · obtain ⟨h1, h2⟩ := mapM_all _ _ _ h; rw [List.length_range] at h1; refine ⟨h1.symm, fun i hi => ?_⟩; have := h2 i (by simpa using hi) (by omega); rw [List.getElem_range] at this; rw [this]; simp [List.getD, show i < cs.length by omega]
  cases h
theorem cell_some {a : Addr} {v : Value} (h : w.cell? a = some v) : a.spot = none ∧ a.block < w.heap.size := by
  unfold World.cell? at h; split at h
  · rename_i c _ _ hb; refine ⟨?_, (Array.getElem?_eq_some_iff.1 hb).1⟩
    cases hs : a.spot with
    | none => rfl
    | some s => rw [hs] at h; cases h
  cases h
def Tells (P : Program) (w : World) (τ : Ty) (cs : List Value) : Prop := ∀ (ρ : Ren) (S : Nat → Prop) (h : Heap), HR P ρ S w.heap.size (wz w) h w →
  ∃ ρ' S' h' cs' x, Got P w ρ S h ρ' S' h' ∧ LR ρ' S' cs' cs ∧ RepC h' [] τ cs' x ∧ Wf τ x
theorem LR.one {ρ : Ren} {S : Nat → Prop} {v v' : Value} (h : VR ρ S v v') : LR ρ S [v] [v'] := LR.cons h LR.nil
theorem tells_elems {e : Ty} (a : Addr) (len : Nat) (hcs : ∀ i, i < len → ∃ cs, (∀ j, j < e.size → w.cell? (a.add (i * e.size + j)) = some (cs.getD j undef)) ∧ cs.length = e.size ∧ Tells P w e cs) :
    ∀ (ρ : Ren) (S : Nat → Prop) (h : Heap), HR P ρ S w.heap.size (wz w) h w → ∃ ρ' S' h' rs xs, Got P w ρ S h ρ' S' h' ∧ rs.length = len * e.size ∧ List.length xs = len ∧ (∀ i, i < len * e.size → ∃ v, w.cell? (a.add i) = some v ∧ VR ρ' S' (rs.getD i undef) v) ∧
      Elems h' [] e rs xs ∧ ∀ x ∈ (xs : List e.den), Wf e x := by
  induction len with
  | zero =>
    intro ρ S h hr
    exact ⟨ρ, S, h, [], [], Got.refl hr, by simp, rfl, fun i hi => by omega, Elems.nil, fun x hx => by cases hx⟩
  | succ n ih =>
    intro ρ S h hr; obtain ⟨ρ1, S1, h1, rs, xs, g1, l1, l2, c1, e1, w1⟩ := ih (fun i hi => hcs i (by omega)) ρ S h hr; obtain ⟨cs, k1, k2, k3⟩ := hcs n (by omega); obtain ⟨ρ2, S2, h2, cs', x, g2, lr, rc, wf⟩ := k3 ρ1 S1 h1 g1.hr; have hN : Goes h1 [] h2 [] := g2.aft.nx g1.ok; have hl : cs'.length = e.size := rc.len
    have hel : Elems h2 [] e cs' [x] := by
      refine ⟨by simpa using hl, fun i hi => ?_⟩
      obtain rfl : i = 0 := by simpa using hi
      simp only [Nat.zero_mul, List.drop_zero, List.getElem_cons_zero]; rw [List.take_of_length_le (by omega)]; exact rc
    refine ⟨ρ2, S2, h2, rs ++ cs', xs ++ [x], g1.trans g2, by rw [List.length_append, l1, hl, Nat.add_mul]; omega, by simp [l2], fun i hi => ?_, (e1.nx hN).append hel, fun y hy => ?_⟩
    · rw [Nat.add_mul, Nat.one_mul] at hi; by_cases hin : i < n * e.size
      · obtain ⟨v, hv1, hv2⟩ := c1 i hin; refine ⟨v, hv1, ?_⟩; rw [List.getD_eq_getElem?_getD, List.getElem?_append_left (by omega), ← List.getD_eq_getElem?_getD]; exact hv2.mono g2.agree
      have hj : i - n * e.size < e.size := by omega
      refine ⟨cs.getD (i - n * e.size) undef, ?_, ?_⟩
      · have := k1 (i - n * e.size) hj
        rwa [show n * e.size + (i - n * e.size) = i by omega] at this
      rw [List.getD_eq_getElem?_getD, List.getElem?_append_right (by omega), l1, ← List.getD_eq_getElem?_getD]; exact lr.getD _
    rcases List.mem_append.1 hy with hy | hy
    · exact w1 y hy
    obtain rfl := List.mem_singleton.1 hy; exact wf
theorem Addr.add_spot {a : Addr} (h : a.spot = none) (n : Nat) : a.add n = ⟨a.block, a.off + n, none⟩ := by
  obtain ⟨b, o, s⟩ := a; simp only at h; subst h; unfold Addr.add; by_cases hn : n = 0
  · subst hn; simp
  simp [hn]
theorem tells_fields {n : Nat} (ih : ∀ (t : TypeId) (τ : Ty), tyB P n t τ = true → ∀ (fuel : Nat) (cs : List Value) (x : DataW H × List MemPlace), DataW.trod enc P w base sp held fuel t cs = some x → Tells P w τ cs) :
    ∀ (fs : List Field) (off : Nat) (τ : Ty) (cs : List Value) (m : Nat), fsB P (tyB P n) fs off τ = true → cs.length = off + τ.size → (∀ f ∈ fs, ∃ x, DataW.trod enc P w base sp held m f.type ((cs.drop f.offset).take (P.cellsOf f.type)) = some x) → Tells P w τ (cs.drop off) := by
  have one : ∀ (f : Field) (off : Nat) (τ : Ty) (cs : List Value) (m : Nat), f.offset = off → P.cellsOf f.type = τ.size → tyB P n f.type τ = true → off + τ.size ≤ cs.length → (∃ x, DataW.trod enc P w base sp held m f.type ((cs.drop f.offset).take (P.cellsOf f.type)) = some x) → Tells P w τ ((cs.drop off).take τ.size) := by
    intro f off τ cs m h1 h2 h3 h4 ⟨x, hx⟩; rw [h1, h2] at hx; exact ih f.type τ h3 m _ x hx
  intro fs
  induction fs with
  | nil => intro off τ cs m hb; cases hb
  | cons f fs ihf =>
    intro off τ cs m hb hl hall; have hf := hall f List.mem_cons_self
    cases fs with
    | nil =>
      by_cases hs : ∃ a, τ = .pair a .unit
      · obtain ⟨a, rfl⟩ := hs; have hb' : (Nat.beq f.offset off && Nat.beq (P.cellsOf f.type) a.size && tyB P n f.type a) = true := hb; obtain ⟨hb', h3⟩ := band hb'; obtain ⟨h1, h2⟩ := band hb'
        have hs : (Ty.pair a .unit).size = a.size := by simp [Ty.size]
        rw [hs] at hl; have := one f off a cs m (nbeq h1) (nbeq h2) h3 (by omega) hf; intro ρ S h hr; obtain ⟨ρ', S', h', cs', x, g, lr, rc, wf⟩ := this ρ S h hr; have e1 : (cs.drop off).take a.size = cs.drop off := List.take_of_length_le (by rw [List.length_drop]; omega); rw [e1] at lr; have hcl := rc.len; exact ⟨ρ', S', h', cs', (x, ()), g, lr, ⟨by rw [List.take_of_length_le (by omega)]; exact rc, by rw [List.drop_eq_nil_of_le (by omega)]; rfl⟩, wf, trivial⟩
      have hb' : (Nat.beq f.offset off && Nat.beq (P.cellsOf f.type) τ.size && tyB P n f.type τ) = true := by
        cases τ with
        | pair a b =>
          cases b with
          | unit => exact absurd ⟨a, rfl⟩ hs
          | _ => exact hb
        | _ => exact hb
      obtain ⟨hb', h3⟩ := band hb'; obtain ⟨h1, h2⟩ := band hb'; have := one f off τ cs m (nbeq h1) (nbeq h2) h3 (by omega) hf; have e1 : (cs.drop off).take τ.size = cs.drop off := List.take_of_length_le (by rw [List.length_drop]; omega)
      rwa [e1] at this
    | cons g fs =>
      cases τ with
      | pair a b =>
        have hb' : (Nat.beq f.offset off && Nat.beq (P.cellsOf f.type) a.size && tyB P n f.type a && fsB P (tyB P n) (g :: fs) (off + a.size) b) = true := hb; obtain ⟨hb', h4⟩ := band hb'; obtain ⟨hb', h3⟩ := band hb'; obtain ⟨h1, h2⟩ := band hb'; have hs : (Ty.pair a b).size = a.size + b.size := rfl; rw [hs] at hl; have ha := one f off a cs m (nbeq h1) (nbeq h2) h3 (by omega) hf; have hrest := ihf (off + a.size) b cs m h4 (by omega) (fun g hg => hall g (List.mem_cons_of_mem _ hg)); intro ρ S h hr; obtain ⟨ρ1, S1, h1', cs1, x1, g1, lr1, rc1, wf1⟩ := ha ρ S h hr; obtain ⟨ρ2, S2, h2', cs2, x2, g2, lr2, rc2, wf2⟩ := hrest ρ1 S1 h1' g1.hr; have hN : Goes h1' [] h2' [] := g2.aft.nx g1.ok; have hc1 := rc1.len; refine ⟨ρ2, S2, h2', cs1 ++ cs2, (x1, x2), g1.trans g2, ?_, ⟨?_, ?_⟩, wf1, wf2⟩
        · have := (lr1.mono g2.agree).append lr2
          rwa [show (cs.drop off).take a.size ++ cs.drop (off + a.size) = cs.drop off from by rw [← List.drop_drop, List.take_append_drop]] at this
        · rw [List.take_left' hc1]; exact rc1.nx hN
        rw [List.drop_left' hc1]; exact rc2
      | _ => cases hb
theorem tells : ∀ (n : Nat) (t : TypeId) (τ : Ty), tyB P n t τ = true → ∀ (fuel : Nat) (cs : List Value) (x : DataW H × List MemPlace), DataW.trod enc P w base sp held fuel t cs = some x → Tells P w τ cs := by
  intro n
  induction n with
  | zero => intro t τ h; cases h
  | succ n ih =>
    intro t τ hb fuel cs x hx; unfold tyB at hb; split at hb
    · rename_i k k' hu; obtain rfl : k = k' := of_decide_eq_true hb; obtain ⟨m, rfl, _, hwf⟩ := DataW.trod_int hu hx; exact fun ρ S h hr => ⟨ρ, S, h, _, m, Got.refl hr, LR.one (.lit rfl), rfl, hwf⟩
    · rename_i hu; obtain ⟨b, rfl, _⟩ := DataW.trod_bool hu hx; exact fun ρ S h hr => ⟨ρ, S, h, _, b, Got.refl hr, LR.one (.lit rfl), rfl, trivial⟩
    · rename_i hu; obtain ⟨s, rfl, _, hs⟩ := DataW.trod_string hu hx; exact fun ρ S h hr => ⟨ρ, S, h, _, s, Got.refl hr, LR.one (.lit rfl), rfl, hs⟩
    · rename_i k k' hu; obtain rfl : k = k' := of_decide_eq_true hb; obtain ⟨m, rfl, hwf⟩ := trod_float hu hx; exact fun ρ S h hr => ⟨ρ, S, h, _, m, Got.refl hr, LR.one (.lit rfl), rfl, hwf⟩
    · rename_i te e hu; obtain ⟨hb, h3⟩ := band hb; obtain ⟨h1, h2⟩ := band hb; have hce := nbeq h1; have hpos := nblt h2; rcases DataW.trod_slice hu hx with ⟨rfl, _⟩ | ⟨a, len, cap, elems, rest, m, _, rfl, _, hba, hlc, hcap, hlen, hel, _⟩
      · exact fun ρ S h hr => ⟨ρ, S, h, [.slice none 0 0], [], Got.refl hr, LR.one (.lit rfl), ⟨_, rfl, .inl ⟨rfl, rfl⟩⟩, Nat.zero_le _, fun x hx => by cases hx⟩
      by_cases h0 : len = 0
      · subst h0; exact fun ρ S h hr => ⟨ρ, S, h, [.slice (some ⟨0, 0, none⟩) 0 2], [], Got.refl hr, LR.one (.slice 0 0 0 2 cap a (Nat.zero_le _) (fun h => by cases h) (fun _ => rfl) (fun h => absurd rfl h)), ⟨_, rfl, .inr ⟨0, 0, 2, rfl, .inl rfl⟩⟩, Nat.zero_le _, fun x hx => by cases hx⟩
      have hcs : ∀ i, i < len → ∃ cs, (∀ j, j < e.size → w.cell? (a.add (i * e.size + j)) = some (cs.getD j undef)) ∧ cs.length = e.size ∧ Tells P w e cs := by
        intro i hi; have := hel i hi; rw [List.getElem?_eq_getElem (by omega)] at this; rw [hce] at this
        cases hc : w.cells? base (a.add (i * e.size)) e.size with
        | none => rw [hc] at this; cases this
        | some cs =>
          rw [hc] at this; obtain ⟨k1, k2⟩ := cells_some hc; refine ⟨cs, fun j hj => ?_, k1, ih te e h3 m cs _ this⟩; rw [← k2 j hj]; congr 1; obtain ⟨b, o, s⟩ := a; unfold Addr.add; by_cases hx1 : i * e.size = 0
          · simp [hx1]
          by_cases hx2 : j = 0
          · subst hx2; simp [hx1]
          simp [hx1, hx2, Nat.add_assoc]
      have hfirst : a.spot = none ∧ a.block < w.heap.size := by
        obtain ⟨cs, k1, _⟩ := hcs 0 (by omega); have := k1 0 hpos; rw [Nat.zero_mul, Nat.zero_add] at this; have h4 := cell_some this; simpa [Addr.add] using h4
      intro ρ S h hr; obtain ⟨ρ1, S1, h1', rs, xs, g1, l1, l2, c1, e1, w1⟩ := tells_elems (P := P) a len hcs ρ S h hr
      have hrow := Got.row (te := te) g1.hr (cs := rs) (a := a) hfirst.2 (fun i hi => by
        have := c1 i (by omega)
        rwa [Addr.add_spot hfirst.1] at this)
      have hsl : SlV (h1'.push (.row te rs false false)) [] e (.slice (some ⟨h1'.next, 0, none⟩) (List.length xs) 2) xs := (e1.nx (hrow.aft.nx g1.ok)).slv (by rw [Heap.get_push, if_pos rfl]) (by simp); refine ⟨_, _, _, [.slice (some ⟨h1'.next, 0, none⟩) (List.length xs) 2], xs, g1.trans hrow, ?_, ⟨_, rfl, hsl⟩, by omega, w1⟩; rw [l2]; refine LR.one (.slice h1'.next 0 len 2 cap a hlc (fun h => by cases h) (fun h5 => by have := g1.hr.pos; omega) fun _ => ⟨.inr rfl, ?_, fun h => by cases h⟩); simp only [if_true, Loc.at, Nat.add_zero]; obtain ⟨b, o, s⟩ := a; simp only at hfirst; rw [hfirst.1]
    · rename_i fs a b hu; obtain ⟨h1, h2⟩ := band hb; obtain ⟨xs, m, _, _, hl, hsz, hall⟩ := DataW.trod_struct hu hx
      have hcl : cs.length = (Ty.pair a b).size := by rw [hl, nbeq h1]
      have := tells_fields ih fs.toList 0 (.pair a b) cs m h2 (by omega) (fun f hf => by
        obtain ⟨i, hi, rfl⟩ := List.getElem_of_mem hf
        have hi' : i < fs.size := by simpa using hi
        have := hall i fs[i] (by simp [hi']); rw [List.getElem?_eq_getElem (by omega)] at this
        exact ⟨_, by simpa using this⟩)
      simpa using this
    · rename_i m e a b hu; obtain ⟨h1, h2⟩ := band hb; obtain ⟨xs, m', _, _, hl, hsz, hall⟩ := DataW.trod_array hu hx
      have hcl : cs.length = (Ty.pair a b).size := by rw [hl, nbeq h1]
      have := tells_fields ih (arrFs P m e) 0 (.pair a b) cs m' h2 (by omega) (fun f hf => by
        obtain ⟨i, hi, rfl⟩ := List.mem_map.1 hf; have hi' : i < m := List.mem_range.1 hi; have := hall i hi'; rw [List.getElem?_eq_getElem (by omega)] at this
        exact ⟨_, this⟩)
      simpa using this
    cases hb
theorem okWide_agg {n : Nat} {r : Reach} {b0 : Nat} {t : TypeId} {τ : Ty} {v : Value} (hb : tyB P n t τ = true) (hval : Value.okWide P w r b0 t v) : isAggV v = τ.agg := by
  cases n with
  | zero => cases hb
  | succ n =>
    unfold tyB at hb; unfold Value.okWide at hval; split at hb
    · rename_i k k' hu; rw [hu] at hval; simp only [Cell.okWide, hu, Cell.ok] at hval; cases v <;> simp_all [isAggV, Ty.agg]
    · rename_i hu; rw [hu] at hval; simp only [Cell.okWide, hu, Cell.ok] at hval; cases v <;> simp_all [isAggV, Ty.agg]
    · rename_i hu; rw [hu] at hval; simp only [Cell.okWide, hu, Cell.ok] at hval; cases v <;> simp_all [isAggV, Ty.agg]
    · rename_i k k' hu; rw [hu] at hval; simp only [Cell.okWide, hu, Cell.ok] at hval; cases v <;> simp_all [isAggV, Ty.agg]
    · rename_i te e hu; rw [hu] at hval; simp only [Cell.okWide, hu, Cell.ok] at hval; cases v <;> simp_all [isAggV, Ty.agg]
    · rename_i fs a b hu; rw [hu] at hval; obtain ⟨cs, rfl, _⟩ := hval; rfl
    · rename_i m e a b hu; rw [hu] at hval; obtain ⟨cs, rfl, _⟩ := hval; rfl
    cases hb
theorem tell_arg {ρ : Ren} {S : Nat → Prop} {h : Heap} (hr : HR P ρ S w.heap.size (wz w) h w) {n : Nat} {r : Reach} {b0 : Nat} {t : TypeId} {τ : Ty} {v : Value} {d : DataW H} {ps : List MemPlace} (hb : tyB P n t τ = true) (hval : Value.okWide P w r b0 t v) (hd : DataW.Trod enc P w base sp held t v d ps) :
    ∃ ρ' S' h' v' x, Got P w ρ S h ρ' S' h' ∧ VR ρ' S' v' v ∧ RepV h' [] τ v' x ∧ Wf τ x := by
  have hag := okWide_agg hb hval; obtain ⟨fuel, hf⟩ := hd; obtain ⟨ρ', S', h', cs', x, g, lr, rc, wf⟩ := tells n t τ hb fuel _ _ hf ρ S h hr
  cases hτ : τ.agg with
  | true =>
    rw [hτ] at hag
    cases v with
    | agg cs =>
      refine ⟨ρ', S', h', .agg cs'.toArray, x, g, VR.agg' (by simpa [Value.cells] using lr), ⟨hτ.symm, by simpa [Value.cells] using rc⟩, wf⟩
    | _ => cases hag
  | false =>
    rw [hτ] at hag; rw [cells_one hag] at lr; obtain ⟨u, rfl, hu⟩ := rc.one hτ; have := lr.2 0 (by simp); exact ⟨ρ', S', h', u, x, g, by simpa using this, hu, wf⟩
theorem hr_empty (hw : 0 ≤ w.heap.size) : HR P (fun _ => Loc.clean 0 0 0 0) (fun _ => False) w.heap.size (wz w) ⟨1, 1, []⟩ w where
  objs := fun i o h => by cases h
  inj := fun i j oi oj h => by cases h
  base := fun i o h => by cases h
  ro := fun i o h => by cases h
  ids := fun b hb => hb.elim
  pos := Nat.one_pos
  below := z_below (Below.refl _ _)
  drawn := Nat.zero_le _
  size := Nat.le_refl _
section
open Go.WideElems Go.ChangeShapes
theorem trodAll_below (hl : laidOutB P = true) {W W' : World} (hb : Below W.heap.size W W') : ∀ {ts : List TypeId} {vs : List Value} {ds : List (DataW H)} {ps : List MemPlace}, (ts.all fun t => P.readableRec t && decide (t < P.types.size)) = true →
    DataW.TrodAll enc P W 0 (fun _ => true) true ts vs ds ps → (∀ x ∈ ps, x.block < W.heap.size) → DataW.TrodAll enc P W' 0 (fun b => decide (b < W.heap.size)) true ts vs ds ps
  | [], [], [], _, _, h, _ => h
  | [], _ :: _, _, _, _, h, _ => h.elim
  | [], [], _ :: _, _, _, h, _ => h.elim
  | _ :: _, [], _, _, _, h, _ => h.elim
  | _ :: _, _ :: _, [], _, _, h, _ => h.elim
  | t :: ts, v :: vs, d :: ds, ps, ha, h, hp => by
    obtain ⟨p, q, h1, h2, rfl⟩ := h; simp only [List.all_cons, Bool.and_eq_true, decide_eq_true_eq] at ha; exact ⟨p, q, Go.RowKit.Below.trod hl ha.1.1 ha.1.2 h1 hb (fun x hx => hp x (List.mem_append_left _ hx)), trodAll_below hl hb (by simpa using ha.2) h2 (fun x hx => hp x (List.mem_append_right _ hx)), rfl⟩
theorem law_post {f : Func} {s : ChangeSpec} {tb : TypeId} (hl : laidOutB P = true) (hrd : (f.params.toList.all fun t => P.readableRec t && decide (t < P.types.size)) = true) (hres : f.resultTypes = #[tb]) (htb : P.underlying tb = some .bool) (hvars : s.vars = []) {W W' : World} {args : Array Value} {ds gs : List (DataW H)}
    {before : List MemPlace} (hW : DataW.Whole enc P f.params.toList s.vars false W args.toList ds gs before) (hr : (s.fn H (ds ++ gs)).results = [.lit (.bool true)]) (ha : (s.fn H (ds ++ gs)).args = ds) (hv : (s.fn H (ds ++ gs)).vars = []) (hb : Below W.heap.size W W') :
    s.post enc P f false true false false W args (.bool true) W' := by
  have hlt := hW.lt; have hW' := hW; obtain ⟨p, q, hA, hV, rfl, _, _⟩ := hW; rw [hvars] at hV; have hV' : gs = [] ∧ q = [] := trodVars_none hV; obtain ⟨rfl, rfl⟩ := hV'; refine ⟨ds, [], p ++ [], [], p, [], hW', ?_, ?_, ?_, hb.frame _, fun h => by cases h⟩
  · rw [hr, hres]; exact trodAll_mk1 (Go.RowKit.shut_bool htb _)
  · rw [ha]; exact trodAll_below hl hb hrd hA fun x hx => hlt x (List.mem_append_left _ hx)
  rw [hvars, hv]; exact rfl
end
theorem law_calls2 (hP : ProgOk P) {orc : FuncId → List Value → Heap → Option (Value × Heap)} {W : World} (horc : CallSound P W.heap.size (wz W) orc) {ρz : Ren} {Sz : Nat → Prop} {hz : Heap} (hrz : HR P ρz Sz W.heap.size (wz W) hz W) (hGz : GT hz []) {f : FuncId} (hen : Enters P f) {fn : Func} {n : Nat} {t0 t1 : TypeId} {τ0 τ1 : Ty} (hp : fn.params = #[t0, t1]) (hb0 : tyB P n t0 τ0 = true) (hb1 : tyB P n t1 τ1 = true)
    (hE : ∀ (h : Heap) (v0 v1 : Value) (x0 : τ0.den) (x1 : τ1.den), HOkG h → RepV h [] τ0 v0 x0 → RepV h [] τ1 v1 x1 → Wf τ0 x0 → Wf τ1 x1 → EvF P orc f [v0, v1] h fun r h' => r = .bool true ∧ h' = h)
    {args : Array Value} {ds : List (DataW H)} {ps : List MemPlace} (hval : ∀ (j : Nat) t v, fn.params[j]? = some t → args[j]? = some v → Value.okWide P W .any base t v) (hA : DataW.TrodAll enc P W 0 sp held fn.params.toList args.toList ds ps) :
    Calls P f args W fun | .returned v', w' => v' = .bool true ∧ Below W.heap.size W w' | _, _ => False := by
  rw [hp] at hA hval; obtain ⟨v0, vs0, d0, ds0, p0, q0, ha, rfl, rfl, k0, r0⟩ := Go.ChangeShapes.trodAll_cons hA; obtain ⟨v1, vs1, d1, ds1, p1, q1, rfl, rfl, rfl, k1, r1⟩ := Go.ChangeShapes.trodAll_cons r0; obtain ⟨rfl, rfl, rfl⟩ := Go.ChangeShapes.trodAll_nil r1
  obtain rfl : args = #[v0, v1] := by cases args; simp_all
  obtain ⟨ρ0, S0, h0, u0, x0, g0, c0, e0, w0⟩ := tell_arg hrz hb0 (hval 0 t0 v0 rfl rfl) k0; obtain ⟨ρ1, S1, h1, u1, x1, g1, c1, e1, w1⟩ := tell_arg g0.hr hb1 (hval 1 t1 v1 rfl rfl) k1; have hR := hE h1 u0 u1 x0 x1 ⟨g1.ok, (hGz.nx (g0.aft.nx (hok_of hrz))).nx (g1.aft.nx g0.ok)⟩ (e0.nx (g1.aft.nx g0.ok)) e1 w0 w1; refine (fs_open (args' := [v0, v1]) hP horc hen g1.hr (LR.cons (c0.mono g1.agree) (LR.one c1)) (EvF.mono hR fun v h' h => h.1) rfl).mono fun e w' he => ?_
  cases e with
  | returned v => exact ⟨he.1, below_z he.2⟩
  | panicked c => exact he
  | outgrown => exact he
end Go.Fs
namespace Go.Proofs
open Go.Fs Ieee
set_option maxHeartbeats 2000000
theorem vt32 : ValT Tryz.prog 32 y32 := valT_of (by kernel_rfl)
theorem zt32 : ZerT Tryz.prog 32 y32 := zerT_of (z := .agg #[.string ByteArray.empty, .int .i64 0, .slice none 0 0, .slice none 0 0]) (by kernel_rfl) rfl rfl
theorem bt32 : BldT Tryz.prog 32 y32 [(0, 1), (1, 1), (2, 1), (3, 1)] := bldT_of zt32 rfl (by kernel_rfl)
theorem lLevels_ok {l : List Nat} (hl : l.length < 1000000) : VF Tryz.prog OA 40 [.v y22 l] (.v y22 l) := by
  refine VF.enter Tryz.func40 rfl (fun _ _ => rfl) rfl ?_; show VC _ _ _ _ _ [(0, .v y22 l)] [] _; refine VC.seq (VC.text ?_); refine VO.c (.assign rfl) ?_; refine VO.go (VC.seq (VC.text ?_)); refine VO.cell (.lit0 el22) ?_; intro ww1; refine VO.c (.move rfl) ?_; refine VO.app rfl rfl el22 el22 (by simp; omega) ?_; intro ww2; refine VO.c (.assign rfl) (VO.go ?_); refine VC.ret ?_; exact VEnd.one rfl (evC (.row m0)) (pvE (by rfl))
theorem lRecord_ok {r : ByteArray × Int × (List Nat) × (List (Int × Int))} (hl : r.2.2.1.length < 1000000) (hg : r.2.2.2.length < 1000000) : VF Tryz.prog OA 9 [.v y25 r] (.v y32 r) := by
  refine VF.enter Tryz.func9 rfl (fun _ _ => rfl) rfl ?_; show VC _ _ _ _ _ [(0, .v y25 r)] [] _; refine VC.seq (VC.text ?_); refine VO.new (.box) ?_; refine VO.cell (.alloc zt32) ?_; intro ww3; refine VO.go (VC.seq (VC.drawn ?_)); refine VD.c (.fa (.l .o)) ?_; refine VD.r [] (.ld vt9) (.inl rfl) ?_; refine VD.c (.fa (.r (.l .o))) ?_; refine VD.r [] (.ld vt3) (.inl rfl) ?_; refine VD.c (.fa (.r (.r (.l .o)))) ?_; refine VD.r [] (.ld vt22) (.inl rfl) ?_; refine VD.nw [] ?_; refine VD.call rfl rfl (VF.call (lLevels_ok (by first | assumption | omega | simp))) ?_; refine VD.c (.fa (.r (.r (.r .o)))) ?_; refine VD.r [] (.ld vt23) (.inl rfl) ?_; refine VD.call rfl rfl (VF.call (lSpans_ok (by first | assumption | omega | simp))) ?_; refine VD.c (.build (r.1, r.2.1, r.2.2.1, r.2.2.2) bt32) ?_; refine VD.mk0 (MakeV.setF (k := 0) vt32 .v (Nat.le_of_ble_eq_true rfl) (.inr ⟨rfl, rfl⟩) rfl rfl) ?_; rintro _ _ tl4 ⟨rfl, rfl⟩; refine VD.go ?_; refine VC.ret ?_; exact VEnd.one rfl (.cell (x := (r.1, r.2.1, r.2.2.1, r.2.2.2)) rfl m0 vt32 .refl) (pvE (by rfl))
def shortE (r : Rec1) : Bool := decide ((r.1.size : Int) ≤ 60) && (decide ((r.2.2.1.length : Int) ≤ 40) || decide ((r.2.2.1.length : Int) = 4097)) && (decide ((r.2.2.2.length : Int) ≤ 8) || decide ((r.2.2.2.length : Int) = 2049))
theorem shortE_t {r : Rec1} (h : shortE r = true) : r.1.size ≤ 60 ∧ (r.2.2.1.length ≤ 40 ∨ r.2.2.1.length = 4097) ∧ (r.2.2.2.length ≤ 8 ∨ r.2.2.2.length = 2049) := by
  unfold shortE at h; simp only [Bool.and_eq_true, Bool.or_eq_true, decide_eq_true_eq] at h; omega
theorem rShort_ok {r : ByteArray × Int × (List Nat) × (List (Int × Int))} : VF Tryz.prog OA 7 [.v y25 r] (B (shortE r)) := by
  refine VF.enter Tryz.func7 rfl (fun _ _ => rfl) rfl ?_; show VC _ _ _ _ _ [(0, .v y25 r)] [] _; refine VC.seq (VC.text ?_); refine VO.new (.box) ?_; refine VO.c (.assign rfl) ?_; refine VO.go (VC.seq (VC.text ?_)); refine VO.c (.fa (.l .o)) ?_; refine VO.r (.ld vt9) ?_; refine VO.r (.lenS) ?_; refine VO.c (.leq) (VO.c (.move rfl) ?_); refine VO.splitD (x := 7) rfl (fun g1_4 => ?_) (fun g1_4 => ?_)
  · refine VO.c (.fa (.r (.r (.l .o)))) ?_; refine VO.r (.ld vt22) ?_; refine VO.r (.len el22) ?_; refine VO.c (.leq) (VO.c (.move rfl) ?_); refine VO.splitD (x := 12) rfl (fun g1_9 => ?_) (fun g1_9 => ?_)
    · refine VO.skip (VO.skip (VO.skip (VO.skip ?_))); refine VO.c (.pickT rfl rfl) (VO.c (.pickT rfl rfl) (VO.c (.move rfl) (VO.c (.fa (.r (.r (.r .o)))) ?_))); refine VO.r (.ld vt23) ?_; refine VO.call rfl rfl (VF.call (rShortSp_ok )) ?_; refine VO.c (.pickT rfl rfl) (VO.c (.assign rfl) (VO.go ?_)); refine VC.ret ?_; exact VEnd.one rfl evT (pvE (by simp_all [shortE] <;> omega))
    refine VO.c (.fa (.r (.r (.l .o)))) ?_; refine VO.r (.ld vt22) ?_; refine VO.r (.len el22) ?_; refine VO.c (.eql) (VO.c (.pickF rfl rfl) (VO.c (.pickT rfl rfl) (VO.c (.move rfl) ?_))); refine VO.splitD (x := 19) rfl (fun g1_16 => ?_) (fun g1_16 => ?_)
    · refine VO.c (.fa (.r (.r (.r .o)))) ?_; refine VO.r (.ld vt23) ?_; refine VO.call rfl rfl (VF.call (rShortSp_ok )) ?_; refine VO.c (.pickT rfl rfl) (VO.c (.assign rfl) (VO.go ?_)); refine VC.ret ?_; exact VEnd.one rfl evT (pvE (by simp_all [shortE] <;> omega))
    refine VO.skip (VO.skip (VO.skip (VO.c (.pickF rfl rfl) ?_))); refine VO.c (.assign rfl) (VO.go ?_); refine VC.ret ?_; exact VEnd.one rfl evT (pvE (by simp_all [shortE] <;> omega))
  refine VO.skip (VO.skip (VO.skip (VO.skip ?_))); refine VO.skip (VO.skip (VO.skip (VO.skip ?_))); refine VO.skip (VO.skip (VO.c (.pickF rfl rfl) (VO.c (.move rfl) ?_))); refine VO.skip (VO.skip (VO.skip (VO.c (.pickF rfl rfl) ?_))); refine VO.c (.assign rfl) (VO.go ?_); refine VC.ret ?_; exact VEnd.one rfl evT (pvE (by simp_all [shortE] <;> omega))
end Go.Proofs
namespace Go.Fs
section
variable {P : Program} {fl : VL} {σ : Sto} {T T' : TypeId} {x y : Operand} {p q : Int}
end
variable {P : Program} {orc : FuncId → List Value → Heap → Option (Value × Heap)} {h h' h0 h1 h2 : Heap} {S S' S0 B G : List Nat} {σ σ' σr : Sto} {t t' : Tr} {ms : List Nat} {fl : VL} {ops : Array Oper} {n i mem : Nat} {l : List Oper} {K : VL → Sto → Prop}
  {d : Tmp} {ty : TypeId} {pos : String} {after : Array Edge} {op : Op} {v pv : PV} {g : Option (Nat × Bool)} {x y z : Operand} {T T' e : TypeId} {τ τ' : Ty} {w : Value}
end Go.Fs
namespace Go.Proofs
open Go.Fs Ieee
set_option maxHeartbeats 2000000
end Go.Proofs
namespace Go.Proofs
open Go.Fs Ieee
set_option maxHeartbeats 2000000
def offB (n : Nat) (p : Int → Bool) : List Bool := (List.range n).map fun (t : Nat) => !p (t : Int)
end Go.Proofs
namespace Go.Fs
variable {P : Program} {fl : VL} {σ : Sto} {T : TypeId} {τ : Ty} {h : Heap} {S : List Nat}
inductive PartP : PV → List PV → Prop where
  | v {τ : Ty} {x : τ.den} : PartP (.v τ x) (cellsPV τ x)
  | w {w : Value} (ho : oneCell w = true) : PartP (.raw w) [.raw w]
inductive BldR (pl : List (Nat × Nat)) : List PV → List Nat → List PV → List PV → Prop where
  | nil {L L' : List PV} (h : L = L') : BldR pl L [] [] L'
  | cons {L L' : List PV} {i o : Nat} {is : List Nat} {p : PV} {ps qs : List PV} (hp : PartP p qs) (hpl : pl[i]? = some (o, qs.length)) (ho : Nat.ble (o + qs.length) L.length = true) (r : BldR pl (spl L o qs) is ps L') : BldR pl L (i :: is) (p :: ps) L'
end Go.Fs
namespace Go.Proofs
open Go.Fs Ieee
set_option maxHeartbeats 2000000
theorem vt25 : ValT Tryz.prog 25 y25 := valT_of (by kernel_rfl)
theorem zt25 : ZerT Tryz.prog 25 y25 := zerT_of (z := .agg #[.string ByteArray.empty, .int .i64 0, .slice none 0 0, .slice none 0 0]) (by kernel_rfl) rfl rfl
theorem bt25 : BldT Tryz.prog 25 y25 [(0, 1), (1, 1), (2, 1), (3, 1)] := bldT_of zt25 rfl (by kernel_rfl)
theorem bt53 : BldT Tryz.prog 53 y53 [(0, 1), (1, 1)] := bldT_of zt53 rfl (by kernel_rfl)
def plusZ (x : Nat) : Nat := (single.add x 0).getD 0
theorem u32_0 : u32 0 = some 0 := by decide +kernel
theorem plusZ_ok {x : Nat} (h : lvlE x = 0) : single.add x 0 = some (plusZ x) ∧ lvlE (plusZ x) = 0 ∧ u32 (plusZ x) = u32 x := by
  obtain ⟨h1, h2, h3⟩ := lvl_ok h
  obtain ⟨r, hr, hr2⟩ := add32 h1 u32_0 (by
    rw [Int.add_zero, Int.natAbs_mul]
    exact rep_small (n := (sxE x).natAbs) (j := 145) (by show _ < 2 ^ (23 + 1); omega) (by decide))
  have e : plusZ x = r := by rw [plusZ, hr] <;> rfl
  rw [Int.add_zero] at hr2; rw [e]; exact ⟨hr, (lvl_of hr2 h2 h3).1, by rw [hr2, h1]⟩
theorem getDat {α : Type} {l : List α} {i : Nat} {d : α} (h : i < l.length) : l.getD i d = l[i] := by
  rw [List.getD_eq_getElem?_getD, List.getElem?_eq_getElem h] <;> rfl
end Go.Proofs
namespace Go.Fs
variable {P : Program} {fl : VL} {σ : Sto} {T T' : TypeId} {x y : Operand} {p q : Int}
end Go.Fs
namespace Go.Fs
variable {P : Program} {orc : FuncId → List Value → Heap → Option (Value × Heap)} {h : Heap} {σ ρ : Sto} {fl : VL} {ops : Array Oper} {n i mem : Nat} {l : List Oper} {K : VL → Sto → Prop} {nw bs : List Nat} {tl : Bool} {hr : Heap} {S0 A : List Nat} {t : Tr} {rd chg : List Nat}
end Go.Fs
namespace Go.Proofs
open Go.Fs Ieee
set_option maxHeartbeats 400000
theorem rec_ok {r : Rec1} (h : recE r = 0) : (0 ≤ r.2.1 ∧ r.2.1 ≤ 100000) ∧ r.2.2.1.length ≤ 4096 ∧ r.2.2.2.length ≤ 2048 ∧ (∀ x ∈ r.2.2.1, lvlE x = 0) ∧ ∀ s ∈ r.2.2.2, 0 ≤ s.1 ∧ s.1 < s.2 ∧ s.2 ≤ (r.2.2.1.length : Nat) := by
  unfold recE at h; split at h
  · rename_i h1; exact absurd h h1
  rename_i h1; split at h
  · rename_i h2; exact absurd h h2
  rename_i h2; split at h
  · cases h
  rename_i h3; have h1 := firstE_zero.1 (Classical.not_not.1 h1); have h2 := bodyE_zero.1 (Classical.not_not.1 h2); have h4 := spans_canon h2.2; have h5 := bey_f (by simpa using h3); have h6 := h1 (rangeE r.2.1 0 100000) (by simp); have h7 := h1 (whenE (decide ((4096 : Int) < (r.2.2.1.length : Nat))) 5) (by simp)
  have h6 : 0 ≤ r.2.1 ∧ r.2.1 ≤ 100000 := by
    unfold rangeE at h6; split at h6
    · cases h6
    omega
  rw [whenE_zero (by decide), decide_eq_false_iff_not] at h7; refine ⟨h6, by omega, h4.2, fun x hx => firstE_zero.1 h2.1 _ (List.mem_map.2 ⟨x, hx, rfl⟩), fun s hs => ?_⟩; have h8 := h4.1.1 s hs; exact ⟨h8.1, h8.2.1, h5 s hs⟩
def sameLv (a b : List Nat) : Bool := decide (a.length = b.length ∧ ∀ i, i < a.length → fcmpE .neq .f32 (a.getD i 0) (b.getD i 0) = false)
theorem rSameLv_ok {a : List Nat} {b : List Nat} (ha : a.length < 1000000) : VF Tryz.prog OA 35 [.v y22 a, .v y22 b] (B (sameLv a b)) := by
  refine VF.enter Tryz.func35 rfl (fun _ _ => rfl) rfl ?_; show VC _ _ _ _ _ [(0, .v y22 a), (1, .v y22 b)] [] _; refine VC.seq (VC.text ?_); refine VO.c (.assign rfl) ?_; refine VO.go (VC.seq (VC.seq (VC.text ?_))); refine VO.c (.move rfl) ?_; refine VO.r (.len el22) ?_; refine VO.c (.move rfl) ?_; refine VO.r (.len el22) ?_; refine VO.c (.neq) (VO.go ?_); refine VC.condD rfl (fun c1 => ?_) (fun c1 => ?_)
  · have hne : ¬ a.length = b.length := by omega
    refine VC.seq (VC.text ?_); refine VO.c (.assign rfl) (VO.go ?_); refine VC.ret ?_; exact VEnd.one rfl evT (pvE (by exact (decide_eq_false fun hh => hne hh.1).symm))
  have hle : a.length = b.length := by omega
  refine VC.skip (VC.seq (VC.seq (VC.text ?_))); refine VO.c (.assign rfl) ?_; refine VO.go (VC.block ?_); refine VC.keep [(0, .v y22 a), (1, .v y22 b), (5, I ((0 : Nat) : Int))] ⟨rfl, rfl, rfl, trivial⟩ ?_; refine VC.loop (I := fun kk ff ss => ∃ (i : Nat), kk = a.length - i ∧ ff = [(0, .v y22 a), (1, .v y22 b), (5, I ((i : Nat) : Int))] ∧ ss = [] ∧ (i ≤ a.length) ∧ (∀ j, j < i → fcmpE .neq .f32 (a.getD j 0) (b.getD j 0) = false)) ?_ _ _ _ ⟨0, rfl, rfl, rfl, Nat.zero_le _, (by intro j hj; omega)⟩; rintro kk ff ss ⟨i, hk0, rfl, rfl, hi, hn⟩; refine VC.seq (VC.seq (VC.text ?_)); refine VO.c (.move rfl) (VO.c (.move rfl) ?_); refine VO.r (.len el22) ?_; refine VO.c (.lss) (VO.go ?_); refine VC.condD rfl (fun c4 => ?_) (fun c4 => ?_)
  · have hi' : i < a.length := by omega
    refine VC.skip (VC.seq (VC.block (VC.seq (VC.drawn ?_)))); refine VD.c (.move rfl) (VD.c (.move rfl) (VD.c (.ix (j := i) rfl rfl el22 (by omega)) ?_)); refine VD.r [] (.ld vt68) (.inl rfl) ?_; refine VD.c (.move rfl) (VD.c (.move rfl) (VD.nw [] (VD.c (.ix (j := i) rfl rfl el22 (by omega)) ?_))); refine VD.r [] (.ld vt68) (.inl rfl) ?_; refine VD.c (.fcmp .neq) (VD.go ?_); refine VC.condB rfl (fun c6 => ?_) (fun c6 => ?_)
    · have c6' : fcmpE .neq .f32 (a.getD i 0) (b.getD i 0) = true := by simpa [hi', show i < b.length by omega] using c6
      refine VC.seq (VC.text ?_); refine VO.c (.assign rfl) (VO.go ?_); refine VC.ret ?_; exact VEnd.one rfl evT (pvE (by exact (decide_eq_false fun hh => by rw [hh.2 i hi'] at c6'; cases c6').symm))
    have c6' : fcmpE .neq .f32 (a.getD i 0) (b.getD i 0) = false := by simpa [hi', show i < b.length by omega] using c6
    refine VC.skip (VC.text ?_); refine VO.c (.move rfl) (VO.c (.add rfl rfl (by omega)) (VO.c (.assign rfl) ?_)); refine VO.nil ?_; refine ⟨_, [(0, .v y22 a), (1, .v y22 b), (5, I (((i + 1) : Nat) : Int))], ?_, ⟨rfl, rfl, rfl, trivial⟩, (i + 1), rfl, rfl, rfl, (by omega), (by intro j hj; rcases Nat.lt_succ_iff_lt_or_eq.1 hj with h | h; exact hn j h; subst h; exact c6')⟩; omega
  refine VC.exit (VC.seq (VC.text ?_)); refine VO.c (.assign rfl) (VO.go ?_); refine VC.ret ?_; exact VEnd.one rfl evT (pvE (by exact (decide_eq_true ⟨hle, fun j hj => hn j (by omega)⟩).symm))
def sameRec (a b : Rec1) : Bool := decide (a.1 = b.1) && decide (a.2.1 = b.2.1) && sameLv a.2.2.1 b.2.2.1 && decide (a.2.2.2 = b.2.2.2)
theorem rSameRec_ok {a : ByteArray × Int × (List Nat) × (List (Int × Int))} {b : ByteArray × Int × (List Nat) × (List (Int × Int))} (ha : a.2.2.1.length < 1000000) (ha2 : a.2.2.2.length < 1000000) (hb2 : b.2.2.2.length < 1000000) : VF Tryz.prog OA 19 [.v y25 a, .v y25 b] (B (sameRec a b)) := by
  refine VF.enter Tryz.func19 rfl (fun _ _ => rfl) rfl ?_; show VC _ _ _ _ _ [(0, .v y25 a), (1, .v y25 b)] [] _; refine VC.seq (VC.text ?_); refine VO.new (.box) ?_; refine VO.new (.box) ?_; refine VO.c (.assign rfl) ?_; refine VO.go (VC.seq (VC.text ?_)); refine VO.c (.fa (.l .o)) ?_; refine VO.r (.ld vt9) ?_; refine VO.c (.fa (.l .o)) ?_; refine VO.r (.ld vt9) ?_; refine VO.c (.seql) (VO.c (.move rfl) ?_); refine VO.cg (r := decide (a.1 = b.1)) (w := true) [] trivial (fun _ => (.fa (.r (.l .o)))) ?_; refine VO.rg (r := decide (a.1 = b.1)) (w := true) [(11, .p (.int .i64) a.2.1)] ⟨rfl, trivial⟩ (fun _ => (.ld vt3)) ?_; refine VO.cg (r := decide (a.1 = b.1)) (w := true) [] trivial (fun _ => (.fa (.r (.l .o)))) ?_; refine VO.rg (r := decide (a.1 = b.1)) (w := true) [(13, .p (.int .i64) b.2.1)] ⟨rfl, trivial⟩ (fun _ => (.ld vt3)) ?_; refine VO.cg (r := decide (a.1 = b.1)) (w := true) [(12, I a.2.1), (14, I b.2.1)] ⟨rfl, rfl, trivial⟩ (fun _ => (.eql)) ?_; refine VO.c (.and) (VO.c (.move rfl) ?_); refine VO.cg (r := ((decide (a.1 = b.1)) && (decide (a.2.1 = b.2.1)))) (w := true) [] trivial (fun _ => (.fa (.r (.r (.l .o))))) ?_; refine VO.rg (r := ((decide (a.1 = b.1)) && (decide (a.2.1 = b.2.1)))) (w := true) [(18, .p y22 a.2.2.1)] ⟨rfl, trivial⟩ (fun _ => (.ld vt22)) ?_; refine VO.cg (r := ((decide (a.1 = b.1)) && (decide (a.2.1 = b.2.1)))) (w := true) [] trivial (fun _ => (.fa (.r (.r (.l .o))))) ?_; refine VO.rg (r := ((decide (a.1 = b.1)) && (decide (a.2.1 = b.2.1)))) (w := true) [(20, .p y22 b.2.2.1)] ⟨rfl, trivial⟩ (fun _ => (.ld vt22)) ?_; refine VO.callg (r0 := ((decide (a.1 = b.1)) && (decide (a.2.1 = b.2.1)))) (w := true) [(19, .v y22 a.2.2.1), (21, .v y22 b.2.2.1)] ⟨rfl, rfl, trivial⟩ rfl rfl .same .refl rfl (fun hgd => have g1_12 : ((decide (a.1 = b.1)) && (decide (a.2.1 = b.2.1))) = true := (by simpa using hgd); VF.call (rSameLv_ok (by first | assumption | omega | simp))) ?_; refine VO.c (.and) (VO.c (.move rfl) ?_); refine VO.cg (r := (((decide (a.1 = b.1)) && (decide (a.2.1 = b.2.1))) && (sameLv a.2.2.1 b.2.2.1))) (w := true) [] trivial (fun _ => (.fa (.r (.r (.r (k := 0) .o))))) ?_; refine VO.rg (r := (((decide (a.1 = b.1)) && (decide (a.2.1 = b.2.1))) && (sameLv a.2.2.1 b.2.2.1))) (w := true) [(25, .p y23 a.2.2.2)] ⟨rfl, trivial⟩ (fun _ => (.ld vt23)) ?_; refine VO.cg (r := (((decide (a.1 = b.1)) && (decide (a.2.1 = b.2.1))) && (sameLv a.2.2.1 b.2.2.1))) (w := true) [] trivial (fun _ => (.fa (.r (.r (.r (k := 0) .o))))) ?_; refine VO.rg (r := (((decide (a.1 = b.1)) && (decide (a.2.1 = b.2.1))) && (sameLv a.2.2.1 b.2.2.1))) (w := true) [(27, .p y23 b.2.2.2)] ⟨rfl, trivial⟩ (fun _ => (.ld vt23)) ?_; refine VO.callg (r0 := (((decide (a.1 = b.1)) && (decide (a.2.1 = b.2.1))) && (sameLv a.2.2.1 b.2.2.1))) (w := true) [(26, .v y23 a.2.2.2), (28, .v y23 b.2.2.2)] ⟨rfl, rfl, trivial⟩ rfl rfl .same .refl rfl (fun hgd => have g1_19 : (((decide (a.1 = b.1)) && (decide (a.2.1 = b.2.1))) && (sameLv a.2.2.1 b.2.2.1)) = true := (by simpa using hgd); VF.call (rSameSp_ok (by first | assumption | omega | simp) (by first | assumption | omega | simp))) ?_; refine VO.c (.and) (VO.c (.assign rfl) (VO.go ?_)); refine VC.ret ?_; exact VEnd.one rfl evT (pvE (by first | rfl | simp [sameRec, *]))
theorem lOwn_ok {r : ByteArray × Int × (List Nat) × (List (Int × Int))} : VF Tryz.prog OA 20 [.v y32 r] (.v y25 r) := by
  refine VF.enter Tryz.func20 rfl (fun _ _ => rfl) rfl ?_; show VC _ _ _ _ _ [(0, .v y32 r)] [] _; refine VC.seq (VC.text ?_); refine VO.new (.box) ?_; refine VO.cell (.alloc zt25) ?_; intro ww1; refine VO.go (VC.seq (VC.text ?_)); refine VO.r (.ld vt32) ?_; refine VO.setV (cs' := [St r.1, I r.2.1, .v y22 r.2.2.1, .v y23 r.2.2.2]) vt25 .v ?_; refine VO.go ?_; refine VC.ret ?_; exact VEnd.one rfl (.cell (x := r) rfl m0 vt25 .refl) (pvE (by rfl))
def zRec : Rec1 := (ByteArray.empty, 0, [], [])
def toldE (have_ : Rec1) (e bad : Int) (want : Rec1) : Bool := if bad ≠ 0 then sameRec have_ zRec && decide (e = bad) else decide (e = 0) && sameRec have_ want
theorem lTold_ok {v : ByteArray × Int × (List Nat) × (List (Int × Int))} {e : Int} {bad : Int} {want : ByteArray × Int × (List Nat) × (List (Int × Int))} (ha : v.2.2.1.length < 1000000) (ha2 : v.2.2.2.length < 1000000) (hb2 : want.2.2.2.length < 1000000) : VF Tryz.prog OA 14 [.v y32 v, I e, I bad, .v y25 want] (B (toldE v e bad want)) := by
  refine VF.enter Tryz.func14 rfl (fun _ _ => rfl) rfl ?_; show VC _ _ _ _ _ [(0, .v y32 v), (1, I e), (2, I bad), (3, .v y25 want)] [] _; refine VC.seq (VC.text ?_); refine VO.new (.box) ?_; refine VO.new (.box) ?_; refine VO.c (.assign rfl) ?_; refine VO.go (VC.seq (VC.seq (VC.text ?_))); refine VO.c (.move rfl) (VO.c (.neq) (VO.go ?_)); refine VC.condD rfl (fun c1 => ?_) (fun c1 => ?_)
  · refine VC.seq (VC.text ?_); refine VO.r (.ld vt32) ?_; refine VO.call rfl rfl (VF.call (lOwn_ok )) ?_; refine VO.c (.build (ByteArray.empty, 0, [], []) bt25) ?_; refine VO.call rfl rfl (VF.call (rSameRec_ok ha ha2 (by decide))) ?_; refine VO.c (.move rfl) ?_; refine VO.cg (r := sameRec v (ByteArray.empty, 0, [], [])) (w := true) [] trivial (fun _ => (.move rfl)) ?_; refine VO.cg (r := sameRec v (ByteArray.empty, 0, [], [])) (w := true) [] trivial (fun _ => (.move rfl)) ?_; refine VO.cg (r := sameRec v (ByteArray.empty, 0, [], [])) (w := true) [(16, I e), (17, I bad)] ⟨rfl, rfl, trivial⟩ (fun _ => (.eql)) ?_; refine VO.c (.and) (VO.c (.assign rfl) (VO.go ?_)); refine VC.ret ?_; exact VEnd.one rfl evT (pvE (by rw [toldE, if_pos c1] <;> rfl))
  refine VC.skip (VC.seq (VC.drawn ?_)); refine VD.c (.move rfl) (VD.c (.eql) (VD.c (.move rfl) ?_)); refine VD.splitD (x := 22) rfl (fun g3_2 => ?_) (fun g3_2 => ?_)
  · refine VD.r [] (.ld vt32) (.inl rfl) ?_; refine VD.call rfl rfl (VF.call (lOwn_ok )) ?_; refine VD.nw [24] ?_; refine VD.r [] (.ld vt25) (.inl rfl) ?_; refine VD.callO rfl rfl (VF.call (rSameRec_ok (by first | assumption | omega | simp) (by first | assumption | omega | simp) (by first | assumption | omega | simp))) ?_; refine VD.c (.pickT rfl rfl) (VD.c (.assign rfl) (VD.go ?_)); refine VC.ret ?_; exact VEnd.one rfl evT (pvE (by rw [toldE, if_neg c1]; first | rfl | simp [*]))
  refine VD.skip (VD.skip (VD.nw [] (VD.skip ?_))); refine VD.skip (VD.c (.pickF rfl rfl) (VD.c (.assign rfl) (VD.go ?_))); refine VC.ret ?_; exact VEnd.one rfl evT (pvE (by rw [toldE, if_neg c1]; first | rfl | simp [*]))
def both (a b : Rec1) : Rec1 := (a.1, a.2.1, a.2.2.1 ++ b.2.2.1, [])
end Go.Proofs
namespace Go.Fs
variable {P : Program} {h : Heap} {S : List Nat} {σ : Sto} {t : Tr} {fl : VL} {x : Operand} {T e : TypeId} {τ : Ty}
end Go.Fs
namespace Go.Fs
variable {P : Program} {σ : Sto} {fl : VL} {x y : Operand} {T T' : TypeId} {p q : Bool}
end Go.Fs
namespace Go.Fs
variable {P : Program} {orc : FuncId → List Value → Heap → Option (Value × Heap)} {σ : Sto} {fl : VL} {ops : Array Oper} {n : Nat} {l : List Oper} {K : VL → Sto → Prop} {d : Tmp} {ty : TypeId} {pos : String} {after : Array Edge} {g : Option (Nat × Bool)} {x : Operand} {T e : TypeId} {τ : Ty}
end Go.Fs
namespace Go.Fs
variable {P : Program} {fl : VL} {e : TypeId} {τ : Ty}
end Go.Fs
namespace Go.Fs
variable {P : Program} {orc : FuncId → List Value → Heap → Option (Value × Heap)} {rnd : Option Nat} {h h' h0 h1 h2 hs : Heap} {S S' S0 B G : List Nat} {σ σ' : Sto} {t t' : Tr} {ms : List Nat} {fl : VL} {ops : Array Oper} {n i mem : Nat} {l : List Oper} {K : VL → Sto → Prop} {Q : Ex → VL → Sto → Prop}
  {d d1 d2 : Tmp} {ty ty1 ty2 : TypeId} {pos pos1 pos2 : String} {after after1 after2 : Array Edge} {op : Op} {v v1 : PV} {g g1 g2 : Option (Nat × Bool)} {bs nw : List Nat} {segs : List (Nat × Nat × Nat)} {tail so : Bool}
section
variable (P orc)
end
end Go.Fs
namespace Go.Fs
variable {P : Program} {orc : FuncId → List Value → Heap → Option (Value × Heap)} {rnd : Option Nat} {h h' h0 h1 h2 : Heap} {S S' S0 B G : List Nat} {σ σ' : Sto} {t t' : Tr} {ms : List Nat} {fl : VL} {ops : Array Oper} {n i mem : Nat} {l : List Oper} {K : VL → Sto → Prop} {Q : Ex → VL → Sto → Prop}
  {d : Tmp} {ty : TypeId} {pos : String} {after : Array Edge} {op : Op} {v pv : PV} {g : Option (Nat × Bool)} {bs nw : List Nat} {segs : List (Nat × Nat × Nat)} {so : Bool}
end Go.Fs
namespace Go.Fs
variable {P : Program} {orc : FuncId → List Value → Heap → Option (Value × Heap)} {rnd : Option Nat} {h h' h0 h1 h2 : Heap} {S S' S0 B G : List Nat} {σ σ' σr : Sto} {t t' : Tr} {ms : List Nat} {fl : VL} {ops : Array Oper} {n i mem : Nat} {l : List Oper} {K : VL → Sto → Prop} {Q : Ex → VL → Sto → Prop}
  {d : Tmp} {ty : TypeId} {pos : String} {after : Array Edge} {op : Op} {v pv : PV} {g : Option (Nat × Bool)} {x y z : Operand} {T T' e e' : TypeId} {τ τ' : Ty} {w w' : Value} {c c' : Cell}
end Go.Fs
namespace Go.Fs
variable {P : Program} {orc : FuncId → List Value → Heap → Option (Value × Heap)} {h h' : Heap} {S S' : List Nat} {σ : Sto}
end Go.Fs
namespace Go.Fs
variable {P : Program} {orc : FuncId → List Value → Heap → Option (Value × Heap)} {rnd : Option Nat} {h h' h0 h1 h2 : Heap} {S S' S0 B G : List Nat} {σ σ' σr : Sto} {t t' : Tr} {ms : List Nat} {fl : VL} {ops : Array Oper} {n i mem : Nat} {l : List Oper} {K : VL → Sto → Prop} {Q : Ex → VL → Sto → Prop}
  {d : Tmp} {ty : TypeId} {pos : String} {after : Array Edge} {op : Op} {v pv : PV} {g : Option (Nat × Bool)} {x y z : Operand} {T T' e : TypeId} {τ τ' : Ty} {bs nw : List Nat} {segs : List (Nat × Nat × Nat)} {tail so : Bool} {w w' : Value} {c c' : Cell}
end Go.Fs
namespace Go.Fs
variable {P : Program} {orc : FuncId → List Value → Heap → Option (Value × Heap)} {rnd : Option Nat} {h h' h0 h1 h2 : Heap} {S S' S0 G : List Nat} {σ σ' σr γ γ' : Sto} {t t' : Tr} {ms : List Nat} {fl nw : VL} {ops : Array Oper} {n i mem : Nat} {l : List Oper} {K : VL → Sto → Prop} {Q : Ex → VL → Sto → Prop}
  {d : Tmp} {ty : TypeId} {pos : String} {after : Array Edge} {op : Op} {v pv : PV} {g : Option (Nat × Bool)} {bs nw0 : List Nat} {tail so : Bool} {x y z : Operand} {T T' e : TypeId} {τ τ' : Ty} {w w' : Value}
end Go.Fs
namespace Go.Fs
variable {P : Program} {orc : FuncId → List Value → Heap → Option (Value × Heap)} {rnd : Option Nat} {h h' h0 h1 h2 : Heap} {S S' S0 G : List Nat} {σ σ' σr γ γ' : Sto} {t t' : Tr} {ms : List Nat} {fl nw : VL} {ops : Array Oper} {n i mem : Nat} {l : List Oper} {K : VL → Sto → Prop} {Q : Ex → VL → Sto → Prop}
  {d : Tmp} {ty : TypeId} {pos : String} {after : Array Edge} {op : Op} {v pv : PV} {g : Option (Nat × Bool)} {bs nw0 : List Nat} {tail so : Bool} {x y z : Operand} {T T' e : TypeId} {τ τ' : Ty} {w w' : Value}
end Go.Fs
namespace Go.Fs
variable {P : Program} {orc : FuncId → List Value → Heap → Option (Value × Heap)} {rnd : Option Nat} {h h' h0 h1 h2 : Heap} {S S' S0 S1 S2 B G : List Nat} {σ σ' σr γ : Sto} {t t' : Tr} {ms : List Nat} {fl : VL} {ops : Array Oper} {n i mem : Nat} {l : List Oper} {K : VL → Sto → Prop} {Q : Ex → VL → Sto → Prop}
  {d : Tmp} {ty : TypeId} {pos : String} {after : Array Edge} {op : Op} {v pv : PV} {g : Option (Nat × Bool)} {x y z : Operand} {T T' e e' e2 : TypeId} {τ τ' : Ty} {w w' : Value} {c c' : Cell}
end Go.Fs
namespace Go.Fs
open Go.RowKit (Below)
open Go.Sort Go.Proofs
variable {P : Program}
structure SortV (srt : List Value → Option (List Value)) : Prop where
  len : ∀ vs vs', srt vs = some vs' → vs'.length = vs.length
  ino : ∀ vs vs', srt vs = some vs' → vs.all af0 = true
  out : ∀ vs vs', srt vs = some vs' → vs'.all af0 = true
variable {B : Nat} {w0 w w' : World} {ρ : Ren} {S : Nat → Prop} {h : Heap}
end Go.Fs
namespace Go.Fs
open Go.RowKit (Below)
open Go.Sort Go.Proofs
variable {P : Program}
def ints : List Value → Option (List Int)
  | [] => some []
  | .int .i64 n :: r => (ints r).map (n :: ·)
  | _ => none
variable {B : Nat} {w0 w w' : World} {ρ : Ren} {S : Nat → Prop} {h : Heap}
end Go.Fs
namespace Go.Fs
open Go.RowKit (Below)
open Go.Proofs
variable {P : Program}
variable {B : Nat} {w0 w w' : World} {ρ : Ren} {S : Nat → Prop} {h : Heap}
end Go.Fs
namespace Go.Fs
variable {P : Program} {orc : FuncId → List Value → Heap → Option (Value × Heap)} {rnd : Option Nat} {h h' h0 h1 h2 : Heap} {S S' S0 S1 S2 B G : List Nat} {σ σ' σr γ : Sto} {t t' : Tr} {ms : List Nat} {fl : VL} {ops : Array Oper} {n i mem : Nat} {l : List Oper} {K : VL → Sto → Prop} {Q : Ex → VL → Sto → Prop}
  {d : Tmp} {ty : TypeId} {pos : String} {after : Array Edge} {op : Op} {v pv : PV} {g : Option (Nat × Bool)} {x y z : Operand} {T T' e e' e2 : TypeId} {τ τ' : Ty} {w w' a u : Value} {c c' : Cell} {b : Nat}
def bytesI (s : ByteArray) : List Int := s.data.toList.map fun c => ((c.toNat : Nat) : Int)
theorem bytesI_len (s : ByteArray) : (bytesI s).length = s.size := by
  show (s.data.toList.map _).length = s.data.size; simp
def bytesV (s : ByteArray) : List Value := (bytesI s).map (.int .u8)
theorem bytesV_len (s : ByteArray) : (bytesV s).length = s.size := by rw [bytesV, List.length_map, bytesI_len]
theorem u8_elems {rs : List Value} {xs : List Int} (he : Elems h S (.int .u8) rs xs) : rs = xs.map (.int .u8) := by
  have h1 := he.1; simp only [Ty.size, Nat.mul_one] at h1; refine List.ext_getElem (by simpa using h1) fun i h2 h3 => ?_; rw [List.getElem_map]
  have hi : i < xs.length := by simpa using h3
  have h4 := he.2 i hi; have h4 : (rs.drop (i * 1)).take 1 = [.int .u8 xs[i]] := h4; rw [Nat.mul_one, List.drop_eq_getElem_cons h2] at h4; exact List.cons.inj h4 |>.1
theorem bytesC_map : ∀ l : List UInt8, bytesC (l.map fun c => Value.int .u8 ((c.toNat : Nat) : Int)) = some l
  | [] => rfl
  | c :: r => by
    show (bif Nat.blt c.toNat 256 then (bytesC _).map (UInt8.ofNat c.toNat :: ·) else none) = _
    have h1 : Nat.blt c.toNat 256 = true := by
      show Nat.ble (c.toNat + 1) 256 = true; rw [Nat.ble_eq]; exact c.toNat_lt
    rw [h1, bytesC_map r]; simp
theorem bytesC_V (s : ByteArray) : bytesC (bytesV s) = some s.data.toList := by
  rw [bytesV, bytesI, List.map_map]; exact bytesC_map _
end Go.Fs
namespace Go.Fs
variable {P : Program} {orc : FuncId → List Value → Heap → Option (Value × Heap)} {h : Heap} {S : List Nat} {σ : Sto} {t : Tr} {fl : VL} {x y z lo hi : Operand} {T : TypeId} {s : ByteArray} {a b : Int}
end Go.Fs
namespace Go.Fs
end Go.Fs
namespace Go.Fs
open Go.Lib (indexByte)
end Go.Fs
namespace Go.Fs
variable {P : Program} {orc : FuncId → List Value → Heap → Option (Value × Heap)} {h : Heap} {S : List Nat}
end Go.Fs
namespace Go.Fs
variable {P : Program} {σ : Sto} {fl : VL} {x y : Operand} {T T' : TypeId} {k : IntKind} {p q : Int}
end Go.Fs
namespace Go.Fs
variable {P : Program} {σ : Sto} {fl : VL} {x : Operand} {w : Value} {T : TypeId} {h h2 : Heap} {S S' : List Nat} {τ τ' : Ty}
end Go.Fs
namespace Go.Fs
variable {P : Program} {orc : FuncId → List Value → Heap → Option (Value × Heap)} {τ : Ty}
end Go.Fs
namespace Go.Fs
variable {P : Program} {fl : VL} {σ γ : Sto} {Q : PV → Sto → Prop} {fn : Func} {τ : Ty}
end Go.Fs
namespace Go.Fs
variable {P : Program} {orc : FuncId → List Value → Heap → Option (Value × Heap)} {rnd : Option Nat} {h h' h0 h1 h2 : Heap} {S S' S0 B G : List Nat} {σ σ' : Sto} {t t' : Tr} {ms : List Nat} {fl : VL} {ops : Array Oper} {n : Nat} {l : List Oper} {K : VL → Sto → Prop} {Q : Ex → VL → Sto → Prop}
  {d : Tmp} {ty : TypeId} {pos : String} {after : Array Edge} {op : Op} {v : PV} {g : Option (Nat × Bool)}
end Go.Fs
namespace Go.Fs
variable {P : Program} {orc : FuncId → List Value → Heap → Option (Value × Heap)} {rnd : Option Nat} {h h' h0 h1 h2 : Heap} {S S' S0 B G : List Nat} {σ σ' : Sto} {t t' : Tr} {ms : List Nat} {fl : VL} {ops : Array Oper} {n : Nat} {l : List Oper} {K : VL → Sto → Prop} {Q : Ex → VL → Sto → Prop}
  {d : Tmp} {ty : TypeId} {pos : String} {after : Array Edge} {op : Op} {v : PV} {g : Option (Nat × Bool)} {w : Value} {x : Operand}
theorem step_bts {m : Nat} {s1 d1 : TypeId} {u r : Value} (hu : evalO t x = u) (haf : af u = false) (hs : fsBytes P s1 d1 u h = some r) : stepM P orc m ⟨some d, .convert s1 d1 x, ty, pos, after, g⟩ (evalO t) h = some (r, h) := by
  unfold stepM fsOpM
  have e1 : fsOp P (callOf P orc (fsCode P orc m)) (fsYield (fsCode P orc m)) ⟨some d, .convert s1 d1 x, ty, pos, after, g⟩ (evalO t) h = some (r, h) := by
    show (if af (evalO t x) = true then _ else (fsBytes P s1 d1 (evalO t x) h).map fun v => (v, h)) = _; rw [hu, haf, hs]; rfl
  rw [e1]
theorem afSl (a : Addr) (n k : Nat) : af (Value.slice (some a) n k) = false := by cases n <;> cases k <;> rfl
theorem fsBytes_of {s1 d1 e1 : TypeId} {a : Addr} {n' mk : Nat} {acc : ByteArray} {cs : List Value} (hs : P.underlying s1 = some (.slice e1)) (he : P.underlying e1 = some (.int .u8)) (hd : P.underlying d1 = some .string) (hc : cellsOf 1 n' (.slice (some a) n' mk) h = some cs) (hb : cs = bytesV acc) :
    fsBytes P s1 d1 (.slice (some a) n' mk) h = some (.string acc) := by
  unfold fsBytes; simp only [hs, he, hd, hc, hb, bytesC_V, Option.map_some]
theorem bytes_datum {s1 d1 e1 : TypeId} {acc : ByteArray} {S : List Nat} {u : Value} (hs : P.underlying s1 = some (.slice e1)) (he : P.underlying e1 = some (.int .u8)) (hd : P.underlying d1 = some .string) (hu : RepPV h S (.v (.sl (.int .u8)) (bytesI acc)) u) :
    (u = .slice none 0 0 ∧ acc = ByteArray.empty) ∨ (∃ b o n' mk, u = .slice (some ⟨b, o, none⟩) n' mk ∧ (∀ H : Heap, (∀ ob, h.get b = some ob → H.get b = some ob) → fsBytes P s1 d1 u H = some (.string acc)) ∧ (n' = 0 ∨ ∃ ob, h.get b = some ob ∧ b ∉ S)) := by
  have hv : SlV h S (.int .u8) u (bytesI acc) := RepV.sl hu; obtain ⟨c1, vs, c2, c3⟩ := hv.cellsOf (by decide); have hrs : vs = bytesV acc := u8_elems c3; rcases hv with ⟨h1, h2⟩ | ⟨b, o, mk, h1, h2⟩
  · refine .inl ⟨h1, ?_⟩; have h2 : bytesI acc = [] := h2; have := bytesI_len acc; rw [h2] at this; exact ByteArray.ext (Array.eq_empty_of_size_eq_zero this.symm)
  refine .inr ⟨b, o, _, mk, h1, fun H hH => ?_, ?_⟩
  · rw [h1]; refine fsBytes_of hs he hd (cs := vs) ?_ hrs; rw [h1] at c2; have c2 : cellsOf 1 (bytesI acc).length (.slice (some ⟨b, o, none⟩) (bytesI acc).length mk) h = some vs := c2
    revert c2
    unfold cellsOf; simp only [ble_refl', cond_true]
    cases hz : Nat.beq ((bytesI acc).length * 1) 0 with
    | true => exact fun e => e
    | false =>
      simp only [cond_false]; intro e
      cases hg : h.get b with
      | none => rw [hg] at e; cases e
      | some ob => rw [hg] at e; rw [hH ob hg]; exact e
  rcases h2 with h2 | ⟨h3, e', rs, own', more, h4, h5⟩
  · left; have h2 : bytesI acc = [] := h2; rw [h2]; rfl
  exact .inr ⟨_, h4, h3⟩
theorem VO.bts {s1 d1 e1 : TypeId} {acc : ByteArray} (hx : evV fl x = some (.v (.sl (.int .u8)) (bytesI acc))) (hs : P.underlying s1 = some (.slice e1)) (he : P.underlying e1 = some (.int .u8)) (hd : P.underlying d1 = some .string)
    (hk : VO P orc ops n l ((d, .v .str acc) :: fl) σ K) (hw : wantV ops fl g = some true := by rfl) (hn : (Nat.blt d n && Nat.ble n 4000) = true := by rfl) :
    VO P orc ops n (⟨some d, .convert s1 d1 x, ty, pos, after, g⟩ :: l) fl σ K := fun h0 G S0 t h ms I => by
  obtain ⟨n1, n2⟩ := fits hn; have hu := evV_ok I.slots hx; obtain ⟨m, t2, h2, hr, hq⟩ := hk h0 G S0 _ h ms (I.set (show RepPV h _ (.v .str acc) (.string acc) from RepV.ofStr _) n2); refine ⟨m, t2, h2, ?_, hq⟩
  have hstep : stepM P orc m ⟨some d, .convert s1 d1 x, ty, pos, after, g⟩ (evalO t) h = some (.string acc, h) := by
    rcases bytes_datum hs he hd hu with ⟨h1, h2⟩ | ⟨b, o, n', mk, h1, h2, _⟩
    · unfold stepM fsOpM
      have e1 : fsOp P (callOf P orc (fsCode P orc m)) (fsYield (fsCode P orc m)) ⟨some d, .convert s1 d1 x, ty, pos, after, g⟩ (evalO t) h = some (.string acc, h) := by
        show (if af (evalO t x) = true then ((purely P (convert s1 d1 (evalO t x))).or (fsNanV P s1 d1 (evalO t x))).map (fun v => (v, h)) else _) = _; rw [h1, h2, if_pos (show af (Value.slice none 0 0) = true from rfl)]
        have e2 : purely P (convert s1 d1 (.slice none 0 0)) = some (.string ByteArray.empty) := by
          unfold purely convert; simp only [runPure_bind, runPure_underlying hs, runPure_underlying hd, Option.bind_some, runPure_underlying he]; rfl
        rw [e2]; rfl
      rw [e1]
    exact step_bts rfl (by rw [h1]; exact afSl _ _ _) (h2 h fun _ e => e)
  simp only [fsOps, want_ok (o := ⟨some d, .convert s1 d1 x, ty, pos, after, g⟩) I.slots hw, hstep, put_fits n1 t]; exact hr
theorem VO.tbytes {s1 d1 e1 : TypeId} {u1 : TypeDesc} {acc : ByteArray} (hx : evV fl x = some (.v .str acc)) (hp : 0 < acc.size) (hs : P.underlying s1 = some u1) (hd : P.underlying d1 = some (.slice e1)) (he : P.underlying e1 = some (.int .u8)) (h1 : Nat.beq (P.cellsOf e1) 1 = true)
    (hk : VO P orc ops n l ((d, .v (.sl (.int .u8)) (bytesI acc)) :: fl) σ K) (hw : wantV ops fl g = some true := by rfl) (hn : (Nat.blt d n && Nat.ble n 4000) = true := by rfl) :
    VO P orc ops n (⟨some d, .convert s1 d1 x, ty, pos, after, g⟩ :: l) fl σ K := fun h0 G S0 t h ms I => by
  obtain ⟨n1, n2⟩ := fits hn; have L := I.lc; have hu : evalO t x = .string acc := RepV.str (evV_ok I.slots hx)
  have hrow : (acc.data.map fun b => Value.int .u8 b.toNat).toList = bytesV acc := by
    rw [Array.toList_map, bytesV, bytesI, List.map_map]; rfl
  have hbl := bytesI_len acc
  have hrep : RepPV (h.push (.row e1 (bytesV acc) true true)) (own σ ++ S0) (.v (.sl (.int .u8)) (bytesI acc)) (.slice (some ⟨h.next, 0, none⟩) acc.size 0) := by
    refine SlV.rep (τ := .int .u8) ?_; refine .inr ⟨h.next, 0, 0, by rw [hbl], .inr ⟨fun hm => ?_, e1, bytesV acc, true, true, by rw [Heap.get_push]; exact if_pos rfl, ?_, fun i hi => ?_⟩⟩
    · have := L.lt _ hm; omega
    · show 0 + (bytesI acc).length * 1 ≤ (bytesV acc).length; rw [bytesV_len]; omega
    show ((bytesV acc).drop (0 + i * 1)).take 1 = [.int .u8 (bytesI acc)[i]]
    have hi : i < (bytesV acc).length := by rw [bytesV_len]; omega
    rw [show 0 + i * 1 = i by omega, List.drop_eq_getElem_cons hi]; simp [bytesV]
  obtain ⟨m, t2, h2, hr, hq⟩ := hk h0 G S0 _ _ ms ((I.calm (Aft.push h (.row e1 (bytesV acc) true true) [])).set hrep n2); refine ⟨m, t2, h2, ?_, hq⟩
  have hstep : stepM P orc m ⟨some d, .convert s1 d1 x, ty, pos, after, g⟩ (evalO t) h = some (.slice (some ⟨h.next, 0, none⟩) acc.size 0, h.push (.row e1 (bytesV acc) true true)) := by
    unfold stepM fsOpM
    have e1' : fsOp P (callOf P orc (fsCode P orc m)) (fsYield (fsCode P orc m)) ⟨some d, .convert s1 d1 x, ty, pos, after, g⟩ (evalO t) h = none := by
      show (if af (evalO t x) = true then ((purely P (convert s1 d1 (evalO t x))).or (fsNanV P s1 d1 (evalO t x))).map (fun v => (v, h)) else _) = _; rw [hu, if_pos (show af (Value.string acc) = true from rfl)]
      have e2 : purely P (convert s1 d1 (.string acc)) = none := by
        unfold purely convert; simp only [runPure_bind, runPure_underlying hs, runPure_underlying hd, Option.bind_some, runPure_underlying he]; rfl
      have e3 : fsNanV P s1 d1 (.string acc) = none := by
        unfold fsNanV; simp [hs, hd]
      rw [e2, e3]; rfl
    rw [e1']
    have hB : fsMarkB P ⟨some d, .convert s1 d1 x, ty, pos, after, g⟩ (evalO t) h = none := by
      unfold fsMarkB; simp only [hu]
    have hS : fsMarkS P ⟨some d, .convert s1 d1 x, ty, pos, after, g⟩ (evalO t) h = none := by
      unfold fsMarkS; simp only [hu]
    have hT : fsMarkT P ⟨some d, .convert s1 d1 x, ty, pos, after, g⟩ (evalO t) h = some (.slice (some ⟨h.next, 0, none⟩) acc.size 0, h.push (.row e1 (bytesV acc) true true)) := by
      have hlt : Nat.blt 0 acc.size = true := by rw [Nat.blt_eq]; exact hp
      unfold fsMarkT; simp only [hu, hs, hd, he, h1, hlt, Bool.and_self, cond_true, hrow]
    unfold fsMarkG; rw [hB, hS, hT]
  simp only [fsOps, want_ok (o := ⟨some d, .convert s1 d1 x, ty, pos, after, g⟩) I.slots hw, hstep, put_fits n1 t]; exact hr
end Go.Fs
namespace Go.Fs
variable {P : Program} {orc : FuncId → List Value → Heap → Option (Value × Heap)} {rnd : Option Nat} {h h' h0 h1 h2 hr : Heap} {S S' S0 B G A : List Nat} {σ σ' σr ρ : Sto} {t t' : Tr} {ms : List Nat} {fl : VL} {ops : Array Oper} {n i mem : Nat} {l : List Oper} {K : VL → Sto → Prop}
  {d : Tmp} {ty : TypeId} {pos : String} {after : Array Edge} {op : Op} {v pv : PV} {g : Option (Nat × Bool)} {x y z : Operand} {T T' e : TypeId} {τ τ' : Ty} {bs nw rd chg : List Nat} {segs : List (Nat × Nat × Nat)} {tail tl : Bool} {w w' : Value}
theorem VLt.cellU {c : Cell} {b : Nat} (hs : FreshO P fl op c) (hk : ∀ w, VLt P orc ops n l (i + 1) ((d, .raw w) :: fl) (nwSet false d nw) ((w, c) :: σ) ρ (bs ++ [b]) (mem ||| 2 ^ i) false K)
    (hb : beforeOf bs ⟨some d, op, ty, pos, after, g⟩ = b := by rfl) (hqo : quietOp op = false := by rfl) (hw : wantV ops fl g = some true := by rfl) (hn : (Nat.blt d n && Nat.ble n 4000) = true := by rfl) :
    VLt P orc ops n (⟨some d, op, ty, pos, after, g⟩ :: l) i fl nw σ ρ bs mem false K := fun hr h0 G S0 A t h ms rd chg segs tail ht I L => by
  obtain ⟨n1, n2⟩ := fits hn; obtain rfl := ht rfl; obtain ⟨mk, o, e0, e1, e2⟩ := hs.2 h _ t I.slots.sees I.ok I.lc.lt; have hm : Made S0 h (h.push o) σ ((mk h.next, c) :: σ) := Made.cons I.lc (Aft.push h o []) (fun b hb => by rw [e0] at hb; simp at hb; subst hb; exact Nat.le_refl _) (by rw [e0]; simp) fun hN => e1 _ hN (by rw [own_cons, e0]; simp); have hwt : fsWanted ops t ⟨some d, op, ty, pos, after, g⟩ = some true := want_ok I.slots hw
  have hf : lateDraw P hr (stepO P) ops n ⟨some d, op, ty, pos, after, g⟩ i (⟨t, h, bs, segs, mem, false⟩, rd, chg) = some (⟨t.set depth d (mk h.next), h.push o, bs ++ [b], (i, h.next, h.next + 1) :: segs, mem ||| 2 ^ i, false⟩, rd, chg) := by
    have hMs : ∀ b' o', look (bif Nat.beq (mem &&& b) mem then h.objs else mask b segs h.objs) b' = some o' → look h.objs b' = some o' := fun b' o' => by
      cases Nat.beq (mem &&& b) mem with
      | true => exact fun h => h
      | false => exact mask_sees segs h.objs
    unfold lateDraw; simp only [hwt, hs.1, Bool.false_eq_true, if_false, quiet_no hqo]; unfold lateMem; simp only [hb, Bool.false_and, cond_false]; rw [e2]; have hlt : Nat.blt (h.next + 1) h.next = false := blt_of_le (Nat.le_succ _); have e1 : ∀ L : List (Nat × AObj), (∀ b' o', look L b' = some o' → look h.objs b' = some o') → newer h.next (h.next + 1) ((h.next, o) :: L) = [(h.next, o)] := fun L hL => newer_push fun b' o' hg => I.ok b' o' (hL b' o' hg); simp only [Heap.push, hlt, cond_false, put_fits n1, ble_refl', cond_true]; rw [e1 _ hMs]; rfl
  have hσ : ∃ σ1, ((mk h.next, c) :: σ : Sto) = σ1 ++ ρ := by
    obtain ⟨σ1, hσ1⟩ := L.suf; exact ⟨(mk h.next, c) :: σ1, by rw [hσ1]; rfl⟩
  exact EvL.opr hf (hk (mk h.next) hr h0 G S0 A _ _ ms rd _ _ false ht ((I.made hm).set (show RepPV _ _ (.raw (mk h.next)) (mk h.next) from rfl) n2) ((L.made I hm hσ).set (old := false) n2 fun e => by cases e))
theorem VLt.cR {b : Nat} {q : Value} (hc : CalmV P fl σ op (.raw q)) (hk : VLt P orc ops n l (i + 1) ((d, .raw q) :: fl) (nwSet true d nw) σ ρ (bs ++ [b]) mem tl K)
    (hb : beforeOf bs ⟨some d, op, ty, pos, after, g⟩ = b := by rfl) (hw : wantV ops fl g = some true := by rfl) (hn : (Nat.blt d n && Nat.ble n 4000) = true := by rfl) :
    VLt P orc ops n (⟨some d, op, ty, pos, after, g⟩ :: l) i fl nw σ ρ bs mem tl K := fun hr h0 G S0 A t h ms rd chg segs tail ht I L => by
  obtain ⟨n1, n2⟩ := fits hn; obtain ⟨u, e1, e2⟩ := hc.2 h (own σ ++ S0) t I.slots.sees I.cells; refine EvL.opr (x' := (⟨t.set depth d u, h, bs ++ [b], segs, mem, tail⟩, rd, chg)) ?_ (hk hr h0 G S0 A _ h ms rd chg segs tail ht (I.set e1 n2) (L.set n2 fun _ => (e1 : u = q))); unfold lateDraw; have hwt : fsWanted ops t ⟨some d, op, ty, pos, after, g⟩ = some true := want_ok I.slots hw; simp only [hwt, hc.1, if_true, e2, Nat.beq_refl, cond_true, put_fits n1, Option.map_some, hb]
end Go.Fs
namespace Go.Fs
variable {P : Program} {σ : Sto} {fl : VL} {x y : Operand} {T T' : TypeId} {p q : ByteArray}
end Go.Fs
namespace Go.Fs
variable {P : Program} {orc : FuncId → List Value → Heap → Option (Value × Heap)} {h h1 h2 h' : Heap} {S S0 : List Nat} {σ γ σr : Sto} {fl : VL} {ops : Array Oper} {n : Nat} {l : List Oper} {K : VL → Sto → Prop} {d : Tmp} {ty : TypeId} {pos : String} {after : Array Edge} {g : Option (Nat × Bool)}
section
variable (P orc)
end
end Go.Fs
namespace Go.Fs
variable {P : Program} {h h2 : Heap} {S S' : List Nat} {w : Value} {e e0 e1 e2 : TypeId} {τ τ0 τ1 τ2 : Ty}
end Go.Fs
namespace Go.Fs
variable {P : Program} {orc : FuncId → List Value → Heap → Option (Value × Heap)} {rnd : Option Nat} {h h' h0 h1 h2 : Heap} {S S' S0 S1 S2 B G : List Nat} {σ σ' σr γ : Sto} {t t' : Tr} {ms : List Nat} {fl : VL} {ops : Array Oper} {n i mem : Nat} {l : List Oper} {K : VL → Sto → Prop} {Q : Ex → VL → Sto → Prop} {w : Value} {τ : Ty} {x y : Operand} {T T' : TypeId}
end Go.Fs
namespace Go.Fs
variable {P : Program} {orc : FuncId → List Value → Heap → Option (Value × Heap)} {rnd : Option Nat} {h h' h0 h1 h2 : Heap} {S S' S0 S1 S2 B G : List Nat} {σ σ' σr γ : Sto}
end Go.Fs
namespace Go.Fs
variable {P : Program} {orc : FuncId → List Value → Heap → Option (Value × Heap)} {rnd : Option Nat} {h h' h0 h1 h2 hs : Heap} {S S' S0 B G : List Nat} {σ σ' σr γ : Sto} {t t' : Tr} {ms : List Nat} {fl : VL} {ops : Array Oper} {n i mem : Nat} {l : List Oper} {K : VL → Sto → Prop} {Q : Ex → VL → Sto → Prop}
  {d : Tmp} {ty : TypeId} {pos : String} {after : Array Edge} {op : Op} {v : PV} {g : Option (Nat × Bool)} {bs nw : List Nat} {segs : List (Nat × Nat × Nat)} {tail so : Bool}
theorem drew_make {b : Nat} {o : Oper} {t2 : Tr} (hb : beforeOf bs o = b) (hok : HOk h) (hB : Aft (entry h) h' B) : ∃ h2 tail', drewOn o i ⟨t, h, bs, segs, mem, tail⟩ t2 h' = ⟨t2, h2, bs ++ [b], (i, h.next, h'.next) :: segs, mem ||| 2 ^ i, tail'⟩ ∧ (∀ b, h2.get b = h'.get b) ∧ h2.next = h'.next ∧ Aft h h2 B ∧ (tail' = false → After h h2 ∧ tail = false) := by
  have hnx := hB.next; unfold drewOn; simp only [hb]
  cases hlow : Nat.ble h.next h'.low with
  | true =>
    have hl := nble hlow
    have hsame : ∀ b, b < h.next → h'.get b = h.get b := fun b hb => by
      rcases hB.chg b hb with h3 | h3
      · exact h3
      omega
    have hget : ∀ b, look (newer h.next h'.next h'.objs ++ h.objs) b = h'.get b := fun b => by
      rw [look_append]; by_cases hb : b < h.next
      · cases hl2 : look (newer h.next h'.next h'.objs) b with
        | some o => have := (newer_some _ _ _ hl2).1; omega
        | none => exact (hsame b hb).symm
      have hold : look h.objs b = none := by
        cases hl2 : look h.objs b with
        | none => rfl
        | some o => exact absurd (hok b o hl2) hb
      rw [hold, Option.or_none]
      cases hl2 : look h'.objs b with
      | some o =>
        have : b < h'.next := hB.ok hok b o hl2; rw [newer_in _ _ (by omega) this, hl2]
        exact hl2.symm
      | none =>
        cases hl3 : look (newer h.next h'.next h'.objs) b with
        | none => exact hl2.symm
        | some o => rw [(newer_some _ _ _ hl3).2] at hl2; cases hl2
    refine ⟨_, _, rfl, hget, rfl, ⟨hnx, fun b hb hn => (hget b).trans (hB.get b hb hn), fun _ b o hg => ?_, fun e h3 _ _ => h3, fun b hb => .inl ((hget b).trans (hsame b hb)), Nat.le_refl _⟩, fun ht => ⟨⟨hnx, fun b hb => (hget b).trans (hsame b hb), fun _ b o hg => ?_, fun e h3 _ => h3⟩, ht⟩⟩
    · exact hB.ok hok b o ((hget b).symm.trans hg)
    exact hB.ok hok b o ((hget b).symm.trans hg)
  | false =>
    refine ⟨_, _, rfl, fun _ => rfl, rfl, ⟨hnx, hB.get, fun _ => hB.ok hok, fun e h3 h4 h5 => Nat.le_min.2 ⟨h3, hB.low e h4 h4 h5⟩, fun b hb => ?_, Nat.min_le_left _ _⟩, fun e => by cases e⟩; rcases hB.chg b hb with h3 | h3
    · exact .inl h3
    exact .inr (Nat.le_trans (Nat.min_le_right _ _) h3)
end Go.Fs
namespace Go.Fs
variable {P : Program} {orc : FuncId → List Value → Heap → Option (Value × Heap)} {rnd : Option Nat} {h h' h0 h1 h2 hs : Heap} {S S' S0 B G : List Nat} {σ σ' σr γ ρ : Sto} {t t' : Tr} {ms : List Nat} {fl : VL} {ops : Array Oper} {n i mem : Nat} {l : List Oper} {K : VL → Sto → Prop} {Q : Ex → VL → Sto → Prop}
  {d : Tmp} {ty : TypeId} {pos : String} {after : Array Edge} {op : Op} {v : PV} {g : Option (Nat × Bool)} {bs : List Nat} {segs : List (Nat × Nat × Nat)} {tail : Bool} {x : Operand} {T : TypeId} {w : Value} {rd : List (Nat × AObj)} {cs : List PV}
section
variable (P orc)
def EvK (rd : List (Nat × AObj)) (ops : Array Oper) (n : Nat) (l : List Oper) (i : Nat) (s : DSt) (Q : DSt → Prop) : Prop := ∃ m s', fsDrawnK P rd (stepAt P orc m) ops n l i s = some s' ∧ Q s'
end
theorem EvK.nil {s : DSt} {QK : DSt → Prop} (hok : okRd rd s.h = true) (hq : QK s) : EvK P orc rd ops n [] i s QK := ⟨0, s, by simp only [fsDrawnK, hok, cond_true], hq⟩
theorem EvK.opr {o : Oper} {s s' : DSt} {QK : DSt → Prop} (hok : okRd rd s.h = true) (hn : stillR P rd ops n o s = none) (hs : fsDraw (stepO P) ops n o i s = some s') (hl : EvK P orc rd ops n l (i + 1) s' QK) : EvK P orc rd ops n (o :: l) i s QK := by
  obtain ⟨m, s2, hr, hq⟩ := hl; refine ⟨m, s2, ?_, hq⟩; simp only [fsDrawnK, hok, cond_true, hn, fsDraw_mono (stepO_le m) hs]; exact hr
theorem EvK.still {o : Oper} {s s' : DSt} {QK : DSt → Prop} (hok : okRd rd s.h = true) (hs : stillR P rd ops n o s = some s') (hl : EvK P orc rd ops n l (i + 1) s' QK) : EvK P orc rd ops n (o :: l) i s QK := by
  obtain ⟨m, s2, hr, hq⟩ := hl; refine ⟨m, s2, ?_, hq⟩; simp only [fsDrawnK, hok, cond_true, hs]; exact hr
theorem still_no {o : Oper} {s : DSt} (ho : isLoadK o.op = false) : stillR P rd ops n o s = none := by
  unfold stillR; split
  · rename_i T a hw hop; rw [hop] at ho; cases ho
  rfl
theorem EvK.call {o : Oper} {s : DSt} {c : Call} {f : Operand} {g : FuncId} {a b : Array Value} {QK : DSt → Prop} (hok : okRd rd s.h = true) (hw : fsWanted ops s.t o = some true) (ho : o.op = .call c) (hc : c.callee = .value f) (hf : evalO s.t f = .func (.func g) a b)
    (htl : (s.tail && !Nat.beq (s.mem &&& beforeOf s.bs o) s.mem) = false)
    (hl : EvF P orc g (a.toList ++ c.args.toList.map (evalO s.t) ++ b.toList) (seenBy o s) fun v h' => Nat.blt h'.next s.h.next = false ∧ (Nat.ble s.h.next h'.low || Nat.beq (s.mem &&& beforeOf s.bs o) s.mem) = true ∧
      ∃ t', put n s.t o.dst v = some t' ∧ EvK P orc rd ops n l (i + 1) (drewOn o i s t' h') QK) : EvK P orc rd ops n (o :: l) i s QK := by
  obtain ⟨m, v, h1, hr, hnx, hlo, t1, hp, k, s2, hr2, hq⟩ := hl; refine ⟨max m k, s2, ?_, hq⟩; have h3 := LeC.callOf' (P := P) (orc := orc) (Nat.le_max_left m k) _ _ _ _ hr
  have hcalm : calm o.op = false := by rw [ho]; obtain ⟨cl, as_, ats⟩ := c; obtain rfl : cl = .value f := hc; rfl
  have hno : isLoadK o.op = false := by rw [ho]; rfl
  have hd : fsDraw (stepAt P orc (max m k)) ops n o i s = some (drewOn o i s t1 h1) := by
    unfold fsDraw; simp only [hw, hcalm, Bool.false_eq_true, if_false, htl, cond_false]; rw [stepAt_call ho hc hf]; unfold seenBy at h3; rw [h3]; simp only [hnx, cond_false, hp]; unfold drewOn
    cases hx : Nat.ble s.h.next h1.low with
    | true => rfl
    | false =>
      rw [hx] at hlo; simp only [Bool.false_or] at hlo; rw [hlo]; rfl
  simp only [fsDrawnK, hok, cond_true, still_no hno, hd]; exact fsDrawnK_mono (stepAt_mono (Nat.le_max_right m k)) _ _ _ _ hr2
structure RdK (h : Heap) (rd : List (Nat × AObj)) (b : Nat) (ob : AObj) : Prop where
  all : ∀ p ∈ rd, p = (b, ob)
  seen : look rd b = some ob
  get : h.get b = some ob
  same : sameO ob ob = true
theorem RdK.ok {b : Nat} {ob : AObj} (R : RdK h rd b ob) : okRd rd h = true := List.all_eq_true.2 fun p hp => by
  rw [R.all p hp]; simp only [R.get, R.same]
theorem RdK.next {b : Nat} {ob : AObj} (R : RdK h rd b ob) (hg : h'.get b = h.get b) : RdK h' rd b ob := ⟨R.all, R.seen, by rw [hg]; exact R.get, R.same⟩
section
variable (P orc)
def VK (w : Value) (cs : List PV) (ops : Array Oper) (n : Nat) (l : List Oper) (i : Nat) (fl : VL) (σ : Sto) (bs : List Nat) (mem : Nat) (K : VL → Sto → Prop) : Prop :=
  ∀ (rd : List (Nat × AObj)) (b : Nat) (ob : AObj) (h0 : Heap) (G S0 : List Nat) (t : Tr) (h : Heap) (ms : List Nat) (segs : List (Nat × Nat × Nat)) (tail : Bool), blk w = [b] → (w, Cell.var cs) ∈ σ → RdK h rd b ob → Iv h0 G S0 h σ t ms fl →
    EvK P orc rd ops n l i ⟨t, h, bs, segs, mem, tail⟩ fun s => ∃ fl' σ', Iv h0 G S0 s.h σ' s.t ms fl' ∧ K fl' σ'
end
theorem VK.nil (hk : K fl σ) : VK P orc w cs ops n [] i fl σ bs mem K := fun rd b ob h0 G S0 t h ms segs tail hb hm R I => EvK.nil R.ok ⟨fl, σ, I, hk⟩
theorem VK.perm (hp : σ.Perm σ') (hk : VK P orc w cs ops n l i fl σ' bs mem K) : VK P orc w cs ops n l i fl σ bs mem K := fun rd b ob h0 G S0 t h ms segs tail hb hm R I => hk rd b ob h0 G S0 t h ms segs tail hb (hp.subset hm) R (I.perm hp)
theorem VK.co {b : Nat} (hc : CalmV P fl σ op v) (hk : VK P orc w cs ops n l (i + 1) ((d, v) :: fl) σ (bs ++ [b]) mem K)
    (hb : beforeOf bs ⟨some d, op, ty, pos, after, g⟩ = b := by rfl) (hw : wantV ops fl g = some true := by rfl) (hn : (Nat.blt d n && Nat.ble n 4000) = true := by rfl) (hl : isLoadK op = false := by rfl) :
    VK P orc w cs ops n (⟨some d, op, ty, pos, after, g⟩ :: l) i fl σ bs mem K := fun rd b ob h0 G S0 t h ms segs tail hbk hm R I => by
  obtain ⟨n1, n2⟩ := fits hn; obtain ⟨u, e1, e2⟩ := hc.2 h (own σ ++ S0) t I.slots.sees I.cells; refine EvK.opr (s' := ⟨t.set depth d u, h, bs ++ [_], segs, mem, tail⟩) R.ok (still_no hl) ?_ (hk rd b ob h0 G S0 _ h ms segs tail hbk hm R (I.set e1 n2)); unfold fsDraw; have hwt : fsWanted ops t ⟨some d, op, ty, pos, after, g⟩ = some true := want_ok I.slots hw; simp only [hwt, hc.1, if_true, e2, Nat.beq_refl, cond_true, put_fits n1, Option.map_some, hb]
theorem VK.c {b : Nat} (hc : CalmV P fl [] op v) (hk : VK P orc w cs ops n l (i + 1) ((d, v) :: fl) σ (bs ++ [b]) mem K)
    (hb : beforeOf bs ⟨some d, op, ty, pos, after, g⟩ = b := by rfl) (hw : wantV ops fl g = some true := by rfl) (hn : (Nat.blt d n && Nat.ble n 4000) = true := by rfl) (hl : isLoadK op = false := by rfl) :
    VK P orc w cs ops n (⟨some d, op, ty, pos, after, g⟩ :: l) i fl σ bs mem K := fun rd b ob h0 G S0 t h ms segs tail hbk hm R I => by
  obtain ⟨n1, n2⟩ := fits hn; obtain ⟨u, e1, e2⟩ := hc.2 h (own σ ++ S0) t I.slots.sees (fun _ hc => by cases hc); refine EvK.opr (s' := ⟨t.set depth d u, h, bs ++ [_], segs, mem, tail⟩) R.ok (still_no hl) ?_ (hk rd b ob h0 G S0 _ h ms segs tail hbk hm R (I.set e1 n2)); unfold fsDraw; have hwt : fsWanted ops t ⟨some d, op, ty, pos, after, g⟩ = some true := want_ok I.slots hw; simp only [hwt, hc.1, if_true, e2, Nat.beq_refl, cond_true, put_fits n1, Option.map_some, hb]
theorem VK.q {b : Nat} {q : Value} (hx : evV fl x = some (.raw q)) (hq : q = w ∨ ∃ k, q = padd w k) (hc : ReadV P fl σ (.load T x) v) (hk : VK P orc w cs ops n l (i + 1) ((d, v) :: fl) σ (bs ++ [b]) mem K)
    (hb : beforeOf bs ⟨some d, .load T x, ty, pos, after, g⟩ = b := by rfl) (hw : wantV ops fl g = some true := by rfl) (hn : (Nat.blt d n && Nat.ble n 4000) = true := by rfl) :
    VK P orc w cs ops n (⟨some d, .load T x, ty, pos, after, g⟩ :: l) i fl σ bs mem K := fun rd b ob h0 G S0 t h ms segs tail hbk hm R I => by
  obtain ⟨n1, n2⟩ := fits hn; have hxq : evalO t x = q := (evV_ok I.slots hx : RepPV _ _ (.raw q) _); obtain ⟨b0, e', vs, h1, h2, h3, h4, h5⟩ := I.cells _ hm; simp only at h1
  obtain rfl : b0 = b := by rw [h1] at hbk; simpa [blk] using hbk
  obtain ⟨o0, hqb⟩ : ∃ o0, q = .pointer (some ⟨b0, o0, none⟩) := by
    rcases hq with hq | ⟨k, hq⟩
    · exact ⟨0, hq.trans h1⟩
    exact ⟨0 + k, by rw [hq, h1]; rfl⟩
  obtain ⟨u, e1, e2⟩ := hc.2 h (own σ ++ S0) t I.slots.sees I.cells; have hst := e2 h (fun _ _ hg => hg) none 0 "" #[] none
  have hv : fsLoad P T (.pointer (some ⟨b0, o0, none⟩)) h = some u := by
    have h5 : (fsLoad P T (evalO t x) h).map (fun v => (v, h)) = some (u, h) := hst; obtain ⟨v', h6, h7⟩ := Option.map_eq_some_iff.1 h5; simp only [Prod.mk.injEq, and_true] at h7; rw [← hqb, ← hxq, h6, h7]
  refine EvK.still (s' := ⟨t.set depth d u, h, bs ++ [_], segs, mem, tail⟩) R.ok ?_ (hk rd b0 ob h0 G S0 _ h ms segs tail hbk hm R (I.set e1 n2)); unfold stillR; have hwt : fsWanted ops t ⟨some d, .load T x, ty, pos, after, g⟩ = some true := want_ok I.slots hw; simp only [hwt, hxq.trans hqb, R.seen, fsLoad_at (nx := h.next) R.get hv, put_fits n1, Option.map_some, hb]
theorem VK.callK {b : Nat} {f : Operand} {args : Array Operand} {ats : Array TypeId} {F : PV} {asl : List PV} {Qr : PV → Sto → Prop} (γ : Sto) (hσ : γ ++ σ = σr) (hf : evV fl f = some F) (ha : evVs fl args.toList = some asl) (hc : VCallG P orc F asl γ Qr) (hm : (w, Cell.var cs) ∈ σ) (hk : ∀ r γ', Qr r γ' → VK P orc w cs ops n l (i + 1) ((d, r) :: fl) (γ' ++ σ) (bs ++ [b]) (mem ||| 2 ^ i) K)
    (hb : beforeOf bs ⟨some d, .call { callee := .value f, args := args, argTypes := ats }, ty, pos, after, g⟩ = b := by rfl) (hord : Nat.beq (mem &&& b) mem = true := by rfl) (hw : wantV ops fl g = some true := by rfl) (hn : (Nat.blt d n && Nat.ble n 4000) = true := by rfl) :
    VK P orc w cs ops n (⟨some d, .call { callee := .value f, args := args, argTypes := ats }, ty, pos, after, g⟩ :: l) i fl σr bs mem K := fun rd b0 ob h0 G S0 t h ms segs tail hbk _ R I => by
  subst hσ; obtain ⟨n1, n2⟩ := fits hn
  have hseen : seenBy ⟨some d, .call { callee := .value f, args := args, argTypes := ats }, ty, pos, after, g⟩ ⟨t, h, bs, segs, mem, tail⟩ = entry h := by
    unfold seenBy entry; simp only [hb, hord, cond_true]
  have L := I.lc.objs (h' := entry h) (fun _ => rfl) rfl; have hap := L.apart; rw [own_app] at hap; obtain ⟨hap1, hap2, hap3⟩ := List.nodup_append.1 hap; obtain ⟨fid, a, c, rfl, hv⟩ := hc; obtain ⟨va, vc, h1, h2, h3⟩ := (evV_ok L.slots hf : RepPV (entry h) _ (.clo fid a c) (evalO t f)); have hargs := (h2.append (evVs_ok L.slots ha)).append h3; rw [own_app, List.append_assoc] at hargs
  have hcells : ∀ c ∈ γ, CellR (entry h) (own γ ++ (own σ ++ S0)) c.1 c.2 := fun c hc => by
    have := L.cells c (List.mem_append_left _ hc)
    rwa [own_app, List.append_assoc] at this
  refine EvK.call (o := ⟨some d, .call { callee := .value f, args := args, argTypes := ats }, ty, pos, after, g⟩) R.ok (want_ok I.slots hw) rfl rfl h1 (by simp only [hb, hord]; simp) ?_; rw [hseen]; refine (hv (entry h) (own σ ++ S0) _ I.ok L.sokR hcells hap1 (fun b hb hm => ?_) hargs).mono fun u h' hq => ?_
  · rcases List.mem_append.1 hm with hm | hm
    · exact hap3 b hb b hm rfl
    exact L.sep b (by rw [own_app]; exact List.mem_append_left _ hb) hm
  obtain ⟨r, γ', q1, q2, q3⟩ := hq; have e2 := Made.app L q2; have hnx : h.next ≤ h'.next := e2.aft.next; refine ⟨blt_of_le hnx, by simp only [hb, hord, Bool.or_true], _, put_fits n1 t u, ?_⟩; obtain ⟨h2', tail', f1, f2, f3, f4, f5⟩ := drew_make (i := i) (segs := segs) (mem := mem) (tail := tail) (t := t) (t2 := t.set depth d u) (o := ⟨some d, .call { callee := .value f, args := args, argTypes := ats }, ty, pos, after, g⟩) hb I.ok e2.aft; rw [f1]
  have q3' : RepPV h2' (own (γ' ++ σ) ++ S0) r u := by
    rw [own_app, List.append_assoc]; exact q3.nx (Goes.objs f2)
  have hbσ : b0 ∈ own σ := List.mem_flatMap.2 ⟨_, hm, by rw [hbk]; exact List.mem_cons_self⟩
  have hkeep : h2'.get b0 = h.get b0 := by
    rw [f2]; exact q2.aft.get b0 (I.ok b0 _ R.get) fun hbg => hap3 b0 hbg b0 hbσ rfl
  exact hk r γ' q1 rd b0 ob h0 G S0 _ _ ms _ tail' hbk (List.mem_append_right _ hm) (R.next hkeep) ((I.made (made_objs e2 f2 f4)).set q3' n2)
def faAll (k : Nat) (l : List Oper) : Bool := l.all fun o => match o.op with
  | .fieldAddr _ (.tmp j) _ => Nat.beq j k
  | .fieldAddr .. => false
  | _ => true
def faAny (l : List Oper) : Bool := l.any fun o => match o.op with
  | .fieldAddr .. => true
  | _ => false
theorem rdOf_all {k b o : Nat} {ob : AObj} (hk : t.get k = .pointer (some ⟨b, o, none⟩)) (hg : h.get b = some ob) : ∀ l, faAll k l = true → (∀ p ∈ rdOf h t l, p = (b, ob)) ∧ (faAny l = true → look (rdOf h t l) b = some ob)
  | [], _ => ⟨fun p hp => (by cases hp), fun e => by cases e⟩
  | q :: r, ha => by
    obtain ⟨d, op, ty, pos, after, g⟩ := q; simp only [faAll, List.all_cons, Bool.and_eq_true] at ha; obtain ⟨ha1, ha2⟩ := ha; obtain ⟨i1, i2⟩ := rdOf_all hk hg r ha2
    cases op with
    | fieldAddr T x f =>
      cases x with
      | tmp j =>
        simp only at ha1; obtain rfl := nbeq ha1
        have he : rdOf h t (⟨d, .fieldAddr T (.tmp j) f, ty, pos, after, g⟩ :: r) = (b, ob) :: rdOf h t r := by
          show (match evalO t (.tmp j) with | _ => _) = _; simp only [rdOf, evalO, hk, hg]
        rw [he]; refine ⟨fun p hp => ?_, fun _ => by simp [look]⟩; rcases List.mem_cons.1 hp with hp | hp
        · exact hp
        exact i1 p hp
      | _ => cases ha1
    | _ => exact ⟨i1, i2⟩
def scal : PV → Bool
  | .v (.int _) _ => true
  | .v .bool _ => true
  | _ => false
theorem scal_same {pv : PV} {u : Value} (hs : scal pv = true) (hr : RepPV h S pv u) : sameV u u = true := by
  unfold scal at hs; split at hs
  · rename_i k z; have : u = .int k z := RepV.int hr; rw [this]; simp [sameV]
  · rename_i z; have : u = .bool z := RepV.bool hr; rw [this]; simp [sameV]
  cases hs
theorem scal_sameL : ∀ {cs : List PV} {us : List Value}, cs.all scal = true → RepL h S cs us → sameL us us = true
  | [], us, _, hr => by rw [show us = [] from hr]; rfl
  | p :: ps, us, hs, ⟨u, r, h1, h2, h3⟩ => by
    rw [List.all_cons, Bool.and_eq_true] at hs; rw [h1]; show (sameV u u && sameL r r) = true; rw [scal_same hs.1 h2, scal_sameL hs.2 h3]; rfl
theorem VC.lateK {id k : Nat} {ops : Array Oper} (hw : lkV fl k = some (.raw w)) (hm : (w, Cell.var cs) ∈ σ) (hsc : cs.all scal = true) (hx : VK P orc w cs ops n ops.toList 0 fl σ [] 0 fun fl' σ' => Q .normal fl' σ') (hl : lateB ops = true := by kernel_rfl) (hlk : lateK ops = true := by kernel_rfl) (hf : (faAll k ops.toList && faAny ops.toList) = true := by kernel_rfl) : VC P orc rnd (.region id ops true) n fl σ Q := fun h0 G S0 t h ms I => by
  obtain ⟨f1, f2⟩ := band hf; have hkw : t.get k = w := I.slots k _ hw; obtain ⟨b, e, vs, h1, h2, h3, h4, h5⟩ := I.cells _ hm; simp only at h1; obtain ⟨r1, r2⟩ := rdOf_all (t := t) (hkw.trans h1) h3 ops.toList f1
  have hbk : blk w = [b] := by rw [h1]; rfl
  have hsame : sameO (.row e vs true false) (.row e vs true false) = true := by
    simp [sameO, scal_sameL hsc h4]
  obtain ⟨m, s, e1, e2⟩ := hx (rdOf h t ops.toList) b _ h0 G S0 t h ms [] false hbk hm ⟨r1, r2 f2, h3, hsame⟩ I; obtain ⟨fl', σ', e2, e3⟩ := e2; refine ⟨m + 1, .normal, ⟨s.t, n, ms⟩, s.h, ?_, ⟨rfl, fl', σ', e2, e3⟩⟩; show fsStep P orc (fsCode P orc m) rnd (.region id ops true) _ h = _; unfold stepAt at e1
  have hb : (rdOf h t ops.toList).all (fun p => Nat.blt p.1 h.next) = true := List.all_eq_true.2 fun p hp => by
    rw [r1 p hp, Nat.blt_eq]; exact I.ok b _ h3
  simp only [fsStep, hl, cond_true, drawnL, hlk, drawnK, hb, e1]
end Go.Fs
namespace Go.Fs
variable {P : Program} {orc : FuncId → List Value → Heap → Option (Value × Heap)} {rnd : Option Nat} {h h' h0 h1 h2 hr : Heap} {S S' S0 B G A : List Nat} {σ σ' σr ρ γ : Sto} {t t' : Tr} {ms : List Nat} {fl : VL} {ops : Array Oper} {n i mem : Nat} {l : List Oper} {K : VL → Sto → Prop} {Q : Ex → VL → Sto → Prop}
  {d : Tmp} {ty : TypeId} {pos : String} {after : Array Edge} {op : Op} {v pv : PV} {g : Option (Nat × Bool)} {x y z : Operand} {T T' e : TypeId} {τ τ' : Ty} {bs nw rd chg : List Nat} {segs : List (Nat × Nat × Nat)} {tail tl : Bool} {w w' : Value}
theorem VLt.bts {b : Nat} {s1 d1 e1 : TypeId} {acc : ByteArray} (hx : evV fl x = some (.v (.sl (.int .u8)) (bytesI acc))) (hs : P.underlying s1 = some (.slice e1)) (he : P.underlying e1 = some (.int .u8)) (hd : P.underlying d1 = some .string)
    (hk : VLt P orc ops n l (i + 1) ((d, .v .str acc) :: fl) (nwSet true d nw) σ ρ (bs ++ [b]) mem tl K)
    (hb : beforeOf bs ⟨some d, .convert s1 d1 x, ty, pos, after, g⟩ = b := by rfl) (hold : oldX nw x = true := by rfl) (hw : wantV ops fl g = some true := by rfl) (hn : (Nat.blt d n && Nat.ble n 4000) = true := by rfl) :
    VLt P orc ops n (⟨some d, .convert s1 d1 x, ty, pos, after, g⟩ :: l) i fl nw σ ρ bs mem tl K := fun hr h0 G S0 A t h ms rd chg segs tail ht I L => by
  obtain ⟨n1, n2⟩ := fits hn; have hu : RepPV hr (A ++ S0) (.v (.sl (.int .u8)) (bytesI acc)) (evalO t x) := old_sees L.slots hx hold; have hwt : fsWanted ops t ⟨some d, .convert s1 d1 x, ty, pos, after, g⟩ = some true := want_ok I.slots hw; have I2 := I.set (show RepPV h (own σ ++ S0) (.v .str acc) (.string acc) from RepV.ofStr _) n2; have L2 := L.set (v := .v .str acc) (u := .string acc) (old := true) n2 fun _ => RepV.ofStr _
  have calm1 : stepO P ⟨some d, .convert s1 d1 x, ty, pos, after, g⟩ (evalO t) { next := h.next, low := h.next, objs := [] } = some (.string acc, { next := h.next, low := h.next, objs := [] }) →
      EvL P orc hr ops n (⟨some d, .convert s1 d1 x, ty, pos, after, g⟩ :: l) i (⟨t, h, bs, segs, mem, tail⟩, rd, chg) fun x => apartB x = true ∧ ∃ fl' σ', Iv h0 G S0 x.1.h σ' x.1.t ms fl' ∧ K fl' σ' := fun e2 => by
    refine EvL.opr (x' := (⟨t.set depth d (.string acc), h, bs ++ [b], segs, mem, tail⟩, rd, chg)) ?_ (hk hr h0 G S0 A _ h ms rd chg segs tail ht I2 L2); unfold lateDraw; simp only [hwt, show calm (Op.convert s1 d1 x) = true from rfl, if_true, e2, Nat.beq_refl, cond_true, put_fits n1, Option.map_some, hb]
  have hstep : ∀ H : Heap, af (evalO t x) = false → stepO P ⟨some d, .convert s1 d1 x, ty, pos, after, g⟩ (evalO t) H = (fsBytes P s1 d1 (evalO t x) H).map fun v => (v, H) := fun H haf => by
    show (if af (evalO t x) = true then _ else (fsBytes P s1 d1 (evalO t x) H).map fun v => (v, H)) = _; rw [haf]; rfl
  rcases bytes_datum hs he hd hu with ⟨h1, h2⟩ | ⟨b0, o, n', mk, h1, h2, h3⟩
  · refine calm1 ?_; show (if af (evalO t x) = true then ((purely P (convert s1 d1 (evalO t x))).or (fsNanV P s1 d1 (evalO t x))).map (fun v => (v, _)) else _) = _; rw [h1, h2, if_pos (show af (Value.slice none 0 0) = true from rfl)]
    have e2 : purely P (convert s1 d1 (.slice none 0 0)) = some (.string ByteArray.empty) := by
      unfold purely convert; simp only [runPure_bind, runPure_underlying hs, runPure_underlying hd, Option.bind_some, runPure_underlying he]; rfl
    rw [e2]; rfl
  have haf : af (evalO t x) = false := by rw [h1]; exact afSl _ _ _
  by_cases hz : n' = 0
  · refine calm1 ?_; have e3 := h2 hr fun _ e => e; rw [hstep _ haf]
    have e4 : fsBytes P s1 d1 (evalO t x) { next := h.next, low := h.next, objs := [] } = some (.string acc) := by
      rw [← e3, h1, hz]; have hc : ∀ H : Heap, cellsOf 1 0 (.slice (some ⟨b0, o, none⟩) 0 mk) H = some [] := fun H => rfl; unfold fsBytes; simp only [hs, he, hd, hc]
    rw [e4]; rfl
  rcases h3 with h3 | ⟨ob, h4, h5⟩
  · exact absurd h3 hz
  have hlt := L.ok b0 _ h4
  have e0 : stepO P ⟨some d, .convert s1 d1 x, ty, pos, after, g⟩ (evalO t) { next := h.next, low := h.next, objs := [] } = none := by
    rw [hstep _ haf, h1]
    have hc : cellsOf 1 n' (.slice (some ⟨b0, o, none⟩) n' mk) { next := h.next, low := h.next, objs := [] } = none := by
      have e2 : Nat.beq (n' * 1) 0 = false := beq_no (by omega); simp only [cellsOf, ble_refl', cond_true, e2, cond_false]; rfl
    unfold fsBytes; simp only [hs, he, hd, hc]; rfl
  have hq : quietV P hr (.convert s1 d1 x) (evalO t) h.next = some (.string acc, [b0]) := by
    have hbl : Nat.blt b0 hr.next = true := by rw [Nat.blt_eq]; exact hlt
    have e5 := h2 { next := h.next, low := h.next, objs := [(b0, ob)] } fun ob' e => by
      rw [h4] at e; obtain rfl := Option.some.inj e; show look [(b0, ob)] b0 = some ob; simp [look]
    rw [h1] at e5; simp only [quietV, h1, h4, hbl, cond_true, e5, Option.map_some]
  refine EvL.opr (x' := (⟨t.set depth d (.string acc), h, bs ++ [b], segs, mem, tail⟩, b0 :: rd, chg)) ?_ (hk hr h0 G S0 A _ h ms _ chg segs tail ht I2 (L2.read ⟨hlt, .inr fun hm => h5 (List.mem_append_left _ hm)⟩)); unfold lateDraw; simp only [hwt, show calm (Op.convert s1 d1 x) = true from rfl, if_true, e0, hq, put_fits n1, Option.map_some, hb]; rfl
def VEndGr (P : Program) (fn : Func) (Q : PV → Sto → Prop) : Ex → VL → Sto → Prop := fun e fl σ => e.goes = true ∧ ∃ w e' τ ys r, σ = [(w, Cell.row e' τ ys)] ∧ ys ≠ [] ∧ fn.results = #[r] ∧ EndV P fl [] r (.raw w) ∧ Q (.raw w) σ
theorem VEndGr.row {fn : Func} {Q : PV → Sto → Prop} {r : ResultVar} {w : Value} {e : TypeId} {τ : Ty} {ys : List τ.den} (hr : fn.results = #[r]) (h1 : EndV P fl [] r (.raw w)) (hy : ys ≠ []) (hQ : Q (.raw w) [(w, Cell.row e τ ys)]) : VEndGr P fn Q .ret fl [(w, Cell.row e τ ys)] :=
  ⟨rfl, w, e, τ, ys, r, rfl, hy, hr, h1, hQ⟩
theorem VFG.enterGr {f : FuncId} {args : List PV} {fn : Func} {c : Code} {Q : PV → Sto → Prop} (hfn : P.funcs[f]? = some fn) (hc : fn.body = some c) (ho : ∀ us h, orc f us h = none) (hn : (Nat.blt 4000 fn.ntmps || Nat.blt fn.ntmps args.length) = false)
    (hb : VC P orc none c fn.ntmps (argVL 0 args) γ (VEndGr P fn Q)) : VFG P orc f args γ Q := fun h S us hok hS hcells hnd hsep ha => by
  have hl := ha.len
  have hn2 : Nat.blt 4000 fn.ntmps = false ∧ Nat.blt fn.ntmps args.length = false := by simpa using hn
  have n3 := nble_no hn2.1; have n4 := nble_no hn2.2; have ha' : RepL (entry h) (own γ ++ S) args us := RepL.nx (h := h) (h' := entry h) (fun _ _ a b => ⟨a, b⟩) ha
  have I0 : Iv (entry h) (own γ) S (entry h) γ (fillTr .leaf 0 us) [] (argVL 0 args) := {
    ok := hok
    s0 := hS.1
    aft := Aft.refl _ _
    cells := fun c hc => (hcells c hc).keep (fun _ _ => rfl) (fun _ _ a b => ⟨a, b⟩) fun b hb => List.mem_append_left _ (List.mem_flatMap.2 ⟨c, hc, hb⟩)
    new := fun b hb => ⟨.inl hb, hsep b hb⟩
    apart := hnd
    mark := fun d hd => by cases hd
    marks := List.nodup_nil
    slots := slots_args (hS.2.ent hcells) ha' (by omega) }
  refine EvF.enter hfn hc (ho us h) (by rw [hl]; exact hn) ((hb (entry h) (own γ) S _ (entry h) [] I0).mono fun e fr h1 hq => ?_); obtain ⟨_, fl', σ', Iv1, he, w, e', τ, ys, r, rfl, hys, hres, hev, hQ⟩ := hq; obtain ⟨h2, d1, d2, d3⟩ := drops_ok Iv1.marks fun d hd => (Iv1.mark d hd).2
  have hgd : ∀ b o, h1.get b = some o → o ≠ .defd → h2.get b = some o := fun b o hg hne => by
    rw [d3 b (fun hm => hne (by have := (Iv1.mark b hm).2; rw [hg] at this; exact Option.some.inj this))]; exact hg
  have a2 : Aft (entry h) h2 (own γ) := Iv1.aft.trans d2 fun i hi => .inr (Iv1.mark i hi).1; have L1 := Iv1.lc; have Lz : Lc (own [(w, Cell.row e' τ ys)] ++ S) h1 [] fr.t fl' := ⟨L1.ok, L1.lt, (fun c hc => by cases hc), (fun b hb => by cases hb), List.nodup_nil, L1.slots⟩
  have hps : EndL P fl' [] fn.results.toList [.raw w] := by rw [hres]; exact .cons hev .nil
  obtain ⟨us', e1, e2⟩ := hps.ok Lz hgd (fun b _ hg hne hbS => ⟨hgd b _ hg hne, hbS⟩); have hrep := tup_rep e2; have hval : tupled us' = w := hrep
  obtain ⟨b, rs, m, h3, h4, h5, h6⟩ : ∃ b rs m, w = .slice (some ⟨b, 0, none⟩) ys.length 0 ∧ b ∈ own [(w, Cell.row e' τ ys)] ++ S ∧ h1.get b = some (.row e' rs true m) ∧ Elems h1 (own [(w, Cell.row e' τ ys)] ++ S) τ rs ys := by
    rcases Iv1.cells _ List.mem_cons_self with hx | hx
    · exact absurd hx.2 hys
    exact hx
  have hN : GoesR h1 (own [(w, Cell.row e' τ ys)] ++ S) h2 (own [(w, Cell.row e' τ ys)] ++ S) := fun b _ hg hne hbS => ⟨hgd b _ hg hne, hbS⟩; have hcell2 : CellR h2 (own [(w, Cell.row e' τ ys)] ++ S) w (Cell.row e' τ ys) := .inr ⟨b, rs, m, h3, h4, hgd b _ h5 (by simp), h6.1, fun i hi => (h6.2 i hi).nxR hN⟩; refine ⟨he, h2, us', d1, e1, ?_⟩
  have haf : af (tupled us') = false := by rw [hval, h3]; exact afSl _ _ _
  unfold leftOf; rw [haf]; simp only [Bool.false_and, cond_false]; refine ⟨.raw w, _, hQ, ⟨⟨a2.next, a2.get, fun x => a2.ok x, fun e h3 h4 h5 => Nat.le_min.2 ⟨h3, a2.low e (Nat.le_trans h4 (Nat.le_refl _)) h4 h5⟩, fun b hb => ?_, Nat.min_le_left _ _⟩, fun b hb => (Iv1.new b hb).1, L1.apart, fun c hc => ?_⟩, hval⟩
  · rcases a2.chg b hb with h3 | h3
    · exact .inl h3
    exact .inr (Nat.le_trans (Nat.min_le_right _ _) h3)
  obtain rfl := List.mem_singleton.1 hc; exact hcell2.keep (fun _ _ => rfl) (fun _ _ a b => ⟨a, b⟩) fun b hb => List.mem_append_left _ (by simpa [own] using hb)
end Go.Fs
namespace Go.Fs
variable {P : Program} {orc : FuncId → List Value → Heap → Option (Value × Heap)} {fl : VL} {σ : Sto} {x y : Operand} {T T' : TypeId} {p q : Int} {k : IntKind}
theorem wrapU8 (n : Int) : IntKind.u8.wrap n = n % 256 := by
  unfold IntKind.wrap; simp only [IntKind.signed, IntKind.bits]; simp
theorem wrapU32 (n : Int) : IntKind.u32.wrap n = n % 4294967296 := by
  unfold IntKind.wrap; simp only [IntKind.signed, IntKind.bits]; simp
theorem u32id {n : Int} (h : 0 ≤ n ∧ n < 4294967296) : IntKind.u32.wrap n = n := by rw [wrapU32]; omega
theorem CalmV.convW {s D : TypeId} (k2 : IntKind) {r : Int} (hw : k2.wrap p = r) (hx : evV fl x = some (.v (.int k) p) := by rfl) (hb : convB P s D k2 = true := by kernel_rfl) : CalmV P fl σ (.convert s D x) (.v (.int k2) r) :=
  .conv hx fun h S a ha => by
    obtain rfl := RepV.int ha; unfold convB at hb; obtain ⟨b1, b2⟩ := band hb; obtain ⟨td, hs⟩ := Option.isSome_iff_exists.1 b1; split at b2
    · rename_i k3 hd; obtain rfl : k3 = k2 := of_decide_eq_true b2; refine ⟨.int k3 r, RepV.ofInt _ _, rfl, ?_⟩; unfold purely convert; simp only [runPure_bind, runPure_underlying hs, runPure_underlying hd, Option.bind_some]; show (runPure P (Conv.intToInt k3 p)).bind _ = _; simp only [Conv.intToInt, runPure_pure, Option.bind_some, hw]; rfl
    cases b2
theorem CalmV.convU8 {s D : TypeId} (hx : evV fl x = some (.v (.int k) p) := by rfl) (hb : convB P s D .u8 = true := by kernel_rfl) : CalmV P fl σ (.convert s D x) (.v (.int .u8) (p % 256)) := .convW .u8 (wrapU8 p) hx hb
theorem CalmV.shr32 (n : Nat) (m : Int) (hm : m = 2 ^ n) (hn : n ≤ 31) (hp : 0 ≤ p) (hx : evV fl x = some (.v (.int .u32) p) := by rfl) (hy : evV fl y = some (.v (.int .u64) ((n : Nat) : Int)) := by rfl) : CalmV P fl σ (.binOp .shr T x y T') (.v (.int .u32) (p / m)) :=
  .binI hx hy (u := .int .u32 (p / m)) (by
    have this : min ((n : Nat) : Int).toNat IntKind.u32.bits = n := by
      rw [Int.toNat_natCast]; exact Nat.min_eq_left (show n ≤ 32 by omega)
    have e2 : p.fdiv (2 ^ n) = p / m := by
      have h2 : (0 : Int) ≤ 2 ^ n := Int.pow_nonneg (by decide); rw [hm, Int.fdiv_eq_ediv_of_nonneg _ h2]
    show (runPure P (Op.shift .shr .u32 p .u64 ((n : Nat) : Int))).bind _ = _; unfold Op.shift; rw [if_neg (by omega)]; simp only [this]; rw [← e2]
    rfl) fun h S => RepV.ofInt _ _
theorem CalmV.shl32 (n : Nat) (m : Int) (hm : m = 2 ^ n) (hn : n ≤ 31) (hp : 0 ≤ p * m ∧ p * m < 4294967296) (hx : evV fl x = some (.v (.int .u32) p) := by rfl) (hy : evV fl y = some (.v (.int .u64) ((n : Nat) : Int)) := by rfl) : CalmV P fl σ (.binOp .shl T x y T') (.v (.int .u32) (p * m)) :=
  .binI hx hy (u := .int .u32 (p * m)) (by
    have this : min ((n : Nat) : Int).toNat IntKind.u32.bits = n := by
      rw [Int.toNat_natCast]; exact Nat.min_eq_left (show n ≤ 32 by omega)
    have e2 : p * 2 ^ n = p * m := by rw [hm]
    show (runPure P (Op.shift .shl .u32 p .u64 ((n : Nat) : Int))).bind _ = _; unfold Op.shift; rw [if_neg (by omega)]; simp only [this, e2, u32id hp]
    rfl) fun h S => RepV.ofInt _ _
theorem CalmV.add32 (hp : 0 ≤ p + q ∧ p + q < 4294967296) (hx : evV fl x = some (.v (.int .u32) p) := by rfl) (hy : evV fl y = some (.v (.int .u32) q) := by rfl) : CalmV P fl σ (.binOp .add T x y T') (.v (.int .u32) (p + q)) :=
  .binI hx hy (u := .int .u32 (p + q)) (by
    have e : binOp .add T (.int .u32 p) (.int .u32 q) = pure (.int .u32 (IntKind.u32.wrap (p + q))) := rfl; show purely P (do eqGuard .add T x y (.int .u32 p) (.int .u32 q); binOp .add T (.int .u32 p) (.int .u32 q)) = _
    rw [e, u32id hp]; rfl) fun h S => RepV.ofInt _ _
theorem or_apart {a b : Int} (n : Nat) (hn : n ≤ 31) (ha : 0 ≤ a ∧ a * 2 ^ n < 4294967296) (hb : 0 ≤ b ∧ b < 2 ^ n) : IntKind.u32.wrap ((BitVec.ofInt 32 (a * 2 ^ n) ||| BitVec.ofInt 32 b).toNat : Int) = a * 2 ^ n + b := by
  obtain ⟨a, rfl⟩ := Int.eq_ofNat_of_zero_le ha.1; obtain ⟨b, rfl⟩ := Int.eq_ofNat_of_zero_le hb.1
  have h1 : ((a : Nat) : Int) * 2 ^ n = ((2 ^ n * a : Nat) : Int) := by rw [Int.mul_comm, Int.natCast_mul, Int.natCast_pow]; rfl
  rw [h1] at ha ⊢
  have hb2 : b < 2 ^ n := by exact_mod_cast hb.2
  have ha2 : 2 ^ n * a < 4294967296 := Int.ofNat_lt.1 ha.2
  have hle : 2 ^ n * a + b < 4294967296 := by
    have h2 : 2 ^ n * (a + 1) ≤ 4294967296 := by
      have hd : (4294967296 : Nat) = 2 ^ n * 2 ^ (32 - n) := by rw [← Nat.pow_add, show n + (32 - n) = 32 by omega]
      rw [hd] at ha2 ⊢; have := Nat.lt_of_mul_lt_mul_left ha2; exact Nat.mul_le_mul_left _ this
    rw [Nat.mul_add, Nat.mul_one] at h2; omega
  have e1 : (BitVec.ofInt 32 ((2 ^ n * a : Nat) : Int) ||| BitVec.ofInt 32 ((b : Nat) : Int)).toNat = 2 ^ n * a + b := by
    rw [BitVec.toNat_or, BitVec.ofInt_natCast, BitVec.ofInt_natCast, BitVec.toNat_ofNat, BitVec.toNat_ofNat, Nat.mod_eq_of_lt ha2, Nat.mod_eq_of_lt (by omega), ← Nat.two_pow_add_eq_or_of_lt hb2]
  rw [e1, u32id ⟨Int.natCast_nonneg _, Int.ofNat_lt.2 hle⟩, Int.natCast_add]
theorem CalmV.or32 {a : Int} (n : Nat) (hn : n ≤ 31) (hp : p = a * 2 ^ n) (ha : 0 ≤ a ∧ a * 2 ^ n < 4294967296) (hb : 0 ≤ q ∧ q < 2 ^ n) (hx : evV fl x = some (.v (.int .u32) p) := by rfl) (hy : evV fl y = some (.v (.int .u32) q) := by rfl) : CalmV P fl σ (.binOp .or T x y T') (.v (.int .u32) (p + q)) :=
  .binI hx hy (u := .int .u32 (p + q)) (by
    have e : binOp .or T (.int .u32 p) (.int .u32 q) = pure (.int .u32 (IntKind.u32.wrap ((BitVec.ofInt 32 p ||| BitVec.ofInt 32 q).toNat : Int))) := rfl; show purely P (do eqGuard .or T x y (.int .u32 p) (.int .u32 q); binOp .or T (.int .u32 p) (.int .u32 q)) = _
    rw [e, hp, or_apart n hn ha hb]; rfl) fun h S => RepV.ofInt _ _
end Go.Fs
namespace Go.Fs
variable {P : Program} {orc : FuncId → List Value → Heap → Option (Value × Heap)} {rnd : Option Nat} {h h' h0 h1 h2 hr : Heap} {S S' S0 B G A : List Nat} {σ σ' σr ρ γ : Sto} {t t' : Tr} {ms : List Nat} {fl : VL} {ops : Array Oper} {n i mem : Nat} {l : List Oper} {K : VL → Sto → Prop} {Q : Ex → VL → Sto → Prop}
  {d d0 d1 : Tmp} {ty ty0 ty1 : TypeId} {pos p0 p1 : String} {after a0 a1 : Array Edge} {op : Op} {v pv : PV} {g : Option (Nat × Bool)} {x y z : Operand} {T T' e : TypeId} {τ τ' : Ty} {w w' : Value}
theorem VO.litB {parts : Array (Nat × Operand)} {len : Nat} (xs : List Int) (hT : ElT P T e (.int .u8)) (hu8 : P.underlying e = some (.int .u8)) (hc1 : Nat.beq (P.cellsOf e) 1 = true) (hk : ∀ w0 w, VO P orc ops n l ((d1, .raw w) :: (d0, .raw w0) :: fl) ((w, .row e (.int .u8) xs) :: σ) K)
    (hxs : evVs fl (parts.toList.map (·.2)) = some (xs.map (PV.v (.int .u8))) := by rfl) (hnum : parts.toList.map (·.1) = List.range' 0 parts.toList.length := by rfl) (hl : len = xs.length := by rfl) (hp0 : 0 < xs.length := by decide) (hp1 : xs.length ≤ 1000 := by decide)
    (hn0 : (Nat.blt d0 n && Nat.ble n 4000) = true := by rfl) (hn1 : (Nat.blt d1 n && Nat.ble n 4000) = true := by rfl) :
    VO P orc ops n (⟨some d0, .buildSlice T len parts, ty0, p0, a0, none⟩ :: ⟨some d1, .convert T T (.tmp d0), ty1, p1, a1, none⟩ :: l) fl σ K := fun h0 G S0 t h ms I => by
  obtain ⟨m1, m2⟩ := fits hn0; obtain ⟨m3, m4⟩ := fits hn1; have L := I.lc; obtain ⟨us, e1, e2, e3⟩ := lit_run (h := h) (S := own σ ++ S0) hT hxs hnum hl hp0 hp1 (by decide) I.slots.sees; refine EvO.op (want_ok I.slots rfl) (e3 h _ _ _ _ _) (put_fits m1 t _) ?_; have hfl : flat us = xs.map (.int .u8) := u8_elems (h := h) (S := own σ ++ S0) e2
  have hlen : (flat us).length = xs.length := by rw [hfl, List.length_map]
  have hget : (h.push (.row e (flat us) true false)).get h.next = some (.row e (flat us) true false) := by rw [Heap.get_push]; exact if_pos rfl
  have hg2 : ∀ k, k ≠ h.next → k ≠ h.next + 1 → (((h.push (.row e (flat us) true false)).drop h.next).push (.row e (flat us) true false)).get k = h.get k := fun k k1 k2 => by
    rw [Heap.get_push, if_neg (by exact k2), Heap.get_drop, if_neg k1, Heap.get_push, if_neg k1]
  have hnx : (((h.push (.row e (flat us) true false)).drop h.next).push (.row e (flat us) true false)).next = h.next + 1 + 1 := rfl
  have haft : Aft h (((h.push (.row e (flat us) true false)).drop h.next).push (.row e (flat us) true false)) (own σ) := {
    next := by rw [hnx]; omega
    get := fun b hb _ => hg2 b (by omega) (by omega)
    ok := fun x b o hg => by
      by_cases k1 : b = h.next
      · rw [hnx]; omega
      by_cases k2 : b = h.next + 1
      · rw [hnx]; omega
      rw [hg2 b k1 k2] at hg; have := x b o hg; rw [hnx]; omega
    low := fun e' h3 h4 _ => Nat.le_min.2 ⟨h3, h4⟩
    chg := fun b hb => .inl (hg2 b (by omega) (by omega))
    lowle := Nat.min_le_left _ _ }
  have hnew : ∀ b ∈ own ((Value.slice (some ⟨h.next + 1, 0, none⟩) xs.length 0, Cell.row e (.int .u8) xs) :: σ), b ∈ own σ ∨ h.next ≤ b := fun b hb => by
    rw [own_cons] at hb; rcases List.mem_append.1 hb with hb | hb
    · right; simp [blk] at hb; omega
    exact .inl hb
  have hm : Made S0 h (((h.push (.row e (flat us) true false)).drop h.next).push (.row e (flat us) true false)) σ ((.slice (some ⟨h.next + 1, 0, none⟩) xs.length 0, .row e (.int .u8) xs) :: σ) := {
    aft := haft
    new := hnew
    apart := by
      rw [own_cons]; show ([h.next + 1] ++ own σ).Nodup; rw [List.singleton_append, List.nodup_cons]; refine ⟨fun hb => ?_, L.apart⟩; have := L.lt _ (List.mem_append_left _ hb); omega
    cells := fun c hc => by
      rcases List.mem_cons.1 hc with rfl | hc
      · refine .inr ⟨h.next + 1, flat us, false, rfl, ?_, by rw [Heap.get_push]; exact if_pos rfl, ?_⟩
        · rw [own_cons]; exact List.mem_append_left _ (List.mem_append_left _ (by simp [blk]))
        refine ⟨e2.1, fun i hi => ?_⟩
        exact RepC.nx (τ := .int .u8) (h := h) (h' := ((h.push (.row e (flat us) true false)).drop h.next).push (.row e (flat us) true false)) (S := own σ ++ S0) (fun b o hg hb => by
          have hlt := I.ok b o hg; refine ⟨by rw [hg2 b (by omega) (by omega)]; exact hg, fun hmm => ?_⟩; rcases List.mem_append.1 hmm with hmm | hmm
          · rcases hnew b hmm with h3 | h3
            · exact hb (List.mem_append_left _ h3)
            omega
          exact hb (List.mem_append_right _ hmm)) (e2.2 i hi)
      refine (L.cells c hc).keep (fun b hb => ?_) (fun b o hg hb => ?_) fun b hb => ?_
      · have := L.lt b (List.mem_append_left _ (List.mem_flatMap.2 ⟨c, hc, hb⟩)); exact hg2 b (by omega) (by omega)
      · have hlt := I.ok b o hg; refine ⟨by rw [hg2 b (by omega) (by omega)]; exact hg, fun hmm => ?_⟩; rcases List.mem_append.1 hmm with hmm | hmm
        · rcases hnew b hmm with h3 | h3
          · exact hb (List.mem_append_left _ h3)
          omega
        exact hb (List.mem_append_right _ hmm)
      rw [own_cons]
      exact List.mem_append_left _ (List.mem_append_right _ (List.mem_flatMap.2 ⟨c, hc, hb⟩)) }
  have I2 := ((I.made hm).set (d := d0) (v := .raw (.slice (some ⟨h.next, 0, none⟩) xs.length 0)) (u := .slice (some ⟨h.next, 0, none⟩) xs.length 0) rfl m2).set (d := d1) (v := .raw (.slice (some ⟨h.next + 1, 0, none⟩) xs.length 0)) (u := .slice (some ⟨h.next + 1, 0, none⟩) xs.length 0) rfl m4; obtain ⟨m, t2, h2, hr, hq⟩ := hk (.slice (some ⟨h.next, 0, none⟩) xs.length 0) (.slice (some ⟨h.next + 1, 0, none⟩) xs.length 0) h0 G S0 _ _ ms I2; refine ⟨m, t2, h2, ?_, hq⟩
  have hev : evalO (t.set depth d0 (.slice (some ⟨h.next, 0, none⟩) xs.length 0)) (.tmp d0) = .slice (some ⟨h.next, 0, none⟩) xs.length 0 := by
    show (t.set depth d0 _).get d0 = _; rw [get_setD t d0 _ d0 m2]; simp
  have hsl : P.underlying T = some (.slice e) := hT.sl.sl
  have hstep : stepM P orc m ⟨some d1, .convert T T (.tmp d0), ty1, p1, a1, none⟩ (evalO (t.set depth d0 (.slice (some ⟨h.next, 0, none⟩) xs.length 0))) (h.push (.row e (flat us) true false)) = some (.slice (some ⟨h.next + 1, 0, none⟩) xs.length 0, ((h.push (.row e (flat us) true false)).drop h.next).push (.row e (flat us) true false)) := by
    unfold stepM fsOpM
    have e4 : fsOp P (callOf P orc (fsCode P orc m)) (fsYield (fsCode P orc m)) ⟨some d1, .convert T T (.tmp d0), ty1, p1, a1, none⟩ (evalO (t.set depth d0 (.slice (some ⟨h.next, 0, none⟩) xs.length 0))) (h.push (.row e (flat us) true false)) = none := by
      show (if af (evalO _ (.tmp d0)) = true then _ else (fsBytes P T T (evalO _ (.tmp d0)) _).map fun v => (v, _)) = _; rw [hev, afSl]
      have : fsBytes P T T (.slice (some ⟨h.next, 0, none⟩) xs.length 0) (h.push (.row e (flat us) true false)) = none := by
        unfold fsBytes; simp only [hsl, hu8]
      rw [this]; rfl
    rw [e4]; unfold fsMarkG
    have hB : fsMarkB P ⟨some d1, .convert T T (.tmp d0), ty1, p1, a1, none⟩ (evalO (t.set depth d0 (.slice (some ⟨h.next, 0, none⟩) xs.length 0))) (h.push (.row e (flat us) true false)) = some (.slice (some ⟨h.next + 1, 0, none⟩) xs.length 0, ((h.push (.row e (flat us) true false)).drop h.next).push (.row e (flat us) true false)) := by
      unfold fsMarkB; simp only [hev, hsl, hu8, hget, Nat.beq_refl, hlen, hc1, Bool.and_self, cond_true]; rfl
    rw [hB]
  simp only [fsOps, want_ok (o := ⟨some d1, .convert T T (.tmp d0), ty1, p1, a1, none⟩) (I.slots.set (show RepPV h (own σ ++ S0) (.raw (.slice (some ⟨h.next, 0, none⟩) xs.length 0)) _ from rfl) m2) (show wantV ops _ none = some true from rfl), hstep, put_fits m3 _ _]; exact hr
theorem append_str {s x : Value} (hT : P.underlying T = some (.slice e)) (hS : P.underlying T' = some .string) : fsAppend P #[T, T'] s x h = fsAppend P #[T, T] s x h := by
  unfold fsAppend; simp only [List.getElem?_toArray, List.getElem?_cons_zero, List.getElem?_cons_succ, hT, hS]; rfl
theorem MakeV.appTx {xs : List Int} {s : ByteArray} (hT : ElT P T e (.int .u8)) (hS : P.underlying T' = some .string) (hx : evV fl x = some (.raw w)) (hy : evV fl y = some (.v .str s)) (hp : 0 < s.size) (hsz : xs.length + s.size ≤ 1000000) :
    MakeV P fl ((w, .row e (.int .u8) xs) :: σ) (.call { callee := .builtin .append, args := #[x, y], argTypes := #[T, T'] }) fun v σ' => ∃ w', v = .raw w' ∧ σ' = (w', .row e (.int .u8) (xs ++ bytesI s)) :: σ :=
  ⟨rfl, fun S0 h t L => by
    have h1 : evalO t x = w := evV_ok L.slots hx; have h2 : evalO t y = .string s := RepV.str (evV_ok L.slots hy); have hc := L.cells _ List.mem_cons_self; have hbl := bytesI_len s
    have hst : ∀ u h', fsAppend P #[T, T'] w (.string s) h = some (u, h') → ∀ (d : Option Tmp) (ty : TypeId) (pos : String) (after : Array Edge) (g : Option (Nat × Bool)), stepO P ⟨d, .call { callee := .builtin .append, args := #[x, y], argTypes := #[T, T'] }, ty, pos, after, g⟩ (evalO t) h = some (u, h') := fun u h' e _ _ _ _ _ => by
      show fsAppend P #[T, T'] (evalO t x) (evalO t y) h = _; rw [h1, h2, e]
    have hrow : ((s.extract 0 s.size).data.map fun b => Value.int .u8 b.toNat).toList = bytesV s := by
      have : s.extract 0 s.size = s := ByteArray.extract_zero_size; rw [this, Array.toList_map, bytesV, bytesI, List.map_map]; rfl
    have hne : Elems h (own ((w, .row e (.int .u8) xs) :: σ) ++ S0) (.int .u8) (bytesV s) (bytesI s) := ⟨by rw [bytesV_len, hbl]; simp [Ty.size], fun i hi => by
      show ((bytesV s).drop (i * 1)).take 1 = [.int .u8 (bytesI s)[i]]
      have hi' : i < (bytesV s).length := by rw [bytesV_len]; omega
      rw [Nat.mul_one, List.drop_eq_getElem_cons hi']
      simp [bytesV]⟩
    obtain ⟨h', rs', e1, e2, e3, e4⟩ := row_grow hT hT L.ok hc (u := .string s) (news := bytesV s) (fun i z hi _ => by
      have hi : i.size = 1 := hi; show (match lenV (.string s) with | some m => (cellsOf i.size m (.string s) h).map fun cs => (m, cs) | none => none) = _
      simp only [lenV, cellsOf, hrow, Option.map_some, hbl]) hne (by omega) (by omega)
    refine ⟨_, h', .raw (.slice (some ⟨h.next, 0, none⟩) (xs.length + (bytesI s).length) 0), _, ⟨_, rfl, rfl⟩, Made.head L e2 (fun b hb => .inr (by simp [blk] at hb; omega)) (by simp [blk]) fun hN => ?_, rfl, hst _ _ (by rw [append_str hT.sl.sl hS]; exact e1)⟩
    exact .inr ⟨h.next, rs', true, by rw [List.length_append], List.mem_append_left _ (by rw [own_cons]; simp [blk]), e3, e4 _ hN⟩⟩
theorem VO.appTx {xs : List Int} {s : ByteArray} (hx : evV fl x = some (.raw w)) (hy : evV fl y = some (.v .str s)) (hT : ElT P T e (.int .u8)) (hS : P.underlying T' = some .string) (hp : 0 < s.size) (hsz : xs.length + s.size ≤ 1000000) (hk : ∀ w', VO P orc ops n l ((d, .raw w') :: fl) ((w', .row e (.int .u8) (xs ++ bytesI s)) :: σ) K)
    (hw : wantV ops fl g = some true := by rfl) (hn : (Nat.blt d n && Nat.ble n 4000) = true := by rfl) :
    VO P orc ops n (⟨some d, .call { callee := .builtin .append, args := #[x, y], argTypes := #[T, T'] }, ty, pos, after, g⟩ :: l) fl ((w, .row e (.int .u8) xs) :: σ) K :=
  VO.mk (MakeV.appTx hT hS hx hy hp hsz) (by rintro _ _ ⟨w', rfl, rfl⟩; exact hk w') hw hn
def strI (l : List Int) : ByteArray := ⟨(l.map fun x => UInt8.ofNat x.toNat).toArray⟩
theorem bytesI_strI : ∀ {l : List Int}, (∀ x ∈ l, 0 ≤ x ∧ x < 256) → bytesI (strI l) = l := fun {l} hl => by
  unfold bytesI strI; simp only [List.map_map]
  conv => rhs; rw [← List.map_id l]
  refine List.map_congr_left fun x hx => ?_; obtain ⟨h0, h1⟩ := hl x hx; show (((UInt8.ofNat x.toNat).toNat : Nat) : Int) = x; rw [UInt8.toNat_ofNat']; omega
theorem bytesI_mem {s : ByteArray} : ∀ x ∈ bytesI s, 0 ≤ x ∧ x < 256 := fun x hx => by
  obtain ⟨c, _, rfl⟩ := List.mem_map.1 hx; have := c.toNat_lt; omega
end Go.Fs
namespace Go.Proofs
open Go.Fs Ieee
set_option maxHeartbeats 2000000
abbrev y26 : Ty := (.sl (.int .u8))
theorem vt5 : ValT Tryz.prog 5 (.int .u8) := valT_of (by kernel_rfl)
theorem el26 : ElT Tryz.prog 26 5 (.int .u8) := elT_of (by kernel_rfl)
def fourE (u : Int) : List Int := [u / 16777216 % 256, u / 65536 % 256, u / 256 % 256, u % 256]
theorem fourE_len (u : Int) : (fourE u).length = 4 := rfl
theorem fourE_mem {u : Int} : ∀ x ∈ fourE u, 0 ≤ x ∧ x < 256 := fun x hx => by
  simp only [fourE, List.mem_cons, List.not_mem_nil, or_false] at hx; rcases hx with rfl | rfl | rfl | rfl <;> omega
def numE (l : List Int) : Int := l.getD 0 0 * 16777216 + l.getD 1 0 * 65536 + l.getD 2 0 * 256 + l.getD 3 0
def byteL (l : List Int) : Prop := ∀ x ∈ l, 0 ≤ x ∧ x < 256
theorem byteL_drop {l : List Int} (h : byteL l) (n : Nat) : byteL (l.drop n) := fun x hx => h x (List.mem_of_mem_drop hx)
theorem byteL_take {l : List Int} (h : byteL l) (n : Nat) : byteL (l.take n) := fun x hx => h x (List.mem_of_mem_take hx)
theorem byteL_at {l : List Int} (h : byteL l) {i : Nat} (hi : i < l.length) : 0 ≤ l[i] ∧ l[i] < 256 := h _ (List.getElem_mem hi)
theorem numE_rng {l : List Int} (h : byteL l) (h4 : 4 ≤ l.length) : 0 ≤ numE l ∧ numE l < 4294967296 := by
  have h0 := byteL_at h (show 0 < l.length by omega); have h1 := byteL_at h (show 1 < l.length by omega); have h2 := byteL_at h (show 2 < l.length by omega); have h3 := byteL_at h (show 3 < l.length by omega); unfold numE; rw [getD_at (show 0 < l.length by omega), getD_at (show 1 < l.length by omega), getD_at (show 2 < l.length by omega), getD_at (show 3 < l.length by omega)]; omega
theorem numE_at {l : List Int} (h4 : 4 ≤ l.length) : numE l = (l[0] : Int) * (16777216 : Int) + (l[1] : Int) * (65536 : Int) + (l[2] : Int) * (256 : Int) + (l[3] : Int) := by
  unfold numE; rw [getD_at (show 0 < l.length by omega), getD_at (show 1 < l.length by omega), getD_at (show 2 < l.length by omega), getD_at (show 3 < l.length by omega)]
theorem gPut_ok {w_s : Value} {s : List Int} {u : Int} (h0 : 0 ≤ u) (hl : s.length ≤ 900000) : VFG Tryz.prog OA 38 [.raw w_s, .v (.int .u32) u] [(w_s, .row 5 (.int .u8) s)] (fun r g => ∃ w, r = .raw w ∧ g = [(w, .row 5 (.int .u8) (s ++ fourE u))]) := by
  refine VFG.enterGr Tryz.func38 rfl (fun _ _ => rfl) rfl ?_; show VC _ _ _ _ _ [(0, .raw w_s), (1, .v (.int .u32) u)] [(w_s, .row 5 (.int .u8) s)] _; refine VC.seq (VC.text ?_); refine VO.c (.assign rfl) ?_; refine VO.go (VC.seq (VC.text ?_)); refine VO.c (.move rfl) (VO.c (.move rfl) (VO.c ((.shr32 24 16777216 (by decide) (by decide) h0)) (VO.c (.convU8) ?_))); refine VO.c (.move rfl) (VO.c ((.shr32 16 65536 (by decide) (by decide) h0)) (VO.c (.convU8) (VO.c (.move rfl) ?_))); refine VO.c ((.shr32 8 256 (by decide) (by decide) h0)) (VO.c (.convU8) (VO.c (.move rfl) (VO.c (.convU8) ?_))); refine VO.new (.lit [(u / 16777216 % 256), (u / 65536 % 256), (u / 256 % 256), (u % 256)] el26) ?_; refine VO.app rfl rfl el26 el26 (by simp; omega) ?_; intro ww1; refine VO.c (.assign rfl) (VO.go ?_); refine VC.ret ?_; exact VEndGr.row rfl evT (by simp) ⟨ww1, rfl, (by rfl)⟩
theorem rFour_ok {u : Int} (h0 : 0 ≤ u) : VF Tryz.prog OA 52 [.v (.int .u32) u] (.v y26 (fourE u)) := by
  refine VF.enter Tryz.func52 rfl (fun _ _ => rfl) rfl ?_; show VC _ _ _ _ _ [(0, .v (.int .u32) u)] [] _; refine VC.seq (VC.text ?_); refine VO.c (.assign rfl) ?_; refine VO.go (VC.seq (VC.text ?_)); refine VO.c (.move rfl) (VO.c ((.shr32 24 16777216 (by decide) (by decide) h0)) (VO.c (.convU8) (VO.c (.move rfl) ?_))); refine VO.c ((.shr32 16 65536 (by decide) (by decide) h0)) (VO.c (.convU8) (VO.c (.move rfl) (VO.c ((.shr32 8 256 (by decide) (by decide) h0)) ?_))); refine VO.c (.convU8) (VO.c (.move rfl) (VO.c (.convU8) ?_)); refine VO.new (.lit [(u / 16777216 % 256), (u / 65536 % 256), (u / 256 % 256), (u % 256)] el26) ?_; refine VO.c (.assign rfl) (VO.go ?_); refine VC.ret ?_; exact VEnd.one rfl evT (pvE (by rfl))
theorem gNum_ok {s : List Int} (hb : byteL s) (h4 : 4 ≤ s.length) : VF Tryz.prog OA 44 [.v y26 s] (.v (.int .u32) (numE s)) := by
  refine VF.enter Tryz.func44 rfl (fun _ _ => rfl) rfl ?_; show VC _ _ _ _ _ [(0, .v y26 s)] [] _; refine VC.seq (VC.text ?_); refine VO.c (.assign rfl) ?_; refine VO.go (VC.seq (VC.drawn ?_)); have b0 := byteL_at hb (show 0 < s.length by omega); have b1 := byteL_at hb (show 1 < s.length by omega); have b2 := byteL_at hb (show 2 < s.length by omega); have b3 := byteL_at hb (show 3 < s.length by omega); refine VD.c (.move rfl) (VD.c (.ix (j := 0) rfl rfl el26 (by omega)) ?_); refine VD.r [] (.ld vt5) (.inl rfl) ?_; refine VD.c ((.convW (p := s[0]) .u32 (u32id (by omega)))) (VD.c ((.shl32 (p := s[0]) 24 16777216 (by decide) (by decide) (by omega))) (VD.c (.move rfl) (VD.nw [] ?_))); refine VD.c (.ix (j := 1) rfl rfl el26 (by omega)) ?_; refine VD.r [] (.ld vt5) (.inl rfl) ?_; refine VD.c ((.convW (p := s[1]) .u32 (u32id (by omega)))) (VD.c ((.shl32 (p := s[1]) 16 65536 (by decide) (by decide) (by omega))) (VD.c ((.or32 (p := s[0] * 16777216) (q := s[1] * 65536) (a := s[0]) 24 (by decide) rfl (by omega) (by omega))) (VD.c (.move rfl) ?_))); refine VD.c (.ix (j := 2) rfl rfl el26 (by omega)) (VD.nw [] ?_); refine VD.r [] (.ld vt5) (.inl rfl) ?_; refine VD.c ((.convW (p := s[2]) .u32 (u32id (by omega)))) (VD.c ((.shl32 (p := s[2]) 8 256 (by decide) (by decide) (by omega))) (VD.c ((.or32 (p := s[0] * 16777216 + s[1] * 65536) (q := s[2] * 256) (a := s[0] * 256 + s[1]) 16 (by decide) (by omega) (by omega) (by omega))) (VD.c (.move rfl) ?_))); refine VD.c (.ix (j := 3) rfl rfl el26 (by omega)) ?_; refine VD.r [] (.ld vt5) (.inl rfl) ?_; refine VD.nw [] (VD.c ((.convW (p := s[3]) .u32 (u32id (by omega)))) (VD.c ((.or32 (p := s[0] * 16777216 + s[1] * 65536 + s[2] * 256) (q := s[3]) (a := s[0] * 65536 + s[1] * 256 + s[2]) 8 (by decide) (by omega) (by omega) (by omega))) (VD.c (.assign rfl) ?_))); refine VD.go ?_; refine VC.ret ?_; exact VEnd.one rfl evT (pvI (by exact (numE_at h4).symm))
theorem rNum4_ok {s : List Int} (hb : byteL s) (h4 : 4 ≤ s.length) : VF Tryz.prog OA 53 [.v y26 s] (.v (.int .u32) (numE s)) := by
  refine VF.enter Tryz.func53 rfl (fun _ _ => rfl) rfl ?_; show VC _ _ _ _ _ [(0, .v y26 s)] [] _; refine VC.seq (VC.text ?_); refine VO.c (.assign rfl) ?_; refine VO.go (VC.seq (VC.drawn ?_)); have b0 := byteL_at hb (show 0 < s.length by omega); have b1 := byteL_at hb (show 1 < s.length by omega); have b2 := byteL_at hb (show 2 < s.length by omega); have b3 := byteL_at hb (show 3 < s.length by omega); refine VD.c (.move rfl) (VD.c (.ix (j := 0) rfl rfl el26 (by omega)) ?_); refine VD.r [] (.ld vt5) (.inl rfl) ?_; refine VD.c ((.convW (p := s[0]) .u32 (u32id (by omega)))) (VD.c ((.shl32 (p := s[0]) 24 16777216 (by decide) (by decide) (by omega))) (VD.c (.move rfl) (VD.nw [] ?_))); refine VD.c (.ix (j := 1) rfl rfl el26 (by omega)) ?_; refine VD.r [] (.ld vt5) (.inl rfl) ?_; refine VD.c ((.convW (p := s[1]) .u32 (u32id (by omega)))) (VD.c ((.shl32 (p := s[1]) 16 65536 (by decide) (by decide) (by omega))) (VD.c ((.add32 (p := s[0] * 16777216) (q := s[1] * 65536) (by omega))) (VD.c (.move rfl) ?_))); refine VD.c (.ix (j := 2) rfl rfl el26 (by omega)) (VD.nw [] ?_); refine VD.r [] (.ld vt5) (.inl rfl) ?_; refine VD.c ((.convW (p := s[2]) .u32 (u32id (by omega)))) (VD.c ((.shl32 (p := s[2]) 8 256 (by decide) (by decide) (by omega))) (VD.c ((.add32 (p := s[0] * 16777216 + s[1] * 65536) (q := s[2] * 256) (by omega))) (VD.c (.move rfl) ?_))); refine VD.c (.ix (j := 3) rfl rfl el26 (by omega)) ?_; refine VD.r [] (.ld vt5) (.inl rfl) ?_; refine VD.nw [] (VD.c ((.convW (p := s[3]) .u32 (u32id (by omega)))) (VD.c ((.add32 (p := s[0] * 16777216 + s[1] * 65536 + s[2] * 256) (q := s[3]) (by omega))) (VD.c (.assign rfl) ?_))); refine VD.go ?_; refine VC.ret ?_; exact VEnd.one rfl evT (pvI (by exact (numE_at h4).symm))
theorem mBits_ok {x : Nat} : VF Tryz.prog OA 39 [.v (.flt .f32) x] (.v (.int .u32) ((x : Nat) : Int)) :=
  VF.extFlt (e := Extern.MathFloatBits.float32bits) Tryz.func39 (fun _ _ => rfl) (by kernel_rfl) (by kernel_rfl) (by kernel_rfl) (w := .int .u32 ((x : Nat) : Int)) rfl fun _ _ => RepV.ofInt _ _
theorem mFrom_ok {n : Int} : VF Tryz.prog OA 45 [.v (.int .u32) n] (.v (.flt .f32) n.toNat) :=
  VF.extInt (e := Extern.MathFloatBits.float32frombits) Tryz.func45 (fun _ _ => rfl) (by kernel_rfl) (by kernel_rfl) (by kernel_rfl) (w := .float .f32 n.toNat) rfl fun _ _ => RepV.ofFlt _ _
end Go.Proofs
namespace Go.Proofs
open Go.Fs Ieee
set_option maxHeartbeats 2000000
theorem rec_name {r : Rec1} (h : recE r = 0) : 0 < r.1.size ∧ r.1.size ≤ 24 := by
  unfold recE at h; split at h
  · rename_i h1; exact absurd h h1
  rename_i h1; have h1 := firstE_zero.1 (Classical.not_not.1 h1) (whenE (!nameB r.1) 8) (by simp); rw [whenE_zero (by decide)] at h1
  have h2 : nameB r.1 = true := by simpa using h1
  have h3 := of_decide_eq_true h2; omega
def u32m (n : Int) : Int := n % 4294967296
theorem wU32 (n : Int) : IntKind.u32.wrap n = u32m n := wrapU32 n
theorem u32m_lo (n : Int) : 0 ≤ u32m n := Int.emod_nonneg _ (by decide)
def gapB (l : List (Int × Int)) : List Int := l.flatMap fun s => fourE (u32m s.1) ++ fourE (u32m s.2)
theorem gapB_next {l : List (Int × Int)} {i : Nat} (h : i < l.length) : gapB (l.take (i + 1)) = gapB (l.take i) ++ (fourE (u32m l[i].1) ++ fourE (u32m l[i].2)) := by
  unfold gapB; rw [List.take_succ_eq_append_getElem h, List.flatMap_append, List.flatMap_singleton]
theorem gapB_len : ∀ l : List (Int × Int), (gapB l).length = 8 * l.length
  | [] => rfl
  | s :: l => by
    show ((fourE (u32m s.1) ++ fourE (u32m s.2)) ++ gapB l).length = _; rw [List.length_append, gapB_len l]; simp only [fourE, List.length_append, List.length_cons, List.length_nil]; omega
def levB (l : List Nat) : List Int := l.flatMap fun x => fourE ((plusZ x : Nat) : Int)
theorem levB_next {l : List Nat} {i : Nat} (h : i < l.length) : levB (l.take (i + 1)) = levB (l.take i) ++ fourE ((plusZ l[i] : Nat) : Int) := by
  unfold levB; rw [List.take_succ_eq_append_getElem h, List.flatMap_append, List.flatMap_singleton]
theorem levB_len : ∀ l : List Nat, (levB l).length = 4 * l.length
  | [] => rfl
  | x :: l => by
    show (fourE _ ++ levB l).length = _; rw [List.length_append, levB_len l]; simp only [fourE, List.length_cons, List.length_nil]; omega
def headB (r : Rec1) : List Int := [84, 73, 68, 69] ++ [(r.1.size : Int) % 256] ++ bytesI r.1
def numB (r : Rec1) : List Int := headB r ++ fourE (u32m r.2.1) ++ fourE (u32m (r.2.2.1.length : Nat)) ++ fourE (u32m (r.2.2.2.length : Nat))
def encR (r : Rec1) : List Int := numB r ++ gapB r.2.2.2 ++ levB r.2.2.1
theorem headB_len (r : Rec1) : (headB r).length = 5 + r.1.size := by
  unfold headB; rw [List.length_append, bytesI_len] <;> rfl
theorem numB_len (r : Rec1) : (numB r).length = 17 + r.1.size := by
  unfold numB; simp only [List.length_append, headB_len, fourE_len]; omega
theorem rEnc_ok {r : ByteArray × Int × (List Nat) × (List (Int × Int))} (hr : recE r = 0) : VF Tryz.prog OA 12 [.v y25 r] (.v y26 (encR r)) := by
  refine VF.enter Tryz.func12 rfl (fun _ _ => rfl) rfl ?_; show VC _ _ _ _ _ [(0, .v y25 r)] [] _; refine VC.seq (VC.text ?_); obtain ⟨hs, hl, hg, hv, hsp⟩ := rec_ok hr; obtain ⟨hn0, hn1⟩ := rec_name hr; refine VO.new (.box) ?_; refine VO.c (.assign rfl) ?_; refine VO.go (VC.seq (VC.text ?_)); refine VO.litB [(84 : Int), (73 : Int), (68 : Int), (69 : Int)] el26 (by kernel_rfl) (by kernel_rfl) ?_; intro wv1 ww1; refine VO.c (.fa (.l .o)) ?_; refine VO.r (.ld vt9) ?_; refine VO.r (.lenS) ?_; refine VO.c (.convU8) ?_; refine VO.new (.lit [((r.1.size : Int) % 256)] el26) ?_; refine VO.app rfl rfl el26 el26 (by simp) ?_; intro ww2; refine VO.c (.assign rfl) ?_; refine VO.go (VC.seq (VC.text ?_)); refine VO.c (.move rfl) (VO.c (.fa (.l .o)) ?_); refine VO.r (.ld vt9) ?_; refine VO.tbytes (e1 := 5) (u1 := .string) rfl (hn0) (by kernel_rfl) (by kernel_rfl) (by kernel_rfl) (by kernel_rfl) ?_; refine VO.app rfl rfl el26 el26 (by simp only [List.length_append, List.length_cons, List.length_nil, bytesI_len, fourE_len]; omega) ?_; intro ww3; refine VO.c (.assign rfl) ?_; refine VO.go (VC.seq (VC.text ?_)); refine VO.c (.move rfl) (VO.c (.fa (.r (.l .o))) ?_); refine VO.r (.ld vt3) ?_; refine VO.c ((.convW .u32 (wU32 r.2.1))) ?_; refine VO.call rfl rfl (VF.call (rFour_ok (u32m_lo _))) ?_; refine VO.app rfl rfl el26 el26 (by simp only [List.length_append, List.length_cons, List.length_nil, bytesI_len, fourE_len]; omega) ?_; intro ww4; refine VO.c (.assign rfl) ?_; refine VO.go (VC.seq (VC.text ?_)); refine VO.c (.move rfl) (VO.c (.fa (.r (.r (.l .o)))) ?_); refine VO.r (.ld vt22) ?_; refine VO.r (.len el22) ?_; refine VO.c ((.convW .u32 (wU32 (r.2.2.1.length : Nat)))) ?_; refine VO.call rfl rfl (VF.call (rFour_ok (u32m_lo _))) ?_; refine VO.app rfl rfl el26 el26 (by simp only [List.length_append, List.length_cons, List.length_nil, bytesI_len, fourE_len]; omega) ?_; intro ww5; refine VO.c (.assign rfl) ?_; refine VO.go (VC.seq ?_); refine VC.keep [(1, .p y25 r), (3, .raw ww5)] ⟨rfl, rfl, trivial⟩ ?_; refine VC.text ?_; refine VO.c (.move rfl) (VO.c (.fa (.r (.r (.r .o)))) ?_); refine VO.r (.ld vt23) ?_; refine VO.r (.len el23) ?_; refine VO.c ((.convW .u32 (wU32 (r.2.2.2.length : Nat)))) ?_; refine VO.call rfl rfl (VF.call (rFour_ok (u32m_lo _))) ?_; refine VO.app rfl rfl el26 el26 (by simp only [List.length_append, List.length_cons, List.length_nil, bytesI_len, fourE_len]; omega) ?_; intro ww6; refine VO.c (.assign rfl) ?_; refine VO.go (VC.seq (VC.seq (VC.text ?_))); refine VO.c (.assign rfl) ?_; rw [show [(84 : Int), 73, 68, 69] ++ [((r.1.size : Int) % 256)] ++ bytesI r.1 ++ fourE (u32m r.2.1) ++ fourE (u32m (r.2.2.1.length : Nat)) ++ fourE (u32m (r.2.2.2.length : Nat)) = numB r ++ gapB (r.2.2.2.take 0) from (List.append_nil (numB r)).symm]; refine VO.go (VC.block ?_); refine VC.keep [(1, .p y25 r), (3, .raw ww6), (4, I ((0 : Nat) : Int))] ⟨rfl, rfl, rfl, trivial⟩ ?_; refine VC.loop (I := fun kk ff ss => ∃ (i : Nat) (out : Value), kk = r.2.2.2.length - i ∧ ff = [(1, .p y25 r), (3, .raw out), (4, I ((i : Nat) : Int))] ∧ ss = [(out, .row 5 (.int .u8) (numB r ++ gapB (r.2.2.2.take i)))] ∧ (i ≤ r.2.2.2.length)) ?_ _ _ _ ⟨0, ww6, rfl, rfl, rfl, Nat.zero_le _⟩; rintro kk ff ss ⟨i, out, hk0, rfl, rfl, hi⟩; refine VC.seq (VC.seq (VC.text ?_)); refine VO.c (.move rfl) (VO.c (.fa (.r (.r (.r .o)))) ?_); refine VO.r (.ld vt23) ?_; refine VO.r (.len el23) ?_; refine VO.c (.lss) (VO.go ?_); refine VC.condD rfl (fun c7 => ?_) (fun c7 => ?_)
  · refine VC.skip (VC.seq (VC.block ?_)); refine VC.late [] ⟨[(out, .row 5 (.int .u8) (numB r ++ gapB (r.2.2.2.take i)))], rfl⟩ ?_; refine VLt.cR (.move rfl) ?_; refine VLt.c (.fa (.r (.r (.r .o)))) ?_; refine VLt.q rfl (.ld vt23) ?_; refine VLt.c (.move rfl) ?_; refine VLt.c (.ix (j := i) rfl rfl el23 (by omega)) ?_; refine VLt.c (.fa (.l .o)) ?_; refine VLt.nws [] ?_; refine VLt.q rfl (.ld vt3) ?_; refine VLt.c ((.convW .u32 (wU32 r.2.2.2[i].1))) ?_; refine VLt.callO rfl rfl (VF.call (rFour_ok (u32m_lo _))) ?_; refine VLt.mk (MakeV.app el26 el26 rfl rfl (by have := gapB_len (r.2.2.2.take i); have := numB_len r; have := List.length_take_le i r.2.2.2; simp only [List.length_append, fourE_len] at *; omega)) (TurnV.app rfl) ⟨[], rfl⟩ ?_; rintro _ _ ⟨ww7, rfl, rfl⟩; refine ⟨⟨[(ww7, .row 5 (.int .u8) ((numB r ++ gapB (r.2.2.2.take i)) ++ fourE (u32m r.2.2.2[i].1)))], rfl⟩, ?_⟩; refine VLt.c (.fa (.r (.r (.r .o)))) ?_; refine VLt.q rfl (.ld vt23) ?_; refine VLt.c (.move rfl) ?_; refine VLt.nws [55, 54] ?_; refine VLt.c (.ix (j := i) rfl rfl el23 (by omega)) ?_; refine VLt.c (.fa (.r .o)) ?_; refine VLt.q rfl (.ld vt3) ?_; refine VLt.c ((.convW .u32 (wU32 r.2.2.2[i].2))) ?_; refine VLt.callO rfl rfl (VF.call (rFour_ok (u32m_lo _))) ?_; refine VLt.mk (MakeV.app el26 el26 rfl rfl (by have := gapB_len (r.2.2.2.take i); have := numB_len r; have := List.length_take_le i r.2.2.2; simp only [List.length_append, fourE_len] at *; omega)) (TurnV.app rfl) ⟨[], rfl⟩ ?_; rintro _ _ ⟨ww8, rfl, rfl⟩; refine ⟨⟨[(ww8, .row 5 (.int .u8) (((numB r ++ gapB (r.2.2.2.take i)) ++ fourE (u32m r.2.2.2[i].1)) ++ fourE (u32m r.2.2.2[i].2)))], rfl⟩, ?_⟩; refine VLt.cR (.assign rfl) ?_; refine VLt.nil ?_; refine VC.text ?_; refine VO.c (.move rfl) (VO.c (.add rfl rfl (by omega)) (VO.c (.assign rfl) ?_)); refine VO.nil ?_; refine ⟨_, [(1, .p y25 r), (3, .raw ww8), (4, I (((i + 1) : Nat) : Int))], ?_, ⟨rfl, rfl, rfl, trivial⟩, (i + 1), ww8, rfl, rfl, (by first | (rw [gapB_next (by omega)]; simp only [List.append_assoc]; done) | (rw [levB_next (by omega)]; simp only [List.append_assoc]; done)), (by omega)⟩; omega
  refine VC.exit (VC.seq (VC.seq (VC.text ?_))); refine VO.c (.assign rfl) ?_; rw [show numB r ++ gapB (r.2.2.2.take i) = numB r ++ gapB r.2.2.2 ++ levB (r.2.2.1.take 0) by rw [List.take_of_length_le (show r.2.2.2.length ≤ i by omega)]; exact (List.append_nil _).symm]; refine VO.go (VC.block ?_); refine VC.keep [(1, .p y25 r), (3, .raw out), (5, I ((0 : Nat) : Int))] ⟨rfl, rfl, rfl, trivial⟩ ?_; refine VC.loop (I := fun kk ff ss => ∃ (i : Nat) (out : Value), kk = r.2.2.1.length - i ∧ ff = [(1, .p y25 r), (3, .raw out), (5, I ((i : Nat) : Int))] ∧ ss = [(out, .row 5 (.int .u8) (numB r ++ gapB r.2.2.2 ++ levB (r.2.2.1.take i)))] ∧ (i ≤ r.2.2.1.length)) ?_ _ _ _ ⟨0, out, rfl, rfl, rfl, Nat.zero_le _⟩; rintro kk ff ss ⟨i, out, hk2, rfl, rfl, hi⟩; refine VC.seq (VC.seq (VC.text ?_)); refine VO.c (.move rfl) (VO.c (.fa (.r (.r (.l .o)))) ?_); refine VO.r (.ld vt22) ?_; refine VO.r (.len el22) ?_; refine VO.c (.lss) (VO.go ?_); refine VC.condD rfl (fun c11 => ?_) (fun c11 => ?_)
  · have hil : i < r.2.2.1.length := by omega
    have hpz : single.add r.2.2.1[i] 0 = some (plusZ r.2.2.1[i]) := (plusZ_ok (hv _ (List.getElem_mem hil))).1; refine VC.skip (VC.seq (VC.block (VC.text ?_))); refine VO.c (.move rfl) (VO.c (.fa (.r (.r (.l .o)))) ?_); refine VO.r (.ld vt22) ?_; refine VO.c (.move rfl) (VO.c (.ix (j := i) rfl rfl el22 (by omega)) ?_); refine VO.r (.ld vt68) ?_; refine VO.c (.fop (add32E hpz)) ?_; refine VO.call rfl rfl (VF.call (mBits_ok )) ?_; refine VO.call rfl rfl (VF.call (rFour_ok (Int.natCast_nonneg _))) ?_; refine VO.app rfl rfl el26 el26 (by have := levB_len (r.2.2.1.take i); have := gapB_len r.2.2.2; have := numB_len r; have := List.length_take_le i r.2.2.1; simp only [List.length_append, fourE_len] at *; omega) ?_; intro ww9; refine VO.c (.assign rfl) ?_; refine VO.nil (VC.text ?_); refine VO.c (.move rfl) (VO.c (.add rfl rfl (by omega)) (VO.c (.assign rfl) ?_)); refine VO.nil ?_; refine ⟨_, [(1, .p y25 r), (3, .raw ww9), (5, I (((i + 1) : Nat) : Int))], ?_, ⟨rfl, rfl, rfl, trivial⟩, (i + 1), ww9, rfl, rfl, (by first | (rw [gapB_next (by omega)]; simp only [List.append_assoc]; done) | (rw [levB_next (by omega)]; simp only [List.append_assoc]; done)), (by omega)⟩; omega
  refine VC.exit (VC.seq (VC.text ?_)); refine VO.c (.move rfl) (VO.c (.assign rfl) (VO.go ?_)); refine VC.ret ?_; exact VEnd.one rfl (evC (.row m0)) (pvE (by rw [List.take_of_length_le (show r.2.2.1.length ≤ i by omega)] <;> rfl))
end Go.Proofs
