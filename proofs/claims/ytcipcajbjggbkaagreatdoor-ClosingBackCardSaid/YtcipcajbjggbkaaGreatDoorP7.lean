/- Parts of the proof: an evaluator of the model, what it is sound for, and contracts of functions. No condition. -/
import Derived.Test.YtcipcajbjggbkaaGreatDoorP6
import Derived.Test.YtcipcajbjggbkaaGreatDoorP3
import Derived.Test.YtcipcajbjggbkaaGreatDoorP2
import Derived.Shelf.Strings.Builder1
import Derived.Shelf.Strings.Builder2
import Derived.Shelf.Strings.OnBuilder
import Derived.Shelf.Small.Bits
import Derived.Shelf.Strings.BuilderF
import Derived.Shelf.Strconv.Itoa0
import Derived.Shelf.Strconv.Itoa1
import Derived.Shelf.LaysM
import Derived.Shelf.Strconv.Itoa2
import Derived.Shelf.Strconv.Itoa3
import Derived.Test.YtcipcajbjggbkaaGreatDoorProg
import Derived.Lib.AppendIntMem
import Derived.Test.YtcipcajbjggbkaaGreatDoorChecked
import Derived.KernelRfl
import Derived.Test.YtcipcajbjggbkaaGreatDoorRows
import Derived.LaidMore
import Derived.LaidSub
import Derived.ChangeSame
import Derived.Lib.LaidTab
import Derived.Stop.LaidErr
import Derived.Test.YtcipcajbjggbkaaGreatDoorCards
import Derived.Test.YtcipcajbjggbkaaGreatDoorTie
import Derived.Test.YtcipcajbjggbkaaGreatDoorP5
import Derived.WalkKit
import Derived.ProofKit
import Derived.Deep.DeepHandedRow
import Derived.Lib.LaidIn
set_option linter.all false
namespace Go.Proofs
open Go.Fs
set_option maxHeartbeats 1000000
theorem prt_eq {l : List Pha} : prtA ByteArray.empty l = txt l := by
  rw [prt_txt, ByteArray.empty_append]
theorem txt_size {l : List Pha} (h : planE l = 0) : (txt l).size < 100000 := by
  have h1 := prtA_size (l := l) (s := ByteArray.empty) fun x hx => (plan_ph h x hx).1.1; have h2 := (plan_ok h).len; have z0 : ByteArray.empty.size = 0 := rfl; rw [prt_eq] at h1; omega
theorem back_prs {l : List Pha} (h : planE l = 0) : (prs (splS 10 (txt l)) [] 0).1 = some l := by
  rw [prs_txt (plan_ph h)] <;> rfl
theorem back_R {l : List Pha} (h : planE l = 0) : prsR planE (txt l) = l ∧ prsN planE (txt l) = 0 ∧ prsE planE (txt l) = 0 := by
  obtain ⟨e1, e2, e3⟩ := prsR_some (chk := planE) (txt_size h) (back_prs h); rw [e1, e2, e3, if_neg (Classical.not_not.2 h), if_neg (Classical.not_not.2 h)]; exact ⟨rfl, rfl, h⟩
theorem back_lines {l : List Pha} (h : planE l = 0) : (splS 10 (txt l)).length = l.length + 1 := by
  rw [splS_txt fun x hx => (plan_ph h x hx).1]; simp
theorem same_text {s : ByteArray} (hs : s.size < 100000) (h : prsE planE s = 0) : prtR (prsR planE s) = s := by
  cases hp : prs (splS 10 s) [] 0 with
  | mk o i =>
    cases o with
    | none => 
      have := (prsR_none (chk := planE) hs hp).2.2
      rw [this] at h; cases h
    | some l =>
      obtain ⟨e1, e2, e3⟩ := prsR_some (chk := planE) hs (by rw [hp]); rw [e3] at h; rw [e1, if_neg (Classical.not_not.2 h)]; obtain ⟨r, h1, h2, h3⟩ := txt_prs (s.size + 1) (Nat.lt_succ_self _) hp; rw [List.nil_append] at h1; subst h1; rw [prtR, if_pos h, prt_eq, h2]
theorem short_text {l : List Pha} (h : planE l = 0) (hn : txt l ≠ ByteArray.empty) : prsE planE ((txt l).extract 0 ((txt l).size - 1)) = 26 ∧ prsN planE ((txt l).extract 0 ((txt l).size - 1)) = ((l.length : Nat) : Int) - 1 := by
  have hl : l ≠ [] := fun e => by subst e; exact hn rfl
  obtain ⟨r, x, rfl⟩ : ∃ r x, l = r ++ [x] := ⟨l.dropLast, l.getLast hl, (List.dropLast_concat_getLast hl).symm⟩; have hsz := txt_size h; have hp := plan_ph h; rw [txt_cut]
  have hsz2 : (txt r ++ joinS 32 (wrds x)).size < 100000 := by
    rw [txt_snoc, ByteArray.size_append, ByteArray.size_append] at hsz; rw [ByteArray.size_append]; omega
  obtain ⟨e1, e2, e3⟩ := prsR_none (chk := planE) hsz2 (prs_short hp); rw [e2, e3, List.length_append]; exact ⟨rfl, by simp⟩
theorem txt_nil {l : List Pha} (h : planE l = 0) (he : txt l = ByteArray.empty) : l.length = 0 := by
  have h1 := back_lines h; rw [he] at h1; have : (splS 10 ByteArray.empty).length = 1 := rfl; omega
theorem lawBack_ok {l : List (ByteArray × Int × Int × (List Int))} {s : ByteArray} (hl : l.length ≤ 9223372036854775807) : VF Tryz.prog OA 4 [.v y22 l, St s] (B true) := by
  refine VF.enter Tryz.func4 rfl (fun _ _ => rfl) rfl ?_; show VC _ _ _ _ _ [(0, .v y22 l), (1, St s)] [] _; refine VC.seq (VC.text ?_); refine VO.c (.assign rfl) ?_; refine VO.go (VC.seq (VC.seq (VC.text ?_))); refine VO.call rfl rfl (VF.call (awake_ok )) ?_; refine VO.c (.not) (VO.c (.move rfl) (VO.c (.move rfl) ?_)); refine VO.call rfl rfl (VF.call (rShortP_ok hl)) ?_; refine VO.c (.not) (VO.c (.pickF rfl rfl) (VO.c (.move rfl) ?_)); refine VO.cg (r := (!(shortP l))) (w := false) [] trivial (fun _ => (.move rfl)) ?_; refine VO.callg (r0 := (!(shortP l))) (w := false) [(26, .v y22 l)] ⟨rfl, trivial⟩ rfl rfl .same .refl rfl (fun hgd => have g1_7 : (!(shortP l)) = false := (by simpa using hgd); VF.call (rPlan_ok (shortP_l (by simpa using g1_7)) (shortP_b (by simpa using g1_7)))) ?_; refine VO.cg (r := (!(shortP l))) (w := false) [(27, I (planE l))] ⟨rfl, trivial⟩ (fun _ => (.neq)) ?_; refine VO.c (.or) (VO.c (.move rfl) ?_); refine VO.cg (r := ((!(shortP l)) || (decide (planE l ≠ (0 : Int))))) (w := false) [] trivial (fun _ => (.move rfl)) ?_; refine VO.rg (r := ((!(shortP l)) || (decide (planE l ≠ (0 : Int))))) (w := false) [(31, St s)] ⟨rfl, trivial⟩ (fun _ => (.lenS)) ?_; refine VO.cg (r := ((!(shortP l)) || (decide (planE l ≠ (0 : Int))))) (w := false) [(32, I ((s.size : Nat) : Int))] ⟨rfl, trivial⟩ (fun _ => (.gtr)) ?_; refine VO.c (.or) (VO.go ?_); refine VC.condB rfl (fun c1 => ?_) (fun c1 => ?_)
  · try simp only [Bool.and_eq_true, Bool.or_eq_true, Bool.and_eq_false_iff, Bool.or_eq_false_iff, Bool.not_eq_true', Bool.not_eq_false', decide_eq_true_eq, decide_eq_false_iff_not] at c1
    refine VC.seq (VC.text ?_); refine VO.call rfl rfl (VF.call (awake_ok )) ?_; refine VO.c (.assign rfl) (VO.go ?_); refine VC.ret ?_; exact VEnd.one rfl evT (pvE (by rfl))
  try simp only [Bool.and_eq_true, Bool.or_eq_true, Bool.and_eq_false_iff, Bool.or_eq_false_iff, Bool.not_eq_true', Bool.not_eq_false', decide_eq_true_eq, decide_eq_false_iff_not] at c1
  have hsh : shortP l = true := by simp at c1; exact c1.1.1
  have hs3 : s.size ≤ 300 := by simp at c1; omega
  have hl7 := shortP_l hsh; have hb8 := shortP_b hsh
  have hz : planE l = 0 := by simp at c1; exact c1.1.2
  have hpr : prtR l = txt l := by rw [prtR, if_pos hz, prt_eq]
  have hsz := txt_size hz; have hbl := back_lines hz; have hbl' : (splS (c8 10) (txt l)).length = l.length + 1 := hbl; obtain ⟨b1, b2, b3⟩ := back_R hz; have hq := plan_few (prsR_z (s := s)); refine VC.skip (VC.seq (VC.text ?_)); refine VO.c (.move rfl) ?_; refine VO.call rfl rfl (VF.call (lPlan_ok hl7 hb8)) ?_; refine VO.call rfl rfl (VF.call (cPrint_ok hl7 hb8)) ?_; refine VO.c (.move rfl) (VO.c (.extract) (VO.c (.extract) (VO.c (.assign rfl) ?_))); refine VO.c (.assign rfl) ?_; refine VO.go (VC.seq (VC.text ?_)); refine VO.keep [(0, .v y22 l), (1, St s), (5, St (txt l)), (6, I 0)] ⟨rfl, rfl, slE rfl hpr, slI rfl hz, trivial⟩ ?_; refine VO.c (.move rfl) ?_; refine VO.call rfl rfl (VF.call (cParse_ok hsz)) ?_; refine VO.c (.move rfl) (VO.c (.extract) (VO.c (.extract) (VO.c (.extract) ?_))); refine VO.c (.assign rfl) (VO.c (.assign rfl) (VO.c (.assign rfl) ?_)); refine VO.go (VC.seq (VC.seq (VC.text ?_))); refine VO.keep [(0, .v y22 l), (1, St s), (5, St (txt l)), (6, I 0), (7, .v y28 l), (8, I 0), (9, I 0)] ⟨rfl, rfl, rfl, rfl, slE rfl b1, slI rfl b2, slI rfl b3, trivial⟩ ?_; refine VO.c (.move rfl) (VO.c (.neq) (VO.c (.move rfl) ?_)); refine VO.cg (r := decide ((0 : Int) ≠ (0 : Int))) (w := false) [] trivial (fun _ => (.move rfl)) ?_; refine VO.cg (r := decide ((0 : Int) ≠ (0 : Int))) (w := false) [(51, I (0 : Int))] ⟨rfl, trivial⟩ (fun _ => (.neq)) ?_; refine VO.c (.or) (VO.c (.move rfl) ?_); refine VO.cg (r := ((decide ((0 : Int) ≠ (0 : Int))) || (decide ((0 : Int) ≠ (0 : Int))))) (w := false) [] trivial (fun _ => (.move rfl)) ?_; refine VO.cg (r := ((decide ((0 : Int) ≠ (0 : Int))) || (decide ((0 : Int) ≠ (0 : Int))))) (w := false) [(55, I (0 : Int))] ⟨rfl, trivial⟩ (fun _ => (.neq)) ?_; refine VO.c (.or) (VO.c (.move rfl) ?_); refine VO.splitB (x := 58) rfl (fun g5_10 => ?_) (fun g5_10 => ?_)
  · try simp only [Bool.and_eq_true, Bool.or_eq_true, Bool.and_eq_false_iff, Bool.or_eq_false_iff, Bool.not_eq_true', Bool.not_eq_false', decide_eq_true_eq, decide_eq_false_iff_not] at g5_10
    refine VO.skip (VO.skip (VO.skip (VO.skip ?_))); refine VO.skip (VO.c (.pickT rfl rfl) (VO.c (.move rfl) (VO.skip ?_))); refine VO.skip (VO.skip (VO.skip (VO.skip ?_))); refine VO.skip (VO.skip (VO.c (.pickT rfl rfl) (VO.go ?_))); refine VC.condT rfl ?_; refine VC.seq ?_; refine VC.keep [(0, .v y22 l), (1, St s), (5, St (txt l))] ⟨rfl, rfl, rfl, trivial⟩ ?_; refine VC.text ?_; refine VO.c (.assign rfl) (VO.go ?_); refine VC.ret ?_; exact VEnd.one rfl evT (pvE (by exfalso; first | (simp at g5_10; done) | (simp at g5_17; done) | (simp at c5; done) | (simp [hbl] at c5; done) | omega))
  try simp only [Bool.and_eq_true, Bool.or_eq_true, Bool.and_eq_false_iff, Bool.or_eq_false_iff, Bool.not_eq_true', Bool.not_eq_false', decide_eq_true_eq, decide_eq_false_iff_not] at g5_10
  refine VO.c (.move rfl) ?_; refine VO.call rfl rfl (VF.call (lOwn_ok (by first | assumption | omega | simp))) ?_; refine VO.c (.move rfl) ?_; refine VO.call rfl rfl (VF.call (rSamePl_ok (by first | assumption | omega | simp) (by first | assumption | omega | simp))) ?_; refine VO.c (.not) (VO.c (.pickF rfl rfl) (VO.c (.move rfl) ?_)); refine VO.splitB (x := 65) rfl (fun g5_17 => ?_) (fun g5_17 => ?_)
  · try simp only [Bool.and_eq_true, Bool.or_eq_true, Bool.and_eq_false_iff, Bool.or_eq_false_iff, Bool.not_eq_true', Bool.not_eq_false', decide_eq_true_eq, decide_eq_false_iff_not] at g5_17
    refine VO.skip (VO.skip (VO.skip (VO.skip ?_))); refine VO.skip (VO.skip (VO.skip (VO.c (.pickT rfl rfl) ?_))); refine VO.go ?_; refine VC.condT rfl ?_; refine VC.seq ?_; refine VC.keep [(0, .v y22 l), (1, St s), (5, St (txt l))] ⟨rfl, rfl, rfl, trivial⟩ ?_; refine VC.text ?_; refine VO.c (.assign rfl) (VO.go ?_); refine VC.ret ?_; exact VEnd.one rfl evT (pvE (by exfalso; first | (simp at g5_10; done) | (simp at g5_17; done) | (simp at c5; done) | (simp [hbl] at c5; done) | omega))
  try simp only [Bool.and_eq_true, Bool.or_eq_true, Bool.and_eq_false_iff, Bool.or_eq_false_iff, Bool.not_eq_true', Bool.not_eq_false', decide_eq_true_eq, decide_eq_false_iff_not] at g5_17
  refine VO.c (.move rfl) ?_; refine VO.call rfl rfl (VF.call (rSplit_ok (by first | assumption | omega | simp) (by first | assumption | omega | simp))) ?_; refine VO.r (.len el39) ?_; refine VO.c (.move rfl) ?_; refine VO.r (.len el22) ?_; refine VO.c (.add rfl rfl (by omega)) (VO.c (.neq) (VO.c (.pickF rfl rfl) (VO.go ?_))); refine VC.condD rfl (fun c5 => ?_) (fun c5 => ?_)
  · refine VC.seq ?_; refine VC.keep [(0, .v y22 l), (1, St s), (5, St (txt l))] ⟨rfl, rfl, rfl, trivial⟩ ?_; refine VC.text ?_; refine VO.c (.assign rfl) (VO.go ?_); refine VC.ret ?_; exact VEnd.one rfl evT (pvE (by exfalso; first | (simp at g5_10; done) | (simp at g5_17; done) | (simp at c5; done) | (simp [hbl] at c5; done) | omega))
  refine VC.skip (VC.seq (VC.seq ?_)); refine VC.keep [(0, .v y22 l), (1, St s), (5, St (txt l))] ⟨rfl, rfl, rfl, trivial⟩ ?_; refine VC.text ?_; refine VO.c (.move rfl) ?_; refine VO.call rfl rfl (VF.call (cParse_ok (by omega))) ?_; refine VO.c (.move rfl) (VO.c (.extract) (VO.c (.extract) (VO.c (.extract) ?_))); refine VO.c (.assign rfl) (VO.c (.assign rfl) (VO.c (.assign rfl) ?_)); refine VO.go (VC.seq (VC.text ?_)); refine VO.c (.move rfl) (VO.c (.eql) (VO.go ?_)); refine VC.condD rfl (fun c8 => ?_) (fun c8 => ?_)
  · have hst := same_text (s := s) (by omega) c8; have hpz := prsR_z (s := s); refine VC.seq (VC.text ?_); refine VO.c (.move rfl) ?_; refine VO.call rfl rfl (VF.call (cPrint_ok hq.1 hq.2)) ?_; refine VO.c (.move rfl) (VO.c (.extract) (VO.c (.extract) (VO.c (.assign rfl) ?_))); refine VO.c (.assign rfl) ?_; refine VO.go (VC.seq (VC.text ?_)); refine VO.keep [(0, .v y22 l), (1, St s), (5, St (txt l)), (13, St s), (14, I 0)] ⟨rfl, rfl, rfl, slE rfl hst, slI rfl hpz, trivial⟩ ?_; refine VO.c (.move rfl) (VO.c (.neq) (VO.c (.move rfl) ?_)); refine VO.cg (r := decide ((0 : Int) ≠ (0 : Int))) (w := false) [] trivial (fun _ => (.move rfl)) ?_; refine VO.cg (r := decide ((0 : Int) ≠ (0 : Int))) (w := false) [] trivial (fun _ => (.move rfl)) ?_; refine VO.cg (r := decide ((0 : Int) ≠ (0 : Int))) (w := false) [(90, St s), (91, St s)] ⟨rfl, rfl, trivial⟩ (fun _ => (.sneq)) ?_; refine VO.c (.or) (VO.go ?_); refine VC.condB rfl (fun c10 => ?_) (fun c10 => ?_)
    · try simp only [Bool.and_eq_true, Bool.or_eq_true, Bool.and_eq_false_iff, Bool.or_eq_false_iff, Bool.not_eq_true', Bool.not_eq_false', decide_eq_true_eq, decide_eq_false_iff_not] at c10
      refine VC.seq (VC.text ?_); refine VO.c (.assign rfl) (VO.go ?_); refine VC.ret ?_; exact VEnd.one rfl evT (pvE (by exfalso; first | (simp at c10; done) | omega))
    try simp only [Bool.and_eq_true, Bool.or_eq_true, Bool.and_eq_false_iff, Bool.or_eq_false_iff, Bool.not_eq_true', Bool.not_eq_false', decide_eq_true_eq, decide_eq_false_iff_not] at c10
    refine VC.skip (VC.seq (VC.seq (VC.text ?_))); refine VO.c (.move rfl) (VO.c (.seql) (VO.go ?_)); refine VC.condD rfl (fun c12 => ?_) (fun c12 => ?_)
    · have hnl := txt_nil hz c12; refine VC.seq (VC.text ?_); refine VO.c (.move rfl) ?_; refine VO.r (.len el22) ?_; refine VO.c (.eql) (VO.c (.assign rfl) (VO.go ?_)); refine VC.ret ?_; exact VEnd.one rfl evT (pvE (by first | (simp [hnl]; done) | (rw [hnl]; rfl)))
    have hnz := size_empty.1 c12
    have hen : ((((txt l).size : Nat) : Int) - (1 : Int)).toNat = (txt l).size - 1 := by omega
    have hsc : prsE planE ((txt l).extract 0 ((((txt l).size : Nat) : Int) - (1 : Int)).toNat) = 26 ∧ prsN planE ((txt l).extract 0 ((((txt l).size : Nat) : Int) - (1 : Int)).toNat) = ((l.length : Nat) : Int) - 1 := by
      rw [hen]; exact short_text hz c12
    refine VC.skip (VC.seq (VC.text ?_)); refine VO.c (.move rfl) (VO.c (.move rfl) ?_); refine VO.r (.lenS) ?_; refine VO.c (.sub rfl rfl (by omega)) ?_; refine VO.r (.cutHS (by kernel_rfl) rfl rfl (by omega)) ?_; refine VO.call rfl rfl (VF.call (cParse_ok (by rw [hen, ← toL_len, toL_take, List.length_take, toL_len]; omega))) ?_; refine VO.c (.move rfl) (VO.c (.extract) (VO.c (.extract) (VO.c (.extract) ?_))); refine VO.c (.assign rfl) (VO.c (.assign rfl) (VO.c (.assign rfl) ?_)); refine VO.go (VC.seq ?_); refine VC.keep [(0, .v y22 l), (16, I (prsN planE ((txt l).extract 0 (((((txt l).size : Nat) : Int) - (1 : Int))).toNat))), (17, I (prsE planE ((txt l).extract 0 (((((txt l).size : Nat) : Int) - (1 : Int))).toNat)))] ⟨rfl, rfl, rfl, trivial⟩ ?_; refine VC.text ?_; refine VO.c (.move rfl) (VO.c (.eql) (VO.c (.move rfl) ?_)); refine VO.cg (r := decide (prsE planE ((txt l).extract 0 (((((txt l).size : Nat) : Int) - (1 : Int))).toNat) = (26 : Int))) (w := true) [] trivial (fun _ => (.move rfl)) ?_; refine VO.cg (r := decide (prsE planE ((txt l).extract 0 (((((txt l).size : Nat) : Int) - (1 : Int))).toNat) = (26 : Int))) (w := true) [] trivial (fun _ => (.move rfl)) ?_; refine VO.rg (r := decide (prsE planE ((txt l).extract 0 (((((txt l).size : Nat) : Int) - (1 : Int))).toNat) = (26 : Int))) (w := true) [(113, .v y22 l)] ⟨rfl, trivial⟩ (fun _ => (.len el22)) ?_; refine VO.cg (r := decide (prsE planE ((txt l).extract 0 (((((txt l).size : Nat) : Int) - (1 : Int))).toNat) = (26 : Int))) (w := true) [(114, I ((l.length : Nat) : Int))] ⟨rfl, trivial⟩ (fun hgd => have g15_2 : prsE planE ((txt l).extract 0 (((((txt l).size : Nat) : Int) - (1 : Int))).toNat) = (26 : Int) := (by simpa using hgd); (.sub rfl rfl (by omega))) ?_; refine VO.cg (r := decide (prsE planE ((txt l).extract 0 (((((txt l).size : Nat) : Int) - (1 : Int))).toNat) = (26 : Int))) (w := true) [(112, I (prsN planE ((txt l).extract 0 (((((txt l).size : Nat) : Int) - (1 : Int))).toNat))), (115, I (((l.length : Nat) : Int) - (1 : Int)))] ⟨rfl, rfl, trivial⟩ (fun _ => (.eql)) ?_; refine VO.c (.and) (VO.c (.assign rfl) (VO.go ?_)); refine VC.ret ?_; exact VEnd.one rfl evT (pvE (by rw [hsc.1, hsc.2]; simp))
  refine VC.skip (VC.seq (VC.seq (VC.text ?_))); refine VO.c (.move rfl) (VO.c (.seql) (VO.go ?_)); refine VC.condD rfl (fun c12 => ?_) (fun c12 => ?_)
  · have hnl := txt_nil hz c12; refine VC.seq (VC.text ?_); refine VO.c (.move rfl) ?_; refine VO.r (.len el22) ?_; refine VO.c (.eql) (VO.c (.assign rfl) (VO.go ?_)); refine VC.ret ?_; exact VEnd.one rfl evT (pvE (by first | (simp [hnl]; done) | (rw [hnl]; rfl)))
  have hnz := size_empty.1 c12
  have hen : ((((txt l).size : Nat) : Int) - (1 : Int)).toNat = (txt l).size - 1 := by omega
  have hsc : prsE planE ((txt l).extract 0 ((((txt l).size : Nat) : Int) - (1 : Int)).toNat) = 26 ∧ prsN planE ((txt l).extract 0 ((((txt l).size : Nat) : Int) - (1 : Int)).toNat) = ((l.length : Nat) : Int) - 1 := by
    rw [hen]; exact short_text hz c12
  refine VC.skip (VC.seq (VC.text ?_)); refine VO.c (.move rfl) (VO.c (.move rfl) ?_); refine VO.r (.lenS) ?_; refine VO.c (.sub rfl rfl (by omega)) ?_; refine VO.r (.cutHS (by kernel_rfl) rfl rfl (by omega)) ?_; refine VO.call rfl rfl (VF.call (cParse_ok (by rw [hen, ← toL_len, toL_take, List.length_take, toL_len]; omega))) ?_; refine VO.c (.move rfl) (VO.c (.extract) (VO.c (.extract) (VO.c (.extract) ?_))); refine VO.c (.assign rfl) (VO.c (.assign rfl) (VO.c (.assign rfl) ?_)); refine VO.go (VC.seq (VC.text ?_)); refine VO.c (.move rfl) (VO.c (.eql) (VO.c (.move rfl) ?_)); refine VO.cg (r := decide (prsE planE ((txt l).extract 0 (((((txt l).size : Nat) : Int) - (1 : Int))).toNat) = (26 : Int))) (w := true) [] trivial (fun _ => (.move rfl)) ?_; refine VO.cg (r := decide (prsE planE ((txt l).extract 0 (((((txt l).size : Nat) : Int) - (1 : Int))).toNat) = (26 : Int))) (w := true) [] trivial (fun _ => (.move rfl)) ?_; refine VO.rg (r := decide (prsE planE ((txt l).extract 0 (((((txt l).size : Nat) : Int) - (1 : Int))).toNat) = (26 : Int))) (w := true) [(113, .v y22 l)] ⟨rfl, trivial⟩ (fun _ => (.len el22)) ?_; refine VO.cg (r := decide (prsE planE ((txt l).extract 0 (((((txt l).size : Nat) : Int) - (1 : Int))).toNat) = (26 : Int))) (w := true) [(114, I ((l.length : Nat) : Int))] ⟨rfl, trivial⟩ (fun hgd => have g15_2 : prsE planE ((txt l).extract 0 (((((txt l).size : Nat) : Int) - (1 : Int))).toNat) = (26 : Int) := (by simpa using hgd); (.sub rfl rfl (by omega))) ?_; refine VO.cg (r := decide (prsE planE ((txt l).extract 0 (((((txt l).size : Nat) : Int) - (1 : Int))).toNat) = (26 : Int))) (w := true) [(112, I (prsN planE ((txt l).extract 0 (((((txt l).size : Nat) : Int) - (1 : Int))).toNat))), (115, I (((l.length : Nat) : Int) - (1 : Int)))] ⟨rfl, rfl, trivial⟩ (fun _ => (.eql)) ?_; refine VO.c (.and) (VO.c (.assign rfl) (VO.go ?_)); refine VC.ret ?_; exact VEnd.one rfl evT (pvE (by rw [hsc.1, hsc.2]; simp))
end Go.Proofs
namespace Go.Fs
open Go.RowKit (Below)
variable {P : Program}
def orcB (fi fj fc : FuncId) (T : TypeId) : FuncId → List Value → Heap → Option (Value × Heap) := fun f xs h =>
  bif Nat.beq f fc then
    match xs with
    | [.pointer (some ⟨b, 0, none⟩)] =>
      match h.get b with
      | some (.row e [p, v] true false) =>
        bif Nat.beq e T then
          match p with
          | .pointer none => some (.tuple #[], h.set b (.row e [.pointer (some ⟨b, 0, none⟩), v] true false))
          | .pointer (some ⟨b', 0, none⟩) => bif Nat.beq b' b then some (.tuple #[], h) else none
          | _ => none
        else none
      | _ => none
    | _ => none
  else orcS fi fj f xs h
theorem orcB_sound {B : Nat} {w0 : World} {fi fj fc : FuncId} {T : TypeId} (hz : w0.drawn = 0) (hS : CallSound P B w0 (orcS fi fj)) (hc : Enters P fc)
    (hF : ∀ (b : Nat) (w : World), w.cell? ⟨b, 0, none⟩ = some (.pointer none) → w.shape? b = some (T, 2) → w.frozen? ⟨b, 0, none⟩ = false →
      Calls P fc #[.pointer (some ⟨b, 0, none⟩)] w fun e w' => e = .returned (.tuple #[]) ∧ w' = w.setCell ⟨b, 0, none⟩ (.pointer (some ⟨b, 0, none⟩)))
    (hU : ∀ (b : Nat) (w : World), w.cell? ⟨b, 0, none⟩ = some (.pointer (some ⟨b, 0, none⟩)) → Calls P fc #[.pointer (some ⟨b, 0, none⟩)] w fun e w' => e = .returned (.tuple #[]) ∧ w' = w) :
    CallSound P B w0 (orcB fi fj fc T) := by
  intro f xs h v h' hf; unfold orcB at hf
  cases hb : Nat.beq f fc with
  | false =>
    rw [hb] at hf
    exact hS f xs h v h' hf
  | true =>
    have := nbeq hb; subst this; rw [hb] at hf; simp only [cond_true] at hf; split at hf
    · rename_i b; split at hf
      · rename_i e p u hg; obtain ⟨he, hf2⟩ := bif_some hf; obtain rfl := nbeq he; refine ⟨hc, fun ρ S w args' hr ha nn => ?_⟩; obtain ⟨hsb, cur, k1, k2, k3, k4, k5, k6, k7⟩ := hr.objs b _ hg; have hcl : cur.length = 2 := (k6 rfl).symm
        match cur, hcl with
        | [p', u'], _ =>
        have hp : VR ρ S p p' := k7 0 (by simp); have hu : VR ρ S u u' := k7 1 (by simp)
        have hat : (ρ b).at 0 = ⟨(ρ b).block, 0, none⟩ := by unfold Loc.at; rw [k2]
        have harg : args' = [.pointer (some ⟨(ρ b).block, 0, none⟩)] := by
          have h1 := ha.1
          match args', h1 with
          | [a], _ =>
            have h2 : VR ρ S (.pointer (some ⟨b, 0, none⟩)) a := ha.2 0 (by simp); rw [h2.ptr_inv.2, hat]
        subst harg
        have hcell : w.cell? ⟨(ρ b).block, 0, none⟩ = some p' := by simp [World.cell?, k1]
        split at hf2
        · simp only [Option.some.injEq, Prod.mk.injEq] at hf2; obtain ⟨rfl, rfl⟩ := hf2; obtain rfl := hp.eq_of_af0 rfl; have hC : CallsIn Fence.wide nn P f #[.pointer (some ⟨(ρ b).block, 0, none⟩)] w _ := callsIn_wide.2 (hF (ρ b).block w hcell (by simp [World.shape?, k1]) (frozen_soft k1 (by rw [k3]; exact Nat.zero_lt_succ _))); refine hC.mono fun e2 w' hret => ?_; obtain ⟨rfl, rfl⟩ := hret; refine ⟨ρ, Moved.set hr hg rfl rfl rfl rfl rfl (by simp [World.setCell]) (fun k hk => ?_) ?_, VR.tuple' LR.nil⟩
          · simp only [World.setCell, Array.getElem?_modify]; rw [if_neg (fun e0 => hk e0.symm)]
          refine ⟨[.pointer (some ⟨(ρ b).block, 0, none⟩), u'], ?_, k2, k3, k4, Nat.le_refl _, fun _ => rfl, fun i hi => ?_⟩
          · simp only [World.setCell, Array.getElem?_modify, if_pos rfl, k1]; simp
          match i, hi with
          | 0, _ => show VR ρ S (.pointer (some ⟨b, 0, none⟩)) (.pointer (some ⟨(ρ b).block, 0, none⟩)); rw [← hat]; exact .ptr b 0 hsb
          | 1, _ => exact hu
        · rename_i b'; obtain ⟨hbb, hf3⟩ := bif_some hf2; obtain rfl := nbeq hbb; simp only [Option.some.injEq, Prod.mk.injEq] at hf3; obtain ⟨rfl, rfl⟩ := hf3; have hp2 := hp.ptr_inv.2; rw [hat] at hp2; subst hp2; have hC : CallsIn Fence.wide nn P f #[.pointer (some ⟨(ρ b').block, 0, none⟩)] w _ := callsIn_wide.2 (hU (ρ b').block w hcell); refine hC.mono fun e2 w' hret => ?_; obtain ⟨rfl, rfl⟩ := hret; exact ⟨ρ, Moved.same hr, VR.tuple' LR.nil⟩
        cases hf2
      cases hf
    cases hf
end Go.Fs
namespace Go.Fs
open Go.RowKit (Below)
variable {P : Program} {ops : Array Oper} {n : Nat}
def sameV : Value → Value → Bool
  | .int k a, .int k' b => decide (k = k') && decide (a = b)
  | .bool a, .bool b => decide (a = b)
  | _, _ => false
theorem sameV_eq {a b : Value} (h : sameV a b = true) : a = b := by
  unfold sameV at h; split at h
  · obtain ⟨h1, h2⟩ := band h; rw [of_decide_eq_true h1, of_decide_eq_true h2]
  · rw [of_decide_eq_true h]
  cases h
def sameL : List Value → List Value → Bool
  | [], [] => true
  | a :: r, b :: q => sameV a b && sameL r q
  | _, _ => false
theorem sameL_eq : ∀ {a b : List Value}, sameL a b = true → a = b
  | [], [], _ => rfl
  | [], _ :: _, h => by cases h
  | _ :: _, [], h => by cases h
  | a :: r, b :: q, h => by
    obtain ⟨h1, h2⟩ := band (h : (sameV a b && sameL r q) = true); rw [sameV_eq h1, sameL_eq h2]
def sameO : AObj → AObj → Bool
  | .row e cs o m, .row e' cs' o' m' => Nat.beq e e' && sameL cs cs' && decide (o = o') && decide (m = m')
  | _, _ => false
theorem sameO_eq {a b : AObj} (h : sameO a b = true) : a = b := by
  unfold sameO at h; split at h
  · obtain ⟨h, h1⟩ := band h; obtain ⟨h, h2⟩ := band h; obtain ⟨h, h3⟩ := band h; rw [nbeq h, sameL_eq h3, of_decide_eq_true h2, of_decide_eq_true h1]
  cases h
def okRd (rd : List (Nat × AObj)) (h : Heap) : Bool := rd.all fun p => match h.get p.1 with
  | some ob => sameO ob p.2
  | none => false
theorem stLook_mem {b : Nat} {ob : AObj} : ∀ {l : List (Nat × AObj)}, look l b = some ob → (b, ob) ∈ l
  | [], h => by cases h
  | (c, oc) :: r, h => by
    simp only [look] at h
    cases hc : Nat.beq c b with
    | true =>
      rw [hc] at h; simp only [cond_true, Option.some.injEq] at h
      rw [nbeq hc, h]; exact List.mem_cons_self
    | false =>
      rw [hc] at h; simp only [cond_false] at h; exact List.mem_cons_of_mem _ (stLook_mem h)
theorem okRd_get {rd : List (Nat × AObj)} {h : Heap} (hk : okRd rd h = true) {b : Nat} {ob : AObj} (hl : look rd b = some ob) : h.get b = some ob := by
  have := List.all_eq_true.1 hk _ (stLook_mem hl); simp only at this; split at this
  · rename_i o2 hg; rw [hg, sameO_eq this]
  cases this
def stillR (P : Program) (rd : List (Nat × AObj)) (ops : Array Oper) (n : Nat) (o : Oper) (s : DSt) : Option DSt :=
  match fsWanted ops s.t o, o.op with
  | some true, .load T a =>
    match evalO s.t a with
    | .pointer (some p) =>
      match look rd p.block with
      | some ob =>
        match fsLoad P T (evalO s.t a) { next := s.h.next, low := s.h.next, objs := [(p.block, ob)] } with
        | some v => (put n s.t o.dst v).map fun t => { s with t, bs := s.bs ++ [beforeOf s.bs o] }
        | none => none
      | none => none
    | _ => none
  | _, _ => none
def fsDrawnY (P : Program) (rd : List (Nat × AObj)) (step : Oper → (Operand → Value) → Heap → Option (Value × Heap)) (ops : Array Oper) (n : Nat) : List Oper → Nat → DSt → Option DSt
  | [], _, s => bif okRd rd s.h then some s else none
  | o :: r, i, s => bif okRd rd s.h then
      match fsDraw step ops n o i s with
      | some s' => fsDrawnY P rd step ops n r (i + 1) s'
      | none => match stillR P rd ops n o s with
        | some s' => fsDrawnY P rd step ops n r (i + 1) s'
        | none => none
    else none
def fsReads (P : Program) (h0 : Heap) (step : Oper → (Operand → Value) → Heap → Option (Value × Heap)) (ops : Array Oper) (n : Nat) : List Oper → Nat → DSt → List (Nat × AObj) → List (Nat × AObj)
  | [], _, _, l => l
  | o :: r, i, s, l => match fsDraw step ops n o i s with
    | some s' => fsReads P h0 step ops n r (i + 1) s' l
    | none => match stillO P h0 ops n o s with
      | some (s', b) => match h0.get (b - 1) with
        | some ob => fsReads P h0 step ops n r (i + 1) s' ((b - 1, ob) :: l)
        | none => l
      | none => l
def drawnY (P : Program) (h0 : Heap) (step : Oper → (Operand → Value) → Heap → Option (Value × Heap)) (ops : Array Oper) (n : Nat) (s : DSt) (rd : List (Nat × AObj)) : Option DSt :=
  bif rd.all fun p => Nat.blt p.1 h0.next then fsDrawnY P rd step ops n ops.toList 0 s else none
theorem stillR_of {call : FuncId → List Value → Heap → Option (Value × Heap)} {yield : Nat → List Value → Heap → Option (Value × Heap)} {X : Nat → AObj → Prop} {rd : List (Nat × AObj)} {o : Oper} {i : Nat} {s s' : DSt}
    (hf : stillR P rd ops n o s = some s') (hX : ∀ c ob, look rd c = some ob → X c ob) :
    s'.bs = s.bs ++ [beforeOf s.bs o] ∧ Did (fsOp P call yield) ops n X o i s s' := by
  unfold stillR at hf; split at hf
  · rename_i T a hw hop; split at hf
    · rename_i p hev; split at hf
      · rename_i ob hg; split at hf
        · rename_i v hv; obtain ⟨t, h3, h4⟩ := Option.map_eq_some_iff.1 hf; subst h4; refine ⟨rfl, .still hw v [(p.block, ob)] (fun c oc hc => ?_) ?_ h3 rfl rfl rfl rfl⟩
          · simp only [look] at hc
            cases hbc : Nat.beq p.block c with
            | true =>
              rw [hbc] at hc; simp only [cond_true, Option.some.injEq] at hc; obtain rfl := nbeq hbc; subst hc
              exact hX _ _ hg
            | false => rw [hbc] at hc; cases hc
          unfold fsOp; rw [hop]; simp only [hv, Option.map_some]
        cases hf
      cases hf
    cases hf
  cases hf
theorem drawnY_trace {call : FuncId → List Value → Heap → Option (Value × Heap)} {yield : Nat → List Value → Heap → Option (Value × Heap)} {rd : List (Nat × AObj)} : ∀ (l : List Oper) (i : Nat) (s s' : DSt), fsDrawnY P rd (fsOp P call yield) ops n l i s = some s' →
    ∃ st : Nat → DSt, st i = s ∧ st (i + l.length) = s' ∧ (∀ q, i ≤ q → q ≤ i + l.length → okRd rd (st q).h = true) ∧
    ∀ j o, l[j]? = some o → ∀ X : Nat → AObj → Prop, (∀ c ob, look rd c = some ob → X c ob) → (st (i + j + 1)).bs = (st (i + j)).bs ++ [beforeOf (st (i + j)).bs o] ∧ Did (fsOp P call yield) ops n X o (i + j) (st (i + j)) (st (i + j + 1))
  | [], i, s, s', h => by
    simp only [fsDrawnY] at h; obtain ⟨h1, h2⟩ := bif_some h; simp only [Option.some.injEq] at h2; subst h2
    exact ⟨fun _ => s, rfl, rfl, fun _ _ _ => h1, fun j o hj => by simp at hj⟩
  | o :: l, i, s, s', h => by
    simp only [fsDrawnY] at h; obtain ⟨hok, h⟩ := bif_some h
    have key : ∀ s1, fsDrawnY P rd (fsOp P call yield) ops n l (i + 1) s1 = some s' →
        (∀ X : Nat → AObj → Prop, (∀ c ob, look rd c = some ob → X c ob) → s1.bs = s.bs ++ [beforeOf s.bs o] ∧ Did (fsOp P call yield) ops n X o i s s1) →
      ∃ st : Nat → DSt, st i = s ∧ st (i + (o :: l).length) = s' ∧ (∀ q, i ≤ q → q ≤ i + (o :: l).length → okRd rd (st q).h = true) ∧
        ∀ j o', (o :: l)[j]? = some o' → ∀ X : Nat → AObj → Prop, (∀ c ob, look rd c = some ob → X c ob) → (st (i + j + 1)).bs = (st (i + j)).bs ++ [beforeOf (st (i + j)).bs o'] ∧ Did (fsOp P call yield) ops n X o' (i + j) (st (i + j)) (st (i + j + 1)) := fun s1 hr hd => by
      obtain ⟨st, h1, h2, hq, h3⟩ := drawnY_trace l (i + 1) s1 s' hr; refine ⟨fun k => if k = i then s else st k, by simp, ?_, fun q hq1 hq2 => ?_, fun j o' hj X hX => ?_⟩
      · simp only [List.length_cons]; rw [if_neg (by omega), ← h2]; congr 1; omega
      · rw [List.length_cons] at hq2; by_cases e : q = i
        · subst e; simpa using hok
        simp only [if_neg e]; exact hq q (by omega) (by omega)
      cases j with
      | zero =>
        simp at hj; subst hj
        simpa [h1] using hd X hX
      | succ j =>
        simp only [List.getElem?_cons_succ] at hj; have := h3 j o' hj X hX; rw [show i + 1 + j = i + (j + 1) by omega] at this; simp only; rw [if_neg (by omega), if_neg (by omega)]; exact this
    split at h
    · rename_i s1 hs1; exact key s1 h fun X _ => did_of hs1
    split at h
    · rename_i s1 hs1; exact key s1 h fun X hX => stillR_of hs1 hX
    cases h
theorem traceY_of {call : FuncId → List Value → Heap → Option (Value × Heap)} {yield : Nat → List Value → Heap → Option (Value × Heap)} {t0 : Tr} {h0 : Heap} {s : DSt} {rd : List (Nat × AObj)} (h : drawnY P h0 (fsOp P call yield) ops n ⟨t0, h0, [], [], 0, false⟩ rd = some s) : ∃ st, Trace (fsOp P call yield) ops n st t0 h0 ∧ st ops.size = s := by
  unfold drawnY at h; obtain ⟨hb, h⟩ := bif_some h; obtain ⟨st, h1, h2, hq, h3⟩ := drawnY_trace _ _ _ _ h
  have h2' : st ops.size = s := by simpa using h2
  refine ⟨st, ⟨h1, fun i o ho => ?_⟩, h2'⟩; have := h3 i o (by simpa using ho) (fun b ob => h0.get b = some ob ∧ b < h0.next ∧ (b < (st ops.size).h.low ∨ ∀ q, q ≤ ops.size → (st q).h.get b = some ob)) (fun c ob hc => ?_)
  · simpa only [Nat.zero_add] using this
  have hall : ∀ q, q ≤ ops.size → (st q).h.get c = some ob := fun q hq2 => okRd_get (hq q (Nat.zero_le _) (by simpa using hq2)) hc; have h0 := hall 0 (Nat.zero_le _); rw [h1] at h0; exact ⟨h0, nblt (List.all_eq_true.1 hb _ (stLook_mem hc)), .inr hall⟩
variable {B : Nat} {w0 : World} {S : Nat → Prop} {ρ0 : Ren} {call : FuncId → List Value → Heap → Option (Value × Heap)} {yield : Nat → List Value → Heap → Option (Value × Heap)} {t0 : Tr} {h0 : Heap}
theorem drawn_wpY (hcs : CallSnd P B w0 call) (hys : YieldSound P B w0 yield) (hok : regionOk ops = true) {s : DSt} {rd : List (Nat × AObj)} (hf : drawnY P h0 (fsOp P call yield) ops n ⟨t0, h0, [], [], 0, false⟩ rd = some s)
    {w : World} {a : Act} (hr : HR P ρ0 S B w0 h0 w) (ht : TrR ρ0 S t0 n a.tmps) {r : Option Nat} {nn : Nat} {Q : Exit → Act → World → Prop}
    (k : ∀ ρ' w' a', Moved P B w0 ρ0 ρ' S h0 s.h w w' → TrR ρ' (Ext S h0 s.h) s.t n a'.tmps → a'.defers = a.defers → Q .normal a' w') (t : Nat) :
    wpOpsIn (Wide r) nn P ops Q (Region.schedule true ops t) a w := drawn_wpT hcs hys hok (traceY_of hf) hr ht k t
end Go.Fs
namespace Go.Fs
open Go.RowKit (Below)
variable {P : Program} {B : Nat} {w0 : World}
def fsStepX (P : Program) (orc : FuncId → List Value → Heap → Option (Value × Heap)) (rec : Rec) : Rec := fun rnd c fr h =>
  match c with
  | .region _ ops true => match drawnX P { next := h.next, low := h.next, objs := h.objs } (fsOp P (callOf P orc rec) (fsYield rec)) ops fr.n ⟨fr.t, { next := h.next, low := h.next, objs := h.objs }, [], [], 0, false⟩ with
    | some s => some (.normal, { t := s.t, n := fr.n, marks := fr.marks }, { next := s.h.next, low := min h.low s.h.low, objs := s.h.objs })
    | none => match drawnY P { next := h.next, low := h.next, objs := h.objs } (fsOp P (callOf P orc rec) (fsYield rec)) ops fr.n ⟨fr.t, { next := h.next, low := h.next, objs := h.objs }, [], [], 0, false⟩ (fsReads P { next := h.next, low := h.next, objs := h.objs } (fsOp P (callOf P orc rec) (fsYield rec)) ops fr.n ops.toList 0 ⟨fr.t, { next := h.next, low := h.next, objs := h.objs }, [], [], 0, false⟩ []) with
      | some s => some (.normal, { t := s.t, n := fr.n, marks := fr.marks }, { next := s.h.next, low := min h.low s.h.low, objs := s.h.objs })
      | none => fsStep P orc rec rnd c fr h
  | c => fsStep P orc rec rnd c fr h
def fsCodeX (P : Program) (orc : FuncId → List Value → Heap → Option (Value × Heap)) : Nat → Rec
  | 0 => fun _ _ _ _ => none
  | n + 1 => fsStepX P orc (fsCodeX P orc n)
theorem HR.low {ρ : Ren} {S : Nat → Prop} {h : Heap} {w : World} (hr : HR P ρ S B w0 h w) (l : Nat) : HR P ρ S B w0 { next := h.next, low := l, objs := h.objs } w :=
  { objs := hr.objs, inj := hr.inj, base := hr.base, ro := hr.ro, ids := hr.ids, pos := hr.pos, below := hr.below, drawn := hr.drawn, size := hr.size }
theorem Moved.lowered {ρ ρ' : Ren} {S : Nat → Prop} {h h' : Heap} {w w' : World} {l : Nat} (m : Moved P B w0 ρ ρ' S { next := h.next, low := l, objs := h.objs } h' w w') :
    Moved P B w0 ρ ρ' S h { next := h'.next, low := min h.low h'.low, objs := h'.objs } w w' where
  agree := m.agree
  next := m.next
  hr := m.hr.low _
  frame := ⟨m.frame.os, m.frame.tape, m.frame.output, m.frame.size, m.frame.block⟩
  low := Nat.min_le_left _ _
  keep := fun i hi hl => m.keep i hi (Nat.lt_of_lt_of_le hl (Nat.min_le_right _ _))
  old := m.old
  fresh := fun i o ho hi => by
    obtain ⟨h1, h2⟩ := m.fresh i o ho hi; refine ⟨h1, ?_⟩; rcases h2 with h2 | ⟨j, oj, h3, h4, h5, h6, h7⟩
    · exact .inl h2
    exact .inr ⟨j, oj, h3, h4, h5, Nat.le_trans (Nat.min_le_right _ _) h6, h7⟩
theorem stepX_sound (hP : ProgOk P) {orc : FuncId → List Value → Heap → Option (Value × Heap)} (horc : CallSound P B w0 orc) {m : Nat} {rec : Rec} (hrec : SoundR P B w0 m rec) : SoundR P B w0 (m + 1) (fsStepX P orc rec) := by
  have hcs : CallSnd P B w0 (callOf P orc rec) := call_sound hP horc hrec; have hys : YieldSound P B w0 (fsYield rec) := yield_sound hrec; have hold := step_sound hP horc hrec; intro rnd c fr h e fr' h' hok hf
  cases c with
  | region id ops draw =>
    cases draw with
    | false => exact hold rnd _ fr h e fr' h' hok hf
    | true =>
      intro ρ S w a nn Q hr ht hm hs k; simp only [fsStepX] at hf; split at hf
      · rename_i s hrun; simp only [Option.some.injEq, Prod.mk.injEq] at hf; obtain ⟨rfl, rfl, rfl⟩ := hf; refine wpIn_region_draw fun t => ?_; rw [hP.mixed]; exact drawn_wpX (h0 := { next := h.next, low := h.next, objs := h.objs }) (call := callOf P orc rec) (yield := fsYield rec) hcs hys hok hrun ((hr.drew _).low _) ht (fun ρ1 w1 a1 m1 ht1 hd1 => k _ _ _ ⟨(Moved.ofDrew m1).lowered, ht1, by rw [hd1]; exact hm.mono fun b hb => ⟨.inl hb, m1.agree b hb⟩⟩) t
      split at hf
      · rename_i s hrun; simp only [Option.some.injEq, Prod.mk.injEq] at hf; obtain ⟨rfl, rfl, rfl⟩ := hf; refine wpIn_region_draw fun t => ?_; rw [hP.mixed]; exact drawn_wpY (h0 := { next := h.next, low := h.next, objs := h.objs }) (call := callOf P orc rec) (yield := fsYield rec) hcs hys hok hrun ((hr.drew _).low _) ht (fun ρ1 w1 a1 m1 ht1 hd1 => k _ _ _ ⟨(Moved.ofDrew m1).lowered, ht1, by rw [hd1]; exact hm.mono fun b hb => ⟨.inl hb, m1.agree b hb⟩⟩) t
      exact hold rnd _ fr h e fr' h' hok hf ρ S w a nn Q hr ht hm hs k
  | _ => exact hold rnd _ fr h e fr' h' hok hf
theorem codeX_sound (hP : ProgOk P) {orc : FuncId → List Value → Heap → Option (Value × Heap)} (horc : CallSound P B w0 orc) : ∀ m, SoundR P B w0 m (fsCodeX P orc m)
  | 0 => fun rnd c fr h e fr' h' _ hf => by cases hf
  | m + 1 => stepX_sound hP horc (codeX_sound hP horc m)
end Go.Fs
namespace Go.Fs
variable {P : Program} {orc : FuncId → List Value → Heap → Option (Value × Heap)}
def runPre (P : Program) (orc : FuncId → List Value → Heap → Option (Value × Heap)) : Nat → Nat → Code → Fr → Heap → Option (Nat × Code × Fr × Heap)
  | 0, n, c, fr, h => some (n, c, fr, h)
  | k + 1, n, c, fr, h => match n, c with
    | n + 1, .seq a b => match fsCodeX P orc n none a fr h with
      | some (.normal, fr1, h1) => runPre P orc k n b fr1 h1
      | _ => none
    | _, _ => none
def endV (P : Program) (fn : Func) (h : Heap) (x : Ex × Fr × Heap) : Option Value :=
  bif x.1.goes then
    match dropMarks x.2.1.marks x.2.2 with
    | some h2 => (fsResults P x.2.1.t h2 fn.results.toList).map tupled
    | none => none
  else none
theorem enter_map {rec : Rec} {f : FuncId} {args : List Value} {h : Heap} {fn : Func} {c : Code} (hf : P.funcs[f]? = some fn) (hc : fn.body = some c) (hn : (Nat.blt 4000 fn.ntmps || Nat.blt fn.ntmps args.length) = false) :
    (fsEnter P rec f args h).map (·.1) = (rec none c ⟨fillTr .leaf 0 args, fn.ntmps, []⟩ { next := h.next, low := h.next, objs := h.objs }).bind (endV P fn h) := by
  unfold fsEnter fsEnterK endV; simp only [hf, hc, hn, cond_false]
  cases rec none c ⟨fillTr .leaf 0 args, fn.ntmps, []⟩ { next := h.next, low := h.next, objs := h.objs } with
  | none => rfl
  | some x =>
    obtain ⟨e, fr, h1⟩ := x; simp only [Option.bind_some]
    cases e.goes with
    | false => rfl
    | true =>
      simp only [cond_true]
      cases dropMarks fr.marks h1 with
      | none => rfl
      | some h2 =>
        simp only
        cases fsResults P fr.t h2 fn.results.toList with
        | none => rfl
        | some vs =>
          simp only [Option.map_some]; generalize (!false && (af (tupled vs) && Nat.ble h.next h2.low)) = q; cases q <;> rfl
def sufx : Nat → Code → Code
  | 0, c => c
  | k + 1, .seq _ b => sufx k b
  | _ + 1, c => c
end Go.Fs
namespace Go.Fs
open Go.RowKit (Below)
variable {P : Program}
def gv : Value → Bool
  | .func (.func _) ⟨[]⟩ ⟨[]⟩ => true
  | v => af0 v
theorem VR.of_gv {ρ : Ren} {S : Nat → Prop} {v : Value} (h : gv v = true) : VR ρ S v v := by
  unfold gv at h; split at h
  · exact .func _ _ _ _ _ rfl (fun i h => absurd h (by simp)) rfl (fun i h => absurd h (by simp))
  exact .lit h
def gHeap (n : Nat) (L : List (Nat × TypeId × List Value)) : Heap := ⟨n, n, L.map fun x => (x.1 + 1, .row x.2.1 x.2.2 false true)⟩
def globR (P : Program) : Ren := fun b => Loc.clean (b - 1) 0 0 (P.cellsOf (((P.globals[b - 1]?).map (·.type)).getD 0))
structure GlobW (P : Program) (B : Nat) (w : World) (x : Nat × TypeId × List Value) : Prop where
  type : (P.globals[x.1]?).map (·.type) = some x.2.1
  only : ∀ (g : Nat) gl, P.globals[g]? = some gl → gl.type = x.2.1 → g = x.1
  block : x.1 < B
  cells : ∀ i, i < x.2.2.length → w.cell? ⟨x.1, i, none⟩ = some (x.2.2.getD i undef)
  vals : x.2.2.all gv = true
theorem GlobW.below {B : Nat} {w w' : World} {x : Nat × TypeId × List Value} (h : GlobW P B w x) (hb : Below B w w') : GlobW P B w' x :=
  ⟨h.type, h.only, h.block, fun i hi => (World.cell?_of_block (a := ⟨x.1, i, none⟩) (hb.block _ h.block)).trans (h.cells i hi), h.vals⟩
theorem gHeap_get {n : Nat} : ∀ {L : List (Nat × TypeId × List Value)} {i : Nat} {o : AObj}, (gHeap n L).get i = some o → ∃ x ∈ L, i = x.1 + 1 ∧ o = .row x.2.1 x.2.2 false true
  | [], i, o, h => by cases h
  | x :: L, i, o, h => by
    simp only [gHeap, Heap.get, List.map_cons, look] at h
    cases hb : Nat.beq (x.1 + 1) i with
    | true =>
      rw [hb] at h
      exact ⟨x, List.mem_cons_self, (nbeq hb).symm, (Option.some.inj h).symm⟩
    | false =>
      rw [hb] at h; obtain ⟨y, hy, h1, h2⟩ := gHeap_get (n := n) (L := L) (i := i) (o := o) h; exact ⟨y, List.mem_cons_of_mem _ hy, h1, h2⟩
theorem gHeap_hr {w : World} {n : Nat} {L : List (Nat × TypeId × List Value)} (hn : ∀ x ∈ L, x.1 + 1 < n) (hp : 0 < n) (hL : ∀ x ∈ L, GlobW P w.heap.size w x) :
    HR P (globR P) (fun b => ∃ x ∈ L, b = x.1 + 1) w.heap.size (wz w) (gHeap n L) w where
  objs := fun i o hi => by
    obtain ⟨x, hx, rfl, rfl⟩ := gHeap_get hi; have h := hL x hx; refine ⟨⟨x, hx, rfl⟩, ?_, fun j hj => ?_, fun _ g gl h1 h2 => ?_⟩
    · show P.cellsOf (((P.globals[x.1 + 1 - 1]?).map (·.type)).getD 0) = _; rw [Nat.add_sub_cancel, h.type]; rfl
    · refine ⟨x.2.2.getD j undef, ?_, .of_gv (List.all_eq_true.1 h.vals _ (mem_getD hj))⟩; show w.cell? ⟨x.1 + 1 - 1, 0 + j, none⟩ = _; rw [Nat.add_sub_cancel, Nat.zero_add]; exact h.cells j hj
    exact ⟨(h.only g gl h1 h2).symm, rfl⟩
  inj := fun i j oi oj hi _ ho => by
    obtain ⟨x, hx, rfl, rfl⟩ := gHeap_get hi; cases ho
  base := fun i o hi ho => by
    obtain ⟨x, hx, rfl, rfl⟩ := gHeap_get hi; cases ho
  ro := fun i o hi _ => by
    obtain ⟨x, hx, rfl, rfl⟩ := gHeap_get hi; exact (hL x hx).block
  ids := fun b ⟨x, hx, hb⟩ => by
    subst hb; exact ⟨hn x hx, Nat.succ_ne_zero _⟩
  pos := hp
  below := z_below (Below.refl _ _)
  drawn := Nat.zero_le _
  size := Nat.le_refl _
end Go.Fs
namespace Go.Fs
open Go.RowKit (Below)
variable {P : Program} {ρ ρ' : Ren} {S S' : Nat → Prop} {B : Nat} {w0 w w' w1 w2 : World} {h h' h1 h2 : Heap}
def gcL (n0 : Nat) (keep : List Nat) : List (Nat × AObj) → List (Nat × AObj)
  | [] => []
  | x :: r => bif Nat.blt x.1 n0 || keep.any (Nat.beq x.1) then x :: gcL n0 keep r else gcL n0 keep r
def gcH (n0 : Nat) (keep : List Nat) (h : Heap) : Heap := ⟨h.next, h.low, gcL n0 keep h.objs⟩
theorem gc_some {n0 : Nat} {keep : List Nat} {i : Nat} {o : AObj} : ∀ {L : List (Nat × AObj)}, look (gcL n0 keep L) i = some o → look L i = some o
  | [], h => h
  | x :: L, h => by
    unfold gcL at h
    cases hk : (Nat.blt x.1 n0 || keep.any (Nat.beq x.1)) with
    | true =>
      rw [hk] at h; simp only [cond_true, look] at h ⊢
      cases hb : Nat.beq x.1 i with
      | true => rw [hb] at h; exact h
      | false => rw [hb] at h; exact gc_some h
    | false =>
      rw [hk] at h; simp only [cond_false] at h; simp only [look]
      cases hb : Nat.beq x.1 i with
      | false => exact gc_some h
      | true =>
        exfalso; have e := nbeq hb
        have hno : ∀ {L : List (Nat × AObj)}, look (gcL n0 keep L) i = none := by
          intro L
          induction L with
          | nil => rfl
          | cons y L ih =>
            unfold gcL
            cases hk2 : (Nat.blt y.1 n0 || keep.any (Nat.beq y.1)) with
            | false => exact ih
            | true =>
              simp only [cond_true, look]
              cases hb2 : Nat.beq y.1 i with
              | false => exact ih
              | true => rw [nbeq hb2, ← e, hk] at hk2; cases hk2
        rw [hno] at h; cases h
theorem gc_low {n0 : Nat} {keep : List Nat} {i : Nat} (hi : i < n0) : ∀ {L : List (Nat × AObj)}, look (gcL n0 keep L) i = look L i
  | [] => rfl
  | x :: L => by
    unfold gcL
    cases hb : Nat.beq x.1 i with
    | true =>
      have hx : Nat.blt x.1 n0 = true := by rw [nbeq hb]; show Nat.ble (i + 1) n0 = true; rw [Nat.ble_eq]; omega
      simp only [hx, Bool.true_or, cond_true, look, hb]
    | false =>
      cases hk : (Nat.blt x.1 n0 || keep.any (Nat.beq x.1)) with
      | true => simp only [cond_true, look, hb, cond_false]; exact gc_low hi
      | false => simp only [cond_false, look, hb]; exact gc_low hi
theorem HR.gc {n0 : Nat} {keep : List Nat} (hr : HR P ρ S B w0 h w) : HR P ρ S B w0 (gcH n0 keep h) w :=
  { objs := fun i o hi => hr.objs i o (gc_some hi), inj := fun i j oi oj hi hj => hr.inj i j oi oj (gc_some hi) (gc_some hj), base := fun i o hi => hr.base i o (gc_some hi), ro := fun i o hi => hr.ro i o (gc_some hi), ids := hr.ids, pos := hr.pos,
    below := hr.below, drawn := hr.drawn, size := hr.size }
theorem Moved.gc {n0 : Nat} {keep : List Nat} (hn : h.next ≤ n0) (m : Moved P B w0 ρ ρ' S h h1 w w1) : Moved P B w0 ρ ρ' S h (gcH n0 keep h1) w w1 where
  agree := m.agree
  next := m.next
  hr := m.hr.gc
  frame := m.frame
  low := m.low
  keep := fun i hi hl => (gc_low (by omega)).trans (m.keep i hi hl)
  old := fun i o hi hl => m.old i o (gc_some hi) hl
  fresh := fun i o hi hl => m.fresh i o (gc_some hi) hl
def runG (P : Program) (orc : FuncId → List Value → Heap → Option (Value × Heap)) (n0 : Nat) : List (Nat × List Nat) → Nat → Code → Fr → Heap → Option (Ex × Fr × Heap)
  | [], n, c, fr, h => fsCodeX P orc n none c fr h
  | (k, keep) :: ks, n, c, fr, h => match runPre P orc k n c fr h with
    | some (n1, c1, fr1, h1) => runG P orc n0 ks n1 c1 fr1 (gcH n0 keep h1)
    | none => none
theorem pre_sound (hP : ProgOk P) {orc : FuncId → List Value → Heap → Option (Value × Heap)} (horc : CallSound P B w0 orc) : ∀ {k n : Nat} {c : Code} {fr : Fr} {h : Heap} {n1 : Nat} {c1 : Code} {fr1 : Fr} {h1 : Heap}, codeOk c = true → runPre P orc k n c fr h = some (n1, c1, fr1, h1) →
    codeOk c1 = true ∧ ∀ {ρ : Ren} {S : Nat → Prop} {w : World} {a : Act} {nn : Nat} {Q : Exit → Act → World → Prop}, HR P ρ S B w0 h w → TrR ρ S fr.t fr.n a.tmps → MarksR ρ S fr.marks a.defers →
      (∀ ρ' w' a', Post P B w0 ρ ρ' S h w fr1 h1 w' a' → c1.wpIn (Wide none) nn P Q a' w') → c.wpIn (Wide none) nn P Q a w
  | 0, n, c, fr, h, n1, c1, fr1, h1, hok, hr => by
    simp only [runPre, Option.some.injEq, Prod.mk.injEq] at hr; obtain ⟨rfl, rfl, rfl, rfl⟩ := hr
    exact ⟨hok, fun hR ht hm k => k _ _ _ ⟨Moved.same hR, ht.mono fun b hb => ⟨.inl hb, rfl⟩, hm.mono fun b hb => ⟨.inl hb, rfl⟩⟩⟩
  | k + 1, n, c, fr, h, n1, c1, fr1, h1, hok, hr => by
    simp only [runPre] at hr; split at hr
    · rename_i n x y; split at hr
      · rename_i fr2 h2 hx; obtain ⟨ok1, ok2⟩ := band (show (codeOk x && codeOk y) = true from hok); obtain ⟨g1, g2⟩ := pre_sound hP horc ok2 hr; refine ⟨g1, fun {ρ S w a nn Q} hR ht hm kk => wpIn_seq ?_⟩; refine (codeX_sound hP horc n none x fr h _ fr2 h2 ok1 hx ρ S w a nn _ hR ht hm (fun l hl => by cases hl) fun ρ1 w1 a1 p1 => ?_).wpIn; show y.wpIn (Wide none) nn P Q a1 w1; exact g2 p1.moved.hr p1.tmps p1.marks fun ρ2 w2 a2 p2 => kk _ _ _ (Post.trans (fr1 := fr2) (a1 := a1) p1.moved p2)
      cases hr
    cases hr
theorem runG_sound (hP : ProgOk P) {orc : FuncId → List Value → Heap → Option (Value × Heap)} (horc : CallSound P B w0 orc) {n0 : Nat} : ∀ {ks : List (Nat × List Nat)} {n : Nat} {c : Code} {fr : Fr} {h : Heap} {e : Ex} {fr' : Fr} {h' : Heap}, codeOk c = true → runG P orc n0 ks n c fr h = some (e, fr', h') →
    ∀ {g : Heap} {ρ0 ρ : Ren} {S : Nat → Prop} {w w' : World} {a : Act} {nn : Nat} {Q : Exit → Act → World → Prop}, g.next ≤ n0 → Moved P B w0 ρ0 ρ S g h w w' → TrR ρ (Ext S g h) fr.t fr.n a.tmps → MarksR ρ (Ext S g h) fr.marks a.defers →
      (∀ ρ' w2 a', Post P B w0 ρ0 ρ' S g w fr' h' w2 a' → Q (exOf e) a' w2) → c.wpIn (Wide none) nn P Q a w'
  | [], n, c, fr, h, e, fr', h', hok, hr, g, ρ0, ρ, S, w, w', a, nn, Q, hg, m, ht, hm, k =>
    (codeX_sound hP horc n none c fr h e fr' h' hok hr ρ _ w' a nn Q m.hr ht hm (fun l hl => by cases hl) fun ρ1 w1 a1 p1 => k _ _ _ (Post.trans (fr1 := fr) (a1 := a) m p1)).wpIn
  | (j, keep) :: ks, n, c, fr, h, e, fr', h', hok, hr, g, ρ0, ρ, S, w, w', a, nn, Q, hg, m, ht, hm, k => by
    simp only [runG] at hr; split at hr
    · rename_i n1 c1 fr1 h1 hx; obtain ⟨g1, g2⟩ := pre_sound hP horc hok hx; refine g2 m.hr ht hm fun ρ1 w1 a1 p1 => ?_; have q := Post.trans (fr1 := fr) (a1 := a) m p1; exact runG_sound hP horc g1 hr hg (q.moved.gc hg) q.tmps q.marks k
    cases hr
def fsG (P : Program) (orc : FuncId → List Value → Heap → Option (Value × Heap)) (n0 n : Nat) (ks : List (Nat × List Nat)) : Rec := fun rnd c fr h =>
  match rnd, c with
  | none, .seq x y => bif Nat.ble h.next n0 then runG P orc n0 ks n (.seq x y) fr h else none
  | _, _ => none
def isSeq : Code → Bool
  | .seq _ _ => true
  | _ => false
theorem fsG_eq {orc : FuncId → List Value → Heap → Option (Value × Heap)} {n0 n : Nat} {ks : List (Nat × List Nat)} {c : Code} {fr : Fr} {h : Heap} (hc : isSeq c = true) (hn : Nat.ble h.next n0 = true) : fsG P orc n0 n ks none c fr h = runG P orc n0 ks n c fr h := by
  cases c with
  | seq x y =>
    show (bif Nat.ble h.next n0 then _ else _) = _
    rw [hn]; rfl
  | _ => cases hc
theorem fsG_sound (hP : ProgOk P) {orc : FuncId → List Value → Heap → Option (Value × Heap)} (horc : CallSound P B w0 orc) {n0 n : Nat} {ks : List (Nat × List Nat)} : SoundR P B w0 0 (fsG P orc n0 n ks) := by
  intro rnd c fr h e fr' h' hok hf ρ S w a nn Q hr ht hm hs k; unfold fsG at hf; split at hf
  · rename_i x y; obtain ⟨hn, hq⟩ := bif_some hf; show Code.wpIn (Wide none) nn P (.seq x y) Q a w; exact runG_sound hP horc hok hq (nble hn) (Moved.same hr) (ht.mono fun b hb => ⟨.inl hb, rfl⟩) (hm.mono fun b hb => ⟨.inl hb, rfl⟩) k
  cases hf
theorem run_viaG {orc : FuncId → List Value → Heap → Option (Value × Heap)} {n0 k n : Nat} {keep : List Nat} {ks : List (Nat × List Nat)} {c : Code} {fr : Fr} {h : Heap} {n' : Nat} {c' : Code} {fr' : Fr} {h' : Heap} (hr : (runPre P orc k n c fr h).map (fun x => (x.1, x.2.1, x.2.2.1, gcH n0 keep x.2.2.2)) = some (n', c', fr', h')) : runG P orc n0 ((k, keep) :: ks) n c fr h = runG P orc n0 ks n' c' fr' h' := by
  simp only [runG]
  cases hx : runPre P orc k n c fr h with
  | none => rw [hx] at hr; cases hr
  | some x =>
    obtain ⟨n1, c1, fr1, h1⟩ := x; rw [hx] at hr; simp only [Option.map_some, Option.some.injEq, Prod.mk.injEq] at hr; obtain ⟨rfl, rfl, rfl, rfl⟩ := hr; rfl
theorem gcG_closed (hP : ProgOk P) {w : World} {orc : FuncId → List Value → Heap → Option (Value × Heap)} (horc : CallSound P w.heap.size (wz w) orc) {ρ : Ren} {S : Nat → Prop} {g : Heap} (hr : HR P ρ S w.heap.size (wz w) g w) {n0 n : Nat} {ks : List (Nat × List Nat)} {f : FuncId} {args : List Value} {v : Value} (ha : args.all af = true)
    (hf : (fsEnter P (fsG P orc n0 n ks) f args g).map (·.1) = some v) (hv : af v = true) :
    Calls P f args.toArray w fun | .returned v', w' => v' = v ∧ Below w.heap.size w w' | _, _ => False := by
  obtain ⟨⟨v0, h1⟩, h2, h3⟩ := Option.map_eq_some_iff.1 hf; simp only at h3; subst h3; have hc := ((enter_sound hP (fsG_sound hP horc)) f args _ _ _ h2).2 _ _ w args hr ⟨rfl, fun i hi => .of_af (List.all_eq_true.1 ha _ (mem_getD hi))⟩ 0; refine Calls.mono (callsIn_wide.1 hc) fun e w' he => ?_
  cases e with
  | returned v' =>
    obtain ⟨ρ', m1, hv1⟩ := he
    exact ⟨hv1.eq_of_af hv, below_z m1.hr.below⟩
  | panicked c => exact he.elim
  | outgrown => exact he.elim
theorem awakeGc_calls (hP : ProgOk P) {B : Nat} {w0 : World} {O : FuncId → List Value → Heap → Option (Value × Heap)} {fa : FuncId} {n : Nat} {L : List (Nat × TypeId × List Value)} (hn : ∀ x ∈ L, x.1 + 1 < n) (hp : 0 < n) (hL : ∀ x ∈ L, GlobW P B w0 x) (hB : ∀ w, Below B w0 w → B ≤ w.heap.size) (hS : ∀ w, Below B w0 w → CallSound P w.heap.size (wz w) O) {n0 m : Nat} {ks : List (Nat × List Nat)}
    (hrun : (fsEnter P (fsG P O n0 m ks) fa [] (gHeap n L)).map (·.1) = some (.bool true)) (w : World) (hw : Below B w0 w) :
    Calls P fa #[] w fun | .returned v', w' => v' = .bool true ∧ Below w.heap.size w w' | _, _ => False :=
  gcG_closed hP (hS w hw) (gHeap_hr hn hp fun x hx => let h := (hL x hx).below hw; ⟨h.type, h.only, Nat.lt_of_lt_of_le h.block (hB w hw), h.cells, h.vals⟩) (args := []) rfl hrun rfl
end Go.Fs
namespace Go.Fs
open Go.RowKit (Below)
variable {P : Program} {B : Nat} {w0 : World}
theorem orcI_sound {fi : FuncId} (hz : w0.drawn = 0) (hi : Enters P fi)
    (hI : ∀ (n : Int) (w : World), Below B w0 w → -9223372036854775808 ≤ n → n ≤ 9223372036854775807 → Calls P fi #[.int .i64 n] w fun e w' => e = .returned (.string ⟨(Lib.itoa n).toArray⟩) ∧ Below w.heap.size w w') : CallSound P B w0 (orcS fi fi) := by
  intro f xs h v h' hf; unfold orcS at hf
  cases hfi : Nat.beq f fi with
  | true =>
    have := nbeq hfi; subst this; rw [hfi] at hf; simp only [cond_true] at hf; split at hf
    · rename_i n; obtain ⟨hc, hf2⟩ := bif_some hf; obtain ⟨h0, h1⟩ := band hc; have h0 := of_decide_eq_true h0; have h1 := of_decide_eq_true h1; simp only [Option.some.injEq, Prod.mk.injEq] at hf2; obtain ⟨rfl, rfl⟩ := hf2; refine ⟨hi, fun ρ S w args' hr ha nn => ?_⟩; have he : args' = [.int .i64 n] := ha.eq_of_af (by rfl); subst he; have hC : CallsIn Fence.wide nn P f #[.int .i64 n] w _ := callsIn_wide.2 (hI n w hr.below (by omega) (by omega)); refine hC.mono fun e w' hret => ?_; obtain ⟨rfl, hb⟩ := hret; exact ⟨ρ, Moved.grewWorld hr hb (by rw [hz]; exact Nat.zero_le _), by rw [itoaF_eq h0 h1]; exact .lit rfl⟩
    cases hf
  | false =>
    rw [hfi] at hf; simp only [cond_false] at hf; cases hf
end Go.Fs
namespace Go.Proofs
open Go.Shelf
def Tryz.lays156_ren : Go.Shelf.Ren := ⟨fun | 156 => 39 | 165 => 91 | 166 => 38 | 169 => 40 | 240 => 90 | 241 => 115 | 276 => 114 | 277 => 140 | n => n, fun | 31 => 39 | 9 => 9 | 3 => 3 | 4 => 4 | 0 => 0 | 20 => 20 | 72 => 78 | 76 => 84 | 70 => 75 | 37 => 76 | 75 => 83 | 127 => 151 | 164 => 168 | 5 => 5 | 80 => 87 | n => n, fun | n => n⟩
theorem Tryz.lays156 : Go.Proofs.Lays.n156 Tryz.prog Tryz.lays156_ren := {
  mixed := by kernel_rfl
  f156 := Tryz.func39.trans (congrArg some (by kernel_rfl))
  f165 := Tryz.func91.trans (congrArg some (by kernel_rfl))
  f166 := Tryz.func38.trans (congrArg some (by kernel_rfl))
  f169 := Tryz.func40.trans (congrArg some (by kernel_rfl))
  f240 := Tryz.func90.trans (congrArg some (by kernel_rfl))
  f241 := Tryz.func115.trans (congrArg some (by kernel_rfl))
  f276 := Tryz.func114.trans (congrArg some (by kernel_rfl))
  f277 := Tryz.func140.trans (congrArg some (by kernel_rfl))
  t0 := Tryz.underlying0
  a0 := Tryz.isAgg0
  z0 := Tryz.sizeOf0
  v0 := Tryz.zeroValue0
  t3 := Tryz.underlying3
  a3 := Tryz.isAgg3
  z3 := Tryz.sizeOf3
  v3 := Tryz.zeroValue3
  t4 := Tryz.underlying4
  a4 := Tryz.isAgg4
  z4 := Tryz.sizeOf4
  v4 := Tryz.zeroValue4
  t9 := Tryz.underlying9
  a9 := Tryz.isAgg9
  z9 := Tryz.sizeOf9
  v9 := Tryz.zeroValue9
  t20 := Tryz.underlying20
  a20 := Tryz.isAgg20
  z20 := Tryz.sizeOf20
  v20 := Tryz.zeroValue20
  t31 := Tryz.underlying39
  a31 := Tryz.isAgg39
  z31 := Tryz.sizeOf39
  v31 := Tryz.zeroValue39
  t37 := Tryz.underlying76
  a37 := Tryz.isAgg76
  z37 := Tryz.sizeOf76
  v37 := Tryz.zeroValue76
  t70 := Tryz.underlying75
  a70 := Tryz.isAgg75
  z70 := Tryz.sizeOf75
  v70 := Tryz.zeroValue75
  t72 := Tryz.underlying78
  a72 := Tryz.isAgg78
  z72 := Tryz.sizeOf78
  v72 := Tryz.zeroValue78
  t75 := Tryz.underlying83
  a75 := Tryz.isAgg83
  z75 := Tryz.sizeOf83
  v75 := Tryz.zeroValue83
  t76 := Tryz.underlying84
  a76 := Tryz.isAgg84
  z76 := Tryz.sizeOf84
  v76 := Tryz.zeroValue84
  t127 := Tryz.underlying151
  a127 := Tryz.isAgg151
  z127 := Tryz.sizeOf151
  v127 := Tryz.zeroValue151
  t164 := Tryz.underlying168
  a164 := Tryz.isAgg168
  z164 := Tryz.sizeOf168
  v164 := Tryz.zeroValue168 }
theorem Tryz.Builder_Extra_156 : Builder.Extra Tryz.prog Tryz.lays156_ren := {
  sizeBuilder := by kernel_rfl
  liesBuilder := by kernel_rfl
  t5 := Tryz.underlying5
  a5 := Tryz.isAgg5
  z5 := Tryz.sizeOf5
  v5 := Tryz.zeroValue5
  infoByte := by kernel_rfl
  cellsByte := by kernel_rfl
  sizeByte := by kernel_rfl
  neB5 := by decide }
open Go.RowKit in
/-- strings.Join: "Join concatenates the elements of its first argument to create a single string. The separator string sep is placed between elements in the resulting string.": HOWEVER MANY ELEMENTS. Below the heap's end the world is asl it was. (LAID: no walk: one application.) -/
theorem Tryz.strings_Join (bk o c : Nat) (xs : List ByteArray) (sep : ByteArray) (w : World) (hcells : ∀ (j : Nat) x, xs[j]? = some x → w.cell? ⟨bk, o + j, none⟩ = some (.string x)) (hbk : bk < w.heap.size) (hN : xs.length ≤ 140737488355328) (hcap : xs.length ≤ c) (hlen : (Lib.join (xs.map (·.data.toList)) sep.data.toList).length ≤ 140737488355328) :
    Calls Tryz.prog 39 #[.slice (some ⟨bk, o, none⟩) xs.length c, .string sep] w fun e w' => e = .returned (.string ⟨(Lib.join (xs.map (·.data.toList)) sep.data.toList).toArray⟩) ∧ Below w.heap.size w w' := Any.strings_Join Tryz.lays156 Tryz.Builder_Extra_156 bk o c xs sep w hcells hbk hN hcap hlen
def Tryz.laysM243_ren : Go.Shelf.Ren := ⟨fun | 243 => 89 | 246 => 113 | 283 => 136 | 284 => 137 | 285 => 138 | 286 => 139 | 129 => 129 | 317 => 159 | 318 => 160 | 319 => 161 | 320 => 162 | 337 => 170 | 338 => 171 | n => n, fun | 3 => 3 | 9 => 9 | 2 => 2 | 4 => 4 | 171 => 190 | 0 => 0 | 53 => 182 | 37 => 76 | 5 => 5 | 173 => 192 | 212 => 209 | 51 => 180 | 20 => 20 | 213 => 210 | 46 => 160 | 232 => 224 | 233 => 225 | n => n, fun | 17 => 3 | 18 => 4 | 19 => 5 | n => n⟩
theorem Tryz.laysM243 : Go.Proofs.LaysM.n243 Tryz.prog Tryz.laysM243_ren := {
  mixed := by kernel_rfl
  f129 := Tryz.func129.trans (congrArg some (by kernel_rfl))
  f243 := Tryz.func89.trans (congrArg some (by kernel_rfl))
  f246 := Tryz.func113.trans (congrArg some (by kernel_rfl))
  f283 := Tryz.func136.trans (congrArg some (by kernel_rfl))
  f284 := Tryz.func137.trans (congrArg some (by kernel_rfl))
  f285 := Tryz.func138.trans (congrArg some (by kernel_rfl))
  f286 := Tryz.func139.trans (congrArg some (by kernel_rfl))
  f317 := Tryz.func159.trans (congrArg some (by kernel_rfl))
  f318 := Tryz.func160.trans (congrArg some (by kernel_rfl))
  f319 := Tryz.func161.trans (congrArg some (by kernel_rfl))
  f320 := Tryz.func162.trans (congrArg some (by kernel_rfl))
  f337 := Tryz.func170.trans (congrArg some (by kernel_rfl))
  f338 := Tryz.func171.trans (congrArg some (by kernel_rfl))
  t0 := Tryz.underlying0
  a0 := Tryz.isAgg0
  z0 := Tryz.sizeOf0
  v0 := Tryz.zeroValue0
  t2 := Tryz.underlying2
  a2 := Tryz.isAgg2
  z2 := Tryz.sizeOf2
  v2 := Tryz.zeroValue2
  t3 := Tryz.underlying3
  a3 := Tryz.isAgg3
  z3 := Tryz.sizeOf3
  v3 := Tryz.zeroValue3
  t4 := Tryz.underlying4
  a4 := Tryz.isAgg4
  z4 := Tryz.sizeOf4
  v4 := Tryz.zeroValue4
  t5 := Tryz.underlying5
  a5 := Tryz.isAgg5
  z5 := Tryz.sizeOf5
  v5 := Tryz.zeroValue5
  t9 := Tryz.underlying9
  a9 := Tryz.isAgg9
  z9 := Tryz.sizeOf9
  v9 := Tryz.zeroValue9
  t20 := Tryz.underlying20
  a20 := Tryz.isAgg20
  z20 := Tryz.sizeOf20
  v20 := Tryz.zeroValue20
  t37 := Tryz.underlying76
  a37 := Tryz.isAgg76
  z37 := Tryz.sizeOf76
  v37 := Tryz.zeroValue76
  t46 := Tryz.underlying160
  a46 := Tryz.isAgg160
  z46 := Tryz.sizeOf160
  v46 := Tryz.zeroValue160
  t51 := Tryz.underlying180
  a51 := Tryz.isAgg180
  z51 := Tryz.sizeOf180
  v51 := Tryz.zeroValue180
  t53 := Tryz.underlying182
  a53 := Tryz.isAgg182
  z53 := Tryz.sizeOf182
  v53 := Tryz.zeroValue182
  t171 := Tryz.underlying190
  a171 := Tryz.isAgg190
  z171 := Tryz.sizeOf190
  v171 := Tryz.zeroValue190
  t173 := Tryz.underlying192
  a173 := Tryz.isAgg192
  z173 := Tryz.sizeOf192
  v173 := Tryz.zeroValue192
  t212 := Tryz.underlying209
  a212 := Tryz.isAgg209
  z212 := Tryz.sizeOf209
  v212 := Tryz.zeroValue209
  t213 := Tryz.underlying210
  a213 := Tryz.isAgg210
  z213 := Tryz.sizeOf210
  t232 := Tryz.underlying224
  a232 := Tryz.isAgg224
  z232 := Tryz.sizeOf224
  v232 := Tryz.zeroValue224
  t233 := Tryz.underlying225
  a233 := Tryz.isAgg225
  z233 := Tryz.sizeOf225
  v233 := Tryz.zeroValue225
  g17 := by kernel_rfl
  g18 := by kernel_rfl
  g19 := by kernel_rfl
  i0 := by kernel_rfl
  i2 := by kernel_rfl
  i3 := by kernel_rfl
  i4 := by kernel_rfl
  i5 := by kernel_rfl
  i9 := by kernel_rfl
  i20 := by kernel_rfl
  i37 := by kernel_rfl
  i46 := by kernel_rfl
  i51 := by kernel_rfl
  i53 := by kernel_rfl
  i171 := by kernel_rfl
  i173 := by kernel_rfl
  i212 := by kernel_rfl
  i232 := by kernel_rfl
  i233 := by kernel_rfl
  m17 := by kernel_rfl
  m18 := by kernel_rfl
  m19 := by kernel_rfl }
open Go.RowKit Go.Sort Go.Lib in
/-- internal/strconv.Itoa: "Itoa is equivalent to FormatInt(int64(i), 10).": i's decimal numeral, for every int. (LAID: no walk: one application.) -/
theorem Tryz.internal_strconv_Itoa (n : Int) (h0 : -9223372036854775808 ≤ n) (h1 : n ≤ 9223372036854775807) (w : World) (htab : Lib.TabIs Tryz.prog w "internal/strconv.uint64pow10" .u64 Lib.pow10Tab) :
    Calls Tryz.prog 89 #[.int .i64 n] w fun e w' => e = .returned (.string ⟨(Lib.itoa n).toArray⟩) ∧ ∃ k os, w' = grow (w.drewN k) os := Any.internal_strconv_Itoa Tryz.laysM243 n h0 h1 w htab
end Go.Proofs
namespace Go.Proofs
open Go.Fs
open Go.Shelf
open Go.RowKit (Below)
theorem tzAll : (Tryz.prog.funcs.toList.all fun fn => match fn.body with | some c => codeOk c && !(fn.name == "runtime.NumGoroutine") | none => true) = true := by kernel_rfl
theorem tzMixed : Tryz.prog.follows .mixedOrders = true := by kernel_rfl
theorem tzOk : ProgOk Tryz.prog where
  mixed := tzMixed
  name := fun f fn hf hb => by
    have := List.all_eq_true.1 tzAll fn (by rw [Array.mem_toList_iff]; exact Array.mem_of_getElem? hf)
    cases hx : fn.body with
    | none => rw [hx] at hb; cases hb
    | some c => rw [hx] at this; simpa using (band this).2
  code := fun f fn c hf hb => by
    have := List.all_eq_true.1 tzAll fn (by rw [Array.mem_toList_iff]; exact Array.mem_of_getElem? hf); rw [hb] at this; exact (band this).1
theorem tzItoa : Fs.Enters Tryz.prog 89 := ⟨_, Tryz.func89, rfl, by kernel_rfl⟩
theorem tzCheck : Fs.Enters Tryz.prog 90 := ⟨_, Tryz.func90, rfl, by kernel_rfl⟩
theorem tzAwakeE : Fs.Enters Tryz.prog 5 := ⟨_, Tryz.func5, rfl, by kernel_rfl⟩
def tzRen : Go.Shelf.Ren := ⟨fun | 240 => 90 | 276 => 114 | n => n, fun | 0 => 0 | 4 => 4 | 9 => 9 | 20 => 20 | 70 => 75 | 72 => 78 | 164 => 168 | 37 => 76 | n => n, fun | n => n⟩
theorem tzLays : Go.Proofs.Lays.n240 Tryz.prog tzRen := {
  mixed := by kernel_rfl
  f240 := Tryz.func90.trans (congrArg some (by kernel_rfl))
  f276 := Tryz.func114.trans (congrArg some (by kernel_rfl))
  t0 := Tryz.underlying0
  a0 := Tryz.isAgg0
  z0 := Tryz.sizeOf0
  v0 := Tryz.zeroValue0
  t4 := Tryz.underlying4
  a4 := Tryz.isAgg4
  z4 := Tryz.sizeOf4
  v4 := Tryz.zeroValue4
  t9 := Tryz.underlying9
  a9 := Tryz.isAgg9
  z9 := Tryz.sizeOf9
  v9 := Tryz.zeroValue9
  t20 := Tryz.underlying20
  a20 := Tryz.isAgg20
  z20 := Tryz.sizeOf20
  v20 := Tryz.zeroValue20
  t70 := Tryz.underlying75
  a70 := Tryz.isAgg75
  z70 := Tryz.sizeOf75
  v70 := Tryz.zeroValue75
  t72 := Tryz.underlying78
  a72 := Tryz.isAgg78
  z72 := Tryz.sizeOf78
  v72 := Tryz.zeroValue78
  t164 := Tryz.underlying168
  a164 := Tryz.isAgg168
  z164 := Tryz.sizeOf168
  v164 := Tryz.zeroValue168 }
theorem tzX72 : Builder.X72 Tryz.prog tzRen := { sizeBuilder := by kernel_rfl, liesBuilder := by kernel_rfl }
theorem tzJoin : Fs.Enters Tryz.prog 39 := ⟨_, Tryz.func39, rfl, by kernel_rfl⟩
/-- The package variables that the program reads: their numbers, types, cells. -/
def tzG : List (Nat × TypeId × List Value) := [(0, 123, [.string ⟨#[107, 101, 112, 116]⟩, .func (.func 202) #[] #[], .string ⟨#[109, 105, 115, 115, 101, 100]⟩, .func (.func 203) #[] #[], .string ⟨#[111, 112, 101, 110]⟩, .func (.func 204) #[] #[]]), (1, 145, [.int .i64 (-1), .int .i64 0])]
abbrev OB := orcB 89 39 90 78
theorem tzOrc {B : Nat} {w0 : World} (hz : w0.drawn = 0) (hB : w0.heap.size ≤ B) (ht : ∀ w, Below B w0 w → Lib.TabIs Tryz.prog w "internal/strconv.uint64pow10" .u64 Lib.pow10Tab) : CallSound Tryz.prog B w0 (orcS 89 89) :=
  orcI_sound hz tzItoa (fun n w hw h0 h1 => (Tryz.internal_strconv_Itoa n h0 h1 w (ht w hw)).mono fun e w' ⟨he, k, os, hw'⟩ => ⟨he, by rw [hw']; exact Lib.below_grow _ _ (Nat.le_refl _) _ _⟩)
theorem tzOrcJ {B : Nat} {w0 : World} (hz : w0.drawn = 0) (hB : w0.heap.size ≤ B) (ht : ∀ w, Below B w0 w → Lib.TabIs Tryz.prog w "internal/strconv.uint64pow10" .u64 Lib.pow10Tab) : CallSound Tryz.prog B w0 (orcS 89 39) :=
  orcS_sound hz tzItoa tzJoin (fun n w hw h0 h1 => (Tryz.internal_strconv_Itoa n h0 h1 w (ht w hw)).mono fun e w' ⟨he, k, os, hw'⟩ => ⟨he, by rw [hw']; exact Lib.below_grow _ _ (Nat.le_refl _) _ _⟩)
    (fun bk o c xs sep w hcells hbk hN hcap hlen => Tryz.strings_Join bk o c xs sep w hcells hbk hN hcap hlen)
theorem tzOrcB {B : Nat} {w0 : World} (hz : w0.drawn = 0) (hB : w0.heap.size ≤ B) (ht : ∀ w, Below B w0 w → Lib.TabIs Tryz.prog w "internal/strconv.uint64pow10" .u64 Lib.pow10Tab) : CallSound Tryz.prog B w0 OB :=
  orcB_sound hz (tzOrcJ hz hB ht) tzCheck (fun b w h0 h1 h2 => Any.Builder_copyCheck_fresh tzLays tzX72 b w h0 h1 h2) (fun b w h0 => Any.Builder_copyCheck_used tzLays tzX72 b w h0)
end Go.Proofs
namespace Go.Proofs
open Go.Fs
noncomputable def tzC : Code := match Tryz.f5.body with | some c => c | none => .skip
noncomputable def tzx0 : Tr := (.node (.int .i64 0) (.node (.bool false) .leaf .leaf) .leaf)
noncomputable def tzx1 : Tr := (.node (.int .i64 24) (.node (.bool true) .leaf .leaf) .leaf)
noncomputable def tzx2 : Tr := (.node (.tuple #[.slice none 0 0, .int .i64 24]) .leaf .leaf)
noncomputable def tzx3 : Tr := (.node (.int .i64 0) (.node (.int .i64 0) .leaf .leaf) .leaf)
noncomputable def tzx4 : Tr := (.node (.bool false) (.node (.int .i64 0) .leaf .leaf) .leaf)
noncomputable def tzx5 : Tr := (.node (.string ⟨#[109, 105, 115, 115, 101, 100]⟩) .leaf .leaf)
noncomputable def tzx6 : Tr := (.node (.tuple #[.slice (some ⟨6, 0, none⟩) 4 0, .int .i64 0]) .leaf .leaf)
noncomputable def tzx7 : Tr := (.node (.tuple #[.slice (some ⟨15, 0, none⟩) 4 0, .int .i64 0]) .leaf .leaf)
noncomputable def tzx8 : Tr := (.node (.tuple #[.slice (some ⟨94, 0, none⟩) 4 0, .int .i64 0]) .leaf .leaf)
noncomputable def tzx9 : Tr := (.node (.tuple #[.slice (some ⟨68, 0, none⟩) 3 0, .int .i64 0]) .leaf .leaf)
noncomputable def tzx10 : Tr := (.node (.tuple #[.string ⟨#[107, 101, 112, 116]⟩, .int .i64 0]) .leaf .leaf)
noncomputable def tzx11 : Tr := (.node (.tuple #[.string ⟨#[111, 112, 101, 110]⟩, .int .i64 0]) .leaf .leaf)
noncomputable def tzx12 : Tr := (.node (.tuple #[.slice (some ⟨162, 0, none⟩) 4 0, .int .i64 0]) .leaf .leaf)
noncomputable def tzx13 : Tr := (.node (.tuple #[.slice (some ⟨119, 0, none⟩) 4 0, .int .i64 0]) .leaf .leaf)
noncomputable def tzx14 : Tr := (.node (.tuple #[.slice (some ⟨283, 0, none⟩) 2 0, .int .i64 0]) .leaf .leaf)
noncomputable def tzx15 : Tr := (.node (.tuple #[.slice (some ⟨248, 0, none⟩) 3 0, .int .i64 0]) .leaf .leaf)
noncomputable def tzx16 : Tr := (.node (.tuple #[.slice (some ⟨315, 0, none⟩) 2 0, .int .i64 0]) .leaf .leaf)
noncomputable def tzx17 : Tr := (.node (.tuple #[.slice (some ⟨590, 0, none⟩) 1 0, .int .i64 0]) .leaf .leaf)
noncomputable def tzx18 : Tr := (.node (.tuple #[.slice (some ⟨658, 0, none⟩) 3 0, .int .i64 0]) .leaf .leaf)
noncomputable def tzx19 : Tr := (.node (.tuple #[.agg #[.int .i64 6, .int .i64 11], .int .i64 0]) .leaf .leaf)
noncomputable def tzx20 : Tr := (.node (.slice (some ⟨72, 0, none⟩) 4 0) (.node (.bool true) .leaf .leaf) .leaf)
noncomputable def tzx21 : Tr := (.node (.slice (some ⟨68, 0, none⟩) 3 0) (.node (.bool false) .leaf .leaf) .leaf)
noncomputable def tzx22 : Tr := (.node (.int .i64 0) (.node (.slice (some ⟨68, 0, none⟩) 3 0) .leaf .leaf) .leaf)
noncomputable def tzx23 : Tr := (.node (.slice (some ⟨94, 0, none⟩) 4 0) (.node (.bool false) .leaf .leaf) .leaf)
noncomputable def tzx24 : Tr := (.node (.slice (some ⟨162, 0, none⟩) 4 0) (.node (.bool true) .leaf .leaf) .leaf)
noncomputable def tzx25 : Tr := (.node (.int .i64 0) (.node (.string ⟨#[107, 101, 112, 116]⟩) .leaf .leaf) .leaf)
noncomputable def tzx26 : Tr := (.node (.slice (some ⟨165, 0, none⟩) 4 0) (.node (.bool false) .leaf .leaf) .leaf)
noncomputable def tzx27 : Tr := (.node (.slice (some ⟨119, 0, none⟩) 4 0) (.node (.bool false) .leaf .leaf) .leaf)
noncomputable def tzx28 : Tr := (.node (.int .i64 0) (.node (.slice (some ⟨209, 0, none⟩) 4 0) .leaf .leaf) .leaf)
noncomputable def tzx29 : Tr := (.node (.slice (some ⟨168, 0, none⟩) 4 0) (.node (.bool false) .leaf .leaf) .leaf)
noncomputable def tzx30 : Tr := (.node (.bool false) (.node (.slice (some ⟨590, 0, none⟩) 1 0) .leaf .leaf) .leaf)
noncomputable def tzx31 : Tr := (.node (.slice none 0 0) (.node (.slice (some ⟨208, 0, none⟩) 4 0) .leaf .leaf) .leaf)
noncomputable def tzx32 : Tr := (.node (.tuple #[.string ⟨#[109, 105, 115, 115, 101, 100]⟩, .int .i64 0]) .leaf .leaf)
noncomputable def tzx33 : Tr := (.node (.bool false) (.node (.int .i64 0) .leaf .leaf) (.node (.bool true) .leaf .leaf))
noncomputable def tzx34 : Tr := (.node (.int .i64 0) (.node (.bool true) .leaf .leaf) (.node (.bool false) .leaf .leaf))
noncomputable def tzx35 : Tr := (.node (.tuple #[.slice none 0 0, .int .i64 24]) (.node (.bool false) .leaf .leaf) .leaf)
noncomputable def tzx36 : Tr := (.node (.int .i64 0) (.node (.bool false) .leaf .leaf) (.node (.int .i64 0) .leaf .leaf))
noncomputable def tzx37 : Tr := (.node (.int .i64 0) (.node (.bool false) .leaf .leaf) (.node (.bool false) .leaf .leaf))
noncomputable def tzx38 : Tr := (.node (.int .i64 24) (.node (.bool true) .leaf .leaf) (.node (.int .i64 0) .leaf .leaf))
noncomputable def tzx39 : Tr := (.node (.int .i64 0) (.node (.int .i64 0) .leaf .leaf) (.node (.bool false) .leaf .leaf))
noncomputable def tzx40 : Tr := (.node (.bool false) (.node (.int .i64 24) .leaf .leaf) (.node (.bool false) .leaf .leaf))
noncomputable def tzx41 : Tr := (.node (.bool false) (.node (.slice none 0 0) .leaf .leaf) (.node (.int .i64 6) .leaf .leaf))
noncomputable def tzx42 : Tr := (.node (.slice (some ⟨97, 0, none⟩) 4 0) (.node (.slice (some ⟨206, 0, none⟩) 4 0) .leaf .leaf) .leaf)
noncomputable def tzx43 : Tr := (.node (.tuple #[]) .leaf tzx7)
noncomputable def tzx44 : Tr := (.node (.tuple #[]) tzx8 .leaf)
noncomputable def tzx45 : Tr := (.node (.slice (some ⟨202, 0, none⟩) 4 0) (.node (.slice (some ⟨202, 0, none⟩) 4 0) .leaf .leaf) .leaf)
noncomputable def tzx46 : Tr := (.node (.slice (some ⟨128, 0, none⟩) 4 0) (.node (.slice (some ⟨119, 0, none⟩) 4 0) .leaf .leaf) .leaf)
noncomputable def tzx47 : Tr := (.node (.slice (some ⟨205, 0, none⟩) 3 0) (.node (.slice (some ⟨440, 0, none⟩) 3 0) .leaf .leaf) .leaf)
noncomputable def tzx48 : Tr := (.node (.tuple #[]) tzx13 .leaf)
noncomputable def tzx49 : Tr := (.node (.tuple #[.slice (some ⟨94, 0, none⟩) 4 0, .int .i64 0]) (.node (.bool false) .leaf .leaf) .leaf)
noncomputable def tzx50 : Tr := (.node (.tuple #[.slice (some ⟨119, 0, none⟩) 4 0, .int .i64 0]) (.node (.bool true) .leaf .leaf) .leaf)
noncomputable def tzx51 : Tr := (.node (.int .i64 0) tzx10 .leaf)
noncomputable def tzx52 : Tr := (.node (.bool false) tzx11 .leaf)
noncomputable def tzx53 : Tr := (.node (.bool true) tzx17 .leaf)
noncomputable def tzx54 : Tr := (.node (.tuple #[]) .leaf tzx19)
noncomputable def tzx55 : Tr := (.node (.tuple #[.slice (some ⟨202, 0, none⟩) 4 0, .int .i64 0]) (.node (.bool false) .leaf .leaf) .leaf)
noncomputable def tzx56 : Tr := (.node (.tuple #[.slice (some ⟨162, 0, none⟩) 4 0, .int .i64 0]) (.node (.bool false) .leaf .leaf) .leaf)
noncomputable def tzx57 : Tr := (.node (.int .i64 0) (.node (.string ⟨#[107, 101, 112, 116]⟩) .leaf .leaf) (.node (.bool false) .leaf .leaf))
noncomputable def tzx58 : Tr := (.node (.bool true) (.node (.slice (some ⟨225, 0, none⟩) 4 0) .leaf .leaf) (.node (.bool false) .leaf .leaf))
noncomputable def tzx59 : Tr := (.node (.int .i64 0) (.node (.bool false) .leaf .leaf) (.node (.string ⟨#[107, 101, 112, 116]⟩) .leaf .leaf))
noncomputable def tzx60 : Tr := (.node (.slice (some ⟨162, 0, none⟩) 4 0) (.node (.bool true) .leaf .leaf) (.node (.int .i64 0) .leaf .leaf))
noncomputable def tzx61 : Tr := (.node (.tuple #[.slice none 0 0, .int .i64 24]) (.node (.slice (some ⟨162, 0, none⟩) 4 0) .leaf .leaf) .leaf)
noncomputable def tzx62 : Tr := (.node (.int .i64 0) (.node (.slice (some ⟨213, 0, none⟩) 4 0) .leaf .leaf) (.node (.bool false) .leaf .leaf))
noncomputable def tzx63 : Tr := (.node (.slice (some ⟨165, 0, none⟩) 4 0) (.node (.bool false) .leaf .leaf) (.node (.int .i64 0) .leaf .leaf))
noncomputable def tzx64 : Tr := (.node (.slice (some ⟨119, 0, none⟩) 4 0) (.node (.bool false) .leaf .leaf) (.node (.int .i64 0) .leaf .leaf))
noncomputable def tzx65 : Tr := (.node (.int .i64 0) (.node (.slice (some ⟨209, 0, none⟩) 4 0) .leaf .leaf) (.node (.bool false) .leaf .leaf))
noncomputable def tzx66 : Tr := (.node (.int .i64 0) (.node (.slice (some ⟨217, 0, none⟩) 4 0) .leaf .leaf) (.node (.bool false) .leaf .leaf))
noncomputable def tzx67 : Tr := (.node (.bool false) (.node (.slice (some ⟨220, 0, none⟩) 4 0) .leaf .leaf) (.node (.bool false) .leaf .leaf))
noncomputable def tzx68 : Tr := (.node (.slice (some ⟨168, 0, none⟩) 4 0) (.node (.bool false) .leaf .leaf) (.node (.bool false) .leaf .leaf))
noncomputable def tzx69 : Tr := (.node (.int .i64 0) (.node (.slice (some ⟨212, 0, none⟩) 4 0) .leaf .leaf) (.node (.bool false) .leaf .leaf))
noncomputable def tzx70 : Tr := (.node (.bool false) (.node (.int .i64 0) .leaf .leaf) (.node (.slice (some ⟨315, 0, none⟩) 2 0) .leaf .leaf))
noncomputable def tzx71 : Tr := (.node (.int .i64 24) (.node (.slice (some ⟨221, 0, none⟩) 4 0) .leaf .leaf) (.node (.bool false) .leaf .leaf))
noncomputable def tzx72 : Tr := (.node (.slice none 0 0) (.node (.slice (some ⟨208, 0, none⟩) 4 0) .leaf .leaf) (.node (.int .i64 0) .leaf .leaf))
noncomputable def tzx73 : Tr := (.node (.bool true) tzx2 (.node (.bool false) .leaf .leaf))
noncomputable def tzx74 : Tr := (.node (.tuple #[.slice none 0 0, .int .i64 24]) (.node (.bool false) .leaf .leaf) (.node (.int .i64 0) .leaf .leaf))
noncomputable def tzx75 : Tr := (.node (.int .i64 0) (.node (.int .i64 0) .leaf .leaf) tzx5)
noncomputable def tzx76 : Tr := (.node (.tuple #[.slice (some ⟨94, 0, none⟩) 4 0, .int .i64 0]) (.node (.slice (some ⟨205, 0, none⟩) 3 0) .leaf .leaf) .leaf)
noncomputable def tzx77 : Tr := (.node (.tuple #[.slice (some ⟨119, 0, none⟩) 4 0, .int .i64 0]) (.node (.slice (some ⟨94, 0, none⟩) 4 0) .leaf .leaf) .leaf)
noncomputable def tzx78 : Tr := (.node (.slice (some ⟨68, 0, none⟩) 3 0) tzx17 .leaf)
noncomputable def tzx79 : Tr := (.node (.tuple #[.slice (some ⟨162, 0, none⟩) 4 0, .int .i64 0]) (.node (.slice (some ⟨207, 0, none⟩) 4 0) .leaf .leaf) .leaf)
noncomputable def tzx80 : Tr := (.node (.slice (some ⟨72, 0, none⟩) 4 0) (.node (.bool true) .leaf .leaf) (.node (.slice (some ⟨283, 0, none⟩) 2 0) .leaf .leaf))
noncomputable def tzx81 : Tr := (.node (.agg #[.slice (some ⟨227, 0, none⟩) 2 0, .slice (some ⟨228, 0, none⟩) 2 0, .slice (some ⟨231, 0, none⟩) 2 0]) .leaf .leaf)
noncomputable def tzx82 : Tr := (.node (.slice (some ⟨97, 0, none⟩) 4 0) (.node (.slice (some ⟨206, 0, none⟩) 4 0) .leaf .leaf) (.node (.int .i64 6) .leaf .leaf))
noncomputable def tzx83 : Tr := (.node (.agg #[.slice (some ⟨233, 0, none⟩) 2 0, .slice (some ⟨234, 0, none⟩) 2 0, .slice (some ⟨237, 0, none⟩) 2 0]) .leaf .leaf)
noncomputable def tzx84 : Tr := (.node (.agg #[.slice (some ⟨285, 0, none⟩) 2 0, .slice (some ⟨286, 0, none⟩) 2 0, .slice (some ⟨289, 0, none⟩) 2 0]) .leaf .leaf)
noncomputable def tzx85 : Tr := (.node (.bool false) (.node (.string ⟨#[111, 112, 101, 110]⟩) .leaf .leaf) (.node (.slice (some ⟨290, 0, none⟩) 3 0) .leaf .leaf))
noncomputable def tzx86 : Tr := (.node (.agg #[.slice (some ⟨258, 0, none⟩) 2 0, .slice (some ⟨259, 0, none⟩) 2 0, .slice (some ⟨262, 0, none⟩) 2 0]) .leaf .leaf)
noncomputable def tzx87 : Tr := (.node (.int .i64 0) (.node (.slice (some ⟨216, 0, none⟩) 4 0) .leaf .leaf) (.node (.string ⟨#[111, 112, 101, 110]⟩) .leaf .leaf))
noncomputable def tzx88 : Tr := (.node (.slice (some ⟨203, 0, none⟩) 4 0) (.node (.slice (some ⟨224, 0, none⟩) 4 0) .leaf .leaf) (.node (.bool false) .leaf .leaf))
noncomputable def tzx89 : Tr := (.node (.slice (some ⟨128, 0, none⟩) 4 0) (.node (.slice (some ⟨119, 0, none⟩) 4 0) .leaf .leaf) (.node (.int .i64 0) .leaf .leaf))
noncomputable def tzx90 : Tr := (.node (.tuple #[.slice (some ⟨94, 0, none⟩) 4 0, .int .i64 0]) (.node (.bool false) .leaf .leaf) (.node (.int .i64 0) .leaf .leaf))
noncomputable def tzx91 : Tr := (.node (.int .i64 0) tzx10 (.node (.bool false) .leaf .leaf))
noncomputable def tzx92 : Tr := (.node (.bool false) tzx11 (.node (.bool false) .leaf .leaf))
noncomputable def tzx93 : Tr := (.node (.tuple #[.slice (some ⟨119, 0, none⟩) 4 0, .int .i64 0]) (.node (.bool true) .leaf .leaf) (.node (.int .i64 0) .leaf .leaf))
noncomputable def tzx94 : Tr := (.node (.slice (some ⟨202, 0, none⟩) 4 0) (.node (.slice (some ⟨202, 0, none⟩) 4 0) .leaf .leaf) (.node (.int .i64 24) .leaf .leaf))
noncomputable def tzx95 : Tr := (.node (.slice (some ⟨94, 0, none⟩) 4 0) (.node (.bool false) .leaf .leaf) (.node (.tuple #[.int .i64 6, .int .i64 0]) .leaf .leaf))
noncomputable def tzx96 : Tr := (.node (.tuple #[.slice (some ⟨202, 0, none⟩) 4 0, .int .i64 0]) (.node (.bool false) .leaf .leaf) (.node (.bool false) .leaf .leaf))
noncomputable def tzx97 : Tr := (.node (.tuple #[.slice (some ⟨162, 0, none⟩) 4 0, .int .i64 0]) (.node (.bool false) .leaf .leaf) (.node (.int .i64 0) .leaf .leaf))
noncomputable def tzx98 : Tr := (.node (.tuple #[.slice (some ⟨202, 0, none⟩) 4 0, .int .i64 0]) (.node (.bool false) .leaf .leaf) (.node (.int .i64 0) .leaf .leaf))
noncomputable def tzx99 : Tr := (.node (.bool false) tzx15 (.node (.bool false) .leaf .leaf))
noncomputable def tzx100 : Tr := (.node (.slice (some ⟨15, 0, none⟩) 4 0) tzx2 (.node (.bool false) .leaf .leaf))
noncomputable def tzx101 : Tr := (.node (.agg #[.int .i64 6, .int .i64 11]) (.node (.int .i64 0) (.node (.bool true) .leaf .leaf) .leaf) (.node (.bool false) .leaf .leaf))
noncomputable def tzx102 : Tr := (.node (.tuple #[.slice none 0 0, .int .i64 24]) (.node (.slice (some ⟨162, 0, none⟩) 4 0) .leaf .leaf) (.node (.int .i64 0) .leaf .leaf))
noncomputable def tzx103 : Tr := (.node (.int .i64 0) tzx0 (.node (.agg #[.int .i64 6, .int .i64 11]) .leaf .leaf))
noncomputable def tzx104 : Tr := (.node (.bool false) tzx5 (.node (.slice (some ⟨291, 0, none⟩) 2 0) .leaf .leaf))
noncomputable def tzx105 : Tr := (.node (.int .i64 0) tzx10 (.node (.string ⟨#[107, 101, 112, 116]⟩) .leaf .leaf))
noncomputable def tzx106 : Tr := (.node (.bool false) tzx11 (.node (.slice (some ⟨248, 0, none⟩) 3 0) .leaf .leaf))
noncomputable def tzx107 : Tr := (.node (.tuple #[.slice (some ⟨162, 0, none⟩) 4 0, .int .i64 0]) (.node (.slice (some ⟨207, 0, none⟩) 4 0) .leaf .leaf) (.node (.int .i64 0) .leaf .leaf))
noncomputable def tzx108 : Tr := (.node (.bool false) (.node (.slice (some ⟨248, 0, none⟩) 3 0) .leaf .leaf) tzx16)
noncomputable def tzx109 : Tr := (.node (.slice (some ⟨94, 0, none⟩) 4 0) tzx4 (.node (.tuple #[.int .i64 6, .int .i64 0]) .leaf .leaf))
noncomputable def tzx110 : Tr := (.node (.slice (some ⟨6, 0, none⟩) 4 0) tzx32 (.node (.bool false) .leaf .leaf))
noncomputable def tzx111 : Tr := (.node (.bool false) tzx32 (.node (.slice (some ⟨283, 0, none⟩) 2 0) .leaf .leaf))
noncomputable def tzx112 : Tr := (.node (.tuple #[.slice (some ⟨119, 0, none⟩) 4 0, .int .i64 0]) (.node (.slice (some ⟨94, 0, none⟩) 4 0) .leaf .leaf) (.node (.tuple #[.int .i64 6, .int .i64 0]) .leaf .leaf))
noncomputable def tzx113 : Tr := (.node (.agg #[.int .i64 6, .int .i64 11]) tzx15 (.node (.slice (some ⟨292, 0, none⟩) 3 0) .leaf .leaf))
noncomputable def tzx114 : Tr := (.node (.slice (some ⟨68, 0, none⟩) 3 0) tzx4 tzx14)
noncomputable def tzx115 : Tr := (.node (.tuple #[.slice (some ⟨94, 0, none⟩) 4 0, .int .i64 0]) tzx30 (.node (.int .i64 0) .leaf .leaf))
noncomputable def tzx116 : Tr := (.node (.tuple #[.slice (some ⟨68, 0, none⟩) 3 0, .int .i64 0]) tzx0 (.node (.agg #[.int .i64 6, .int .i64 11]) .leaf .leaf))
noncomputable def tzx117 : Tr := (.node (.int .i64 0) (.node (.bool false) .leaf .leaf) tzx84)
noncomputable def tzx118 : Tr := (.node (.tuple #[.slice (some ⟨94, 0, none⟩) 4 0, .int .i64 0]) (.node (.slice (some ⟨205, 0, none⟩) 3 0) .leaf .leaf) tzx14)
noncomputable def tzx119 : Tr := (.node (.slice (some ⟨72, 0, none⟩) 4 0) tzx53 (.node (.slice (some ⟨283, 0, none⟩) 2 0) .leaf .leaf))
noncomputable def tzx120 : Tr := (.node (.int .i64 0) (.node (.slice (some ⟨68, 0, none⟩) 3 0) .leaf .leaf) tzx86)
noncomputable def tzx121 : Tr := (.node (.slice (some ⟨204, 0, none⟩) 4 0) tzx81 (.node (.bool false) .leaf .leaf))
noncomputable def tzx122 : Tr := (.node (.tuple #[]) tzx36 tzx67)
noncomputable def tzx123 : Tr := (.node (.slice (some ⟨5, 0, none⟩) 4 0) tzx60 tzx33)
noncomputable def tzx124 : Tr := (.node (.int .i64 0) tzx80 tzx39)
noncomputable def tzx125 : Tr := (.node (.int .i64 0) tzx63 tzx58)
noncomputable def tzx126 : Tr := (.node (.tuple #[.slice (some ⟨15, 0, none⟩) 4 0, .int .i64 0]) tzx38 tzx33)
noncomputable def tzx127 : Tr := (.node (.tuple #[.slice (some ⟨94, 0, none⟩) 4 0, .int .i64 0]) tzx47 tzx14)
noncomputable def tzx128 : Tr := (.node (.agg #[.int .i64 6, .int .i64 11]) tzx83 tzx16)
noncomputable def tzx129 : Tr := (.node (.tuple #[]) tzx82 tzx57)
noncomputable def tzx130 : Tr := (.node (.tuple #[]) tzx64 tzx92)
noncomputable def tzx131 : Tr := (.node (.tuple #[]) tzx97 tzx71)
noncomputable def tzx132 : Tr := (.node (.agg #[.int .i64 6, .int .i64 11]) tzx34 tzx99)
noncomputable def tzx133 : Tr := (.node (.tuple #[.agg #[.int .i64 6, .int .i64 11], .int .i64 0]) tzx65 tzx40)
noncomputable def tzx134 : Tr := (.node (.slice (some ⟨23, 0, none⟩) 4 0) tzx94 tzx41)
noncomputable def tzx135 : Tr := (.node (.tuple #[]) tzx93 tzx75)
noncomputable def tzx136 : Tr := (.node (.int .i64 0) tzx78 tzx86)
noncomputable def tzx137 : Tr := (.node (.tuple #[.slice (some ⟨68, 0, none⟩) 3 0, .int .i64 0]) tzx69 tzx70)
noncomputable def tzx138 : Tr := (.node (.slice (some ⟨6, 0, none⟩) 4 0) tzx74 tzx88)
noncomputable def tzx139 : Tr := (.node (.slice (some ⟨14, 0, none⟩) 4 0) tzx72 tzx104)
noncomputable def tzx140 : Tr := (.node (.tuple #[]) tzx89 tzx106)
noncomputable def tzx141 : Tr := (.node (.slice (some ⟨15, 0, none⟩) 4 0) tzx98 tzx100)
noncomputable def tzx142 : Tr := (.node (.int .i64 0) tzx109 tzx87)
noncomputable def tzx143 : Tr := (.node (.int .i64 0) tzx119 tzx39)
noncomputable def tzx144 : Tr := (.node (.tuple #[.slice (some ⟨6, 0, none⟩) 4 0, .int .i64 0]) tzx36 tzx110)
noncomputable def tzx145 : Tr := (.node (.tuple #[.agg #[.int .i64 6, .int .i64 11], .int .i64 0]) tzx96 tzx73)
noncomputable def tzx146 : Tr := (.node (.tuple #[]) tzx117 tzx66)
noncomputable def tzx147 : Tr := (.node (.int .i64 6) tzx118 tzx57)
noncomputable def tzx148 : Tr := (.node (.slice (some ⟨27, 0, none⟩) 4 0) tzx91 tzx108)
noncomputable def tzx149 : Tr := (.node (.tuple #[]) tzx112 tzx91)
noncomputable def tzx150 : Tr := (.node (.slice (some ⟨283, 0, none⟩) 2 0) tzx114 tzx62)
noncomputable def tzx151 : Tr := (.node (.int .i64 0) tzx68 tzx121)
noncomputable def tzx152 : Tr := (.node (.tuple #[.slice (some ⟨6, 0, none⟩) 4 0, .int .i64 0]) tzx107 tzx85)
noncomputable def tzx153 : Tr := (.node (.tuple #[.slice (some ⟨68, 0, none⟩) 3 0, .int .i64 0]) tzx59 tzx113)
noncomputable def tzx154 : Tr := (.node (.slice (some ⟨315, 0, none⟩) 2 0) tzx115 tzx91)
noncomputable def tzx155 : Tr := (.node (.int .i64 0) tzx37 tzx128)
noncomputable def tzx156 : Tr := (.node (.tuple #[.slice (some ⟨15, 0, none⟩) 4 0, .int .i64 0]) tzx102 tzx111)
noncomputable def tzx157 : Tr := (.node (.int .i64 6) tzx127 tzx57)
noncomputable def tzx158 : Tr := (.node (.int .i64 0) tzx120 tzx105)
noncomputable def tzx159 : Tr := (.node (.int .i64 0) tzx136 tzx105)
noncomputable def tzx160 : Tr := (.node (.int .i64 0) tzx122 tzx132)
noncomputable def tzx161 : Tr := (.node (.int .i64 0) tzx123 tzx137)
noncomputable def tzx162 : Tr := (.node (.int .i64 0) tzx135 tzx134)
noncomputable def tzx163 : Tr := (.node (.int .i64 0) tzx142 tzx126)
noncomputable def tzx164 : Tr := (.node (.string ⟨#[109, 105, 115, 115, 101, 100]⟩) tzx130 tzx133)
noncomputable def tzx165 : Tr := (.node (.slice (some ⟨202, 0, none⟩) 4 0) tzx147 tzx125)
noncomputable def tzx166 : Tr := (.node (.string ⟨#[111, 112, 101, 110]⟩) tzx129 tzx145)
noncomputable def tzx167 : Tr := (.node (.int .i64 0) tzx124 tzx156)
noncomputable def tzx168 : Tr := (.node (.slice none 0 0) tzx131 tzx155)
noncomputable def tzx169 : Tr := (.node (.slice (some ⟨202, 0, none⟩) 4 0) tzx157 tzx125)
noncomputable def tzx170 : Tr := (.node (.string ⟨#[107, 101, 112, 116]⟩) tzx146 tzx141)
noncomputable def tzx171 : Tr := (.node (.slice none 0 0) tzx150 tzx144)
noncomputable def tzx172 : Tr := (.node (.int .i64 24) tzx140 tzx153)
noncomputable def tzx173 : Tr := (.node (.int .i64 0) tzx149 tzx151)
noncomputable def tzx174 : Tr := (.node (.int .i64 24) tzx158 tzx138)
noncomputable def tzx175 : Tr := (.node (.string ⟨#[107, 101, 112, 116]⟩) tzx154 tzx139)
noncomputable def tzx176 : Tr := (.node (.int .i64 0) tzx143 tzx156)
noncomputable def tzx177 : Tr := (.node (.slice (some ⟨248, 0, none⟩) 3 0) tzx152 tzx148)
noncomputable def tzx178 : Tr := (.node (.int .i64 24) tzx159 tzx138)
noncomputable def tzx179 : Tr := (.node (.int .i64 0) tzx167 tzx160)
noncomputable def tzx180 : Tr := (.node (.int .i64 0) tzx176 tzx160)
noncomputable def tzx181 : Tr := (.node (.slice (some ⟨94, 0, none⟩) 4 0) tzx165 tzx164)
noncomputable def tzx182 : Tr := (.node (.int .i64 0) tzx174 tzx162)
noncomputable def tzx183 : Tr := (.node (.int .i64 0) tzx163 tzx172)
noncomputable def tzx184 : Tr := (.node (.slice (some ⟨68, 0, none⟩) 3 0) tzx171 tzx166)
noncomputable def tzx185 : Tr := (.node (.slice (some ⟨119, 0, none⟩) 4 0) tzx175 tzx168)
noncomputable def tzK4 : List Nat := [24, 15, 6]
noncomputable def tzT4 : Tr := (.node (.bool false) (.node (.slice (some ⟨6, 0, none⟩) 4 0) (.node (.slice (some ⟨15, 0, none⟩) 4 0) (.node (.tuple #[]) (.node (.tuple #[]) .leaf tzx6) tzx54) (.node (.tuple #[]) (.node (.tuple #[]) .leaf (.node (.slice (some ⟨14, 0, none⟩) 4 0) .leaf .leaf)) (.node (.tuple #[]) .leaf (.node (.int .i64 0) .leaf .leaf)))) (.node (.pointer (some ⟨24, 0, none⟩)) (.node (.tuple #[]) (.node (.tuple #[]) .leaf (.node (.int .i64 0) .leaf .leaf)) tzx54) (.node (.tuple #[]) (.node (.tuple #[]) .leaf (.node (.slice (some ⟨15, 0, none⟩) 4 0) .leaf .leaf)) (.node (.tuple #[]) tzx6 .leaf)))) (.node (.int .i64 0) (.node (.int .i64 0) (.node (.tuple #[]) (.node (.tuple #[]) .leaf (.node (.slice (some ⟨6, 0, none⟩) 4 0) .leaf .leaf)) (.node (.tuple #[]) .leaf (.node (.slice (some ⟨23, 0, none⟩) 4 0) .leaf .leaf))) (.node (.tuple #[]) tzx43 .leaf)) (.node (.int .i64 0) (.node (.tuple #[]) tzx43 (.node (.tuple #[]) .leaf (.node (.agg #[.int .i64 6, .int .i64 11]) .leaf .leaf))) (.node (.tuple #[]) (.node (.tuple #[]) .leaf (.node (.int .i64 0) .leaf .leaf)) (.node (.tuple #[]) (.node (.slice (some ⟨5, 0, none⟩) 4 0) .leaf .leaf) .leaf)))))
noncomputable def tzF4 : Fr := ⟨tzT4, 318, []⟩
noncomputable def tzO4_0 : List (Nat × AObj) := [(24, .row 46 [.int .i64 6, .int .i64 11] true false), (15, .row 3 [.int .i64 0, .int .i64 0, .int .i64 6, .int .i64 9] true false), (6, .row 3 [.int .i64 0, .int .i64 0, .int .i64 2, .int .i64 5] true false), (1, .row 123 [.string ⟨#[107, 101, 112, 116]⟩, .func (.func 202) #[] #[], .string ⟨#[109, 105, 115, 115, 101, 100]⟩, .func (.func 203) #[] #[], .string ⟨#[111, 112, 101, 110]⟩, .func (.func 204) #[] #[]] false true), (2, .row 145 [.int .i64 (-1), .int .i64 0] false true)]
noncomputable def tzL4 : List (Nat × AObj) := tzO4_0
noncomputable def tzH4 : Heap := ⟨25, 3, tzL4⟩
noncomputable def tzK8 : List Nat := [162, 119, 94, 68, 24, 15, 6]
noncomputable def tzT8 : Tr := (.node (.bool false) (.node (.slice (some ⟨6, 0, none⟩) 4 0) (.node (.slice (some ⟨15, 0, none⟩) 4 0) (.node (.slice (some ⟨68, 0, none⟩) 3 0) (.node (.tuple #[]) (.node (.tuple #[]) (.node (.slice (some ⟨68, 0, none⟩) 3 0) .leaf .leaf) .leaf) (.node (.tuple #[.slice (some ⟨6, 0, none⟩) 4 0, .int .i64 0]) (.node (.int .i64 0) .leaf .leaf) .leaf)) (.node (.tuple #[]) (.node (.tuple #[]) (.node (.slice (some ⟨97, 0, none⟩) 4 0) .leaf .leaf) .leaf) tzx19)) (.node (.slice (some ⟨119, 0, none⟩) 4 0) (.node (.tuple #[]) tzx44 (.node (.slice (some ⟨14, 0, none⟩) 4 0) .leaf .leaf)) (.node (.tuple #[]) (.node (.tuple #[]) tzx12 .leaf) (.node (.int .i64 0) .leaf .leaf)))) (.node (.pointer (some ⟨24, 0, none⟩)) (.node (.slice (some ⟨94, 0, none⟩) 4 0) (.node (.tuple #[]) tzx44 (.node (.int .i64 0) .leaf .leaf)) (.node (.tuple #[]) (.node (.tuple #[]) (.node (.slice (some ⟨119, 0, none⟩) 4 0) .leaf .leaf) .leaf) tzx19)) (.node (.slice (some ⟨162, 0, none⟩) 4 0) (.node (.tuple #[]) (.node (.tuple #[]) (.node (.int .i64 0) .leaf .leaf) .leaf) (.node (.slice (some ⟨15, 0, none⟩) 4 0) .leaf .leaf)) (.node (.tuple #[]) (.node (.tuple #[.slice (some ⟨6, 0, none⟩) 4 0, .int .i64 0]) tzx12 .leaf) (.node (.slice (some ⟨27, 0, none⟩) 4 0) .leaf .leaf))))) (.node (.int .i64 0) (.node (.int .i64 0) (.node (.int .i64 0) (.node (.tuple #[]) (.node (.tuple #[]) (.node (.int .i64 0) .leaf .leaf) .leaf) (.node (.slice (some ⟨6, 0, none⟩) 4 0) .leaf .leaf)) (.node (.tuple #[]) tzx48 (.node (.slice (some ⟨23, 0, none⟩) 4 0) .leaf .leaf))) (.node (.int .i64 0) (.node (.tuple #[]) (.node (.tuple #[]) (.node (.slice (some ⟨94, 0, none⟩) 4 0) .leaf .leaf) .leaf) tzx7) (.node (.tuple #[]) (.node (.tuple #[]) (.node (.slice (some ⟨128, 0, none⟩) 4 0) .leaf .leaf) .leaf) tzx9))) (.node (.int .i64 0) (.node (.int .i64 0) (.node (.tuple #[]) (.node (.tuple #[]) (.node (.slice (some ⟨72, 0, none⟩) 4 0) .leaf .leaf) .leaf) tzx7) (.node (.tuple #[]) (.node (.tuple #[]) (.node (.int .i64 0) .leaf .leaf) .leaf) (.node (.agg #[.int .i64 6, .int .i64 11]) .leaf .leaf))) (.node (.int .i64 0) (.node (.tuple #[]) tzx48 (.node (.int .i64 0) .leaf .leaf)) (.node (.tuple #[]) (.node (.slice (some ⟨5, 0, none⟩) 4 0) (.node (.slice (some ⟨162, 0, none⟩) 4 0) .leaf .leaf) .leaf) tzx9)))))
noncomputable def tzF8 : Fr := ⟨tzT8, 318, []⟩
noncomputable def tzO8_0 : List (Nat × AObj) := [(162, .row 3 [.int .i64 8, .int .i64 8, .int .i64 11, .int .i64 12] true true), (119, .row 3 [.int .i64 3, .int .i64 1, .int .i64 1, .int .i64 1] true true), (94, .row 3 [.int .i64 3, .int .i64 1, .int .i64 7, .int .i64 10] true true), (68, .row 3 [.int .i64 1, .int .i64 2, .int .i64 3] true true)]
noncomputable def tzL8 : List (Nat × AObj) := tzO8_0 ++ tzL4
noncomputable def tzH8 : Heap := ⟨163, 3, tzL8⟩
noncomputable def tzK11 : List Nat := []
noncomputable def tzT11 : Tr := (.node (.bool false) (.node (.slice (some ⟨6, 0, none⟩) 4 0) (.node (.slice (some ⟨15, 0, none⟩) 4 0) (.node (.slice (some ⟨68, 0, none⟩) 3 0) (.node (.slice none 0 0) (.node (.tuple #[]) tzx21 (.node (.int .i64 0) .leaf .leaf)) (.node (.tuple #[.slice (some ⟨6, 0, none⟩) 4 0, .int .i64 0]) tzx0 (.node (.slice (some ⟨6, 0, none⟩) 4 0) .leaf .leaf))) (.node (.tuple #[]) (.node (.tuple #[]) tzx42 (.node (.int .i64 0) .leaf .leaf)) (.node (.tuple #[.agg #[.int .i64 6, .int .i64 11], .int .i64 0]) tzx55 (.node (.bool true) .leaf .leaf)))) (.node (.slice (some ⟨119, 0, none⟩) 4 0) (.node (.tuple #[]) (.node (.tuple #[]) tzx49 (.node (.int .i64 0) .leaf .leaf)) (.node (.slice (some ⟨14, 0, none⟩) 4 0) tzx31 (.node (.bool false) .leaf .leaf))) (.node (.tuple #[]) (.node (.tuple #[]) tzx56 (.node (.int .i64 24) .leaf .leaf)) tzx103))) (.node (.pointer (some ⟨24, 0, none⟩)) (.node (.slice (some ⟨94, 0, none⟩) 4 0) (.node (.slice (some ⟨202, 0, none⟩) 4 0) (.node (.tuple #[]) tzx76 (.node (.int .i64 0) .leaf .leaf)) (.node (.int .i64 0) tzx26 (.node (.bool true) .leaf .leaf))) (.node (.tuple #[]) (.node (.tuple #[]) tzx27 (.node (.bool false) .leaf .leaf)) (.node (.tuple #[.agg #[.int .i64 6, .int .i64 11], .int .i64 0]) tzx28 (.node (.bool false) .leaf .leaf)))) (.node (.slice (some ⟨162, 0, none⟩) 4 0) (.node (.tuple #[]) (.node (.tuple #[]) tzx0 (.node (.int .i64 0) .leaf .leaf)) (.node (.slice (some ⟨15, 0, none⟩) 4 0) tzx55 (.node (.slice (some ⟨15, 0, none⟩) 4 0) .leaf .leaf))) (.node (.tuple #[]) (.node (.tuple #[.slice (some ⟨6, 0, none⟩) 4 0, .int .i64 0]) tzx79 (.node (.bool false) .leaf .leaf)) (.node (.slice (some ⟨27, 0, none⟩) 4 0) (.node (.int .i64 0) .leaf .leaf) (.node (.bool false) .leaf .leaf)))))) (.node (.int .i64 0) (.node (.int .i64 0) (.node (.int .i64 0) (.node (.int .i64 24) (.node (.tuple #[]) tzx22 (.node (.int .i64 0) .leaf .leaf)) (.node (.slice (some ⟨6, 0, none⟩) 4 0) tzx35 (.node (.slice (some ⟨203, 0, none⟩) 4 0) .leaf .leaf))) (.node (.tuple #[]) (.node (.tuple #[]) tzx50 (.node (.int .i64 0) .leaf .leaf)) (.node (.slice (some ⟨23, 0, none⟩) 4 0) tzx45 (.node (.bool false) .leaf .leaf)))) (.node (.int .i64 0) (.node (.tuple #[]) (.node (.tuple #[]) tzx23 (.node (.int .i64 0) .leaf .leaf)) (.node (.tuple #[.slice (some ⟨15, 0, none⟩) 4 0, .int .i64 0]) tzx1 (.node (.bool false) .leaf .leaf))) (.node (.tuple #[]) (.node (.tuple #[]) tzx46 (.node (.bool false) .leaf .leaf)) tzx116))) (.node (.int .i64 0) (.node (.int .i64 0) (.node (.int .i64 0) (.node (.tuple #[]) tzx20 (.node (.int .i64 0) .leaf .leaf)) (.node (.tuple #[.slice (some ⟨15, 0, none⟩) 4 0, .int .i64 0]) tzx61 (.node (.bool false) .leaf .leaf))) (.node (.tuple #[]) (.node (.tuple #[]) tzx0 (.node (.bool false) .leaf .leaf)) tzx101)) (.node (.int .i64 0) (.node (.tuple #[]) (.node (.tuple #[]) tzx77 (.node (.int .i64 0) .leaf .leaf)) (.node (.int .i64 0) tzx29 (.node (.slice (some ⟨204, 0, none⟩) 4 0) .leaf .leaf))) (.node (.tuple #[]) (.node (.slice (some ⟨5, 0, none⟩) 4 0) tzx24 (.node (.bool false) .leaf .leaf)) (.node (.tuple #[.slice (some ⟨68, 0, none⟩) 3 0, .int .i64 0]) (.node (.int .i64 0) .leaf .leaf) (.node (.bool false) .leaf .leaf)))))))
noncomputable def tzF11 : Fr := ⟨tzT11, 318, []⟩
noncomputable def tzO11_0 : List (Nat × AObj) := [(1, .row 123 [.string ⟨#[107, 101, 112, 116]⟩, .func (.func 202) #[] #[], .string ⟨#[109, 105, 115, 115, 101, 100]⟩, .func (.func 203) #[] #[], .string ⟨#[111, 112, 101, 110]⟩, .func (.func 204) #[] #[]] false true), (2, .row 145 [.int .i64 (-1), .int .i64 0] false true)]
noncomputable def tzL11 : List (Nat × AObj) := tzO11_0
noncomputable def tzH11 : Heap := ⟨210, 3, tzL11⟩
noncomputable def tzK16 : List Nat := []
noncomputable def tzT16 : Tr := (.node (.bool false) (.node (.slice (some ⟨6, 0, none⟩) 4 0) (.node (.slice (some ⟨15, 0, none⟩) 4 0) (.node (.slice (some ⟨68, 0, none⟩) 3 0) (.node (.slice none 0 0) (.node (.tuple #[]) tzx21 (.node (.int .i64 0) (.node (.slice (some ⟨213, 0, none⟩) 4 0) .leaf .leaf) .leaf)) (.node (.tuple #[.slice (some ⟨6, 0, none⟩) 4 0, .int .i64 0]) tzx0 (.node (.slice (some ⟨6, 0, none⟩) 4 0) tzx32 .leaf))) (.node (.string ⟨#[111, 112, 101, 110]⟩) (.node (.tuple #[]) tzx42 tzx25) (.node (.tuple #[.agg #[.int .i64 6, .int .i64 11], .int .i64 0]) tzx55 (.node (.bool true) tzx2 .leaf)))) (.node (.slice (some ⟨119, 0, none⟩) 4 0) (.node (.string ⟨#[107, 101, 112, 116]⟩) (.node (.tuple #[]) tzx49 tzx51) (.node (.slice (some ⟨14, 0, none⟩) 4 0) tzx31 (.node (.bool false) tzx5 .leaf))) (.node (.slice none 0 0) (.node (.tuple #[]) tzx56 (.node (.int .i64 24) (.node (.slice (some ⟨221, 0, none⟩) 4 0) .leaf .leaf) .leaf)) tzx103))) (.node (.pointer (some ⟨24, 0, none⟩)) (.node (.slice (some ⟨94, 0, none⟩) 4 0) (.node (.slice (some ⟨202, 0, none⟩) 4 0) (.node (.tuple #[]) tzx76 tzx25) (.node (.int .i64 0) tzx26 (.node (.bool true) (.node (.slice (some ⟨225, 0, none⟩) 4 0) .leaf .leaf) .leaf))) (.node (.string ⟨#[109, 105, 115, 115, 101, 100]⟩) (.node (.tuple #[]) tzx27 tzx52) (.node (.tuple #[.agg #[.int .i64 6, .int .i64 11], .int .i64 0]) tzx28 (.node (.bool false) (.node (.int .i64 24) .leaf .leaf) .leaf)))) (.node (.slice (some ⟨162, 0, none⟩) 4 0) (.node (.string ⟨#[107, 101, 112, 116]⟩) (.node (.tuple #[]) tzx0 (.node (.int .i64 0) (.node (.slice (some ⟨217, 0, none⟩) 4 0) .leaf .leaf) .leaf)) (.node (.slice (some ⟨15, 0, none⟩) 4 0) tzx55 (.node (.slice (some ⟨15, 0, none⟩) 4 0) tzx2 .leaf))) (.node (.tuple #[]) (.node (.tuple #[.slice (some ⟨6, 0, none⟩) 4 0, .int .i64 0]) tzx79 (.node (.bool false) (.node (.string ⟨#[111, 112, 101, 110]⟩) .leaf .leaf) .leaf)) (.node (.slice (some ⟨27, 0, none⟩) 4 0) tzx51 (.node (.bool false) .leaf .leaf)))))) (.node (.int .i64 0) (.node (.int .i64 0) (.node (.int .i64 0) (.node (.int .i64 24) (.node (.tuple #[]) tzx22 tzx51) (.node (.slice (some ⟨6, 0, none⟩) 4 0) tzx35 (.node (.slice (some ⟨203, 0, none⟩) 4 0) (.node (.slice (some ⟨224, 0, none⟩) 4 0) .leaf .leaf) .leaf))) (.node (.int .i64 0) (.node (.tuple #[]) tzx50 tzx3) (.node (.slice (some ⟨23, 0, none⟩) 4 0) tzx45 (.node (.bool false) (.node (.slice none 0 0) .leaf .leaf) .leaf)))) (.node (.int .i64 0) (.node (.int .i64 0) (.node (.tuple #[]) tzx23 (.node (.int .i64 0) (.node (.slice (some ⟨216, 0, none⟩) 4 0) .leaf .leaf) .leaf)) (.node (.tuple #[.slice (some ⟨15, 0, none⟩) 4 0, .int .i64 0]) tzx1 tzx4)) (.node (.int .i64 24) (.node (.tuple #[]) tzx46 tzx52) tzx116))) (.node (.int .i64 0) (.node (.int .i64 0) (.node (.int .i64 0) (.node (.tuple #[]) tzx20 tzx3) (.node (.tuple #[.slice (some ⟨15, 0, none⟩) 4 0, .int .i64 0]) tzx61 (.node (.bool false) tzx32 .leaf))) (.node (.int .i64 0) (.node (.tuple #[]) tzx0 (.node (.bool false) (.node (.slice (some ⟨220, 0, none⟩) 4 0) .leaf .leaf) .leaf)) tzx101)) (.node (.int .i64 0) (.node (.int .i64 0) (.node (.tuple #[]) tzx77 tzx51) (.node (.int .i64 0) tzx29 (.node (.slice (some ⟨204, 0, none⟩) 4 0) tzx81 .leaf))) (.node (.tuple #[]) (.node (.slice (some ⟨5, 0, none⟩) 4 0) tzx24 tzx4) (.node (.tuple #[.slice (some ⟨68, 0, none⟩) 3 0, .int .i64 0]) (.node (.int .i64 0) (.node (.slice (some ⟨212, 0, none⟩) 4 0) .leaf .leaf) .leaf) (.node (.bool false) .leaf .leaf)))))))
noncomputable def tzF16 : Fr := ⟨tzT16, 318, []⟩
noncomputable def tzL16 : List (Nat × AObj) := tzL11
noncomputable def tzH16 : Heap := ⟨232, 3, tzL16⟩
noncomputable def tzK20 : List Nat := []
noncomputable def tzT20 : Tr := (.node (.bool false) (.node (.slice (some ⟨6, 0, none⟩) 4 0) (.node (.slice (some ⟨15, 0, none⟩) 4 0) (.node (.slice (some ⟨68, 0, none⟩) 3 0) (.node (.slice none 0 0) (.node (.slice (some ⟨283, 0, none⟩) 2 0) (.node (.slice (some ⟨68, 0, none⟩) 3 0) (.node (.bool false) .leaf .leaf) tzx14) tzx62) tzx144) tzx166) (.node (.slice (some ⟨119, 0, none⟩) 4 0) (.node (.string ⟨#[107, 101, 112, 116]⟩) (.node (.tuple #[]) tzx90 tzx91) tzx139) (.node (.slice none 0 0) tzx131 (.node (.int .i64 0) tzx37 (.node (.agg #[.int .i64 6, .int .i64 11]) tzx83 .leaf))))) (.node (.pointer (some ⟨24, 0, none⟩)) tzx181 (.node (.slice (some ⟨162, 0, none⟩) 4 0) tzx170 (.node (.slice (some ⟨248, 0, none⟩) 3 0) tzx152 (.node (.slice (some ⟨27, 0, none⟩) 4 0) tzx91 (.node (.bool false) (.node (.slice (some ⟨248, 0, none⟩) 3 0) .leaf .leaf) .leaf)))))) (.node (.int .i64 0) (.node (.int .i64 0) tzx182 (.node (.int .i64 0) (.node (.int .i64 0) (.node (.tuple #[]) tzx95 tzx87) tzx126) (.node (.int .i64 24) tzx140 (.node (.tuple #[.slice (some ⟨68, 0, none⟩) 3 0, .int .i64 0]) tzx59 (.node (.agg #[.int .i64 6, .int .i64 11]) tzx15 .leaf))))) (.node (.int .i64 0) tzx179 (.node (.int .i64 0) tzx173 (.node (.int .i64 0) tzx123 (.node (.tuple #[.slice (some ⟨68, 0, none⟩) 3 0, .int .i64 0]) tzx69 tzx4))))))
noncomputable def tzF20 : Fr := ⟨tzT20, 318, []⟩
noncomputable def tzL20 : List (Nat × AObj) := tzL16
noncomputable def tzH20 : Heap := ⟨292, 3, tzL20⟩
noncomputable def tzK21 : List Nat := [315]
noncomputable def tzT21 : Tr := (.node (.bool false) (.node (.slice (some ⟨6, 0, none⟩) 4 0) (.node (.slice (some ⟨15, 0, none⟩) 4 0) tzx184 (.node (.slice (some ⟨119, 0, none⟩) 4 0) (.node (.string ⟨#[107, 101, 112, 116]⟩) (.node (.slice (some ⟨315, 0, none⟩) 2 0) tzx90 tzx91) tzx139) tzx168)) (.node (.pointer (some ⟨24, 0, none⟩)) tzx181 (.node (.slice (some ⟨162, 0, none⟩) 4 0) tzx170 tzx177))) (.node (.int .i64 0) (.node (.int .i64 0) tzx182 (.node (.int .i64 0) (.node (.int .i64 0) (.node (.int .i64 0) tzx95 tzx87) tzx126) tzx172)) (.node (.int .i64 0) tzx179 (.node (.int .i64 0) tzx173 tzx161))))
noncomputable def tzF21 : Fr := ⟨tzT21, 318, []⟩
noncomputable def tzO21_0 : List (Nat × AObj) := [(315, .row 145 [.int .i64 0, .int .i64 0, .int .i64 1, .int .i64 5] true true)]
noncomputable def tzL21 : List (Nat × AObj) := tzO21_0 ++ tzL20
noncomputable def tzH21 : Heap := ⟨440, 3, tzL21⟩
noncomputable def tzK22 : List Nat := [590, 315]
noncomputable def tzT22 : Tr := (.node (.bool false) (.node (.slice (some ⟨6, 0, none⟩) 4 0) (.node (.slice (some ⟨15, 0, none⟩) 4 0) tzx184 tzx185) (.node (.pointer (some ⟨24, 0, none⟩)) (.node (.slice (some ⟨94, 0, none⟩) 4 0) tzx169 tzx164) (.node (.slice (some ⟨162, 0, none⟩) 4 0) (.node (.string ⟨#[107, 101, 112, 116]⟩) (.node (.slice (some ⟨590, 0, none⟩) 1 0) tzx117 tzx66) tzx141) tzx177))) (.node (.int .i64 0) (.node (.int .i64 0) (.node (.int .i64 0) tzx178 tzx162) tzx183) (.node (.int .i64 0) tzx180 (.node (.int .i64 0) (.node (.int .i64 0) (.node (.int .i64 0) tzx112 tzx91) tzx151) tzx161))))
noncomputable def tzF22 : Fr := ⟨tzT22, 318, []⟩
noncomputable def tzO22_0 : List (Nat × AObj) := [(590, .row 3 [.int .i64 2] true true)]
noncomputable def tzL22 : List (Nat × AObj) := tzO22_0 ++ tzL21
noncomputable def tzH22 : Heap := ⟨591, 3, tzL22⟩
noncomputable def tzK23 : List Nat := [658, 590, 315]
noncomputable def tzT23 : Tr := (.node (.bool false) (.node (.slice (some ⟨6, 0, none⟩) 4 0) (.node (.slice (some ⟨15, 0, none⟩) 4 0) (.node (.slice (some ⟨68, 0, none⟩) 3 0) tzx171 (.node (.string ⟨#[111, 112, 101, 110]⟩) (.node (.slice (some ⟨658, 0, none⟩) 3 0) (.node (.slice (some ⟨97, 0, none⟩) 4 0) (.node (.slice (some ⟨206, 0, none⟩) 4 0) tzx18 .leaf) (.node (.int .i64 6) .leaf .leaf)) tzx57) tzx145)) tzx185) (.node (.pointer (some ⟨24, 0, none⟩)) (.node (.slice (some ⟨94, 0, none⟩) 4 0) tzx169 (.node (.string ⟨#[109, 105, 115, 115, 101, 100]⟩) (.node (.tuple #[]) (.node (.slice (some ⟨119, 0, none⟩) 4 0) tzx4 (.node (.int .i64 0) .leaf .leaf)) tzx92) tzx133)) (.node (.slice (some ⟨162, 0, none⟩) 4 0) (.node (.string ⟨#[107, 101, 112, 116]⟩) (.node (.slice (some ⟨590, 0, none⟩) 1 0) (.node (.int .i64 0) (.node (.bool false) tzx18 .leaf) tzx84) tzx66) tzx141) tzx177))) (.node (.int .i64 0) (.node (.int .i64 0) (.node (.int .i64 0) tzx178 (.node (.int .i64 0) (.node (.int .i64 0) (.node (.tuple #[.slice (some ⟨119, 0, none⟩) 4 0, .int .i64 0]) (.node (.bool true) (.node (.slice (some ⟨658, 0, none⟩) 3 0) .leaf .leaf) .leaf) (.node (.int .i64 0) .leaf .leaf)) tzx75) tzx134)) tzx183) (.node (.int .i64 0) tzx180 (.node (.int .i64 0) (.node (.int .i64 0) (.node (.int .i64 0) (.node (.tuple #[.slice (some ⟨119, 0, none⟩) 4 0, .int .i64 0]) (.node (.slice (some ⟨94, 0, none⟩) 4 0) (.node (.slice (some ⟨591, 0, none⟩) 3 0) .leaf .leaf) .leaf) (.node (.tuple #[.int .i64 6, .int .i64 0]) .leaf .leaf)) tzx91) tzx151) tzx161))))
noncomputable def tzF23 : Fr := ⟨tzT23, 318, []⟩
noncomputable def tzO23_0 : List (Nat × AObj) := [(658, .row 145 [.int .i64 0, .int .i64 0, .int .i64 2, .int .i64 4, .int .i64 1, .int .i64 8] true true)]
noncomputable def tzL23 : List (Nat × AObj) := tzO23_0 ++ tzL22
noncomputable def tzH23 : Heap := ⟨829, 3, tzL23⟩
end Go.Proofs
namespace Go.Proofs
open Go.Fs
theorem tzP4 : (runPre Tryz.prog OB 4 100000 (tzC) ⟨fillTr .leaf 0 [], Tryz.f5.ntmps, []⟩ (gHeap 3 tzG)).map (fun x => (x.1, x.2.1, x.2.2.1, gcH 3 tzK4 x.2.2.2)) = some (99996, sufx 4 tzC, tzF4, tzH4) := by kernel_rfl
end Go.Proofs
namespace Go.Proofs
open Go.Fs
theorem tzP8 : (runPre Tryz.prog OB 4 99996 (sufx 4 tzC) tzF4 tzH4).map (fun x => (x.1, x.2.1, x.2.2.1, gcH 3 tzK8 x.2.2.2)) = some (99992, sufx 8 tzC, tzF8, tzH8) := by kernel_rfl
end Go.Proofs
namespace Go.Proofs
open Go.Fs
theorem tzP11 : (runPre Tryz.prog OB 3 99992 (sufx 8 tzC) tzF8 tzH8).map (fun x => (x.1, x.2.1, x.2.2.1, gcH 3 tzK11 x.2.2.2)) = some (99989, sufx 11 tzC, tzF11, tzH11) := by kernel_rfl
end Go.Proofs
namespace Go.Proofs
open Go.Fs
theorem tzP16 : (runPre Tryz.prog OB 5 99989 (sufx 11 tzC) tzF11 tzH11).map (fun x => (x.1, x.2.1, x.2.2.1, gcH 3 tzK16 x.2.2.2)) = some (99984, sufx 16 tzC, tzF16, tzH16) := by kernel_rfl
end Go.Proofs
namespace Go.Proofs
open Go.Fs
theorem tzP20 : (runPre Tryz.prog OB 4 99984 (sufx 16 tzC) tzF16 tzH16).map (fun x => (x.1, x.2.1, x.2.2.1, gcH 3 tzK20 x.2.2.2)) = some (99980, sufx 20 tzC, tzF20, tzH20) := by kernel_rfl
end Go.Proofs
namespace Go.Proofs
open Go.Fs
theorem tzP21 : (runPre Tryz.prog OB 1 99980 (sufx 20 tzC) tzF20 tzH20).map (fun x => (x.1, x.2.1, x.2.2.1, gcH 3 tzK21 x.2.2.2)) = some (99979, sufx 21 tzC, tzF21, tzH21) := by kernel_rfl
end Go.Proofs
namespace Go.Proofs
open Go.Fs
theorem tzP22 : (runPre Tryz.prog OB 1 99979 (sufx 21 tzC) tzF21 tzH21).map (fun x => (x.1, x.2.1, x.2.2.1, gcH 3 tzK22 x.2.2.2)) = some (99978, sufx 22 tzC, tzF22, tzH22) := by kernel_rfl
end Go.Proofs
namespace Go.Proofs
open Go.Fs
theorem tzP23 : (runPre Tryz.prog OB 1 99978 (sufx 22 tzC) tzF22 tzH22).map (fun x => (x.1, x.2.1, x.2.2.1, gcH 3 tzK23 x.2.2.2)) = some (99977, sufx 23 tzC, tzF23, tzH23) := by kernel_rfl
end Go.Proofs
namespace Go.Proofs
open Go.Fs
theorem tzPe : (fsCodeX Tryz.prog OB 99977 none (sufx 23 tzC) tzF23 tzH23).bind (endV Tryz.prog Tryz.f5 (gHeap 3 tzG)) = some (.bool true) := by kernel_rfl
end Go.Proofs
namespace Go.Proofs
open Go.Fs
noncomputable def tzKs : List (Nat × List Nat) := [(4, tzK4), (4, tzK8), (3, tzK11), (5, tzK16), (4, tzK20), (1, tzK21), (1, tzK22), (1, tzK23)]
theorem tzRun : (fsEnter Tryz.prog (fsG Tryz.prog OB 3 100000 tzKs) 5 [] (gHeap 3 tzG)).map (·.1) = some (.bool true) := by
  rw [enter_map (c := tzC) Tryz.func5 rfl (by rfl)]; rw [fsG_eq (by kernel_rfl) (by kernel_rfl)]; unfold tzKs; show (runG Tryz.prog OB 3 _ 100000 tzC ⟨fillTr .leaf 0 [], Tryz.f5.ntmps, []⟩ (gHeap 3 tzG)).bind _ = _; rw [run_viaG tzP4]; rw [run_viaG tzP8]; rw [run_viaG tzP11]; rw [run_viaG tzP16]; rw [run_viaG tzP20]; rw [run_viaG tzP21]; rw [run_viaG tzP22]; rw [run_viaG tzP23]; exact tzPe
end Go.Proofs
namespace Go.Proofs.YtcipcajbjggbkaaGreatDoor
open Go.ChangeShapes Go.RowKit Go.Fs
def laid5 : List (String × DataW Unit) := [("math/bits.deBruijn32tab", Rows.laid_math_bits_deBruijn32tab), ("math/bits.deBruijn64tab", Rows.laid_math_bits_deBruijn64tab), ("internal/strconv.uint64pow10", Rows.laid_internal_strconv_uint64pow10), ("unicode/utf8.acceptRanges", Rows.laid_unicode_utf8_acceptRanges), ("tideway/closing.nobody", Rows.laid_tideway_closing_nobody), ("tideway/closing.verdicts", Rows.laid_tideway_closing_verdicts), ("unicode/utf8.first", Rows.laid_unicode_utf8_first)]
def laid4 : List (String × DataW Unit) := [("math/bits.deBruijn32tab", Rows.laid_math_bits_deBruijn32tab), ("math/bits.deBruijn64tab", Rows.laid_math_bits_deBruijn64tab), ("internal/strconv.uint64pow10", Rows.laid_internal_strconv_uint64pow10), ("unicode/utf8.acceptRanges", Rows.laid_unicode_utf8_acceptRanges), ("tideway/closing.nobody", Rows.laid_tideway_closing_nobody), ("unicode/utf8.first", Rows.laid_unicode_utf8_first)]
theorem laid4_eq : laid5.filter (fun x => x.2.handleName?.isNone) = laid4 := by rfl
theorem laid_plain {W : World} (h : laidMetH Tryz.prog laid5 W) : laidMet Tryz.prog laid4 W := by
  have := (laidMetH_iff.1 h).1
  rwa [laid4_eq] at this
theorem gPow : ∃ g : Nat, Tryz.prog.globalNamed "internal/strconv.uint64pow10" = some g ∧ (Tryz.prog.globals[g]?).map (·.type) = some 209 := ⟨3, by kernel_rfl, by kernel_rfl⟩
theorem powTab {W : World} (h : laidMetH Tryz.prog laid5 W) : Lib.TabIs Tryz.prog W "internal/strconv.uint64pow10" .u64 Lib.pow10Tab := by
  obtain ⟨g, h1, h2⟩ := gPow; exact Lib.tabIs_of_head h1 h2 Tryz.underlying209 Tryz.underlying182 (by kernel_rfl) (by kernel_rfl) (laidMet.tail (laidMet.tail (laid_plain h)))
theorem gNob : Tryz.prog.globalNamed "tideway/closing.nobody" = some 1 := by kernel_rfl
theorem gVer : Tryz.prog.globalNamed "tideway/closing.verdicts" = some 0 := by kernel_rfl
theorem tNob : (Tryz.prog.globals[1]?).map (·.type) = some 145 := by kernel_rfl
theorem tVer : (Tryz.prog.globals[0]?).map (·.type) = some 123 := by kernel_rfl
theorem var_lt {P : Program} {w : World} {n : String} {g : Nat} {cs : Array Value} (hg : P.globalNamed n = some g) (h : w.var? P n = some cs) : g < w.heap.size := by
  simp only [World.var?, hg, Option.bind_some] at h; by_cases hl : g < w.heap.size
  · exact hl
  · rw [Array.getElem?_eq_none (by omega)] at h; cases h
theorem only_of {P : Program} {t : TypeId} {k : Nat} (h : ((List.range P.globals.size).all fun g => (match P.globals[g]? with | some gl => !(Nat.beq gl.type t) | none => true) || Nat.beq g k) = true) : ∀ (g : Nat) gl, P.globals[g]? = some gl → gl.type = t → g = k := fun g gl hg ht => by
  have hl : g < P.globals.size := by
    by_cases hl : g < P.globals.size
    · exact hl
    · rw [Array.getElem?_eq_none (by omega)] at hg; cases hg
  have := List.all_eq_true.1 h g (List.mem_range.2 hl); rw [hg] at this; simp only [ht] at this; have e : Nat.beq t t = true := Nat.beq_refl t; rw [e] at this; exact nbeq (by simpa using this)
theorem nobodyW {W : World} (h : laidMetH Tryz.prog laid5 W) : GlobW Tryz.prog W.heap.size W (1, 145, [.int .i64 (-1), .int .i64 0]) := by
  obtain ⟨ps, ⟨g, t, cs, fuel, p, q, hg, ht, hvar, hd, _, _⟩, _⟩ := laidMet.tail (laidMet.tail (laidMet.tail (laidMet.tail (laid_plain h)))); obtain rfl := Option.some.inj (gNob.symm.trans hg); obtain rfl := Option.some.inj (tNob.symm.trans ht); obtain ⟨y0, y1, n, hx, hl, h0, h1⟩ := trod_struct2 Tryz.underlying145 hd; have hl : cs.toList.length = 2 := hl.trans (by kernel_rfl); rw [show Tryz.prog.cellsOf 3 = 1 by kernel_rfl] at h0 h1; have hx := (congrArg Prod.fst hx : Rows.laid_tideway_closing_nobody = DataW.agg [y0.1, y1.1]); obtain ⟨z0, e0, f0, _⟩ := DataW.trod_int Tryz.underlying3 h0; obtain ⟨z1, e1, f1, _⟩ := DataW.trod_int Tryz.underlying3 h1; rw [f0, f1] at hx; have hx : DataW.agg [DataW.lit (H := Unit) (.int .i64 (-1)), DataW.lit (.int .i64 0)] = DataW.agg [DataW.lit (.int .i64 z0), DataW.lit (.int .i64 z1)] := hx; simp only [DataW.agg.injEq, List.cons.injEq, DataW.lit.injEq, Lit.int.injEq, true_and, and_true] at hx; obtain ⟨rfl, rfl⟩ := hx
  have hcs : cs.toList = [.int .i64 (-1), .int .i64 0] := by
    have e0 : (cs.toList.drop 0).take 1 = [.int .i64 (-1)] := e0; have e1 : (cs.toList.drop 1).take 1 = [.int .i64 0] := e1
    match hc : cs.toList, hl with
    | [a, b], _ =>
      rw [hc] at e0 e1; simp at e0 e1; rw [e0, e1]
  refine ⟨tNob, only_of (by kernel_rfl), var_lt gNob hvar, fun i hi => ?_, rfl⟩; rw [World.var?_cell gNob hvar i, ← Array.getElem?_toList, hcs]
  match i, hi with
  | 0, _ => rfl
  | 1, _ => rfl
def verD : DataW Unit := .agg [.agg [.lit (.string [107, 101, 112, 116]), .iface "func" (.lit (.string [116, 105, 100, 101, 119, 97, 121, 47, 99, 108, 111, 115, 105, 110, 103, 46, 118, 101, 114, 100, 105, 99, 116, 115, 36, 49]))], .agg [.lit (.string [109, 105, 115, 115, 101, 100]), .iface "func" (.lit (.string [116, 105, 100, 101, 119, 97, 121, 47, 99, 108, 111, 115, 105, 110, 103, 46, 118, 101, 114, 100, 105, 99, 116, 115, 36, 50]))], .agg [.lit (.string [111, 112, 101, 110]), .iface "func" (.lit (.string [116, 105, 100, 101, 119, 97, 121, 47, 99, 108, 111, 115, 105, 110, 103, 46, 118, 101, 114, 100, 105, 99, 116, 115, 36, 51]))]]
theorem verD_eq : (Rows.laid_tideway_closing_verdicts : DataW Unit) = .iface "func table" verD := by kernel_rfl
/-- One row of the table: a word and a function by its name. -/
theorem row_of {W : World} {n : Nat} {cs : List Value} {w : List UInt8} {b : UInt8} {r : List UInt8} {p : List MemPlace} {f0 : FuncId} (hone : ((List.range Tryz.prog.funcs.size).filter fun f => (Tryz.prog.funcs[f]?).any (·.name.toUTF8.data.toList == b :: r)) = [f0])
    (h : DataW.trod (funcToken Tryz.prog) Tryz.prog W 0 (fun _ => true) true n 122 cs = some (.agg [.lit (.string w), .held (b :: r)], p)) : cs = [.string ⟨w.toArray⟩, .func (.func f0) #[] #[]] := by
  obtain ⟨y0, y1, n, hx, hl, h0, h1⟩ := trod_struct2 Tryz.underlying122 h; have hl : cs.length = 2 := hl.trans (by kernel_rfl); rw [show Tryz.prog.cellsOf 9 = 1 by kernel_rfl] at h0; rw [show Tryz.prog.cellsOf 120 = 1 by kernel_rfl] at h1
  match cs, hl with
  | [a, c], _ =>
    obtain ⟨s, e0, f0', _⟩ := DataW.trod_string Tryz.underlying9 h0; have hx := congrArg Prod.fst hx; simp only [DataW.agg.injEq, List.cons.injEq, and_true] at hx; obtain ⟨hx0, hx1⟩ := hx; rw [f0'] at hx0; simp only [DataW.lit.injEq, Lit.string.injEq] at hx0
    have h1 : DataW.trod (funcToken Tryz.prog) Tryz.prog W 0 (fun _ => true) true n 120 [c] = some (.held (b :: r), y1.2) := by rw [hx1]; exact h1
    have hc := func_of_trod Tryz.underlying120 hone h1; have e0 : [a] = [Value.string s] := e0; simp only [List.cons.injEq, and_true] at e0
    have hs : s = ⟨w.toArray⟩ := by
      cases s with
      | mk d => cases d with
        | mk l => simp only at hx0; rw [hx0]
    rw [e0, hc, hs]
theorem trod_arr {P : Program} {w : World} {enc : TypeId × Value → List UInt8} {base : Nat} {sp : Nat → Bool} {held : Bool} {fuel : Nat} {t e : TypeId} {n : Nat} {cs : List Value} {x : DataW (List UInt8) × List MemPlace} (ht : P.underlying t = some (.array n e)) (h : DataW.trod enc P w base sp held fuel t cs = some x) :
    ∃ xs m, (DataW.agg (xs.map (·.1)), xs.flatMap (·.2)) = x ∧ cs.length = P.cellsOf t ∧ ((List.range n).mapM fun i => DataW.trod enc P w base sp held m e ((cs.drop (i * P.cellsOf e)).take (P.cellsOf e))) = some xs := by
  cases fuel with
  | zero => simp [DataW.trod] at h
  | succ fuel =>
    simp only [DataW.trod, ht] at h; split at h
    · rename_i hl; obtain ⟨xs, hm, hx⟩ := Option.map_eq_some_iff.1 h; exact ⟨xs, fuel, hx, hl, hm⟩
    · cases h
theorem verdictsW {W : World} (h : laidMetH Tryz.prog laid5 W) : GlobW Tryz.prog W.heap.size W (0, 123, [.string ⟨#[107, 101, 112, 116]⟩, .func (.func 202) #[] #[], .string ⟨#[109, 105, 115, 115, 101, 100]⟩, .func (.func 203) #[] #[], .string ⟨#[111, 112, 101, 110]⟩, .func (.func 204) #[] #[]]) := by
  have hm : ("tideway/closing.verdicts", DataW.iface "func table" verD) ∈ laid5 := by
    rw [← verD_eq]; exact .tail _ (.tail _ (.tail _ (.tail _ (.tail _ (.head _)))))
  obtain ⟨g, t, cs, fuel, p, hg, ht, hvar, hd⟩ := h.funcs hm; obtain rfl := Option.some.inj (gVer.symm.trans hg); obtain rfl := Option.some.inj (tVer.symm.trans ht); obtain ⟨xs, n, hx, hl, hm⟩ := trod_arr Tryz.underlying123 hd; have hl : cs.toList.length = 6 := hl.trans (by kernel_rfl); rw [show Tryz.prog.cellsOf 122 = 2 by kernel_rfl] at hm
  have hxl : xs.length = 3 := by simpa using Lib.mapM_length hm
  match xs, hxl with
  | [x0, x1, x2], _ =>
    have hx := congrArg Prod.fst hx; have hx : DataW.agg [x0.1, x1.1, x2.1] = verD.funcsOut := hx
    have hv : verD.funcsOut = .agg [.agg [.lit (.string [107, 101, 112, 116]), .held [116, 105, 100, 101, 119, 97, 121, 47, 99, 108, 111, 115, 105, 110, 103, 46, 118, 101, 114, 100, 105, 99, 116, 115, 36, 49]], .agg [.lit (.string [109, 105, 115, 115, 101, 100]), .held [116, 105, 100, 101, 119, 97, 121, 47, 99, 108, 111, 115, 105, 110, 103, 46, 118, 101, 114, 100, 105, 99, 116, 115, 36, 50]], .agg [.lit (.string [111, 112, 101, 110]), .held [116, 105, 100, 101, 119, 97, 121, 47, 99, 108, 111, 115, 105, 110, 103, 46, 118, 101, 114, 100, 105, 99, 116, 115, 36, 51]]] := by kernel_rfl
    rw [hv] at hx; simp only [DataW.agg.injEq, List.cons.injEq, and_true] at hx; obtain ⟨hx0, hx1, hx2⟩ := hx; obtain ⟨b0, g0, q0⟩ := Lib.mapM_at hm 0 0 rfl; obtain ⟨b1, g1, q1⟩ := Lib.mapM_at hm 1 1 rfl; obtain ⟨b2, g2, q2⟩ := Lib.mapM_at hm 2 2 rfl; obtain rfl := Option.some.inj g0; obtain rfl := Option.some.inj g1; obtain rfl := Option.some.inj g2; have r0 := row_of (f0 := 202) (p := x0.2) (by kernel_rfl) (q0.trans (by rw [← hx0])); have r1 := row_of (f0 := 203) (p := x1.2) (by kernel_rfl) (q1.trans (by rw [← hx1])); have r2 := row_of (f0 := 204) (p := x2.2) (by kernel_rfl) (q2.trans (by rw [← hx2]))
    have hcs : cs.toList = [.string ⟨#[107, 101, 112, 116]⟩, .func (.func 202) #[] #[], .string ⟨#[109, 105, 115, 115, 101, 100]⟩, .func (.func 203) #[] #[], .string ⟨#[111, 112, 101, 110]⟩, .func (.func 204) #[] #[]] := by
      match hc : cs.toList, hl with
      | [a, b, c, d, e, f], _ =>
        rw [hc] at r0 r1 r2; simp at r0 r1 r2; rw [r0.1, r0.2, r1.1, r1.2, r2.1, r2.2]
    refine ⟨tVer, only_of (by kernel_rfl), var_lt gVer hvar, fun i hi => ?_, rfl⟩; rw [World.var?_cell gVer hvar i, ← Array.getElem?_toList, hcs]
    match i, hi with
    | 0, _ => rfl
    | 1, _ => rfl
    | 2, _ => rfl
    | 3, _ => rfl
    | 4, _ => rfl
    | 5, _ => rfl
end Go.Proofs.YtcipcajbjggbkaaGreatDoor
namespace Go.Proofs.YtcipcajbjggbkaaGreatDoor
open Go.ChangeShapes Go.WideShapes Go.ChangeAt Go.RowKit Go.Fs
theorem own : ownKnob Tryz.prog.godebug = none := by kernel_rfl
theorem laidOut : laidOutB Tryz.prog = true := by kernel_rfl
theorem tzGlob {W : World} (h : laidMetH Tryz.prog laid5 W) : ∀ x ∈ tzG, GlobW Tryz.prog W.heap.size W x := fun x hx => by
  rcases List.mem_cons.1 hx with rfl | hx
  · exact verdictsW h
  · obtain rfl := List.mem_singleton.1 hx; exact nobodyW h
theorem tzGT : GT (gHeap 3 tzG) [] := fun v hv => by cases hv
theorem seatHr {W : World} (h : laidMetH Tryz.prog laid5 W) : HR Tryz.prog (globR Tryz.prog) (fun b => ∃ x ∈ tzG, b = x.1 + 1) W.heap.size (Go.Fs.wz W) (gHeap 3 tzG) W := gHeap_hr (by decide) (by decide) (tzGlob h)
/-- The oracle is sound wherever the tables lie. -/
theorem orcOk {W : World} (h : laidMetH Tryz.prog laid5 W) : CallSound Tryz.prog W.heap.size (Go.Fs.wz W) OA := by
  have hT : ∀ w, Below W.heap.size W w → Lib.TabIs Tryz.prog w "internal/strconv.uint64pow10" .u64 Lib.pow10Tab := Lib.tabBelow_of_tabIs (powTab h)
  have hS : ∀ w, Below W.heap.size W w → CallSound Tryz.prog w.heap.size (Go.Fs.wz w) OB := fun w hw =>
    tzOrcB rfl (Nat.le_refl _) fun w' hw' => hT w' (hw.trans ((below_z hw').mono hw.size))
  refine orcC_sound ?_ tzCheck (fun b w h0 h1 h2 => Any.Builder_copyCheck_fresh tzLays tzX72 b w h0 h1 h2) (fun b w h0 => Any.Builder_copyCheck_used tzLays tzX72 b w h0); refine orcA_sound rfl (tzOrcJ rfl (Nat.le_refl _) fun w' hw' => hT w' (below_z hw')) tzAwakeE fun w hw => ?_; exact awakeGc_calls tzOk (n := 3) (L := tzG) (by decide) (by decide) (tzGlob h) (fun w hw => hw.size) (fun w' hw' => hS w' hw') tzRun w (below_z hw)
/-- The door's heap, with the table of first bytes, which the kit pins. -/
def firstVs : List Value := match Rows.laid_unicode_utf8_first with
  | .agg ds => ds.map fun | .lit (.int k n) => .int k n | _ => .nilIface
  | _ => []
def withFirst (o : Obj) : Obj := match o with
  | .cells _ t fr => .cells firstVs.toArray t fr
  | o => o
noncomputable def doorWorld (os : Os) : World := { World.doorLaid Tryz.prog 200 os with heap := (World.doorLaid Tryz.prog 200 os).heap.modify 6 withFirst }
end Go.Proofs.YtcipcajbjggbkaaGreatDoor
