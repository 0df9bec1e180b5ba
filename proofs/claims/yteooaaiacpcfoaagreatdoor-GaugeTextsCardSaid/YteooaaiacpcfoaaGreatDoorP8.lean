/- Parts of the proof: an evaluator of the model, what it is sound for, and contracts of functions. No condition. -/
import Derived.Test.YteooaaiacpcfoaaGreatDoorP7
import Derived.Test.YteooaaiacpcfoaaGreatDoorP4
import Derived.Test.YteooaaiacpcfoaaGreatDoorP6
import Derived.Test.YteooaaiacpcfoaaGreatDoorP5
import Derived.Shelf.Strings.Builder1
import Derived.Shelf.Small.Bits
import Derived.Shelf.Small.Wraps
import Derived.Shelf.Strings.BuilderF
import Derived.Shelf.Strings.BuilderK
import Derived.Shelf.Strconv.Atoi
import Derived.Shelf.Strconv.Itoa0
import Derived.Shelf.Strconv.Itoa1
import Derived.Shelf.LaysM
import Derived.Shelf.Strconv.Itoa2
import Derived.Shelf.Strconv.Itoa3
import Derived.Shelf.Strconv.AtoiErrFast
import Derived.Shelf.Strconv.ParseIntEmpty
import Derived.Shelf.Strconv.AtoiFail
import Derived.Shelf.Strconv.Clone
import Derived.Shelf.Strconv.SyntaxError
import Derived.Shelf.LaysC
import Derived.Shelf.Strconv.ToError
import Derived.Shelf.Strconv.Lower
import Derived.Shelf.Strconv.ParseUint10
import Derived.Shelf.Strconv.ParseUint10Empty
import Derived.Shelf.Strconv.ParseUint10Any
import Derived.Shelf.Strconv.ParseInt10
import Derived.Shelf.Strconv.AtoiLong
import Derived.Shelf.Strconv.AtoiInnerAll
import Derived.Shelf.Strconv.RangeError
import Derived.Shelf.Strconv.ToErrorRange
import Derived.Shelf.Strconv.AtoiAll
import Derived.Shelf.Strconv.ErrVarAll
import Derived.Shelf.Strconv.ParseUintEmpty
import Derived.Shelf.Strconv.ParseUint10b64
import Derived.Shelf.Strconv.ParseUint10b32
import Derived.Shelf.Strconv.ParseUint10b16
import Derived.Shelf.Strconv.ParseUint10b8
import Derived.Shelf.Strconv.ParseUint10At
import Derived.Shelf.Strings.Prefix
import Derived.Shelf.Strings.Split
import Derived.Shelf.Unicode.Decode
import Derived.Shelf.Strings.Explode
import Derived.Shelf.Bits.Mul64
import Derived.Shelf.Unicode.DecodeAny
import Derived.Shelf.Strings.BuilderCap
import Derived.Ground.Names2Prog
import Derived.Shelf.Slices.In.SortNone
import Derived.Ground.SlgnProg
import Derived.Shelf.SlicesE.Clone
import Derived.Test.YteooaaiacpcfoaaGreatDoorProg
import Derived.Shelf.Strings.OnBuilder
import Derived.Lib.AppendIntMem
import Derived.Test.YteooaaiacpcfoaaGreatDoorChecked
import Derived.KernelRfl
import Derived.Lib.AtoiErrMem
import Derived.Lib.AtoiAllCases
import Derived.Tactics2
import Derived.LaidLaws
import Derived.Test.YteooaaiacpcfoaaGreatDoorCards
import Derived.Test.YteooaaiacpcfoaaGreatDoorTie
import Derived.WalkKit
import Derived.ProofKit
import Derived.LaidMore
import Derived.Deep.DeepHandedRow
import Derived.Lib.LaidTab
import Derived.Stop.LaidErr
import Derived.Lib.LaidIn
set_option linter.all false
namespace Go.Proofs
open Go.Fs Ieee
set_option maxHeartbeats 4000000
theorem rd_le {s : Bool} {r : Nat} (h : r ≤ 2139095040) : (∃ a m p, single.read (single.word s r) = .number a m p) ∨ ∃ a, single.read (single.word s r) = .infinity a := by
  have hm : single.word s r % 2147483648 = r := by
    unfold Format.word; rw [sg_w]; cases s <;> simp <;> omega
  unfold Format.read; simp only [sg_w, sg_b, sg_i, sg_l, hm]; split
  · exact .inl ⟨_, _, _, rfl⟩
  split
  · exact .inl ⟨_, _, _, rfl⟩
  rw [if_pos (by omega)]; exact .inr ⟨_, rfl⟩
theorem q16_any (n : Int) : single.div (single.write (.number (n < 0) n.natAbs 0)) 1098907648 = some (q16 n) := by
  have hw : ∃ r, r ≤ 2139095040 ∧ single.write (.number (n < 0) n.natAbs 0) = single.word (decide (n < 0)) r := by
    show ∃ r, r ≤ 2139095040 ∧ single.nearest _ _ _ = _; unfold Format.nearest; split
    · exact ⟨0, by decide, rfl⟩
    exact ⟨_, Nat.le_trans (Nat.min_le_right _ _) (Nat.le_of_eq sg_i), rfl⟩
  obtain ⟨r, hr, hw⟩ := hw
  have h16 : single.read 1098907648 = .number false 8388608 (-19) := by decide
  have hs : ∃ q, single.div (single.write (.number (n < 0) n.natAbs 0)) 1098907648 = some q := by
    unfold Format.div; rw [hw, h16]; rcases rd_le (s := decide (n < 0)) hr with ⟨a, m, p, h⟩ | ⟨a, h⟩ <;> rw [h] <;> exact ⟨_, rfl⟩
  obtain ⟨q, hq⟩ := hs; unfold q16; rw [hq] <;> rfl
theorem he_par {s : ByteArray} (hs : s.size < 100000) : firstE [whenE (decide ((1000000 : Int) < ((s.size : Nat) : Int))) 27, whenE (decide (s = ByteArray.empty)) 26] = if s = ByteArray.empty then 26 else 0 := by
  rw [decide_eq_false (by omega)]; by_cases h : s = ByteArray.empty
  · rw [if_pos h, decide_eq_true h] <;> rfl
  rw [if_neg h, decide_eq_false h] <;> rfl
theorem gParse_ok {s : ByteArray} (hs : s.size < 100000) : VF Tryz.prog OA 16 [St s] (.tup [.v y32 (parR plusZ s), I (parN s), I (parE s)]) := by
  refine VF.enter Tryz.func16 rfl (fun _ _ => rfl) rfl ?_; show VC _ _ _ _ _ [(0, St s)] [] _; refine VC.seq (VC.text ?_); have hfe := he_par hs; refine VO.cell (.alloc zt32) ?_; intro ww1; refine VO.c (.assign rfl) (VO.c (.assign rfl) ?_); refine VO.go (VC.seq (VC.seq (VC.text ?_))); refine VO.c (.move rfl) ?_; refine VO.r (.lenS) ?_; refine VO.c (.gtr) ?_; refine VO.call rfl rfl (VF.call (gWhen_ok )) ?_; refine VO.c (.move rfl) (VO.c (.seql) ?_); refine VO.call rfl rfl (VF.call (gWhen_ok )) ?_; refine VO.new (.lit [whenE (decide ((1000000 : Int) < ((s.size : Nat) : Int))) (27 : Int), whenE (decide (s = ByteArray.empty)) (26 : Int)] el127) ?_; refine VO.call rfl rfl (VF.call (gFirst_ok (by first | assumption | omega | simp))) ?_; refine VO.c (.assign rfl) ?_; refine VO.go (VC.seq (VC.text ?_)); refine VO.c (.move rfl) (VO.c (.neq) (VO.go ?_)); refine VC.condD rfl (fun c2 => ?_) (fun c2 => ?_)
  · have hse : s = ByteArray.empty := Classical.byContradiction fun e => c2 (hfe.trans (if_neg e)); have hpn := par_none (f := plusZ) (show parG s = (none, 0) by rw [hse]; exact parG_e); refine VC.seq (VC.text ?_); refine VO.c (.build (ByteArray.empty, 0, [], []) bt32) (VO.c (.move rfl) ?_); refine VO.setV (cs' := [St ByteArray.empty, I 0, .v y22 [], .v y23 []]) vt32 .v ?_; refine VO.c (.assign rfl) (VO.c (.assign rfl) (VO.go ?_)); refine VC.ret ?_; exact VEnd.three rfl (.cell (x := (ByteArray.empty, 0, [], [])) rfl m0 vt32 .refl) evT evT (pvE (by exact hpn.1.symm)) (pvI (by exact hpn.2.1.symm)) (pvI (by rw [hpn.2.2]; exact hfe.trans (if_pos hse)))
  have hne : s ≠ ByteArray.empty := fun e => by have h0 := Classical.not_not.1 c2; rw [hfe, if_pos e] at h0; cases h0
  refine VC.skip (VC.seq (VC.text ?_)); refine VO.cell (.allocM (zs := [St ByteArray.empty, I (0 : Int), nilV, nilV]) [false, false, true, true] zt32) ?_; intro ww2; refine VO.go (VC.seq (VC.text ?_)); refine VO.c (.assign rfl) ?_; refine VO.go (VC.seq (VC.text ?_)); refine VO.c (.assign rfl) ?_; refine VO.go (VC.seq (VC.block ?_)); refine VC.cell0 68 (.flt .f32) ?_; refine VC.cell0 4 .bool ?_; refine VC.keep [(0, St s), (2, .raw ww1), (6, .raw ww2), (7, .raw (.slice none 0 0)), (8, I ((0 : Nat) : Int))] ⟨rfl, rfl, rfl, rfl, rfl, trivial⟩ ?_; refine VC.loop (I := fun kk ff ss => ∃ (r : ByteArray) (b : Gst) (i : Nat) (wt : Value) (wl : Value), kk = r.size ∧ ff = [(0, St r), (2, .raw ww1), (6, .raw ww2), (7, .raw wt), (8, I ((i : Nat) : Int))] ∧ ss = [(wt, .row 4 .bool b.2.1), (wl, .row 68 (.flt .f32) (b.2.2.map q16)), (ww2, .var [St ((hdO b).1), I ((hdO b).2), .raw wl, nilV]), (ww1, .var [St ByteArray.empty, I (0 : Int), .v y22 [], .v y23 []])] ∧ (i + r.size ≤ s.size) ∧ (GsI b i) ∧ (prsG stpG (splS 10 s) zG 0 = prsG stpG (splS 10 r) b i)) ?_ _ _ _ ⟨s, zG, 0, (.slice none 0 0), (.slice none 0 0), rfl, rfl, rfl, (by simp), (by exact gsI_z), (by rfl)⟩; rintro kk ff ss ⟨r, b, i, wt, wl, hk0, rfl, rfl, hr, hI, hp⟩; refine VC.seq (VC.seq (VC.text ?_)); refine VO.c (.move rfl) (VO.c (.sneq) (VO.go ?_)); refine VC.condD rfl (fun c7 => ?_) (fun c7 => ?_)
  · have hca := cutA_size (s := r) (c := 10); have hln := hI.ln; have hnm := hI.nm; refine VC.skip (VC.block (VC.seq (VC.text ?_))); refine VO.c (.move rfl) ?_; refine VO.call rfl rfl (VF.call (zCut_ok rfl (by omega))) ?_; refine VO.c (.move rfl) (VO.c (.extract) (VO.c (.extract) (VO.c (.extract) ?_))); refine VO.c (.assign rfl) (VO.c (.assign rfl) (VO.c (.assign rfl) ?_)); refine VO.go (VC.seq (VC.text ?_)); refine VO.c (.assign rfl) ?_; refine VO.go (VC.seq (VC.block (VC.seq (VC.text ?_)))); refine VO.c (.move rfl) (VO.c (.eql) (VO.c (.assign rfl) (VO.go ?_))); refine VC.condD rfl (fun c14 => ?_) (fun c14 => ?_)
    · have hs0 : b.1.isSome = false := by rw [hI.hd]; exact decide_eq_false (by omega)
      refine VC.text ?_; refine VO.c (.move rfl) ?_; refine VO.call rfl rfl (VF.call (cHeaded_ok (show (cutA 10 r).size < 100000 by omega))) ?_; refine VO.c (.move rfl) (VO.c (.extract) (VO.c (.extract) (VO.c (.extract) ?_))); refine VO.c (.faO (k := 0) m2) ?_; refine VO.perm swap2 ?_; refine VO.setF (cs' := [St (hdN (splS 32 (cutA (sepB (⟨#[10]⟩)) r))), I ((hdO b).2), .raw wl, nilV]) 0 vt9 .v ?_; refine VO.c (.faO (k := 1) m0) ?_; refine VO.setF (cs' := [St (hdN (splS 32 (cutA (sepB (⟨#[10]⟩)) r))), I (atoV (hdT (splS 32 (cutA (sepB (⟨#[10]⟩)) r)))), .raw wl, nilV]) 1 vt3 .v ?_; refine VO.c (.assign rfl) ?_; refine VO.nil (VC.seq (VC.seq (VC.text ?_))); refine VO.c (.move rfl) (VO.c (.not) (VO.c (.move rfl) ?_)); refine VO.cg (r := (!(hdB (splS 32 (cutA (sepB (⟨#[10]⟩)) r))))) (w := false) [] trivial (fun _ => (.move rfl)) ?_; refine VO.cg (r := (!(hdB (splS 32 (cutA (sepB (⟨#[10]⟩)) r))))) (w := false) [(77, B (decide (0 ≤ Go.Lib.indexByte (toL r) (sepB (⟨#[10]⟩)))))] ⟨rfl, trivial⟩ (fun _ => (.not)) ?_; refine VO.c (.or) (VO.go ?_); refine VC.condB rfl (fun c19 => ?_) (fun c19 => ?_)
      · try simp only [Bool.and_eq_true, Bool.or_eq_true, Bool.and_eq_false_iff, Bool.or_eq_false_iff, Bool.not_eq_true', Bool.not_eq_false', decide_eq_true_eq, decide_eq_false_iff_not] at c19
        have hnn : parG s = (none, i) := by
          rw [parG_ne hne, hp]; by_cases hi : 0 ≤ Go.Lib.indexByte (toL r) 10
          · refine prsG_bad hi (stpG_f ?_)
            first | (rw [ok_0 hs0]; exact c19.resolve_right (fun h => h hi)) | exact absurd hi c19 | (rw [ok_1 hs1, decide_eq_false (show ¬ cutA 10 r = dasS from c16), Bool.false_or]; exact c19.resolve_right (fun h => h hi))
          exact prsG_torn c7 hi
        have hn := par_none (f := plusZ) hnn; refine VC.seq (VC.text ?_); refine VO.c (.build (ByteArray.empty, 0, [], []) bt32) (VO.c (.move rfl) ?_); refine VO.perm swap3 ?_; refine VO.setV (cs' := [St ByteArray.empty, I 0, .v y22 [], .v y23 []]) vt32 .v ?_; refine VO.c (.assign rfl) (VO.c (.assign rfl) (VO.go ?_)); refine VC.ret ?_; exact VEnd.three rfl (.cell (x := (ByteArray.empty, 0, [], [])) rfl m0 vt32 .refl) evT evT (pvE (by exact hn.1.symm)) (pvI (by exact hn.2.1.symm)) (pvI (by exact hn.2.2.symm))
      try simp only [Bool.and_eq_true, Bool.or_eq_true, Bool.and_eq_false_iff, Bool.or_eq_false_iff, Bool.not_eq_true', Bool.not_eq_false', decide_eq_true_eq, decide_eq_false_iff_not] at c19
      have hok : okG b (cutA 10 r) = true := by
        first | (rw [ok_0 hs0]; exact c19.1) | (rw [ok_1 hs1, decide_eq_true (show cutA 10 r = dasS from c16)]; rfl) | (rw [ok_1 hs1, decide_eq_false (show ¬ cutA 10 r = dasS from c16), Bool.false_or]; exact c19.1)
      have hw : 0 ≤ Go.Lib.indexByte (toL r) 10 := by first | exact c19.2 | exact c19
      have hcr := cutR_size (s := r) (c := 10) hw; refine VC.skip (VC.seq (VC.text ?_)); refine VO.c (.move rfl) (VO.c (.add rfl rfl (by omega)) (VO.c (.assign rfl) (VO.go ?_))); refine VC.perm swap3 ?_; refine VC.perm swap1 ?_; refine VC.perm swap3 ?_; refine VC.perm swap3 ?_; refine VC.keep [(2, .raw ww1), (6, .raw ww2), (7, .raw wt), (8, I (((i : Nat) : Int) + (1 : Int))), (10, St (cutR (sepB (⟨#[10]⟩)) r))] ⟨rfl, rfl, rfl, rfl, rfl, trivial⟩ ?_; refine VC.text ?_; refine VO.c (.move rfl) (VO.c (.assign rfl) ?_); refine VO.nil ?_; refine ⟨_, [(0, St (cutR 10 r)), (2, .raw ww1), (6, .raw ww2), (7, .raw wt), (8, I (((i + 1) : Nat) : Int))], ?_, ⟨slE rfl (by first | rfl | simp | omega), rfl, rfl, rfl, rfl, trivial⟩, (cutR 10 r), (nxtG b (cutA 10 r)), (i + 1), wt, wl, rfl, rfl, (by first | (rw [nxt_0 hs0]; rfl) | (rw [nxt_d hs1 (show cutA 10 r = dasS from c16)]; simp only [List.map_append, List.map_cons, List.map_nil, q16_z] <;> rfl) | (rw [nxt_n hs1 (show ¬ cutA 10 r = dasS from c16)]; simp only [List.map_append, List.map_cons, List.map_nil] <;> rfl)), (by omega), (by exact gsI_n hI hok), (by exact hp.trans (prsG_good hw (stpG_t hok)))⟩; omega
    have hs1 : b.1.isSome = true := by rw [hI.hd]; exact decide_eq_true (by omega)
    refine VC.seq (VC.text ?_); refine VO.c (.move rfl) (VO.c (.seql) (VO.c (.assign rfl) (VO.go ?_))); refine VC.condD rfl (fun c16 => ?_) (fun c16 => ?_)
    · refine VC.seq (VC.text ?_); refine VO.c (.faO (k := 2) m2) ?_; refine VO.r (.ldF (k := 2) m2 vt22) ?_; refine VO.new (.lit [(0 : Nat)] el22) ?_; refine VO.perm swap1 ?_; refine VO.app rfl rfl el22 el22 (by simp only [List.length_map, List.length_singleton]; omega) ?_; intro ww3; refine VO.c (.faO (k := 2) m2) ?_; refine VO.perm swap2 ?_; refine VO.one m1 fun ho4 => ?_; refine VO.setF (cs' := [St ((hdO b).1), I ((hdO b).2), .raw ww3, nilV]) 2 vt22 (.raw rfl (agg_one ho4) ho4) ?_; refine VO.go (VC.text ?_); refine VO.c (.move rfl) ?_; refine VO.new (.lit [false] el105) ?_; refine VO.perm swap2 ?_; refine VO.app rfl rfl el105 el105 (by simp only [List.length_singleton]; omega) ?_; intro ww5; refine VO.c (.assign rfl) ?_; refine VO.nil (VC.seq (VC.seq (VC.text ?_))); refine VO.c (.move rfl) (VO.c (.not) (VO.c (.move rfl) (VO.c (.move rfl) ?_))); refine VO.c (.not) (VO.c (.pickF rfl rfl) (VO.go ?_)); refine VC.condB rfl (fun c19 => ?_) (fun c19 => ?_)
      · try simp only [Bool.and_eq_true, Bool.or_eq_true, Bool.and_eq_false_iff, Bool.or_eq_false_iff, Bool.not_eq_true', Bool.not_eq_false', decide_eq_true_eq, decide_eq_false_iff_not] at c19
        have hnn : parG s = (none, i) := by
          rw [parG_ne hne, hp]; by_cases hi : 0 ≤ Go.Lib.indexByte (toL r) 10
          · refine prsG_bad hi (stpG_f ?_)
            first | (rw [ok_0 hs0]; exact c19.resolve_right (fun h => h hi)) | exact absurd hi c19 | (rw [ok_1 hs1, decide_eq_false (show ¬ cutA 10 r = dasS from c16), Bool.false_or]; exact c19.resolve_right (fun h => h hi))
          exact prsG_torn c7 hi
        have hn := par_none (f := plusZ) hnn; refine VC.seq ?_; refine VC.keep [(2, .raw ww1), (6, .raw ww2), (7, .raw ww5), (8, I ((i : Nat) : Int)), (10, St (cutR (sepB (⟨#[10]⟩)) r))] ⟨rfl, rfl, rfl, rfl, rfl, trivial⟩ ?_; refine VC.text ?_; refine VO.c (.build (ByteArray.empty, 0, [], []) bt32) (VO.c (.move rfl) ?_); refine VO.perm swap3 ?_; refine VO.setV (cs' := [St ByteArray.empty, I 0, .v y22 [], .v y23 []]) vt32 .v ?_; refine VO.c (.assign rfl) (VO.c (.assign rfl) (VO.go ?_)); refine VC.ret ?_; exact VEnd.three rfl (.cell (x := (ByteArray.empty, 0, [], [])) rfl m0 vt32 .refl) evT evT (pvE (by exact hn.1.symm)) (pvI (by exact hn.2.1.symm)) (pvI (by exact hn.2.2.symm))
      try simp only [Bool.and_eq_true, Bool.or_eq_true, Bool.and_eq_false_iff, Bool.or_eq_false_iff, Bool.not_eq_true', Bool.not_eq_false', decide_eq_true_eq, decide_eq_false_iff_not] at c19
      have hok : okG b (cutA 10 r) = true := by
        first | (rw [ok_0 hs0]; exact c19.1) | (rw [ok_1 hs1, decide_eq_true (show cutA 10 r = dasS from c16)]; rfl) | (rw [ok_1 hs1, decide_eq_false (show ¬ cutA 10 r = dasS from c16), Bool.false_or]; exact c19.1)
      have hw : 0 ≤ Go.Lib.indexByte (toL r) 10 := by first | exact c19.2 | exact c19
      have hcr := cutR_size (s := r) (c := 10) hw; refine VC.skip (VC.seq ?_); refine VC.keep [(2, .raw ww1), (6, .raw ww2), (7, .raw ww5), (8, I ((i : Nat) : Int)), (10, St (cutR (sepB (⟨#[10]⟩)) r))] ⟨rfl, rfl, rfl, rfl, rfl, trivial⟩ ?_; refine VC.text ?_; refine VO.c (.move rfl) (VO.c (.add rfl rfl (by omega)) (VO.c (.assign rfl) (VO.go ?_))); refine VC.perm swap3 ?_; refine VC.perm swap2 ?_; refine VC.perm swap3 ?_; refine VC.perm swap3 ?_; refine VC.text ?_; refine VO.c (.move rfl) (VO.c (.assign rfl) ?_); refine VO.nil ?_; refine ⟨_, [(0, St (cutR 10 r)), (2, .raw ww1), (6, .raw ww2), (7, .raw ww5), (8, I (((i + 1) : Nat) : Int))], ?_, ⟨slE rfl (by first | rfl | simp | omega), rfl, rfl, rfl, rfl, trivial⟩, (cutR 10 r), (nxtG b (cutA 10 r)), (i + 1), ww5, ww3, rfl, rfl, (by first | (rw [nxt_0 hs0]; rfl) | (rw [nxt_d hs1 (show cutA 10 r = dasS from c16)]; simp only [List.map_append, List.map_cons, List.map_nil, q16_z] <;> rfl) | (rw [nxt_n hs1 (show ¬ cutA 10 r = dasS from c16)]; simp only [List.map_append, List.map_cons, List.map_nil] <;> rfl)), (by omega), (by exact gsI_n hI hok), (by exact hp.trans (prsG_good hw (stpG_t hok)))⟩; omega
    refine VC.seq (VC.text ?_); refine VO.c (.assign rfl) ?_; refine VO.go (VC.seq (VC.text ?_)); refine VO.c (.move rfl) ?_; refine VO.call rfl rfl (VF.call (sInt_ok (show (cutA 10 r).size ≤ 1000000000 by omega))) ?_; refine VO.c (.move rfl) (VO.c (.extract) (VO.c (.extract) (VO.c (.assign rfl) ?_))); refine VO.c (.assign rfl) ?_; refine VO.go (VC.seq (VC.text ?_)); refine VO.c (.faO (k := 2) m2) ?_; refine VO.r (.ldF (k := 2) m2 vt22) ?_; refine VO.c (.move rfl) (VO.c (.cvIF .f32) (VO.c (.fop (div32E (q16_any (atoV (cutA 10 r))))) ?_)); refine VO.new (.lit [q16 (atoV (cutA 10 r))] el22) ?_; refine VO.perm swap1 ?_; refine VO.app rfl rfl el22 el22 (by simp only [List.length_map, List.length_singleton]; omega) ?_; intro ww6; refine VO.c (.faO (k := 2) m2) ?_; refine VO.perm swap2 ?_; refine VO.one m1 fun ho7 => ?_; refine VO.setF (cs' := [St ((hdO b).1), I ((hdO b).2), .raw ww6, nilV]) 2 vt22 (.raw rfl (agg_one ho7) ho7) ?_; refine VO.go ?_; refine VC.keep [(2, .raw ww1), (6, .raw ww2), (7, .raw wt), (8, I ((i : Nat) : Int)), (10, St (cutR (sepB (⟨#[10]⟩)) r)), (11, B (decide (0 ≤ Go.Lib.indexByte (toL r) (sepB (⟨#[10]⟩))))), (12, B (atoK (cutA (sepB (⟨#[10]⟩)) r)))] ⟨rfl, rfl, rfl, rfl, rfl, rfl, rfl, trivial⟩ ?_; refine VC.text ?_; refine VO.c (.move rfl) ?_; refine VO.new (.lit [true] el105) ?_; refine VO.perm swap2 ?_; refine VO.app rfl rfl el105 el105 (by simp only [List.length_singleton]; omega) ?_; intro ww8; refine VO.c (.assign rfl) ?_; refine VO.nil (VC.seq (VC.seq (VC.text ?_))); refine VO.c (.move rfl) (VO.c (.not) (VO.c (.move rfl) ?_)); refine VO.cg (r := (!(atoK (cutA (sepB (⟨#[10]⟩)) r)))) (w := false) [] trivial (fun _ => (.move rfl)) ?_; refine VO.cg (r := (!(atoK (cutA (sepB (⟨#[10]⟩)) r)))) (w := false) [(77, B (decide (0 ≤ Go.Lib.indexByte (toL r) (sepB (⟨#[10]⟩)))))] ⟨rfl, trivial⟩ (fun _ => (.not)) ?_; refine VO.c (.or) (VO.go ?_); refine VC.condB rfl (fun c19 => ?_) (fun c19 => ?_)
    · try simp only [Bool.and_eq_true, Bool.or_eq_true, Bool.and_eq_false_iff, Bool.or_eq_false_iff, Bool.not_eq_true', Bool.not_eq_false', decide_eq_true_eq, decide_eq_false_iff_not] at c19
      have hnn : parG s = (none, i) := by
        rw [parG_ne hne, hp]; by_cases hi : 0 ≤ Go.Lib.indexByte (toL r) 10
        · refine prsG_bad hi (stpG_f ?_)
          first | (rw [ok_0 hs0]; exact c19.resolve_right (fun h => h hi)) | exact absurd hi c19 | (rw [ok_1 hs1, decide_eq_false (show ¬ cutA 10 r = dasS from c16), Bool.false_or]; exact c19.resolve_right (fun h => h hi))
        exact prsG_torn c7 hi
      have hn := par_none (f := plusZ) hnn; refine VC.seq (VC.text ?_); refine VO.c (.build (ByteArray.empty, 0, [], []) bt32) (VO.c (.move rfl) ?_); refine VO.perm swap3 ?_; refine VO.setV (cs' := [St ByteArray.empty, I 0, .v y22 [], .v y23 []]) vt32 .v ?_; refine VO.c (.assign rfl) (VO.c (.assign rfl) (VO.go ?_)); refine VC.ret ?_; exact VEnd.three rfl (.cell (x := (ByteArray.empty, 0, [], [])) rfl m0 vt32 .refl) evT evT (pvE (by exact hn.1.symm)) (pvI (by exact hn.2.1.symm)) (pvI (by exact hn.2.2.symm))
    try simp only [Bool.and_eq_true, Bool.or_eq_true, Bool.and_eq_false_iff, Bool.or_eq_false_iff, Bool.not_eq_true', Bool.not_eq_false', decide_eq_true_eq, decide_eq_false_iff_not] at c19
    have hok : okG b (cutA 10 r) = true := by
      first | (rw [ok_0 hs0]; exact c19.1) | (rw [ok_1 hs1, decide_eq_true (show cutA 10 r = dasS from c16)]; rfl) | (rw [ok_1 hs1, decide_eq_false (show ¬ cutA 10 r = dasS from c16), Bool.false_or]; exact c19.1)
    have hw : 0 ≤ Go.Lib.indexByte (toL r) 10 := by first | exact c19.2 | exact c19
    have hcr := cutR_size (s := r) (c := 10) hw; refine VC.skip (VC.seq (VC.text ?_)); refine VO.c (.move rfl) (VO.c (.add rfl rfl (by omega)) (VO.c (.assign rfl) (VO.go ?_))); refine VC.perm swap3 ?_; refine VC.perm swap2 ?_; refine VC.perm swap3 ?_; refine VC.perm swap3 ?_; refine VC.text ?_; refine VO.c (.move rfl) (VO.c (.assign rfl) ?_); refine VO.nil ?_; refine ⟨_, [(0, St (cutR 10 r)), (2, .raw ww1), (6, .raw ww2), (7, .raw ww8), (8, I (((i + 1) : Nat) : Int))], ?_, ⟨slE rfl (by first | rfl | simp | omega), rfl, rfl, rfl, rfl, trivial⟩, (cutR 10 r), (nxtG b (cutA 10 r)), (i + 1), ww8, ww6, rfl, rfl, (by first | (rw [nxt_0 hs0]; rfl) | (rw [nxt_d hs1 (show cutA 10 r = dasS from c16)]; simp only [List.map_append, List.map_cons, List.map_nil, q16_z] <;> rfl) | (rw [nxt_n hs1 (show ¬ cutA 10 r = dasS from c16)]; simp only [List.map_append, List.map_cons, List.map_nil] <;> rfl)), (by omega), (by exact gsI_n hI hok), (by exact hp.trans (prsG_good hw (stpG_t hok)))⟩; omega
  have hr0 : r = ByteArray.empty := Classical.not_not.1 c7
  have hpp : parG s = (some b, i) := by rw [parG_ne hne, hp, hr0]; exact prsG_end
  have hln := hI.ln; have hnm := hI.nm
  have hl1 : (b.2.2.map q16).length < 1000000 := by rw [List.length_map]; omega
  have hl2 : b.2.1.length = (b.2.2.map q16).length := by rw [List.length_map]; omega
  refine VC.exit (VC.seq (VC.seq ?_)); refine VC.perm swap2 ?_; refine VC.perm swap2 ?_; refine VC.shutL [(wl, .row 68 (.flt .f32) (b.2.2.map q16)), (ww2, .var [St ((hdO b).1), I ((hdO b).2), .raw wl, nilV])] [(6, .p y32 (((hdO b).1), ((hdO b).2), (b.2.2.map q16), []))] rfl (.cons rfl (.var m1 (.cons .same (.cons .same (.cons (.row m0) (.cons .nil .nil))))) .nil) ?_; refine VC.text ?_; refine VO.r (.ld vt32) ?_; refine VO.call rfl rfl (VF.call (gRec_ok hl1 (show 0 < 1000000 by decide))) ?_; refine VO.c (.assign rfl) ?_; refine VO.go (VC.seq (VC.text ?_)); refine VO.c (.move rfl) (VO.c (.neq) (VO.go ?_)); refine VC.condD rfl (fun c24 => ?_) (fun c24 => ?_)
  · have hn := par_wrong (f := plusZ) hpp c24; refine VC.seq (VC.text ?_); refine VO.c (.build (ByteArray.empty, 0, [], []) bt32) (VO.c (.move rfl) (VO.c (.move rfl) ?_)); refine VO.perm swap1 ?_; refine VO.setV (cs' := [St ByteArray.empty, I 0, .v y22 [], .v y23 []]) vt32 .v ?_; refine VO.c (.assign rfl) (VO.c (.assign rfl) (VO.go ?_)); refine VC.ret ?_; exact VEnd.three rfl (.cell (x := (ByteArray.empty, 0, [], [])) rfl m0 vt32 .refl) evT evT (pvE (by exact hn.1.symm)) (pvI (by exact hn.2.1.symm)) (pvI (by exact hn.2.2.symm))
  have hn := par_good (f := plusZ) hpp (Classical.not_not.1 c24); have hv := (rec_ok (Classical.not_not.1 c24)).2.2.2.1; refine VC.skip (VC.seq (VC.text ?_)); refine VO.r (.ld vt32) ?_; refine VO.c (.move rfl) ?_; refine VO.shut [(7, .v (.sl .bool) b.2.1), (93, .v (.sl .bool) b.2.1)] (.cons rfl (.row m0) (.cons rfl (.row m0) .nil)) ?_; refine VO.call rfl rfl (VF.call (gKeeping_ok hl1 hl2 hv)) ?_; refine VO.setV (cs' := [St ((hdO b).1), I ((hdO b).2), .v y22 (keptL (((hdO b).1), ((hdO b).2), (b.2.2.map q16), []) b.2.1 plusZ b.2.1.length), .v y23 (gapsE b.2.1 b.2.1.length)]) vt32 .v ?_; refine VO.c (.assign rfl) (VO.c (.assign rfl) (VO.go ?_)); refine VC.ret ?_; exact VEnd.three rfl (.cell (x := (((hdO b).1), ((hdO b).2), keptL (((hdO b).1), ((hdO b).2), (b.2.2.map q16), []) b.2.1 plusZ b.2.1.length, gapsE b.2.1 b.2.1.length)) rfl m0 vt32 .refl) evT evT (pvE (by exact hn.1.symm)) (pvI (by exact hn.2.1.symm)) (pvI (by exact hn.2.2.symm))
end Go.Proofs
namespace Go.Fs
variable {P : Program} {orc : FuncId → List Value → Heap → Option (Value × Heap)} {rnd : Option Nat} {h h0 : Heap} {S0 G : List Nat} {σ σr γ : Sto} {t : Tr} {ms : List Nat} {fl : VL} {n : Nat} {Q : Ex → VL → Sto → Prop} {w : Value} {cs cs' : List PV}
theorem Iv.shutV (I : Iv h0 G S0 h (γ ++ (w, .var cs) :: σ) t ms fl) (hc : CoL γ cs cs') : Iv h0 G S0 h ((w, .var cs') :: σ) t ms fl := by
  have I' := I.forgetL (γ := γ); refine ⟨I'.ok, I'.s0, I'.aft, fun c hm => ?_, I'.new, I'.apart, I'.mark, I'.marks, I'.slots⟩; rcases List.mem_cons.1 hm with rfl | hm
  · obtain ⟨b, e, vs, g1, g2, g3, g4, g5⟩ := I.cells (w, .var cs) (List.mem_append_right _ List.mem_cons_self); obtain ⟨b', e', vs', k1, k2, _, _, _⟩ := I'.cells _ List.mem_cons_self
    have hb : b' = b := by
      rw [g1] at k1; injection k1 with k1; injection k1 with k1; injection k1 with k1; exact k1.symm
    subst hb; refine ⟨b', e, vs, g1, k2, g3, ?_, g5⟩; refine CoL.ok (σ := γ) (S0 := own ((w, .var cs) :: σ) ++ S0) (fun c hd => ?_) (fun b hb => ?_) hc ?_
    · have := I.cells c (List.mem_append_left _ hd); rw [own_app, List.append_assoc] at this; exact this
    · have h1 := I.apart; rw [own_app] at h1; intro hm; rcases List.mem_append.1 hm with hm | hm
      · exact (List.nodup_append.1 h1).2.2 b hb b hm rfl
      exact (I.new b (by rw [own_app]; exact List.mem_append_left _ hb)).2 hm
    rw [own_app, List.append_assoc] at g4; exact g4
  exact I'.cells c (List.mem_cons_of_mem _ hm)
theorem VC.shutV {a : Code} (γ : Sto) (hσ : γ ++ (w, .var cs) :: σ = σr) (hc : CoL γ cs cs') (hx : VC P orc rnd a n fl ((w, .var cs') :: σ) Q) : VC P orc rnd a n fl σr Q := fun h0 G S0 t h ms I => by
  subst hσ; exact hx h0 G S0 t h ms (I.shutV hc)
end Go.Fs
namespace Go.Proofs
open Go.Fs Ieee
set_option maxHeartbeats 4000000
def nxtL (L : List ByteArray) (b : Gst) (i : Nat) : Gst := if i + 1 < L.length then nxtG b (wrdA L i) else b
theorem nxtL_1 {L : List ByteArray} {b : Gst} {i : Nat} (h : i + 1 < L.length) : nxtL L b i = nxtG b (wrdA L i) := if_pos h
theorem nxtL_0 {L : List ByteArray} {b : Gst} {i : Nat} (h : ¬ i + 1 < L.length) : nxtL L b i = b := if_neg h
def heG (b : Gst) : Int := firstE [whenE (!nameB (hdO b).1) 8, rangeE (hdO b).2 0 100000]
theorem rcG_h {b : Gst} (h : heG b ≠ 0) : recE (rcG b) = heG b := by
  have h1 : headE (rcG b) = heG b := by rw [head_two]; exact if_neg h
  rw [rec_nog rfl, h1, if_pos h]
theorem rcG_m {b : Gst} (h : heG b = 0) (hm : 4096 < b.2.2.length) : recE (rcG b) = 5 := by
  have h1 : headE (rcG b) = 5 := by
    rw [head_two]; refine (if_pos h).trans ?_; show whenE (decide ((4096 : Int) < (((b.2.2.map q16).length : Nat) : Int))) 5 = 5; rw [List.length_map, decide_eq_true (by omega)] <;> rfl
  rw [rec_nog rfl, h1, if_pos (by decide)]
theorem rcG_l {b : Gst} (h : heG b = 0) (hm : ¬ 4096 < b.2.2.length) : recE (rcG b) = lvlsE (b.2.2.map q16) := by
  have h1 : headE (rcG b) = 0 := by
    rw [head_two]; refine (if_pos h).trans ?_; show whenE (decide ((4096 : Int) < (((b.2.2.map q16).length : Nat) : Int))) 5 = 0; rw [List.length_map, decide_eq_false (by omega)] <;> rfl
  rw [rec_nog rfl, h1, if_neg (fun hh => hh rfl)] <;> rfl
theorem sg_das : sgK dasS = false ∧ sgV dasS = 0 := by decide +kernel
theorem rParse_ok {s : ByteArray} (hs : s.size < 100000) : VF Tryz.prog OA 18 [St s] (.tup [.v y25 (parR id s), I (parN s), I (parE s)]) := by
  refine VF.enter Tryz.func18 rfl (fun _ _ => rfl) rfl ?_; show VC _ _ _ _ _ [(0, St s)] [] _; refine VC.seq (VC.text ?_); have hF := splS_few (c := 10) (s := s); have hW := splS_size (c := 10) (s := s); have hL0 : 0 < (splS 10 s).length := List.length_pos_iff.2 splS_ne; refine VO.cell (.alloc zt25) ?_; intro ww1; refine VO.c (.assign rfl) (VO.c (.assign rfl) ?_); refine VO.go (VC.seq (VC.seq (VC.text ?_))); refine VO.c (.move rfl) ?_; refine VO.r (.lenS) ?_; refine VO.c (.gtr) (VO.go ?_); refine VC.condD rfl (fun c1 => ?_) (fun c1 => ?_)
  · exfalso; omega
  refine VC.skip (VC.seq (VC.seq (VC.text ?_))); refine VO.c (.move rfl) (VO.c (.seql) (VO.go ?_)); refine VC.condD rfl (fun c3 => ?_) (fun c3 => ?_)
  · have hpn := par_none (f := id) (show parG s = (none, 0) by rw [show s = ByteArray.empty from c3]; exact parG_e); refine VC.seq (VC.text ?_); refine VO.c (.build (ByteArray.empty, 0, [], []) bt25) ?_; refine VO.setV (cs' := [St ByteArray.empty, I 0, .v y22 [], .v y23 []]) vt25 .v ?_; refine VO.c (.assign rfl) (VO.c (.assign rfl) (VO.go ?_)); refine VC.ret ?_; exact VEnd.three rfl (.cell (x := (ByteArray.empty, 0, [], [])) rfl m0 vt25 .refl) evT evT (pvE (by exact hpn.1.symm)) (pvI (by exact hpn.2.1.symm)) (pvI (by exact hpn.2.2.symm))
  refine VC.skip (VC.seq (VC.text ?_)); refine VO.cell (.allocM (zs := [St ByteArray.empty, I (0 : Int), nilV, nilV]) [false, false, true, true] zt25) ?_; intro ww2; refine VO.go (VC.seq (VC.text ?_)); refine VO.c (.assign rfl) ?_; refine VO.go (VC.seq (VC.text ?_)); refine VO.c (.assign rfl) ?_; refine VO.go (VC.seq (VC.text ?_)); refine VO.c (.move rfl) ?_; refine VO.call rfl rfl (VF.call (rSplit_ok (by omega) (by omega))) ?_; refine VO.c (.assign rfl) ?_; rw [show splS (c8 10) s = splS 10 s from rfl]; refine VO.go (VC.seq (VC.seq (VC.text ?_))); refine VO.c (.assign rfl) ?_; refine VO.go (VC.block ?_); refine VC.cell0 4 .bool ?_; refine VC.cell0 3 (.int .i64) ?_; refine VC.keep [(2, .raw ww1), (5, .raw ww2), (6, .raw (.slice none 0 0)), (7, .raw (.slice none 0 0)), (8, .v (.sl .str) (splS 10 s)), (9, I ((0 : Nat) : Int))] ⟨rfl, rfl, rfl, rfl, rfl, rfl, trivial⟩ ?_; refine VC.loop (I := fun kk ff ss => ∃ (b : Gst) (i : Nat) (wn : Value) (wt : Value), kk = (splS 10 s).length - i ∧ ff = [(2, .raw ww1), (5, .raw ww2), (6, .raw wt), (7, .raw wn), (8, .v (.sl .str) (splS 10 s)), (9, I ((i : Nat) : Int))] ∧ ss = [(wn, .row 3 (.int .i64) b.2.2), (wt, .row 4 .bool b.2.1), (ww2, .var [St ((hdO b).1), I ((hdO b).2), nilV, nilV]), (ww1, .var [St ByteArray.empty, I (0 : Int), .v y22 [], .v y23 []])] ∧ (i ≤ (splS 10 s).length) ∧ (GsI b (min i ((splS 10 s).length - 1))) ∧ (parG s = prsG stpG ((splS 10 s).drop i) b (min i ((splS 10 s).length - 1)))) ?_ _ _ _ ⟨zG, 0, (.slice none 0 0), (.slice none 0 0), rfl, rfl, rfl, (by omega), (by exact gsI_z), (by exact parG_ne c3)⟩; rintro kk ff ss ⟨b, i, wn, wt, hk0, rfl, rfl, hi, hI, hp⟩; refine VC.seq (VC.seq (VC.text ?_)); refine VO.c (.move rfl) (VO.c (.move rfl) ?_); refine VO.r (.len el116) ?_; refine VO.c (.lss) (VO.go ?_); refine VC.condD rfl (fun c10 => ?_) (fun c10 => ?_)
  · have hit : i < (splS 10 s).length := by omega
    have hmin : min i ((splS 10 s).length - 1) = i := by omega
    have hln := hI.ln; have hnm := hI.nm; have hz := hW _ (List.getElem_mem hit); have hfw := splS_few (c := 32) (s := (splS 10 s)[i]); have hWW := splS_size (c := 32) (s := (splS 10 s)[i]); refine VC.skip (VC.seq (VC.block (VC.seq (VC.seq (VC.text ?_))))); refine VO.c (.move rfl) (VO.c (.move rfl) ?_); refine VO.r (.len el116) ?_; refine VO.c (.sub rfl rfl (by omega)) (VO.c (.eql) (VO.go ?_)); refine VC.condD rfl (fun c12 => ?_) (fun c12 => ?_)
    · have hl1 : i + 1 = (splS 10 s).length := by omega
      refine VC.seq (VC.seq (VC.text ?_)); refine VO.c (.move rfl) (VO.c (.move rfl) (VO.c (.ix (j := i) rfl rfl el116 (by omega)) ?_)); refine VO.r (.ld vt9) ?_; refine VO.c (.sneq) (VO.go ?_); refine VC.condD rfl (fun c13 => ?_) (fun c13 => ?_)
      · have hnn : parG s = (none, i) := by rw [hp, hmin]; exact prsG_e0 hit hl1 c13
        have hn := par_none (f := id) hnn; refine VC.seq (VC.text ?_); refine VO.c (.build (ByteArray.empty, 0, [], []) bt25) (VO.c (.move rfl) ?_); refine VO.perm swap3 ?_; refine VO.setV (cs' := [St ByteArray.empty, I 0, .v y22 [], .v y23 []]) vt25 .v ?_; refine VO.c (.assign rfl) (VO.c (.assign rfl) (VO.go ?_)); refine VC.ret ?_; exact VEnd.three rfl (.cell (x := (ByteArray.empty, 0, [], [])) rfl m0 vt25 .refl) evT evT (pvE (by exact hn.1.symm)) (pvI (by exact hn.2.1.symm)) (pvI (by exact hn.2.2.symm))
      have hnx : nxtL (splS 10 s) b i = b := nxtL_0 (by omega)
      have hm2 : min (i + 1) ((splS 10 s).length - 1) = i := by omega
      have hIn : GsI (nxtL (splS 10 s) b i) (min (i + 1) ((splS 10 s).length - 1)) := by
        rw [hnx, hm2]; rw [hmin] at hI; exact hI
      have hpn2 : parG s = prsG stpG ((splS 10 s).drop (i + 1)) (nxtL (splS 10 s) b i) (min (i + 1) ((splS 10 s).length - 1)) := by
        rw [hp, hmin, hnx, hm2, prsG_e1 hit hl1 (Classical.not_not.1 c13), List.drop_eq_nil_of_le (by omega)] <;> rfl
      refine VC.skip (VC.exit (VC.text ?_)); refine VO.c (.move rfl) (VO.c (.add rfl rfl (by omega)) (VO.c (.assign rfl) ?_)); refine VO.nil ?_; refine ⟨_, [(2, .raw ww1), (5, .raw ww2), (6, .raw wt), (7, .raw wn), (8, .v (.sl .str) (splS 10 s)), (9, I (((i + 1) : Nat) : Int))], ?_, ⟨rfl, rfl, rfl, rfl, rfl, rfl, trivial⟩, (nxtL (splS 10 s) b i), (i + 1), wn, wt, rfl, rfl, (by first | (rw [hnx]; done) | (rw [hnx]; rfl)), (by omega), (by exact hIn), (by exact hpn2)⟩; omega
    refine VC.skip (VC.seq (VC.seq (VC.text ?_))); refine VO.c (.move rfl) (VO.c (.eql) (VO.go ?_)); refine VC.condD rfl (fun c15 => ?_) (fun c15 => ?_)
    · have hs0 : b.1.isSome = false := by rw [hI.hd]; exact decide_eq_false (by omega)
      refine VC.seq (VC.text ?_); refine VO.c (.move rfl) (VO.c (.move rfl) (VO.c (.ix (j := i) rfl rfl el116 (by omega)) ?_)); refine VO.r (.ld vt9) ?_; refine VO.call rfl rfl (VF.call (rSplit_ok (by omega) (by omega))) ?_; refine VO.c (.assign rfl) ?_; rw [show splS (c8 32) (splS 10 s)[i] = splS 32 (splS 10 s)[i] from rfl]; refine VO.go (VC.seq (VC.seq (VC.text ?_))); refine VO.c (.move rfl) ?_; refine VO.r (.len el116) ?_; refine VO.c (.neq) (VO.c (.move rfl) ?_); refine VO.cg (r := decide ((((splS 32 (splS 10 s)[i]).length : Nat) : Int) ≠ (3 : Int))) (w := false) [] trivial (fun _ => (.move rfl)) ?_; refine VO.cg (r := decide ((((splS 32 (splS 10 s)[i]).length : Nat) : Int) ≠ (3 : Int))) (w := false) [(57, .v (.sl .str) (splS 32 (splS 10 s)[i]))] ⟨rfl, trivial⟩ (fun hgd => have g17_3 : ¬ ((((splS 32 (splS 10 s)[i]).length : Nat) : Int) ≠ (3 : Int)) := (by simpa using hgd); (.ixD (j := 0) rfl rfl ByteArray.empty el116 (by omega))) ?_; refine VO.rg (r := decide ((((splS 32 (splS 10 s)[i]).length : Nat) : Int) ≠ (3 : Int))) (w := false) [(58, .p .str ((splS 32 (splS 10 s)[i]).getD 0 ByteArray.empty))] ⟨rfl, trivial⟩ (fun _ => (.ld vt9)) ?_; refine VO.cg (r := decide ((((splS 32 (splS 10 s)[i]).length : Nat) : Int) ≠ (3 : Int))) (w := false) [(59, St ((splS 32 (splS 10 s)[i]).getD 0 ByteArray.empty))] ⟨rfl, trivial⟩ (fun _ => (.sneq)) ?_; refine VO.c (.or) (VO.c (.move rfl) ?_); refine VO.cg (r := ((decide ((((splS 32 (splS 10 s)[i]).length : Nat) : Int) ≠ (3 : Int))) || (decide (((splS 32 (splS 10 s)[i]).getD 0 ByteArray.empty) ≠ ⟨#[103, 97, 117, 103, 101]⟩)))) (w := false) [] trivial (fun _ => (.move rfl)) ?_; refine VO.cg (r := ((decide ((((splS 32 (splS 10 s)[i]).length : Nat) : Int) ≠ (3 : Int))) || (decide (((splS 32 (splS 10 s)[i]).getD 0 ByteArray.empty) ≠ ⟨#[103, 97, 117, 103, 101]⟩)))) (w := false) [(63, .v (.sl .str) (splS 32 (splS 10 s)[i]))] ⟨rfl, trivial⟩ (fun hgd => have g17_9 : ((decide ((((splS 32 (splS 10 s)[i]).length : Nat) : Int) ≠ (3 : Int))) || (decide (((splS 32 (splS 10 s)[i]).getD 0 ByteArray.empty) ≠ ⟨#[103, 97, 117, 103, 101]⟩))) = false := (by simpa using hgd); (.ixD (j := 1) rfl rfl ByteArray.empty el116 (by have h9 := of_decide_eq_false (Bool.or_eq_false_iff.1 g17_9).1; omega))) ?_; refine VO.rg (r := ((decide ((((splS 32 (splS 10 s)[i]).length : Nat) : Int) ≠ (3 : Int))) || (decide (((splS 32 (splS 10 s)[i]).getD 0 ByteArray.empty) ≠ ⟨#[103, 97, 117, 103, 101]⟩)))) (w := false) [(64, .p .str ((splS 32 (splS 10 s)[i]).getD 1 ByteArray.empty))] ⟨rfl, trivial⟩ (fun _ => (.ld vt9)) ?_; refine VO.cg (r := ((decide ((((splS 32 (splS 10 s)[i]).length : Nat) : Int) ≠ (3 : Int))) || (decide (((splS 32 (splS 10 s)[i]).getD 0 ByteArray.empty) ≠ ⟨#[103, 97, 117, 103, 101]⟩)))) (w := false) [(65, St ((splS 32 (splS 10 s)[i]).getD 1 ByteArray.empty))] ⟨rfl, trivial⟩ (fun _ => (.seql)) ?_; refine VO.c (.or) (VO.go ?_); refine VC.condB rfl (fun c17 => ?_) (fun c17 => ?_)
      · try simp only [Bool.and_eq_true, Bool.or_eq_true, Bool.and_eq_false_iff, Bool.or_eq_false_iff, Bool.not_eq_true', Bool.not_eq_false', decide_eq_true_eq, decide_eq_false_iff_not] at c17
        have hbad : hdB (splS 32 (splS 10 s)[i]) = false := hdB_f fun hh => by
          rcases c17 with (h | h) | h
          · have := hh.1; omega
          · exact h hh.2.1
          exact hh.2.2.1 h
        have hnn : parG s = (none, i) := by rw [hp, hmin]; exact prsG_d0 (by omega) (stpG_f (by rw [ok_0 hs0]; exact hbad))
        have hn := par_none (f := id) hnn; refine VC.seq (VC.text ?_); refine VO.c (.build (ByteArray.empty, 0, [], []) bt25) (VO.c (.move rfl) ?_); refine VO.perm swap3 ?_; refine VO.setV (cs' := [St ByteArray.empty, I 0, .v y22 [], .v y23 []]) vt25 .v ?_; refine VO.c (.assign rfl) (VO.c (.assign rfl) (VO.go ?_)); refine VC.ret ?_; exact VEnd.three rfl (.cell (x := (ByteArray.empty, 0, [], [])) rfl m0 vt25 .refl) evT evT (pvE (by exact hn.1.symm)) (pvI (by exact hn.2.1.symm)) (pvI (by exact hn.2.2.symm))
      try simp only [Bool.and_eq_true, Bool.or_eq_true, Bool.and_eq_false_iff, Bool.or_eq_false_iff, Bool.not_eq_true', Bool.not_eq_false', decide_eq_true_eq, decide_eq_false_iff_not] at c17
      have h3 : (splS 32 (splS 10 s)[i]).length = 3 := by have := c17.1.1; omega
      refine VC.skip (VC.seq (VC.text ?_)); refine VO.c (.move rfl) (VO.c (.ix (j := 2) rfl rfl el116 (by omega)) ?_); refine VO.r (.ld vt9) ?_; refine VO.call rfl rfl (VF.call (rNum_ok (by have := hWW _ (List.getElem_mem (show 2 < (splS 32 (splS 10 s)[i]).length by omega)); omega))) ?_; refine VO.c (.move rfl) (VO.c (.extract) (VO.c (.extract) (VO.c (.assign rfl) ?_))); refine VO.c (.assign rfl) ?_; refine VO.go (VC.seq (VC.seq ?_)); refine VC.keep [(2, .raw ww1), (5, .raw ww2), (6, .raw wt), (7, .raw wn), (8, .v (.sl .str) (splS 10 s)), (9, I ((i : Nat) : Int)), (10, .v (.sl .str) (splS 32 (splS 10 s)[i])), (11, I (numV ((splS 32 (splS 10 s)[i])[2]))), (12, B (numK ((splS 32 (splS 10 s)[i])[2])))] ⟨rfl, rfl, rfl, rfl, rfl, rfl, rfl, rfl, rfl, trivial⟩ ?_; refine VC.text ?_; refine VO.c (.move rfl) (VO.c (.not) (VO.go ?_)); refine VC.condB rfl (fun c20 => ?_) (fun c20 => ?_)
      · try simp only [Bool.and_eq_true, Bool.or_eq_true, Bool.and_eq_false_iff, Bool.or_eq_false_iff, Bool.not_eq_true', Bool.not_eq_false', decide_eq_true_eq, decide_eq_false_iff_not] at c20
        have hbad : hdB (splS 32 (splS 10 s)[i]) = false := hdB_f fun hh => by
          have := hh.2.2.2; rw [wrd_at (by omega), c20] at this; cases this
        have hnn : parG s = (none, i) := by rw [hp, hmin]; exact prsG_d0 (by omega) (stpG_f (by rw [ok_0 hs0]; exact hbad))
        have hn := par_none (f := id) hnn; refine VC.seq (VC.text ?_); refine VO.c (.build (ByteArray.empty, 0, [], []) bt25) (VO.c (.move rfl) ?_); refine VO.perm swap3 ?_; refine VO.setV (cs' := [St ByteArray.empty, I 0, .v y22 [], .v y23 []]) vt25 .v ?_; refine VO.c (.assign rfl) (VO.c (.assign rfl) (VO.go ?_)); refine VC.ret ?_; exact VEnd.three rfl (.cell (x := (ByteArray.empty, 0, [], [])) rfl m0 vt25 .refl) evT evT (pvE (by exact hn.1.symm)) (pvI (by exact hn.2.1.symm)) (pvI (by exact hn.2.2.symm))
      try simp only [Bool.and_eq_true, Bool.or_eq_true, Bool.and_eq_false_iff, Bool.or_eq_false_iff, Bool.not_eq_true', Bool.not_eq_false', decide_eq_true_eq, decide_eq_false_iff_not] at c20
      have ht := hdB_t h3 (Classical.not_not.1 c17.1.2) c17.2 (by rw [wrd_at (by omega)]; exact c20)
      have hok : okG b (wrdA (splS 10 s) i) = true := by rw [wrd_at hit, ok_0 hs0]; exact ht.1
      have hnx : nxtL (splS 10 s) b i = (some ((splS 32 (splS 10 s)[i])[1]'(by omega), numV ((splS 32 (splS 10 s)[i])[2]'(by omega))), b.2.1, b.2.2) := by
        rw [nxtL_1 (by omega), wrd_at hit, nxt_0 hs0, ht.2.1, ht.2.2, wrd_at (by omega), wrd_at (by omega)]
      have hlt : i + 1 < (splS 10 s).length := by omega
      have hm2 : min (i + 1) ((splS 10 s).length - 1) = i + 1 := by omega
      have hIn : GsI (nxtL (splS 10 s) b i) (min (i + 1) ((splS 10 s).length - 1)) := by
        rw [nxtL_1 hlt, hm2]; rw [hmin] at hI; exact gsI_n hI hok
      have hpn2 : parG s = prsG stpG ((splS 10 s).drop (i + 1)) (nxtL (splS 10 s) b i) (min (i + 1) ((splS 10 s).length - 1)) := by
        rw [hp, hmin, nxtL_1 hlt, hm2]; exact prsG_d1 hlt (by rw [← wrd_at hit]; exact stpG_t hok)
      refine VC.skip (VC.seq (VC.text ?_)); refine VO.c (.move rfl) (VO.c (.ix (j := 1) rfl rfl el116 (by omega)) ?_); refine VO.r (.ld vt9) ?_; refine VO.c (.move rfl) (VO.c (.faO (k := 0) m2) ?_); refine VO.perm swap2 ?_; refine VO.setF (cs' := [St ((splS 32 (splS 10 s)[i])[1]), I ((hdO b).2), nilV, nilV]) 0 vt9 .v ?_; refine VO.c (.faO (k := 1) m0) ?_; refine VO.setF (cs' := [St ((splS 32 (splS 10 s)[i])[1]), I (numV ((splS 32 (splS 10 s)[i])[2])), nilV, nilV]) 1 vt3 .v ?_; refine VO.go (VC.exit (VC.text ?_)); refine VO.c (.move rfl) (VO.c (.add rfl rfl (by omega)) (VO.c (.assign rfl) ?_)); refine VO.perm swap3 ?_; refine VO.perm swap1 ?_; refine VO.perm swap3 ?_; refine VO.perm swap3 ?_; refine VO.nil ?_; refine ⟨_, [(2, .raw ww1), (5, .raw ww2), (6, .raw wt), (7, .raw wn), (8, .v (.sl .str) (splS 10 s)), (9, I (((i + 1) : Nat) : Int))], ?_, ⟨rfl, rfl, rfl, rfl, rfl, rfl, trivial⟩, (nxtL (splS 10 s) b i), (i + 1), wn, wt, rfl, rfl, (by first | (rw [hnx]; done) | (rw [hnx]; rfl)), (by omega), (by exact hIn), (by exact hpn2)⟩; omega
    have hs1 : b.1.isSome = true := by rw [hI.hd]; exact decide_eq_true (by omega)
    refine VC.skip (VC.seq (VC.text ?_)); refine VO.c (.move rfl) (VO.c (.move rfl) (VO.c (.ix (j := i) rfl rfl el116 (by omega)) ?_)); refine VO.r (.ld vt9) ?_; refine VO.call rfl rfl (VF.call (rSigned_ok (by omega))) ?_; refine VO.c (.move rfl) (VO.c (.extract) (VO.c (.extract) (VO.c (.assign rfl) ?_))); refine VO.c (.assign rfl) ?_; refine VO.go (VC.seq (VC.seq (VC.text ?_))); refine VO.c (.move rfl) (VO.c (.not) (VO.c (.move rfl) ?_)); refine VO.cg (r := (!(sgK ((splS 10 s)[i])))) (w := true) [] trivial (fun _ => (.move rfl)) ?_; refine VO.cg (r := (!(sgK ((splS 10 s)[i])))) (w := true) [] trivial (fun _ => (.move rfl)) ?_; refine VO.cg (r := (!(sgK ((splS 10 s)[i])))) (w := true) [(98, .v (.sl .str) (splS 10 s)), (99, I ((i : Nat) : Int))] ⟨rfl, rfl, trivial⟩ (fun hgd => have g24_2 : (!(sgK ((splS 10 s)[i]))) = true := (by simpa using hgd); (.ixD (j := i) rfl rfl ByteArray.empty el116 (by omega))) ?_; refine VO.rg (r := (!(sgK ((splS 10 s)[i])))) (w := true) [(100, .p .str ((splS 10 s).getD i ByteArray.empty))] ⟨rfl, trivial⟩ (fun _ => (.ld vt9)) ?_; refine VO.cg (r := (!(sgK ((splS 10 s)[i])))) (w := true) [(101, St ((splS 10 s).getD i ByteArray.empty))] ⟨rfl, trivial⟩ (fun _ => (.sneq)) ?_; refine VO.c (.and) (VO.go ?_); refine VC.condB rfl (fun c24 => ?_) (fun c24 => ?_)
    · try simp only [Bool.and_eq_true, Bool.or_eq_true, Bool.and_eq_false_iff, Bool.or_eq_false_iff, Bool.not_eq_true', Bool.not_eq_false', decide_eq_true_eq, decide_eq_false_iff_not] at c24
      have hbad : okG b (splS 10 s)[i] = false := by
        rw [ok_1 hs1, ato_sg.1, c24.1, Bool.or_false]; refine decide_eq_false fun e => c24.2 ?_; rw [List.getD_eq_getElem?_getD, List.getElem?_eq_getElem hit]; exact e
      have hnn : parG s = (none, i) := by rw [hp, hmin]; exact prsG_d0 (by omega) (stpG_f hbad)
      have hn := par_none (f := id) hnn; refine VC.seq (VC.text ?_); refine VO.c (.build (ByteArray.empty, 0, [], []) bt25) (VO.c (.move rfl) ?_); refine VO.perm swap3 ?_; refine VO.setV (cs' := [St ByteArray.empty, I 0, .v y22 [], .v y23 []]) vt25 .v ?_; refine VO.c (.assign rfl) (VO.c (.assign rfl) (VO.go ?_)); refine VC.ret ?_; exact VEnd.three rfl (.cell (x := (ByteArray.empty, 0, [], [])) rfl m0 vt25 .refl) evT evT (pvE (by exact hn.1.symm)) (pvI (by exact hn.2.1.symm)) (pvI (by exact hn.2.2.symm))
    try simp only [Bool.and_eq_true, Bool.or_eq_true, Bool.and_eq_false_iff, Bool.or_eq_false_iff, Bool.not_eq_true', Bool.not_eq_false', decide_eq_true_eq, decide_eq_false_iff_not] at c24
    have hcs : ((splS 10 s)[i] = dasS) ∨ (¬ (splS 10 s)[i] = dasS ∧ sgK (splS 10 s)[i] = true) := by
      by_cases e : (splS 10 s)[i] = dasS
      · exact .inl e
      refine .inr ⟨e, ?_⟩; rcases c24 with h | h
      · exact h
      rw [List.getD_eq_getElem?_getD, List.getElem?_eq_getElem hit] at h; exact absurd (Classical.not_not.1 h) e
    have hok : okG b (wrdA (splS 10 s) i) = true := by
      rw [wrd_at hit, ok_1 hs1]; rcases hcs with e | ⟨e, hk⟩
      · rw [decide_eq_true e] <;> rfl
      rw [ato_sg.1, hk, Bool.or_true]
    have hnx : nxtL (splS 10 s) b i = (b.1, b.2.1 ++ [sgK (splS 10 s)[i]], b.2.2 ++ [sgV (splS 10 s)[i]]) := by
      rw [nxtL_1 (by omega), wrd_at hit]; rcases hcs with e | ⟨e, hk⟩
      · rw [nxt_d hs1 e, e, sg_das.1, sg_das.2]
      rw [nxt_n hs1 e, hk, ato_sg.2 hk]
    have hlt : i + 1 < (splS 10 s).length := by omega
    have hm2 : min (i + 1) ((splS 10 s).length - 1) = i + 1 := by omega
    have hIn : GsI (nxtL (splS 10 s) b i) (min (i + 1) ((splS 10 s).length - 1)) := by
      rw [nxtL_1 hlt, hm2]; rw [hmin] at hI; exact gsI_n hI hok
    have hpn2 : parG s = prsG stpG ((splS 10 s).drop (i + 1)) (nxtL (splS 10 s) b i) (min (i + 1) ((splS 10 s).length - 1)) := by
      rw [hp, hmin, nxtL_1 hlt, hm2]; exact prsG_d1 hlt (by rw [← wrd_at hit]; exact stpG_t hok)
    refine VC.skip (VC.text ?_); refine VO.c (.move rfl) (VO.c (.move rfl) ?_); refine VO.new (.lit [sgK ((splS 10 s)[i])] el105) ?_; refine VO.perm swap1 ?_; refine VO.app rfl rfl el105 el105 (by simp only [List.length_singleton]; omega) ?_; intro ww3; refine VO.c (.move rfl) (VO.c (.move rfl) ?_); refine VO.new (.lit [sgV ((splS 10 s)[i])] el60) ?_; refine VO.perm swap1 ?_; refine VO.app rfl rfl el60 el60 (by simp only [List.length_singleton]; omega) ?_; intro ww4; refine VO.c (.assign rfl) (VO.c (.assign rfl) ?_); refine VO.nil ?_; refine VC.keep [(2, .raw ww1), (5, .raw ww2), (6, .raw ww3), (7, .raw ww4), (8, .v (.sl .str) (splS 10 s)), (9, I ((i : Nat) : Int))] ⟨rfl, rfl, rfl, rfl, rfl, rfl, trivial⟩ ?_; refine VC.text ?_; refine VO.c (.move rfl) (VO.c (.add rfl rfl (by omega)) (VO.c (.assign rfl) ?_)); refine VO.nil ?_; refine ⟨_, [(2, .raw ww1), (5, .raw ww2), (6, .raw ww3), (7, .raw ww4), (8, .v (.sl .str) (splS 10 s)), (9, I (((i + 1) : Nat) : Int))], ?_, ⟨rfl, rfl, rfl, rfl, rfl, rfl, trivial⟩, (nxtL (splS 10 s) b i), (i + 1), ww4, ww3, rfl, rfl, (by first | (rw [hnx]; done) | (rw [hnx]; rfl)), (by omega), (by exact hIn), (by exact hpn2)⟩; omega
  have hie : i = (splS 10 s).length := by omega
  have hmin : min i ((splS 10 s).length - 1) = (splS 10 s).length - 1 := by omega
  have hpp : parG s = (some b, (splS 10 s).length - 1) := by rw [hp, List.drop_eq_nil_of_le (by omega), hmin] <;> rfl
  have hln := hI.ln; have hnm := hI.nm; have hbd := hI.bd; refine VC.exit (VC.seq (VC.seq ?_)); refine VC.shutL [(wn, .row 3 (.int .i64) b.2.2)] [(7, .v y60 b.2.2)] rfl (.cons rfl (.row m0) .nil) ?_; refine VC.drawn ?_; refine VD.co (.faO (k := 0) m1) ?_; refine VD.r [(wt, .row 4 .bool b.2.1), (ww2, .var [St ((hdO b).1), I ((hdO b).2), nilV, nilV]), (ww1, .var [St ByteArray.empty, I (0 : Int), .v y22 [], .v y23 []])] (.ldF (k := 0) m1 vt9) (.inr ⟨rfl, rfl⟩) ?_; refine VD.call rfl rfl (VF.call (rNameE_ok )) ?_; refine VD.co (.faO (k := 1) m1) ?_; refine VD.r [(wt, .row 4 .bool b.2.1), (ww2, .var [St ((hdO b).1), I ((hdO b).2), nilV, nilV]), (ww1, .var [St ByteArray.empty, I (0 : Int), .v y22 [], .v y23 []])] (.ldF (k := 1) m1 vt3) (.inr ⟨rfl, rfl⟩) ?_; refine VD.call rfl rfl (VF.call (rCheckRange_ok )) ?_; refine VD.nw [] ?_; refine VD.new (.lit [whenE (!nameB ((hdO b).1)) 8, rangeE ((hdO b).2) (0 : Int) (100000 : Int)] el60) ?_; refine VD.callO rfl rfl (VF.call (rFirst_ok (by first | assumption | omega | simp))) ?_; refine VD.c (.assign rfl) ?_; refine VD.go (VC.seq (VC.text ?_)); refine VO.c (.move rfl) (VO.c (.neq) (VO.go ?_)); refine VC.condD rfl (fun c28 => ?_) (fun c28 => ?_)
  · have hrh := rcG_h c28; have hn := par_wrong (f := id) hpp (by rw [hrh]; exact c28); refine VC.seq (VC.text ?_); refine VO.c (.build (ByteArray.empty, 0, [], []) bt25) (VO.c (.move rfl) ?_); refine VO.r (.len el116) ?_; refine VO.c (.sub rfl rfl (by omega)) (VO.c (.move rfl) ?_); refine VO.perm swap2 ?_; refine VO.setV (cs' := [St ByteArray.empty, I 0, .v y22 [], .v y23 []]) vt25 .v ?_; refine VO.c (.assign rfl) (VO.c (.assign rfl) (VO.go ?_)); refine VC.ret ?_; exact VEnd.three rfl (.cell (x := (ByteArray.empty, 0, [], [])) rfl m0 vt25 .refl) evT evT (pvE (by exact hn.1.symm)) (pvI (by rw [hn.2.1]; omega)) (pvI (by exact (hn.2.2.trans hrh).symm))
  refine VC.skip (VC.seq (VC.seq (VC.text ?_))); refine VO.c (.move rfl) ?_; refine VO.r (.len el60) ?_; refine VO.c (.gtr) (VO.go ?_); refine VC.condD rfl (fun c30 => ?_) (fun c30 => ?_)
  · have hrm := rcG_m (Classical.not_not.1 c28) (by omega); have hn := par_wrong (f := id) hpp (by rw [hrm]; decide); refine VC.seq (VC.text ?_); refine VO.c (.build (ByteArray.empty, 0, [], []) bt25) (VO.c (.move rfl) ?_); refine VO.r (.len el116) ?_; refine VO.c (.sub rfl rfl (by omega)) ?_; refine VO.perm swap2 ?_; refine VO.setV (cs' := [St ByteArray.empty, I 0, .v y22 [], .v y23 []]) vt25 .v ?_; refine VO.c (.assign rfl) (VO.c (.assign rfl) (VO.go ?_)); refine VC.ret ?_; exact VEnd.three rfl (.cell (x := (ByteArray.empty, 0, [], [])) rfl m0 vt25 .refl) evT evT (pvE (by exact hn.1.symm)) (pvI (by rw [hn.2.1]; omega)) (pvI (by exact (hn.2.2.trans hrm).symm))
  have hrl := rcG_l (Classical.not_not.1 c28) (by omega); refine VC.skip (VC.seq (VC.seq (VC.text ?_))); refine VO.c (.assign rfl) ?_; refine VO.go (VC.block ?_); refine VC.cell0 68 (.flt .f32) ?_; refine VC.keep [(2, .raw ww1), (5, .raw ww2), (6, .raw wt), (7, .v y60 b.2.2), (8, .v (.sl .str) (splS 10 s)), (16, I ((0 : Nat) : Int))] ⟨rfl, rfl, rfl, rfl, rfl, rfl, trivial⟩ ?_; refine VC.loop (I := fun kk ff ss => ∃ (j : Nat) (wv : Value), kk = b.2.2.length - j ∧ ff = [(2, .raw ww1), (5, .raw ww2), (6, .raw wt), (7, .v y60 b.2.2), (8, .v (.sl .str) (splS 10 s)), (16, I ((j : Nat) : Int))] ∧ ss = [(wv, .row 68 (.flt .f32) ((b.2.2.take j).map q16)), (wt, .row 4 .bool b.2.1), (ww2, .var [St ((hdO b).1), I ((hdO b).2), .raw wv, nilV]), (ww1, .var [St ByteArray.empty, I (0 : Int), .v y22 [], .v y23 []])] ∧ (j ≤ b.2.2.length) ∧ (lvlsE (b.2.2.map q16) = lvlsE ((b.2.2.map q16).drop j))) ?_ _ _ _ ⟨0, (.slice none 0 0), rfl, rfl, rfl, Nat.zero_le _, (by rfl)⟩; rintro kk ff ss ⟨j, wv, hk2, rfl, rfl, hj, hf⟩; refine VC.seq (VC.seq (VC.text ?_)); refine VO.c (.move rfl) (VO.c (.move rfl) ?_); refine VO.r (.len el60) ?_; refine VO.c (.lss) (VO.go ?_); refine VC.condD rfl (fun c33 => ?_) (fun c33 => ?_)
  · have hjl : j < b.2.2.length := by omega
    refine VC.skip (VC.seq (VC.block (VC.seq (VC.text ?_)))); refine VO.c (.move rfl) (VO.c (.move rfl) (VO.c (.ix (j := j) rfl rfl el60 (by omega)) ?_)); refine VO.r (.ld vt3) ?_; refine VO.call rfl rfl (VF.call (rLevel_ok )) ?_; refine VO.c (.move rfl) (VO.c (.extract) (VO.c (.extract) (VO.c (.assign rfl) ?_))); refine VO.c (.assign rfl) ?_; refine VO.go (VC.seq (VC.seq (VC.text ?_))); refine VO.c (.move rfl) (VO.c (.not) (VO.go ?_)); refine VC.condB rfl (fun c36 => ?_) (fun c36 => ?_)
    · try simp only [Bool.and_eq_true, Bool.or_eq_true, Bool.and_eq_false_iff, Bool.or_eq_false_iff, Bool.not_eq_true', Bool.not_eq_false', decide_eq_true_eq, decide_eq_false_iff_not] at c36
      have hr3 : recE (rcG b) = 3 := by
        have e : lvlE (q16 b.2.2[j]) = 3 := by rw [lv_n (hbd _ (List.getElem_mem hjl)), if_neg (by rw [c36]; decide)]
        rw [hrl, hf, lvls_drop (by rw [List.length_map]; omega), List.getElem_map, e] <;> rfl
      have hn := par_wrong (f := id) hpp (by rw [hr3]; decide); refine VC.seq (VC.text ?_); refine VO.c (.build (ByteArray.empty, 0, [], []) bt25) (VO.c (.move rfl) ?_); refine VO.r (.len el116) ?_; refine VO.c (.sub rfl rfl (by omega)) ?_; refine VO.perm swap3 ?_; refine VO.setV (cs' := [St ByteArray.empty, I 0, .v y22 [], .v y23 []]) vt25 .v ?_; refine VO.c (.assign rfl) (VO.c (.assign rfl) (VO.go ?_)); refine VC.ret ?_; exact VEnd.three rfl (.cell (x := (ByteArray.empty, 0, [], [])) rfl m0 vt25 .refl) evT evT (pvE (by exact hn.1.symm)) (pvI (by rw [hn.2.1]; omega)) (pvI (by exact (hn.2.2.trans hr3).symm))
    try simp only [Bool.and_eq_true, Bool.or_eq_true, Bool.and_eq_false_iff, Bool.or_eq_false_iff, Bool.not_eq_true', Bool.not_eq_false', decide_eq_true_eq, decide_eq_false_iff_not] at c36
    have hlo := c36; refine VC.skip (VC.text ?_); refine VO.c (.faO (k := 2) m2) ?_; refine VO.r (.ldF (k := 2) m2 vt22) ?_; refine VO.c (.move rfl) ?_; refine VO.new (.lit [if lvO (b.2.2[j]) = true then q16 (b.2.2[j]) else 0] el22) ?_; refine VO.app rfl rfl el22 el22 (by simp only [List.length_map, List.length_take, List.length_singleton]; omega) ?_; intro ww5; refine VO.c (.faO (k := 2) m2) ?_; refine VO.perm swap2 ?_; refine VO.one m1 fun ho6 => ?_; refine VO.setF (cs' := [St ((hdO b).1), I ((hdO b).2), .raw ww5, nilV]) 2 vt22 (.raw rfl (agg_one ho6) ho6) ?_; refine VO.nil (VC.text ?_); refine VO.c (.move rfl) (VO.c (.add rfl rfl (by omega)) (VO.c (.assign rfl) ?_)); refine VO.perm swap3 ?_; refine VO.perm swap1 ?_; refine VO.perm swap3 ?_; refine VO.perm swap3 ?_; refine VO.nil ?_; refine ⟨_, [(2, .raw ww1), (5, .raw ww2), (6, .raw wt), (7, .v y60 b.2.2), (8, .v (.sl .str) (splS 10 s)), (16, I (((j + 1) : Nat) : Int))], ?_, ⟨rfl, rfl, rfl, rfl, rfl, rfl, trivial⟩, (j + 1), ww5, rfl, rfl, (by rw [List.take_succ_eq_append_getElem hjl, List.map_append, if_pos hlo] <;> rfl), (by omega), (by rw [hf, lvls_drop (by rw [List.length_map]; omega), if_pos (by rw [List.getElem_map, lv_n (hbd _ (List.getElem_mem hjl)), if_pos hlo])])⟩; omega
  have hje : j = b.2.2.length := by omega
  have hr0 : recE (rcG b) = 0 := by rw [hrl, hf, lvls_end (by rw [List.length_map]; omega)]
  have hn := par_good (f := id) hpp hr0; refine VC.exit (VC.seq ?_); refine VC.perm swap2 ?_; refine VC.perm swap1 ?_; refine VC.shutV (cs' := [St ((hdO b).1), I ((hdO b).2), .v y22 ((b.2.2.take j).map q16), .v y23 []]) [(wv, .row 68 (.flt .f32) ((b.2.2.take j).map q16))] rfl (.cons .same (.cons .same (.cons (.row m0) (.cons .nil .nil)))) ?_; refine VC.text ?_; refine VO.r (.ldA (dx := (((hdO b).1), ((hdO b).2), ((b.2.2.take j).map q16), [])) m0 vt25) ?_; refine VO.c (.move rfl) ?_; refine VO.perm swap1 ?_; refine VO.shut [(6, .v (.sl .bool) b.2.1), (163, .v (.sl .bool) b.2.1)] (.cons rfl (.row m0) (.cons rfl (.row m0) .nil)) ?_; refine VO.call rfl rfl (VF.call (rKept_ok (by show ((b.2.2.take j).map q16).length < _; rw [List.length_map, List.length_take]; omega) (by show _ = ((b.2.2.take j).map q16).length; rw [List.length_map, List.length_take]; omega))) ?_; refine VO.setV (cs' := [St ((keptE (((hdO b).1), ((hdO b).2), ((b.2.2.take j).map q16), []) b.2.1).1), I ((keptE (((hdO b).1), ((hdO b).2), ((b.2.2.take j).map q16), []) b.2.1).2.1), .v y22 ((keptE (((hdO b).1), ((hdO b).2), ((b.2.2.take j).map q16), []) b.2.1).2.2.1), .v y23 ((keptE (((hdO b).1), ((hdO b).2), ((b.2.2.take j).map q16), []) b.2.1).2.2.2)]) vt25 .v ?_; refine VO.go (VC.seq (VC.text ?_)); refine VO.r (.ldA (dx := keptE (((hdO b).1), ((hdO b).2), ((b.2.2.take j).map q16), []) b.2.1) m0 vt25) ?_; refine VO.perm swap1 ?_; refine VO.setV (cs' := [St ((keptE (((hdO b).1), ((hdO b).2), ((b.2.2.take j).map q16), []) b.2.1).1), I ((keptE (((hdO b).1), ((hdO b).2), ((b.2.2.take j).map q16), []) b.2.1).2.1), .v y22 ((keptE (((hdO b).1), ((hdO b).2), ((b.2.2.take j).map q16), []) b.2.1).2.2.1), .v y23 ((keptE (((hdO b).1), ((hdO b).2), ((b.2.2.take j).map q16), []) b.2.1).2.2.2)]) vt25 .v ?_; refine VO.c (.assign rfl) (VO.c (.assign rfl) (VO.go ?_)); refine VC.ret ?_; exact VEnd.three rfl (.cell (x := keptE (((hdO b).1), ((hdO b).2), ((b.2.2.take j).map q16), []) b.2.1) rfl m0 vt25 .refl) evT evT (pvE (by rw [hn.1, hje, List.take_length]; rfl)) (pvI (by exact hn.2.1.symm)) (pvI (by exact hn.2.2.symm))
end Go.Proofs
namespace Go.Proofs
open Go.Fs Ieee
set_option maxHeartbeats 4000000
theorem rec_nam1 {r : Rec1} (h : recE r = 0) : 0 < r.1.size ∧ r.1.size ≤ 24 := by
  unfold recE at h; split at h
  · rename_i h1; exact absurd h h1
  rename_i h1; have h1 := firstE_zero.1 (Classical.not_not.1 h1) (whenE (!nameB r.1) 8) (by simp); rw [whenE_zero (by decide)] at h1
  have h2 : nameB r.1 = true := by simpa using h1
  have h3 := of_decide_eq_true h2; omega
def hdLn (r : Rec1) : ByteArray := joinS 32 [gauWd, r.1, decS r.2.1]
def lnG (r : Rec1) (i : Nat) : ByteArray := if Sp.inL r.2.2.2 (i : Int) = true then dasS else decS (sxE (r.2.2.1.getD i 0))
def lnsP (r : Rec1) (k : Nat) : List ByteArray := (List.range k).map (lnG r)
def prtK (r : Rec1) (k : Nat) : ByteArray := txtG (hdLn r :: lnsP r k)
def prtG (r : Rec1) : ByteArray := prtK r r.2.2.1.length
theorem hd_eq {a d : ByteArray} : (((⟨#[103, 97, 117, 103, 101, 32]⟩ ++ a) ++ ⟨#[32]⟩) ++ d) ++ ⟨#[10]⟩ = joinS 32 [gauWd, a, d] ++ nlS := by
  rw [show [gauWd, a, d] = ([gauWd] ++ [a]) ++ [d] from rfl, joinS_snoc (by simp), joinS_snoc (by simp), joinS_one]; apply toL_inj; simp only [toL_app, List.append_assoc]; rfl
theorem prtK_0 {r : Rec1} : prtK r 0 = hdLn r ++ nlS := ByteArray.append_empty
theorem prtK_s {r : Rec1} {i : Nat} : prtK r (i + 1) = prtK r i ++ (lnG r i ++ nlS) := by
  unfold prtK lnsP; rw [List.range_succ, List.map_append, ← List.cons_append, txtG_app, List.map_cons, List.map_nil, txtG_one]
theorem lnG_sz {r : Rec1} (hr : recE r = 0) {i : Nat} (h : i < r.2.2.1.length) : (lnG r i).size ≤ 20 := by
  have hx := (rec_ok hr).2.2.2.1 _ (List.getElem_mem h); obtain ⟨_, h0, h1⟩ := lvl_ok hx; unfold lnG; split
  · exact Nat.le_of_ble_eq_true rfl
  rw [getDat h]; exact decS_sz (by omega)
theorem hdLn_sz {r : Rec1} (hr : recE r = 0) : (hdLn r).size ≤ 60 := by
  have hn := rec_nam1 hr; have h0 := (rec_ok hr).1; have hd := decS_size (n := r.2.1) (by omega); have e := congrArg ByteArray.size (hd_eq (a := r.1) (d := decS r.2.1)); rw [ByteArray.size_append, ByteArray.size_append, ByteArray.size_append, ByteArray.size_append, ByteArray.size_append] at e; have z1 : (⟨#[103, 97, 117, 103, 101, 32]⟩ : ByteArray).size = 6 := rfl; have z2 : (⟨#[32]⟩ : ByteArray).size = 1 := rfl; have z3 : (⟨#[10]⟩ : ByteArray).size = 1 := rfl; have z4 : nlS.size = 1 := rfl; unfold hdLn; omega
theorem prtK_sz {r : Rec1} (hr : recE r = 0) {k : Nat} (h : k ≤ r.2.2.1.length) : (prtK r k).size ≤ 61 + 61 * r.2.2.1.length := by
  have h1 := txtG_size_le (m := 60) (l := hdLn r :: lnsP r k) fun x hx => by
    rcases List.mem_cons.1 hx with rfl | hx
    · exact hdLn_sz hr
    obtain ⟨i, hi, rfl⟩ := List.mem_map.1 hx; have := lnG_sz hr (Nat.lt_of_lt_of_le (List.mem_range.1 hi) h); omega
  unfold prtK
  have e : (hdLn r :: lnsP r k).length = k + 1 := by simp [lnsP]
  rw [e] at h1; have h2 : 61 * k ≤ 61 * r.2.2.1.length := Nat.mul_le_mul_left _ h; omega
theorem rPrint_ok {r : ByteArray × Int × (List Nat) × (List (Int × Int))} (hr : recE r = 0) : VF Tryz.prog OA 17 [.v y25 r] (St (prtG r)) := by
  refine VF.enter Tryz.func17 rfl (fun _ _ => rfl) rfl ?_; show VC _ _ _ _ _ [(0, .v y25 r)] [] _; refine VC.seq (VC.text ?_); obtain ⟨hs, hl2, hg2, hv, hsp⟩ := rec_ok hr; have hn := rec_nam1 hr; have hd := decS_size (n := r.2.1) (by omega); have hdc := decS_sz (n := r.2.1) (by omega); have z1 : (⟨#[103, 97, 117, 103, 101, 32]⟩ : ByteArray).size = 6 := rfl; have z2 : (⟨#[32]⟩ : ByteArray).size = 1 := rfl; have z3 : (⟨#[10]⟩ : ByteArray).size = 1 := rfl; refine VO.new (.box) ?_; refine VO.c (.assign rfl) ?_; refine VO.go (VC.seq (VC.drawn ?_)); refine VD.c (.fa (.l .o)) ?_; refine VD.r [] (.ld vt9) (.inl rfl) ?_; refine VD.c (.sadd (p := (⟨#[103, 97, 117, 103, 101, 32]⟩)) (q := r.1) (by omega)) (VD.c (.sadd (p := ((⟨#[103, 97, 117, 103, 101, 32]⟩) ++ r.1)) (q := (⟨#[32]⟩)) (by simp only [ByteArray.size_append]; omega)) (VD.c (.fa (.r (.l .o))) ?_)); refine VD.r [] (.ld vt3) (.inl rfl) ?_; refine VD.nw [] ?_; refine VD.call rfl rfl (VF.call (rTextA_ok (by omega))) ?_; refine VD.c (.sadd (p := (((⟨#[103, 97, 117, 103, 101, 32]⟩) ++ r.1) ++ (⟨#[32]⟩))) (q := (decS r.2.1)) (by simp only [ByteArray.size_append]; omega)) (VD.c (.sadd (p := ((((⟨#[103, 97, 117, 103, 101, 32]⟩) ++ r.1) ++ (⟨#[32]⟩)) ++ (decS r.2.1))) (q := (⟨#[10]⟩)) (by simp only [ByteArray.size_append]; omega)) (VD.c (.assign rfl) ?_)); refine VD.go (VC.seq (VC.seq (VC.text ?_))); refine VO.c (.assign rfl) ?_; refine VO.go (VC.block ?_); refine VC.keep [(1, .p y25 r), (3, St (prtK r 0)), (4, I ((0 : Nat) : Int))] ⟨rfl, slE rfl (by exact hd_eq.trans prtK_0.symm), rfl, trivial⟩ ?_; refine VC.loop (I := fun kk ff ss => ∃ (i : Nat), kk = r.2.2.1.length - i ∧ ff = [(1, .p y25 r), (3, St (prtK r i)), (4, I ((i : Nat) : Int))] ∧ ss = [] ∧ (i ≤ r.2.2.1.length)) ?_ _ _ _ ⟨0, rfl, rfl, rfl, Nat.zero_le _⟩; rintro kk ff ss ⟨i, hk0, rfl, rfl, hi⟩; refine VC.seq (VC.seq (VC.text ?_)); refine VO.c (.move rfl) (VO.c (.fa (.r (.r (.l .o)))) ?_); refine VO.r (.ld vt22) ?_; refine VO.r (.len el22) ?_; refine VO.c (.lss) (VO.go ?_); refine VC.condD rfl (fun c3 => ?_) (fun c3 => ?_)
  · have hil : i < r.2.2.1.length := by omega
    have hk := prtK_sz hr (k := i) hi; have hx := hv _ (List.getElem_mem hil); obtain ⟨_, hx0, hx1⟩ := lvl_ok hx; have hds := decS_sz (n := sxE r.2.2.1[i]) (by omega); refine VC.skip (VC.seq (VC.block (VC.seq (VC.text ?_)))); refine VO.r (.ld vt25) ?_; refine VO.c (.move rfl) ?_; refine VO.call rfl rfl (VF.call (rRecorded_ok (by omega))) ?_; refine VO.go ?_; refine VC.condB rfl (fun c5 => ?_) (fun c5 => ?_)
    · have hin : Sp.inL r.2.2.2 (i : Int) = false := by rw [recB_in hil] at c5; simpa using c5
      have hln : lnG r i = decS (sxE r.2.2.1[i]) := by unfold lnG; rw [if_neg (by rw [hin]; decide), getDat hil]
      refine VC.text ?_; refine VO.c (.move rfl) (VO.c (.fa (.r (.r (.l .o)))) ?_); refine VO.r (.ld vt22) ?_; refine VO.c (.move rfl) (VO.c (.ix (j := i) rfl rfl el22 (by omega)) ?_); refine VO.r (.ld vt68) ?_; refine VO.call rfl rfl (VF.call (rSix_ok hx)) ?_; refine VO.call rfl rfl (VF.call (rTextA_ok (by omega))) ?_; refine VO.c (.sadd (p := (prtK r i)) (q := (decS (sxE (r.2.2.1[i])))) (by omega)) (VO.c (.sadd (p := ((prtK r i) ++ (decS (sxE (r.2.2.1[i]))))) (q := (⟨#[10]⟩)) (by simp only [ByteArray.size_append]; omega)) (VO.c (.assign rfl) ?_)); refine VO.nil (VC.text ?_); refine VO.c (.move rfl) (VO.c (.add rfl rfl (by omega)) (VO.c (.assign rfl) ?_)); refine VO.nil ?_; refine ⟨_, [(1, .p y25 r), (3, St (prtK r (i + 1))), (4, I (((i + 1) : Nat) : Int))], ?_, ⟨rfl, slE rfl (by first | (rw [prtK_s, hln, ← ByteArray.append_assoc]; rfl) | (rw [prtK_s, hln]; rfl)), rfl, trivial⟩, (i + 1), rfl, rfl, rfl, (by omega)⟩; omega
    have hin : Sp.inL r.2.2.2 (i : Int) = true := by rw [recB_in hil] at c5; simpa using c5
    have hln : lnG r i = dasS := if_pos hin; refine VC.text ?_; refine VO.c (.move rfl) (VO.c (.sadd (p := (prtK r i)) (q := (⟨#[45, 10]⟩)) (by have z4 : (⟨#[45, 10]⟩ : ByteArray).size = 2 := rfl; omega)) (VO.c (.assign rfl) ?_)); refine VO.nil (VC.text ?_); refine VO.c (.move rfl) (VO.c (.add rfl rfl (by omega)) (VO.c (.assign rfl) ?_)); refine VO.nil ?_; refine ⟨_, [(1, .p y25 r), (3, St (prtK r (i + 1))), (4, I (((i + 1) : Nat) : Int))], ?_, ⟨rfl, slE rfl (by first | (rw [prtK_s, hln, ← ByteArray.append_assoc]; rfl) | (rw [prtK_s, hln]; rfl)), rfl, trivial⟩, (i + 1), rfl, rfl, rfl, (by omega)⟩; omega
  refine VC.exit (VC.seq (VC.text ?_)); refine VO.c (.move rfl) (VO.c (.assign rfl) (VO.go ?_)); refine VC.ret ?_; exact VEnd.one rfl evT (pvE (by rw [show i = r.2.2.1.length by omega] <;> rfl))
end Go.Proofs
namespace Go.Fs
variable {P : Program} {orc : FuncId → List Value → Heap → Option (Value × Heap)} {rnd : Option Nat} {h h' h0 h1 h2 hs : Heap} {S S' S0 B G : List Nat} {σ σ' σr γ : Sto} {t t' : Tr} {ms : List Nat} {fl : VL} {ops : Array Oper} {n i mem : Nat} {l : List Oper} {K : VL → Sto → Prop} {Q : Ex → VL → Sto → Prop}
  {d : Tmp} {ty : TypeId} {pos : String} {after : Array Edge} {op : Op} {v : PV} {g : Option (Nat × Bool)} {bs nw : List Nat} {segs : List (Nat × Nat × Nat)} {tail so : Bool}
theorem drew_make {b : Nat} {o : Oper} {t2 : Tr} (hb : beforeOf bs o = b) (hok : HOk h) (hB : Aft (entry h) h' B) : ∃ h2 tail', drewOn o i ⟨t, h, bs, segs, mem, tail⟩ t2 h' = ⟨t2, h2, bs ++ [b], (i, h.next, h'.next) :: segs, mem ||| 2 ^ i, tail'⟩ ∧ (∀ b, h2.get b = h'.get b) ∧ h2.next = h'.next ∧ Aft h h2 B ∧ (tail' = false → After h h2 ∧ tail = false) := by
  have hnx := hB.next; unfold drewOn; simp only [hb]
  cases hlow : Nat.ble h.next h'.low with
  | true =>
    have hl := nble hlow
    have hsame : ∀ b, b < h.next → h'.get b = h.get b := fun b hb => by
      rcases hB.chg b hb with h3 | h3
      · exact h3
      omega
    have hget : ∀ b, look (newer h.next h'.next h'.objs ++ h.objs) b = h'.get b := fun b => by
      rw [look_append]; by_cases hb : b < h.next
      · cases hl2 : look (newer h.next h'.next h'.objs) b with
        | some o => have := (newer_some _ _ _ hl2).1; omega
        | none => exact (hsame b hb).symm
      have hold : look h.objs b = none := by
        cases hl2 : look h.objs b with
        | none => rfl
        | some o => exact absurd (hok b o hl2) hb
      rw [hold, Option.or_none]
      cases hl2 : look h'.objs b with
      | some o =>
        have : b < h'.next := hB.ok hok b o hl2; rw [newer_in _ _ (by omega) this, hl2]
        exact hl2.symm
      | none =>
        cases hl3 : look (newer h.next h'.next h'.objs) b with
        | none => exact hl2.symm
        | some o => rw [(newer_some _ _ _ hl3).2] at hl2; cases hl2
    refine ⟨_, _, rfl, hget, rfl, ⟨hnx, fun b hb hn => (hget b).trans (hB.get b hb hn), fun _ b o hg => ?_, fun e h3 _ _ => h3, fun b hb => .inl ((hget b).trans (hsame b hb)), Nat.le_refl _⟩, fun ht => ⟨⟨hnx, fun b hb => (hget b).trans (hsame b hb), fun _ b o hg => ?_, fun e h3 _ => h3⟩, ht⟩⟩
    · exact hB.ok hok b o ((hget b).symm.trans hg)
    exact hB.ok hok b o ((hget b).symm.trans hg)
  | false =>
    refine ⟨_, _, rfl, fun _ => rfl, rfl, ⟨hnx, hB.get, fun _ => hB.ok hok, fun e h3 h4 h5 => Nat.le_min.2 ⟨h3, hB.low e h4 h4 h5⟩, fun b hb => ?_, Nat.min_le_left _ _⟩, fun e => by cases e⟩; rcases hB.chg b hb with h3 | h3
    · exact .inl h3
    exact .inr (Nat.le_trans (Nat.min_le_right _ _) h3)
theorem VD.callK {b : Nat} {f : Operand} {args : Array Operand} {ats : Array TypeId} {F : PV} {asl : List PV} {Qr : PV → Sto → Prop} (γ : Sto) (hσ : γ ++ σ = σr) (hf : evV fl f = some F) (ha : evVs fl args.toList = some asl) (hc : VCallG P orc F asl γ Qr) (hk : ∀ r γ' tail', Qr r γ' → VD P orc ops n l (i + 1) ((d, r) :: fl) (nwSet false d nw) (γ' ++ σ) false (bs ++ [b]) (mem ||| 2 ^ i) tail' K)
    (hb : beforeOf bs ⟨some d, .call { callee := .value f, args := args, argTypes := ats }, ty, pos, after, g⟩ = b := by rfl) (hord : Nat.beq (mem &&& b) mem = true := by rfl) (hw : wantV ops fl g = some true := by rfl) (hn : (Nat.blt d n && Nat.ble n 4000) = true := by rfl) :
    VD P orc ops n (⟨some d, .call { callee := .value f, args := args, argTypes := ats }, ty, pos, after, g⟩ :: l) i fl nw σr so bs mem tail K := fun h0 G S0 t h ms segs I ho => by
  subst hσ; obtain ⟨n1, n2⟩ := fits hn; obtain ⟨M, m1, m2, m3, m4, m5, m6, m7⟩ := seen_ok (mem := mem) I hb ho; obtain rfl := m6 hord; have L := I.lc.objs (h' := entry h) (fun _ => rfl) rfl; have hap := L.apart; rw [own_app] at hap; obtain ⟨hap1, hap2, hap3⟩ := List.nodup_append.1 hap; obtain ⟨fid, a, c, rfl, hv⟩ := hc; obtain ⟨va, vc, h1, h2, h3⟩ := (evV_ok L.slots hf : RepPV (entry h) _ (.clo fid a c) (evalO t f)); have hargs := (h2.append (evVs_ok L.slots ha)).append h3; rw [own_app, List.append_assoc] at hargs
  have hcells : ∀ c ∈ γ, CellR (entry h) (own γ ++ (own σ ++ S0)) c.1 c.2 := fun c hc => by
    have := L.cells c (List.mem_append_left _ hc)
    rwa [own_app, List.append_assoc] at this
  refine EvD.call (o := ⟨some d, .call { callee := .value f, args := args, argTypes := ats }, ty, pos, after, g⟩) (want_ok I.slots hw) rfl rfl h1 (by simp only [hb, hord]; simp) ?_; rw [m1]; refine (hv (entry h) (own σ ++ S0) _ m2 L.sokR hcells hap1 (fun b hb hm => ?_) hargs).mono fun u h' hq => ?_
  · rcases List.mem_append.1 hm with hm | hm
    · exact hap3 b hb b hm rfl
    exact L.sep b (by rw [own_app]; exact List.mem_append_left _ hb) hm
  obtain ⟨r, γ', q1, q2, q3⟩ := hq; have e2 := Made.app L q2; have hnx : h.next ≤ h'.next := e2.aft.next; refine ⟨blt_of_le hnx, by simp only [hb, hord, Bool.or_true], _, put_fits n1 t u, ?_⟩; obtain ⟨h2', tail', f1, f2, f3, f4, f5⟩ := drew_make (i := i) (segs := segs) (mem := mem) (tail := tail) (t := t) (t2 := t.set depth d u) (o := ⟨some d, .call { callee := .value f, args := args, argTypes := ats }, ty, pos, after, g⟩) hb I.ok e2.aft; rw [f1]
  have q3' : RepPV h2' (own (γ' ++ σ) ++ S0) r u := by
    rw [own_app, List.append_assoc]; exact q3.nx (Goes.objs f2)
  refine hk r γ' tail' q1 h0 G S0 _ _ ms _ ((I.made (made_objs e2 f2 f4)).set q3' n2) fun ht => ?_; obtain ⟨f6, f7⟩ := f5 ht
  obtain ⟨hs', a1, a2, a3, a4, a5, a6⟩ := (ho f7).set (v := r) (u := u) (old := false) n2 fun e => by cases e
  refine ⟨hs', a1, a2.trans f6, SegsOk.cons a2.next a3, a4, fun k pv hk hn => (a5 k pv hk hn).nx (h := hs') fun b ob hg hb => ⟨hg, ?_⟩, fun e => by cases e⟩; have h3 := a1 b ob hg; have h4 := a2.next; intro hmm; rcases List.mem_append.1 hmm with hmm | hmm
  · rcases e2.new b hmm with h5 | h5
    · exact hb (List.mem_append_left _ h5)
    have : (entry h).next = h.next := rfl; omega
  exact hb (List.mem_append_right _ hmm)
end Go.Fs
namespace Go.Proofs
open Go.Fs Ieee
set_option maxHeartbeats 4000000
def prtR (r : Rec1) : ByteArray := if recE r = 0 then prtG r else ByteArray.empty
theorem there_len {r : Rec1} : (thereE r).length = r.2.2.1.length := offB_len
theorem there_at {r : Rec1} {i : Nat} (h : i < (thereE r).length) : (thereE r)[i] = !Sp.inL r.2.2.2 (i : Int) := offB_at (by rw [there_len] at h; exact h)
theorem gPrint_ok {r : Rec1} (hl : r.2.2.1.length < 1000000) (hg : r.2.2.2.length < 1000000) : VF Tryz.prog OA 15 [.v y32 r] (.tup [St (prtR r), I (recE r)]) := by
  refine VF.enter Tryz.func15 rfl (fun _ _ => rfl) rfl ?_; show VC _ _ _ _ _ [(0, .v y32 r)] [] _; refine VC.seq (VC.text ?_); refine VO.new (.box) ?_; refine VO.c (.assign rfl) (VO.c (.assign rfl) ?_); refine VO.go (VC.seq (VC.seq (VC.text ?_))); refine VO.r (.ld vt32) ?_; refine VO.call rfl rfl (VF.call (gRec_ok hl hg)) ?_; refine VO.c (.assign rfl) ?_; refine VO.go (VC.seq (VC.text ?_)); refine VO.c (.move rfl) (VO.c (.neq) (VO.go ?_)); refine VC.condD rfl (fun c2 => ?_) (fun c2 => ?_)
  · refine VC.seq (VC.text ?_); refine VO.c (.move rfl) (VO.c (.assign rfl) (VO.c (.assign rfl) (VO.go ?_))); refine VC.ret ?_; rw [show prtR r = ByteArray.empty from if_neg c2]; exact ⟨rfl, [St ByteArray.empty, I (recE r)], .cons evT (.cons evT .nil), rfl⟩
  have hr : recE r = 0 := Classical.not_not.1 c2; obtain ⟨hs, hl2, hg2, hv, hsp⟩ := rec_ok hr; have hn := rec_nam1 hr; have hd := decS_size (n := r.2.1) (by omega); have z1 : (⟨#[103, 97, 117, 103, 101, 32]⟩ : ByteArray).size = 6 := rfl; have z2 : (⟨#[32]⟩ : ByteArray).size = 1 := rfl; have z3 : (⟨#[10]⟩ : ByteArray).size = 1 := rfl; have z4 : nlS.size = 1 := rfl; have z0 : ByteArray.empty.size = 0 := rfl; have hhd := hdLn_sz hr; have htl := there_len (r := r); refine VC.skip (VC.seq (VC.text ?_)); refine VO.mk (MakeV.allocB (by kernel_rfl)) ?_; rintro _ _ ⟨b, rfl, rfl⟩; refine VO.go (VC.seq ?_); refine VC.cell0 5 (.int .u8) ?_; refine VC.perm swap1 ?_; refine VC.drawn ?_; refine VD.c (.fa (.l .o)) ?_; refine VD.r [] (.ld vt9) (.inl rfl) ?_; refine VD.c (.sadd (p := ⟨#[103, 97, 117, 103, 101, 32]⟩) (q := r.1) (by omega)) (VD.c (.sadd (p := (⟨#[103, 97, 117, 103, 101, 32]⟩ ++ r.1)) (q := ⟨#[32]⟩) (by simp only [ByteArray.size_append]; omega)) (VD.c (.fa (.r (.l .o))) ?_)); refine VD.r [] (.ld vt3) (.inl rfl) ?_; refine VD.call rfl rfl (VF.call (zItoa_ok (by omega))) ?_; refine VD.c (.sadd (p := ((⟨#[103, 97, 117, 103, 101, 32]⟩ ++ r.1) ++ ⟨#[32]⟩)) (q := decS r.2.1) (by simp only [ByteArray.size_append]; omega)) (VD.c (.sadd (p := (((⟨#[103, 97, 117, 103, 101, 32]⟩ ++ r.1) ++ ⟨#[32]⟩) ++ decS r.2.1)) (q := ⟨#[10]⟩) (by simp only [ByteArray.size_append]; omega)) ?_); rw [show (((⟨#[103, 97, 117, 103, 101, 32]⟩ ++ r.1) ++ ⟨#[32]⟩) ++ decS r.2.1) ++ ⟨#[10]⟩ = prtK r 0 from hd_eq.trans prtK_0.symm]; refine VD.callK (σ := []) [(bW b, .cel 99 0 [.raw (.pointer none), .raw (.slice none 0 0)]), ((.slice none 0 0), .row 5 (.int .u8) (bytesI ByteArray.empty))] rfl rfl rfl (VFG.call (zWrite_ok (acc := ByteArray.empty) (s := prtK r 0) (by rw [prtK_0, ByteArray.size_append]; omega) (.inl rfl) (fun _ => rfl))) ?_; rintro _ _ tl ⟨u1, rfl, rfl, hu1⟩; rw [ByteArray.empty_append] at hu1 ⊢; refine VD.go (VC.seq (VC.seq (VC.text ?_))); refine VO.r (.ld vt32) ?_; refine VO.call rfl rfl (VF.call (gThere_ok hl2 hg hsp)) ?_; refine VO.r (.len el105) ?_; refine VO.c (.move rfl) ?_; refine VO.go (VC.block ?_); refine VC.keep [(1, .p y32 r), (5, .raw (bP b)), (25, .v (.sl .bool) (thereE r)), (26, I (((thereE r).length : Nat) : Int)), (27, I ((0 : Nat) : Int))] ⟨rfl, rfl, rfl, rfl, rfl, trivial⟩ ?_; refine VC.loop (I := fun kk ff ss => ∃ (i : Nat) (a u : Value), kk = (thereE r).length - i ∧ ff = [(1, .p y32 r), (5, .raw (bP b)), (25, .v (.sl .bool) (thereE r)), (26, I (((thereE r).length : Nat) : Int)), (27, I ((i : Nat) : Int))] ∧ ss = [(bW b, .cel 99 0 [.raw a, .raw u]), (u, .row 5 (.int .u8) (bytesI (prtK r i)))] ∧ i ≤ (thereE r).length ∧ (a = .pointer none ∨ a = bP b) ∧ ((prtK r i).size = 0 → u = .slice none 0 0)) ?_ _ _ _ ⟨0, bP b, u1, rfl, rfl, rfl, Nat.zero_le _, .inr rfl, hu1⟩; rintro kk ff ss ⟨i, a, u, hk0, rfl, rfl, hi, ha, hu⟩; refine VC.seq (VC.text ?_); refine VO.c (.lss) ?_; refine VO.go (VC.seq ?_); refine VC.condD rfl (fun c7 => ?_) (fun c7 => ?_)
  · have hit : i < (thereE r).length := by omega
    have hil : i < r.2.2.1.length := by omega
    have hk := prtK_sz hr (k := i) (by omega); have hlz := lnG_sz hr hil; have hta := there_at hit; have hx := hv _ (List.getElem_mem hil); obtain ⟨_, hx0, hx1⟩ := lvl_ok hx; refine VC.skip (VC.seq (VC.block (VC.seq (VC.text ?_)))); refine VO.c (.move rfl) (VO.c (.ix (j := i) rfl rfl el105 hit) ?_); refine VO.r (.ld vt4) ?_; refine VO.c (.assign rfl) (VO.c (.assign rfl) (VO.go ?_)); rw [hta]; refine VC.seq (VC.text ?_); refine VO.c (.assign rfl) ?_; refine VO.go (VC.seq (VC.seq (VC.text ?_))); refine VO.c (.move rfl) (VO.go ?_); refine VC.condB rfl (fun c10 => ?_) (fun c10 => ?_)
    · have hin : Sp.inL r.2.2.2 (i : Int) = false := by simpa using c10
      have hln : lnG r i = decS (sxE r.2.2.1[i]) := by unfold lnG; rw [if_neg (by rw [hin]; decide), getDat hil]
      refine VC.text ?_; refine VO.c (.fa (.r (.r (.l .o)))) ?_; refine VO.r (.ld vt22) ?_; refine VO.c (.move rfl) (VO.c (.ix (j := i) rfl rfl el22 hil) ?_); refine VO.r (.ld vt68) ?_; refine VO.call rfl rfl (VF.call (gSixL_ok hx)) ?_; refine VO.call rfl rfl (VF.call (zItoa_ok (by omega))) ?_; refine VO.c (.assign rfl) ?_; refine VO.nil ?_; show VC _ _ _ _ _ _ _ _; rw [← hln]; refine VC.text ?_; refine VO.c (.move rfl) (VO.c (.sadd (p := lnG r i) (q := nlS) (by omega)) ?_); refine VO.callG [(bW b, .cel 99 0 [.raw a, .raw u]), (u, .row 5 (.int .u8) (bytesI (prtK r i)))] rfl rfl rfl (VFG.call (zWrite_ok (s := lnG r i ++ nlS) (by rw [ByteArray.size_append]; omega) ha hu)) ?_; rintro _ _ ⟨u2, rfl, rfl, hu2⟩; rw [← prtK_s] at hu2; rw [← prtK_s]; refine VO.nil (VC.text ?_); refine VO.c (.add rfl rfl (by omega)) (VO.c (.move rfl) ?_); refine VO.nil ?_; refine ⟨_, [(1, .p y32 r), (5, .raw (bP b)), (25, .v (.sl .bool) (thereE r)), (26, I (((thereE r).length : Nat) : Int)), (27, I (((i + 1) : Nat) : Int))], ?_, ⟨rfl, rfl, rfl, rfl, rfl, trivial⟩, (i + 1), bP b, u2, rfl, rfl, rfl, by omega, .inr rfl, hu2⟩; omega
    have hin : Sp.inL r.2.2.2 (i : Int) = true := by simpa using c10
    have hln : lnG r i = dasS := if_pos hin; refine VC.skip ?_; show VC _ _ _ _ _ _ _ _; rw [show (⟨#[45]⟩ : ByteArray) = dasS from rfl]; rw [← hln]; refine VC.text ?_; refine VO.c (.move rfl) (VO.c (.sadd (p := lnG r i) (q := nlS) (by omega)) ?_); refine VO.callG [(bW b, .cel 99 0 [.raw a, .raw u]), (u, .row 5 (.int .u8) (bytesI (prtK r i)))] rfl rfl rfl (VFG.call (zWrite_ok (s := lnG r i ++ nlS) (by rw [ByteArray.size_append]; omega) ha hu)) ?_; rintro _ _ ⟨u2, rfl, rfl, hu2⟩; rw [← prtK_s] at hu2; rw [← prtK_s]; refine VO.nil (VC.text ?_); refine VO.c (.add rfl rfl (by omega)) (VO.c (.move rfl) ?_); refine VO.nil ?_; refine ⟨_, [(1, .p y32 r), (5, .raw (bP b)), (25, .v (.sl .bool) (thereE r)), (26, I (((thereE r).length : Nat) : Int)), (27, I (((i + 1) : Nat) : Int))], ?_, ⟨rfl, rfl, rfl, rfl, rfl, trivial⟩, (i + 1), bP b, u2, rfl, rfl, rfl, by omega, .inr rfl, hu2⟩; omega
  have hie : i = r.2.2.1.length := by omega
  refine VC.exit ?_; show VC _ _ _ _ _ _ _ _; have hk := prtK_sz hr (k := r.2.2.1.length) (Nat.le_refl _); rw [hie] at hu ⊢; rw [show prtR r = prtK r r.2.2.1.length from if_pos hr, hr]; refine VC.seq (VC.text ?_); refine VO.callG [(bW b, .cel 99 0 [.raw a, .raw u]), (u, .row 5 (.int .u8) (bytesI (prtK r r.2.2.1.length)))] rfl rfl rfl (VFG.call (zStr_ok (by omega) hu)) ?_; rintro _ _ ⟨rfl, rfl⟩; refine VO.c (.assign rfl) (VO.c (.assign rfl) (VO.go ?_)); refine VC.ret ?_; exact ⟨rfl, [St (prtK r r.2.2.1.length), I 0], .cons evT (.cons evT .nil), rfl⟩
end Go.Proofs
namespace Go.Proofs
open Go.Fs Ieee
set_option maxHeartbeats 2000000
theorem stpG_some {b b' : Gst} {x : ByteArray} (h : stpG b x = some b') : okG b x = true ∧ b' = nxtG b x := by
  unfold stpG at h; split at h
  · rename_i hk; exact ⟨hk, (Option.some.inj h).symm⟩
  cases h
theorem run_gsI : ∀ {ls : List ByteArray} {b b' : Gst} {i : Nat}, GsI b i → runT stpG b ls = some b' → GsI b' (i + ls.length)
  | [], b, b', i, hI, h => by
    obtain rfl : b = b' := Option.some.inj h
    exact hI
  | x :: r, b, b', i, hI, h => by
    unfold runT at h
    cases hf : stpG b x with
    | none => rw [hf] at h; cases h
    | some b1 =>
      rw [hf] at h; obtain ⟨hk, rfl⟩ := stpG_some hf; have := run_gsI (gsI_n hI hk) h; rw [List.length_cons, show i + (r.length + 1) = i + 1 + r.length by omega]; exact this
theorem par_run {s : ByteArray} {b : Gst} {i : Nat} (h : parG s = (some b, i)) : s ≠ ByteArray.empty ∧ ∃ ls, splS 10 s = ls ++ [ByteArray.empty] ∧ runT stpG zG ls = some b ∧ i = ls.length := by
  have hne : s ≠ ByteArray.empty := fun e => by rw [e, parG_e] at h; injection h with h1 h2; cases h1
  rw [parG_ne hne] at h; obtain ⟨ls, h1, h2, h3⟩ := prsG_some splS_ne h; exact ⟨hne, ls, h1, h2, by omega⟩
theorem par_gsI {s : ByteArray} {b : Gst} {i : Nat} (h : parG s = (some b, i)) : GsI b i := by
  obtain ⟨_, ls, _, h2, h3⟩ := par_run h; have := run_gsI gsI_z h2
  rwa [Nat.zero_add, ← h3] at this
theorem parR_len {f : Nat → Nat} {s : ByteArray} : (parR f s).2.2.1.length < 1000000 ∧ (parR f s).2.2.2.length < 1000000 := by
  cases hp : parG s with
  | mk o i =>
    cases o with
    | none => rw [(par_none (f := f) hp).1]; exact ⟨by decide, by decide⟩
    | some b =>
      by_cases hc : recE (rcG b) = 0
      · rw [(par_good (f := f) hp hc).1]; have h1 := (rec_ok hc).2.1; have h2 : (b.2.2.map q16).length ≤ 4096 := h1; rw [List.length_map] at h2; have h3 := (par_gsI hp).nm; have h4 := gapsE_len b.2.1 b.2.1.length; refine ⟨?_, ?_⟩
        · show (keptL (rcG b) b.2.1 f b.2.1.length).length < _; rw [keptL_len]; show (b.2.2.map q16).length < _; rw [List.length_map]; omega
        show (gapsE b.2.1 b.2.1.length).length < _; omega
      rw [(par_wrong (f := f) hp hc).1]; exact ⟨by decide, by decide⟩
theorem lawTexts_ok {r : ByteArray × Int × (List Nat) × (List (Int × Int))} {s : ByteArray} : VF Tryz.prog OA 4 [.v y25 r, St s] (B true) := by
  refine VF.enter Tryz.func4 rfl (fun _ _ => rfl) rfl ?_; show VC _ _ _ _ _ [(0, .v y25 r), (1, St s)] [] _; refine VC.seq (VC.text ?_); refine VO.new (.box) ?_; refine VO.c (.assign rfl) ?_; refine VO.go (VC.seq (VC.seq (VC.text ?_))); refine VO.call rfl rfl (VF.call (awake_ok )) ?_; refine VO.c (.not) (VO.c (.move rfl) ?_); refine VO.r (.ld vt25) ?_; refine VO.call rfl rfl (VF.call (rShort_ok )) ?_; refine VO.c (.not) (VO.c (.pickF rfl rfl) (VO.c (.move rfl) ?_)); refine VO.cg (r := (!(shortE r))) (w := false) [] trivial (fun _ => (.move rfl)) ?_; refine VO.rg (r := (!(shortE r))) (w := false) [(23, St s)] ⟨rfl, trivial⟩ (fun _ => (.lenS)) ?_; refine VO.cg (r := (!(shortE r))) (w := false) [(24, I ((s.size : Nat) : Int))] ⟨rfl, trivial⟩ (fun _ => (.gtr)) ?_; refine VO.c (.or) (VO.go ?_); refine VC.condB rfl (fun c1 => ?_) (fun c1 => ?_)
  · try simp only [Bool.and_eq_true, Bool.or_eq_true, Bool.and_eq_false_iff, Bool.or_eq_false_iff, Bool.not_eq_true', Bool.not_eq_false', decide_eq_true_eq, decide_eq_false_iff_not] at c1
    refine VC.seq (VC.text ?_); refine VO.call rfl rfl (VF.call (awake_ok )) ?_; refine VO.c (.assign rfl) (VO.go ?_); refine VC.ret ?_; exact VEnd.one rfl evT (pvE (by rfl))
  try simp only [Bool.and_eq_true, Bool.or_eq_true, Bool.and_eq_false_iff, Bool.or_eq_false_iff, Bool.not_eq_true', Bool.not_eq_false', decide_eq_true_eq, decide_eq_false_iff_not] at c1
  have hs := shortE_t c1.1
  have hl : r.2.2.1.length < 1000000 := by omega
  have hg : r.2.2.2.length < 1000000 := by omega
  have hsl : s.size < 100000 := by omega
  have hp1 := parR_len (f := plusZ) (s := s); have hp2 := parR_len (f := id) (s := s); refine VC.skip (VC.seq (VC.text ?_)); refine VO.r (.ld vt25) ?_; refine VO.call rfl rfl (VF.call (lRecord_ok (by first | assumption | omega | simp) (by first | assumption | omega | simp))) ?_; refine VO.call rfl rfl (VF.call (gPrint_ok hl hg)) ?_; refine VO.c (.move rfl) (VO.c (.extract) (VO.c (.extract) (VO.c (.assign rfl) ?_))); refine VO.c (.assign rfl) ?_; refine VO.go (VC.seq (VC.text ?_)); refine VO.c (.move rfl) ?_; refine VO.call rfl rfl (VF.call (gParse_ok hsl)) ?_; refine VO.c (.move rfl) (VO.c (.extract) (VO.c (.extract) (VO.c (.extract) ?_))); refine VO.cell (.alloc zt32) ?_; intro ww1; refine VO.setV (cs' := [St ((parR plusZ s).1), I ((parR plusZ s).2.1), .v y22 ((parR plusZ s).2.2.1), .v y23 ((parR plusZ s).2.2.2)]) vt32 .v ?_; refine VO.shut [(7, .p y32 (parR plusZ s))] (.cons rfl (.var m0 .refl) .nil) ?_; refine VO.c (.assign rfl) (VO.c (.assign rfl) ?_); refine VO.go (VC.seq (VC.text ?_)); refine VO.r (.ld vt25) ?_; refine VO.call rfl rfl (VF.call (rRec_ok hl hg)) ?_; refine VO.c (.assign rfl) ?_; refine VO.go (VC.seq ?_); refine VC.keep [(1, St s), (2, .p y25 r), (5, St (prtR r)), (6, I (recE r)), (7, .p y32 (parR plusZ s)), (8, I (parN s)), (9, I (parE s)), (10, I (recE r))] ⟨rfl, rfl, rfl, rfl, rfl, rfl, rfl, rfl, trivial⟩ ?_; refine VC.text ?_; refine VO.c (.assign rfl) ?_; refine VO.go (VC.seq (VC.seq (VC.text ?_))); refine VO.c (.move rfl) (VO.c (.eql) (VO.go ?_)); refine VC.condD rfl (fun c7 => ?_) (fun c7 => ?_)
  · have hprt : prtR r = prtG r := if_pos c7; refine VC.text ?_; refine VO.r (.ld vt25) ?_; refine VO.call rfl rfl (VF.call (rPrint_ok c7)) ?_; refine VO.c (.assign rfl) ?_; refine VO.go (VC.seq (VC.text ?_)); refine VO.c (.move rfl) ?_; refine VO.call rfl rfl (VF.call (rParse_ok hsl)) ?_; refine VO.c (.move rfl) (VO.c (.extract) (VO.c (.extract) (VO.c (.extract) ?_))); refine VO.cell (.alloc zt25) ?_; intro ww2; refine VO.setV (cs' := [St ((parR id s).1), I ((parR id s).2.1), .v y22 ((parR id s).2.2.1), .v y23 ((parR id s).2.2.2)]) vt25 .v ?_; refine VO.shut [(12, .p y25 (parR id s))] (.cons rfl (.var m0 .refl) .nil) ?_; refine VO.c (.assign rfl) (VO.c (.assign rfl) ?_); refine VO.go (VC.seq (VC.text ?_)); refine VO.c (.move rfl) (VO.c (.move rfl) (VO.c (.seql) (VO.c (.move rfl) ?_))); refine VO.cg (r := decide (prtR r = prtG r)) (w := true) [] trivial (fun _ => (.move rfl)) ?_; refine VO.cg (r := decide (prtR r = prtG r)) (w := true) [] trivial (fun _ => (.move rfl)) ?_; refine VO.cg (r := decide (prtR r = prtG r)) (w := true) [(56, I (recE r)), (57, I (recE r))] ⟨rfl, rfl, trivial⟩ (fun _ => (.eql)) ?_; refine VO.c (.and) (VO.c (.move rfl) ?_); refine VO.rg (r := ((decide (prtR r = prtG r)) && (decide (recE r = recE r)))) (w := true) [] trivial (fun _ => (.ld vt32)) ?_; refine VO.cg (r := ((decide (prtR r = prtG r)) && (decide (recE r = recE r)))) (w := true) [] trivial (fun _ => (.move rfl)) ?_; refine VO.cg (r := ((decide (prtR r = prtG r)) && (decide (recE r = recE r)))) (w := true) [] trivial (fun _ => (.move rfl)) ?_; refine VO.rg (r := ((decide (prtR r = prtG r)) && (decide (recE r = recE r)))) (w := true) [] trivial (fun _ => (.ld vt25)) ?_; refine VO.callg (r0 := ((decide (prtR r = prtG r)) && (decide (recE r = recE r)))) (w := true) [(61, .v y32 (parR plusZ s)), (62, I (parE s)), (63, I (parE s)), (64, .v y25 (parR id s))] ⟨rfl, rfl, rfl, rfl, trivial⟩ rfl rfl .same .refl rfl (fun hgd => have g10_8 : ((decide (prtR r = prtG r)) && (decide (recE r = recE r))) = true := (by simpa using hgd); VF.call (lTold_ok (by first | assumption | omega | simp) (by first | assumption | omega | simp) (by first | assumption | omega | simp))) ?_; refine VO.c (.and) (VO.c (.move rfl) ?_); refine VO.cg (r := (((decide (prtR r = prtG r)) && (decide (recE r = recE r))) && (toldE (parR plusZ s) (parE s) (parE s) (parR id s)))) (w := true) [] trivial (fun _ => (.move rfl)) ?_; refine VO.cg (r := (((decide (prtR r = prtG r)) && (decide (recE r = recE r))) && (toldE (parR plusZ s) (parE s) (parE s) (parR id s)))) (w := true) [] trivial (fun _ => (.move rfl)) ?_; refine VO.cg (r := (((decide (prtR r = prtG r)) && (decide (recE r = recE r))) && (toldE (parR plusZ s) (parE s) (parE s) (parR id s)))) (w := true) [(68, I (parN s)), (69, I (parN s))] ⟨rfl, rfl, trivial⟩ (fun _ => (.eql)) ?_; refine VO.c (.and) (VO.c (.assign rfl) (VO.go ?_)); refine VC.ret ?_; exact VEnd.one rfl evT (pvE (by first | (simp [hprt, told_par]; done) | (simp [hprt, told_par]; rfl)))
  have hprt : prtR r = ByteArray.empty := if_neg c7; refine VC.skip (VC.seq (VC.text ?_)); refine VO.c (.move rfl) ?_; refine VO.call rfl rfl (VF.call (rParse_ok hsl)) ?_; refine VO.c (.move rfl) (VO.c (.extract) (VO.c (.extract) (VO.c (.extract) ?_))); refine VO.cell (.alloc zt25) ?_; intro ww3; refine VO.setV (cs' := [St ((parR id s).1), I ((parR id s).2.1), .v y22 ((parR id s).2.2.1), .v y23 ((parR id s).2.2.2)]) vt25 .v ?_; refine VO.shut [(12, .p y25 (parR id s))] (.cons rfl (.var m0 .refl) .nil) ?_; refine VO.c (.assign rfl) (VO.c (.assign rfl) ?_); refine VO.go (VC.seq (VC.text ?_)); refine VO.c (.move rfl) (VO.c (.move rfl) (VO.c (.seql) (VO.c (.move rfl) ?_))); refine VO.cg (r := decide (prtR r = ByteArray.empty)) (w := true) [] trivial (fun _ => (.move rfl)) ?_; refine VO.cg (r := decide (prtR r = ByteArray.empty)) (w := true) [] trivial (fun _ => (.move rfl)) ?_; refine VO.cg (r := decide (prtR r = ByteArray.empty)) (w := true) [(56, I (recE r)), (57, I (recE r))] ⟨rfl, rfl, trivial⟩ (fun _ => (.eql)) ?_; refine VO.c (.and) (VO.c (.move rfl) ?_); refine VO.rg (r := ((decide (prtR r = ByteArray.empty)) && (decide (recE r = recE r)))) (w := true) [] trivial (fun _ => (.ld vt32)) ?_; refine VO.cg (r := ((decide (prtR r = ByteArray.empty)) && (decide (recE r = recE r)))) (w := true) [] trivial (fun _ => (.move rfl)) ?_; refine VO.cg (r := ((decide (prtR r = ByteArray.empty)) && (decide (recE r = recE r)))) (w := true) [] trivial (fun _ => (.move rfl)) ?_; refine VO.rg (r := ((decide (prtR r = ByteArray.empty)) && (decide (recE r = recE r)))) (w := true) [] trivial (fun _ => (.ld vt25)) ?_; refine VO.callg (r0 := ((decide (prtR r = ByteArray.empty)) && (decide (recE r = recE r)))) (w := true) [(61, .v y32 (parR plusZ s)), (62, I (parE s)), (63, I (parE s)), (64, .v y25 (parR id s))] ⟨rfl, rfl, rfl, rfl, trivial⟩ rfl rfl .same .refl rfl (fun hgd => have g10_8 : ((decide (prtR r = ByteArray.empty)) && (decide (recE r = recE r))) = true := (by simpa using hgd); VF.call (lTold_ok (by first | assumption | omega | simp) (by first | assumption | omega | simp) (by first | assumption | omega | simp))) ?_; refine VO.c (.and) (VO.c (.move rfl) ?_); refine VO.cg (r := (((decide (prtR r = ByteArray.empty)) && (decide (recE r = recE r))) && (toldE (parR plusZ s) (parE s) (parE s) (parR id s)))) (w := true) [] trivial (fun _ => (.move rfl)) ?_; refine VO.cg (r := (((decide (prtR r = ByteArray.empty)) && (decide (recE r = recE r))) && (toldE (parR plusZ s) (parE s) (parE s) (parR id s)))) (w := true) [] trivial (fun _ => (.move rfl)) ?_; refine VO.cg (r := (((decide (prtR r = ByteArray.empty)) && (decide (recE r = recE r))) && (toldE (parR plusZ s) (parE s) (parE s) (parR id s)))) (w := true) [(68, I (parN s)), (69, I (parN s))] ⟨rfl, rfl, trivial⟩ (fun _ => (.eql)) ?_; refine VO.c (.and) (VO.c (.assign rfl) (VO.go ?_)); refine VC.ret ?_; exact VEnd.one rfl evT (pvE (by first | (simp [hprt, told_par]; done) | (simp [hprt, told_par]; rfl)))
end Go.Proofs
namespace Go.Fs
open Go.RowKit (Below)
variable {P : Program}
def orcB (fi fj fc : FuncId) (T : TypeId) : FuncId → List Value → Heap → Option (Value × Heap) := fun f xs h =>
  bif Nat.beq f fc then
    match xs with
    | [.pointer (some ⟨b, 0, none⟩)] =>
      match h.get b with
      | some (.row e [p, v] true false) =>
        bif Nat.beq e T then
          match p with
          | .pointer none => some (.tuple #[], h.set b (.row e [.pointer (some ⟨b, 0, none⟩), v] true false))
          | .pointer (some ⟨b', 0, none⟩) => bif Nat.beq b' b then some (.tuple #[], h) else none
          | _ => none
        else none
      | _ => none
    | _ => none
  else orcS fi fj f xs h
theorem orcB_sound {B : Nat} {w0 : World} {fi fj fc : FuncId} {T : TypeId} (hz : w0.drawn = 0) (hS : CallSound P B w0 (orcS fi fj)) (hc : Enters P fc)
    (hF : ∀ (b : Nat) (w : World), w.cell? ⟨b, 0, none⟩ = some (.pointer none) → w.shape? b = some (T, 2) → w.frozen? ⟨b, 0, none⟩ = false →
      Calls P fc #[.pointer (some ⟨b, 0, none⟩)] w fun e w' => e = .returned (.tuple #[]) ∧ w' = w.setCell ⟨b, 0, none⟩ (.pointer (some ⟨b, 0, none⟩)))
    (hU : ∀ (b : Nat) (w : World), w.cell? ⟨b, 0, none⟩ = some (.pointer (some ⟨b, 0, none⟩)) → Calls P fc #[.pointer (some ⟨b, 0, none⟩)] w fun e w' => e = .returned (.tuple #[]) ∧ w' = w) :
    CallSound P B w0 (orcB fi fj fc T) := by
  intro f xs h v h' hf; unfold orcB at hf
  cases hb : Nat.beq f fc with
  | false =>
    rw [hb] at hf
    exact hS f xs h v h' hf
  | true =>
    have := nbeq hb; subst this; rw [hb] at hf; simp only [cond_true] at hf; split at hf
    · rename_i b; split at hf
      · rename_i e p u hg; obtain ⟨he, hf2⟩ := bif_some hf; obtain rfl := nbeq he; refine ⟨hc, fun ρ S w args' hr ha nn => ?_⟩; obtain ⟨hsb, cur, k1, k2, k3, k4, k5, k6, k7⟩ := hr.objs b _ hg; have hcl : cur.length = 2 := (k6 rfl).symm
        match cur, hcl with
        | [p', u'], _ =>
        have hp : VR ρ S p p' := k7 0 (by simp); have hu : VR ρ S u u' := k7 1 (by simp)
        have hat : (ρ b).at 0 = ⟨(ρ b).block, 0, none⟩ := by unfold Loc.at; rw [k2]
        have harg : args' = [.pointer (some ⟨(ρ b).block, 0, none⟩)] := by
          have h1 := ha.1
          match args', h1 with
          | [a], _ =>
            have h2 : VR ρ S (.pointer (some ⟨b, 0, none⟩)) a := ha.2 0 (by simp); rw [h2.ptr_inv.2, hat]
        subst harg
        have hcell : w.cell? ⟨(ρ b).block, 0, none⟩ = some p' := by simp [World.cell?, k1]
        split at hf2
        · simp only [Option.some.injEq, Prod.mk.injEq] at hf2; obtain ⟨rfl, rfl⟩ := hf2; obtain rfl := hp.eq_of_af0 rfl; have hC : CallsIn Fence.wide nn P f #[.pointer (some ⟨(ρ b).block, 0, none⟩)] w _ := callsIn_wide.2 (hF (ρ b).block w hcell (by simp [World.shape?, k1]) (frozen_soft k1 (by rw [k3]; exact Nat.zero_lt_succ _))); refine hC.mono fun e2 w' hret => ?_; obtain ⟨rfl, rfl⟩ := hret; refine ⟨ρ, Moved.set hr hg rfl rfl rfl rfl rfl (by simp [World.setCell]) (fun k hk => ?_) ?_, VR.tuple' LR.nil⟩
          · simp only [World.setCell, Array.getElem?_modify]; rw [if_neg (fun e0 => hk e0.symm)]
          refine ⟨[.pointer (some ⟨(ρ b).block, 0, none⟩), u'], ?_, k2, k3, k4, Nat.le_refl _, fun _ => rfl, fun i hi => ?_⟩
          · simp only [World.setCell, Array.getElem?_modify, if_pos rfl, k1]; simp
          match i, hi with
          | 0, _ => show VR ρ S (.pointer (some ⟨b, 0, none⟩)) (.pointer (some ⟨(ρ b).block, 0, none⟩)); rw [← hat]; exact .ptr b 0 hsb
          | 1, _ => exact hu
        · rename_i b'; obtain ⟨hbb, hf3⟩ := bif_some hf2; obtain rfl := nbeq hbb; simp only [Option.some.injEq, Prod.mk.injEq] at hf3; obtain ⟨rfl, rfl⟩ := hf3; have hp2 := hp.ptr_inv.2; rw [hat] at hp2; subst hp2; have hC : CallsIn Fence.wide nn P f #[.pointer (some ⟨(ρ b').block, 0, none⟩)] w _ := callsIn_wide.2 (hU (ρ b').block w hcell); refine hC.mono fun e2 w' hret => ?_; obtain ⟨rfl, rfl⟩ := hret; exact ⟨ρ, Moved.same hr, VR.tuple' LR.nil⟩
        cases hf2
      cases hf
    cases hf
end Go.Fs
namespace Go.Fs
open Go.RowKit (Below)
variable {P : Program} {B : Nat} {w0 : World}
def fsStepX (P : Program) (orc : FuncId → List Value → Heap → Option (Value × Heap)) (rec : Rec) : Rec := fun rnd c fr h =>
  match c with
  | .region _ ops true => match drawnX P { next := h.next, low := h.next, objs := h.objs } (fsOp P (callOf P orc rec) (fsYield rec)) ops fr.n ⟨fr.t, { next := h.next, low := h.next, objs := h.objs }, [], [], 0, false⟩ with
    | some s => some (.normal, { t := s.t, n := fr.n, marks := fr.marks }, { next := s.h.next, low := min h.low s.h.low, objs := s.h.objs })
    | none => match drawnY P { next := h.next, low := h.next, objs := h.objs } (fsOp P (callOf P orc rec) (fsYield rec)) ops fr.n ⟨fr.t, { next := h.next, low := h.next, objs := h.objs }, [], [], 0, false⟩ (fsReads P { next := h.next, low := h.next, objs := h.objs } (fsOp P (callOf P orc rec) (fsYield rec)) ops fr.n ops.toList 0 ⟨fr.t, { next := h.next, low := h.next, objs := h.objs }, [], [], 0, false⟩ []) with
      | some s => some (.normal, { t := s.t, n := fr.n, marks := fr.marks }, { next := s.h.next, low := min h.low s.h.low, objs := s.h.objs })
      | none => fsStep P orc rec rnd c fr h
  | c => fsStep P orc rec rnd c fr h
def fsCodeX (P : Program) (orc : FuncId → List Value → Heap → Option (Value × Heap)) : Nat → Rec
  | 0 => fun _ _ _ _ => none
  | n + 1 => fsStepX P orc (fsCodeX P orc n)
theorem HR.low {ρ : Ren} {S : Nat → Prop} {h : Heap} {w : World} (hr : HR P ρ S B w0 h w) (l : Nat) : HR P ρ S B w0 { next := h.next, low := l, objs := h.objs } w :=
  { objs := hr.objs, inj := hr.inj, base := hr.base, ro := hr.ro, ids := hr.ids, pos := hr.pos, below := hr.below, drawn := hr.drawn, size := hr.size }
theorem Moved.lowered {ρ ρ' : Ren} {S : Nat → Prop} {h h' : Heap} {w w' : World} {l : Nat} (m : Moved P B w0 ρ ρ' S { next := h.next, low := l, objs := h.objs } h' w w') :
    Moved P B w0 ρ ρ' S h { next := h'.next, low := min h.low h'.low, objs := h'.objs } w w' where
  agree := m.agree
  next := m.next
  hr := m.hr.low _
  frame := ⟨m.frame.os, m.frame.tape, m.frame.output, m.frame.size, m.frame.block⟩
  low := Nat.min_le_left _ _
  keep := fun i hi hl => m.keep i hi (Nat.lt_of_lt_of_le hl (Nat.min_le_right _ _))
  old := m.old
  fresh := fun i o ho hi => by
    obtain ⟨h1, h2⟩ := m.fresh i o ho hi; refine ⟨h1, ?_⟩; rcases h2 with h2 | ⟨j, oj, h3, h4, h5, h6, h7⟩
    · exact .inl h2
    exact .inr ⟨j, oj, h3, h4, h5, Nat.le_trans (Nat.min_le_right _ _) h6, h7⟩
theorem stepX_sound (hP : ProgOk P) {orc : FuncId → List Value → Heap → Option (Value × Heap)} (horc : CallSound P B w0 orc) {m : Nat} {rec : Rec} (hrec : SoundR P B w0 m rec) : SoundR P B w0 (m + 1) (fsStepX P orc rec) := by
  have hcs : CallSnd P B w0 (callOf P orc rec) := call_sound hP horc hrec; have hys : YieldSound P B w0 (fsYield rec) := yield_sound hrec; have hold := step_sound hP horc hrec; intro rnd c fr h e fr' h' hok hf
  cases c with
  | region id ops draw =>
    cases draw with
    | false => exact hold rnd _ fr h e fr' h' hok hf
    | true =>
      intro ρ S w a nn Q hr ht hm hs k; simp only [fsStepX] at hf; split at hf
      · rename_i s hrun; simp only [Option.some.injEq, Prod.mk.injEq] at hf; obtain ⟨rfl, rfl, rfl⟩ := hf; refine wpIn_region_draw fun t => ?_; rw [hP.mixed]; exact drawn_wpX (h0 := { next := h.next, low := h.next, objs := h.objs }) (call := callOf P orc rec) (yield := fsYield rec) hcs hys hok hrun ((hr.drew _).low _) ht (fun ρ1 w1 a1 m1 ht1 hd1 => k _ _ _ ⟨(Moved.ofDrew m1).lowered, ht1, by rw [hd1]; exact hm.mono fun b hb => ⟨.inl hb, m1.agree b hb⟩⟩) t
      split at hf
      · rename_i s hrun; simp only [Option.some.injEq, Prod.mk.injEq] at hf; obtain ⟨rfl, rfl, rfl⟩ := hf; refine wpIn_region_draw fun t => ?_; rw [hP.mixed]; exact drawn_wpY (h0 := { next := h.next, low := h.next, objs := h.objs }) (call := callOf P orc rec) (yield := fsYield rec) hcs hys hok hrun ((hr.drew _).low _) ht (fun ρ1 w1 a1 m1 ht1 hd1 => k _ _ _ ⟨(Moved.ofDrew m1).lowered, ht1, by rw [hd1]; exact hm.mono fun b hb => ⟨.inl hb, m1.agree b hb⟩⟩) t
      exact hold rnd _ fr h e fr' h' hok hf ρ S w a nn Q hr ht hm hs k
  | _ => exact hold rnd _ fr h e fr' h' hok hf
theorem codeX_sound (hP : ProgOk P) {orc : FuncId → List Value → Heap → Option (Value × Heap)} (horc : CallSound P B w0 orc) : ∀ m, SoundR P B w0 m (fsCodeX P orc m)
  | 0 => fun rnd c fr h e fr' h' _ hf => by cases hf
  | m + 1 => stepX_sound hP horc (codeX_sound hP horc m)
end Go.Fs
namespace Go.Fs
variable {P : Program} {orc : FuncId → List Value → Heap → Option (Value × Heap)}
def runPre (P : Program) (orc : FuncId → List Value → Heap → Option (Value × Heap)) : Nat → Nat → Code → Fr → Heap → Option (Nat × Code × Fr × Heap)
  | 0, n, c, fr, h => some (n, c, fr, h)
  | k + 1, n, c, fr, h => match n, c with
    | n + 1, .seq a b => match fsCodeX P orc n none a fr h with
      | some (.normal, fr1, h1) => runPre P orc k n b fr1 h1
      | _ => none
    | _, _ => none
def endV (P : Program) (fn : Func) (h : Heap) (x : Ex × Fr × Heap) : Option Value :=
  bif x.1.goes then
    match dropMarks x.2.1.marks x.2.2 with
    | some h2 => (fsResults P x.2.1.t h2 fn.results.toList).map tupled
    | none => none
  else none
theorem enter_map {rec : Rec} {f : FuncId} {args : List Value} {h : Heap} {fn : Func} {c : Code} (hf : P.funcs[f]? = some fn) (hc : fn.body = some c) (hn : (Nat.blt 4000 fn.ntmps || Nat.blt fn.ntmps args.length) = false) :
    (fsEnter P rec f args h).map (·.1) = (rec none c ⟨fillTr .leaf 0 args, fn.ntmps, []⟩ { next := h.next, low := h.next, objs := h.objs }).bind (endV P fn h) := by
  unfold fsEnter fsEnterK endV; simp only [hf, hc, hn, cond_false]
  cases rec none c ⟨fillTr .leaf 0 args, fn.ntmps, []⟩ { next := h.next, low := h.next, objs := h.objs } with
  | none => rfl
  | some x =>
    obtain ⟨e, fr, h1⟩ := x; simp only [Option.bind_some]
    cases e.goes with
    | false => rfl
    | true =>
      simp only [cond_true]
      cases dropMarks fr.marks h1 with
      | none => rfl
      | some h2 =>
        simp only
        cases fsResults P fr.t h2 fn.results.toList with
        | none => rfl
        | some vs =>
          simp only [Option.map_some]; generalize (!false && (af (tupled vs) && Nat.ble h.next h2.low)) = q; cases q <;> rfl
def sufx : Nat → Code → Code
  | 0, c => c
  | k + 1, .seq _ b => sufx k b
  | _ + 1, c => c
end Go.Fs
namespace Go.Fs
open Go.RowKit (Below)
variable {P : Program}
def gv : Value → Bool
  | .func (.func _) ⟨[]⟩ ⟨[]⟩ => true
  | v => af0 v
theorem VR.of_gv {ρ : Ren} {S : Nat → Prop} {v : Value} (h : gv v = true) : VR ρ S v v := by
  unfold gv at h; split at h
  · exact .func _ _ _ _ _ rfl (fun i h => absurd h (by simp)) rfl (fun i h => absurd h (by simp))
  exact .lit h
def gHeap (n : Nat) (L : List (Nat × TypeId × List Value)) : Heap := ⟨n, n, L.map fun x => (x.1 + 1, .row x.2.1 x.2.2 false true)⟩
def globR (P : Program) : Ren := fun b => Loc.clean (b - 1) 0 0 (P.cellsOf (((P.globals[b - 1]?).map (·.type)).getD 0))
structure GlobW (P : Program) (B : Nat) (w : World) (x : Nat × TypeId × List Value) : Prop where
  type : (P.globals[x.1]?).map (·.type) = some x.2.1
  only : ∀ (g : Nat) gl, P.globals[g]? = some gl → gl.type = x.2.1 → g = x.1
  block : x.1 < B
  cells : ∀ i, i < x.2.2.length → w.cell? ⟨x.1, i, none⟩ = some (x.2.2.getD i undef)
  vals : x.2.2.all gv = true
theorem GlobW.below {B : Nat} {w w' : World} {x : Nat × TypeId × List Value} (h : GlobW P B w x) (hb : Below B w w') : GlobW P B w' x :=
  ⟨h.type, h.only, h.block, fun i hi => (World.cell?_of_block (a := ⟨x.1, i, none⟩) (hb.block _ h.block)).trans (h.cells i hi), h.vals⟩
theorem gHeap_get {n : Nat} : ∀ {L : List (Nat × TypeId × List Value)} {i : Nat} {o : AObj}, (gHeap n L).get i = some o → ∃ x ∈ L, i = x.1 + 1 ∧ o = .row x.2.1 x.2.2 false true
  | [], i, o, h => by cases h
  | x :: L, i, o, h => by
    simp only [gHeap, Heap.get, List.map_cons, look] at h
    cases hb : Nat.beq (x.1 + 1) i with
    | true =>
      rw [hb] at h
      exact ⟨x, List.mem_cons_self, (nbeq hb).symm, (Option.some.inj h).symm⟩
    | false =>
      rw [hb] at h; obtain ⟨y, hy, h1, h2⟩ := gHeap_get (n := n) (L := L) (i := i) (o := o) h; exact ⟨y, List.mem_cons_of_mem _ hy, h1, h2⟩
theorem gHeap_hr {w : World} {n : Nat} {L : List (Nat × TypeId × List Value)} (hn : ∀ x ∈ L, x.1 + 1 < n) (hp : 0 < n) (hL : ∀ x ∈ L, GlobW P w.heap.size w x) :
    HR P (globR P) (fun b => ∃ x ∈ L, b = x.1 + 1) w.heap.size (wz w) (gHeap n L) w where
  objs := fun i o hi => by
    obtain ⟨x, hx, rfl, rfl⟩ := gHeap_get hi; have h := hL x hx; refine ⟨⟨x, hx, rfl⟩, ?_, fun j hj => ?_, fun _ g gl h1 h2 => ?_⟩
    · show P.cellsOf (((P.globals[x.1 + 1 - 1]?).map (·.type)).getD 0) = _; rw [Nat.add_sub_cancel, h.type]; rfl
    · refine ⟨x.2.2.getD j undef, ?_, .of_gv (List.all_eq_true.1 h.vals _ (mem_getD hj))⟩; show w.cell? ⟨x.1 + 1 - 1, 0 + j, none⟩ = _; rw [Nat.add_sub_cancel, Nat.zero_add]; exact h.cells j hj
    exact ⟨(h.only g gl h1 h2).symm, rfl⟩
  inj := fun i j oi oj hi _ ho => by
    obtain ⟨x, hx, rfl, rfl⟩ := gHeap_get hi; cases ho
  base := fun i o hi ho => by
    obtain ⟨x, hx, rfl, rfl⟩ := gHeap_get hi; cases ho
  ro := fun i o hi _ => by
    obtain ⟨x, hx, rfl, rfl⟩ := gHeap_get hi; exact (hL x hx).block
  ids := fun b ⟨x, hx, hb⟩ => by
    subst hb; exact ⟨hn x hx, Nat.succ_ne_zero _⟩
  pos := hp
  below := z_below (Below.refl _ _)
  drawn := Nat.zero_le _
  size := Nat.le_refl _
end Go.Fs
namespace Go.Fs
open Go.RowKit (Below)
variable {P : Program} {ρ ρ' : Ren} {S S' : Nat → Prop} {B : Nat} {w0 w w' w1 w2 : World} {h h' h1 h2 : Heap}
def gcL (n0 : Nat) (keep : List Nat) : List (Nat × AObj) → List (Nat × AObj)
  | [] => []
  | x :: r => bif Nat.blt x.1 n0 || keep.any (Nat.beq x.1) then x :: gcL n0 keep r else gcL n0 keep r
def gcH (n0 : Nat) (keep : List Nat) (h : Heap) : Heap := ⟨h.next, h.low, gcL n0 keep h.objs⟩
theorem gc_some {n0 : Nat} {keep : List Nat} {i : Nat} {o : AObj} : ∀ {L : List (Nat × AObj)}, look (gcL n0 keep L) i = some o → look L i = some o
  | [], h => h
  | x :: L, h => by
    unfold gcL at h
    cases hk : (Nat.blt x.1 n0 || keep.any (Nat.beq x.1)) with
    | true =>
      rw [hk] at h; simp only [cond_true, look] at h ⊢
      cases hb : Nat.beq x.1 i with
      | true => rw [hb] at h; exact h
      | false => rw [hb] at h; exact gc_some h
    | false =>
      rw [hk] at h; simp only [cond_false] at h; simp only [look]
      cases hb : Nat.beq x.1 i with
      | false => exact gc_some h
      | true =>
        exfalso; have e := nbeq hb
        have hno : ∀ {L : List (Nat × AObj)}, look (gcL n0 keep L) i = none := by
          intro L
          induction L with
          | nil => rfl
          | cons y L ih =>
            unfold gcL
            cases hk2 : (Nat.blt y.1 n0 || keep.any (Nat.beq y.1)) with
            | false => exact ih
            | true =>
              simp only [cond_true, look]
              cases hb2 : Nat.beq y.1 i with
              | false => exact ih
              | true => rw [nbeq hb2, ← e, hk] at hk2; cases hk2
        rw [hno] at h; cases h
theorem gc_low {n0 : Nat} {keep : List Nat} {i : Nat} (hi : i < n0) : ∀ {L : List (Nat × AObj)}, look (gcL n0 keep L) i = look L i
  | [] => rfl
  | x :: L => by
    unfold gcL
    cases hb : Nat.beq x.1 i with
    | true =>
      have hx : Nat.blt x.1 n0 = true := by rw [nbeq hb]; show Nat.ble (i + 1) n0 = true; rw [Nat.ble_eq]; omega
      simp only [hx, Bool.true_or, cond_true, look, hb]
    | false =>
      cases hk : (Nat.blt x.1 n0 || keep.any (Nat.beq x.1)) with
      | true => simp only [cond_true, look, hb, cond_false]; exact gc_low hi
      | false => simp only [cond_false, look, hb]; exact gc_low hi
theorem HR.gc {n0 : Nat} {keep : List Nat} (hr : HR P ρ S B w0 h w) : HR P ρ S B w0 (gcH n0 keep h) w :=
  { objs := fun i o hi => hr.objs i o (gc_some hi), inj := fun i j oi oj hi hj => hr.inj i j oi oj (gc_some hi) (gc_some hj), base := fun i o hi => hr.base i o (gc_some hi), ro := fun i o hi => hr.ro i o (gc_some hi), ids := hr.ids, pos := hr.pos,
    below := hr.below, drawn := hr.drawn, size := hr.size }
theorem Moved.gc {n0 : Nat} {keep : List Nat} (hn : h.next ≤ n0) (m : Moved P B w0 ρ ρ' S h h1 w w1) : Moved P B w0 ρ ρ' S h (gcH n0 keep h1) w w1 where
  agree := m.agree
  next := m.next
  hr := m.hr.gc
  frame := m.frame
  low := m.low
  keep := fun i hi hl => (gc_low (by omega)).trans (m.keep i hi hl)
  old := fun i o hi hl => m.old i o (gc_some hi) hl
  fresh := fun i o hi hl => m.fresh i o (gc_some hi) hl
def runG (P : Program) (orc : FuncId → List Value → Heap → Option (Value × Heap)) (n0 : Nat) : List (Nat × List Nat) → Nat → Code → Fr → Heap → Option (Ex × Fr × Heap)
  | [], n, c, fr, h => fsCodeX P orc n none c fr h
  | (k, keep) :: ks, n, c, fr, h => match runPre P orc k n c fr h with
    | some (n1, c1, fr1, h1) => runG P orc n0 ks n1 c1 fr1 (gcH n0 keep h1)
    | none => none
theorem pre_sound (hP : ProgOk P) {orc : FuncId → List Value → Heap → Option (Value × Heap)} (horc : CallSound P B w0 orc) : ∀ {k n : Nat} {c : Code} {fr : Fr} {h : Heap} {n1 : Nat} {c1 : Code} {fr1 : Fr} {h1 : Heap}, codeOk c = true → runPre P orc k n c fr h = some (n1, c1, fr1, h1) →
    codeOk c1 = true ∧ ∀ {ρ : Ren} {S : Nat → Prop} {w : World} {a : Act} {nn : Nat} {Q : Exit → Act → World → Prop}, HR P ρ S B w0 h w → TrR ρ S fr.t fr.n a.tmps → MarksR ρ S fr.marks a.defers →
      (∀ ρ' w' a', Post P B w0 ρ ρ' S h w fr1 h1 w' a' → c1.wpIn (Wide none) nn P Q a' w') → c.wpIn (Wide none) nn P Q a w
  | 0, n, c, fr, h, n1, c1, fr1, h1, hok, hr => by
    simp only [runPre, Option.some.injEq, Prod.mk.injEq] at hr; obtain ⟨rfl, rfl, rfl, rfl⟩ := hr
    exact ⟨hok, fun hR ht hm k => k _ _ _ ⟨Moved.same hR, ht.mono fun b hb => ⟨.inl hb, rfl⟩, hm.mono fun b hb => ⟨.inl hb, rfl⟩⟩⟩
  | k + 1, n, c, fr, h, n1, c1, fr1, h1, hok, hr => by
    simp only [runPre] at hr; split at hr
    · rename_i n x y; split at hr
      · rename_i fr2 h2 hx; obtain ⟨ok1, ok2⟩ := band (show (codeOk x && codeOk y) = true from hok); obtain ⟨g1, g2⟩ := pre_sound hP horc ok2 hr; refine ⟨g1, fun {ρ S w a nn Q} hR ht hm kk => wpIn_seq ?_⟩; refine (codeX_sound hP horc n none x fr h _ fr2 h2 ok1 hx ρ S w a nn _ hR ht hm (fun l hl => by cases hl) fun ρ1 w1 a1 p1 => ?_).wpIn; show y.wpIn (Wide none) nn P Q a1 w1; exact g2 p1.moved.hr p1.tmps p1.marks fun ρ2 w2 a2 p2 => kk _ _ _ (Post.trans (fr1 := fr2) (a1 := a1) p1.moved p2)
      cases hr
    cases hr
theorem runG_sound (hP : ProgOk P) {orc : FuncId → List Value → Heap → Option (Value × Heap)} (horc : CallSound P B w0 orc) {n0 : Nat} : ∀ {ks : List (Nat × List Nat)} {n : Nat} {c : Code} {fr : Fr} {h : Heap} {e : Ex} {fr' : Fr} {h' : Heap}, codeOk c = true → runG P orc n0 ks n c fr h = some (e, fr', h') →
    ∀ {g : Heap} {ρ0 ρ : Ren} {S : Nat → Prop} {w w' : World} {a : Act} {nn : Nat} {Q : Exit → Act → World → Prop}, g.next ≤ n0 → Moved P B w0 ρ0 ρ S g h w w' → TrR ρ (Ext S g h) fr.t fr.n a.tmps → MarksR ρ (Ext S g h) fr.marks a.defers →
      (∀ ρ' w2 a', Post P B w0 ρ0 ρ' S g w fr' h' w2 a' → Q (exOf e) a' w2) → c.wpIn (Wide none) nn P Q a w'
  | [], n, c, fr, h, e, fr', h', hok, hr, g, ρ0, ρ, S, w, w', a, nn, Q, hg, m, ht, hm, k =>
    (codeX_sound hP horc n none c fr h e fr' h' hok hr ρ _ w' a nn Q m.hr ht hm (fun l hl => by cases hl) fun ρ1 w1 a1 p1 => k _ _ _ (Post.trans (fr1 := fr) (a1 := a) m p1)).wpIn
  | (j, keep) :: ks, n, c, fr, h, e, fr', h', hok, hr, g, ρ0, ρ, S, w, w', a, nn, Q, hg, m, ht, hm, k => by
    simp only [runG] at hr; split at hr
    · rename_i n1 c1 fr1 h1 hx; obtain ⟨g1, g2⟩ := pre_sound hP horc hok hx; refine g2 m.hr ht hm fun ρ1 w1 a1 p1 => ?_; have q := Post.trans (fr1 := fr) (a1 := a) m p1; exact runG_sound hP horc g1 hr hg (q.moved.gc hg) q.tmps q.marks k
    cases hr
def fsG (P : Program) (orc : FuncId → List Value → Heap → Option (Value × Heap)) (n0 n : Nat) (ks : List (Nat × List Nat)) : Rec := fun rnd c fr h =>
  match rnd, c with
  | none, .seq x y => bif Nat.ble h.next n0 then runG P orc n0 ks n (.seq x y) fr h else none
  | _, _ => none
def isSeq : Code → Bool
  | .seq _ _ => true
  | _ => false
theorem fsG_eq {orc : FuncId → List Value → Heap → Option (Value × Heap)} {n0 n : Nat} {ks : List (Nat × List Nat)} {c : Code} {fr : Fr} {h : Heap} (hc : isSeq c = true) (hn : Nat.ble h.next n0 = true) : fsG P orc n0 n ks none c fr h = runG P orc n0 ks n c fr h := by
  cases c with
  | seq x y =>
    show (bif Nat.ble h.next n0 then _ else _) = _
    rw [hn]; rfl
  | _ => cases hc
theorem fsG_sound (hP : ProgOk P) {orc : FuncId → List Value → Heap → Option (Value × Heap)} (horc : CallSound P B w0 orc) {n0 n : Nat} {ks : List (Nat × List Nat)} : SoundR P B w0 0 (fsG P orc n0 n ks) := by
  intro rnd c fr h e fr' h' hok hf ρ S w a nn Q hr ht hm hs k; unfold fsG at hf; split at hf
  · rename_i x y; obtain ⟨hn, hq⟩ := bif_some hf; show Code.wpIn (Wide none) nn P (.seq x y) Q a w; exact runG_sound hP horc hok hq (nble hn) (Moved.same hr) (ht.mono fun b hb => ⟨.inl hb, rfl⟩) (hm.mono fun b hb => ⟨.inl hb, rfl⟩) k
  cases hf
theorem run_viaG {orc : FuncId → List Value → Heap → Option (Value × Heap)} {n0 k n : Nat} {keep : List Nat} {ks : List (Nat × List Nat)} {c : Code} {fr : Fr} {h : Heap} {n' : Nat} {c' : Code} {fr' : Fr} {h' : Heap} (hr : (runPre P orc k n c fr h).map (fun x => (x.1, x.2.1, x.2.2.1, gcH n0 keep x.2.2.2)) = some (n', c', fr', h')) : runG P orc n0 ((k, keep) :: ks) n c fr h = runG P orc n0 ks n' c' fr' h' := by
  simp only [runG]
  cases hx : runPre P orc k n c fr h with
  | none => rw [hx] at hr; cases hr
  | some x =>
    obtain ⟨n1, c1, fr1, h1⟩ := x; rw [hx] at hr; simp only [Option.map_some, Option.some.injEq, Prod.mk.injEq] at hr; obtain ⟨rfl, rfl, rfl, rfl⟩ := hr; rfl
theorem gcG_closed (hP : ProgOk P) {w : World} {orc : FuncId → List Value → Heap → Option (Value × Heap)} (horc : CallSound P w.heap.size (wz w) orc) {ρ : Ren} {S : Nat → Prop} {g : Heap} (hr : HR P ρ S w.heap.size (wz w) g w) {n0 n : Nat} {ks : List (Nat × List Nat)} {f : FuncId} {args : List Value} {v : Value} (ha : args.all af = true)
    (hf : (fsEnter P (fsG P orc n0 n ks) f args g).map (·.1) = some v) (hv : af v = true) :
    Calls P f args.toArray w fun | .returned v', w' => v' = v ∧ Below w.heap.size w w' | _, _ => False := by
  obtain ⟨⟨v0, h1⟩, h2, h3⟩ := Option.map_eq_some_iff.1 hf; simp only at h3; subst h3; have hc := ((enter_sound hP (fsG_sound hP horc)) f args _ _ _ h2).2 _ _ w args hr ⟨rfl, fun i hi => .of_af (List.all_eq_true.1 ha _ (mem_getD hi))⟩ 0; refine Calls.mono (callsIn_wide.1 hc) fun e w' he => ?_
  cases e with
  | returned v' =>
    obtain ⟨ρ', m1, hv1⟩ := he
    exact ⟨hv1.eq_of_af hv, below_z m1.hr.below⟩
  | panicked c => exact he.elim
  | outgrown => exact he.elim
theorem awakeGc_calls (hP : ProgOk P) {B : Nat} {w0 : World} {O : FuncId → List Value → Heap → Option (Value × Heap)} {fa : FuncId} {n : Nat} {L : List (Nat × TypeId × List Value)} (hn : ∀ x ∈ L, x.1 + 1 < n) (hp : 0 < n) (hL : ∀ x ∈ L, GlobW P B w0 x) (hB : ∀ w, Below B w0 w → B ≤ w.heap.size) (hS : ∀ w, Below B w0 w → CallSound P w.heap.size (wz w) O) {n0 m : Nat} {ks : List (Nat × List Nat)}
    (hrun : (fsEnter P (fsG P O n0 m ks) fa [] (gHeap n L)).map (·.1) = some (.bool true)) (w : World) (hw : Below B w0 w) :
    Calls P fa #[] w fun | .returned v', w' => v' = .bool true ∧ Below w.heap.size w w' | _, _ => False :=
  gcG_closed hP (hS w hw) (gHeap_hr hn hp fun x hx => let h := (hL x hx).below hw; ⟨h.type, h.only, Nat.lt_of_lt_of_le h.block (hB w hw), h.cells, h.vals⟩) (args := []) rfl hrun rfl
end Go.Fs
namespace Go.Fs
open Go.RowKit (Below)
variable {P : Program} {B : Nat} {w0 : World}
theorem orcI_sound {fi : FuncId} (hz : w0.drawn = 0) (hi : Enters P fi)
    (hI : ∀ (n : Int) (w : World), Below B w0 w → -9223372036854775808 ≤ n → n ≤ 9223372036854775807 → Calls P fi #[.int .i64 n] w fun e w' => e = .returned (.string ⟨(Lib.itoa n).toArray⟩) ∧ Below w.heap.size w w') : CallSound P B w0 (orcS fi fi) := by
  intro f xs h v h' hf; unfold orcS at hf
  cases hfi : Nat.beq f fi with
  | true =>
    have := nbeq hfi; subst this; rw [hfi] at hf; simp only [cond_true] at hf; split at hf
    · rename_i n; obtain ⟨hc, hf2⟩ := bif_some hf; obtain ⟨h0, h1⟩ := band hc; have h0 := of_decide_eq_true h0; have h1 := of_decide_eq_true h1; simp only [Option.some.injEq, Prod.mk.injEq] at hf2; obtain ⟨rfl, rfl⟩ := hf2; refine ⟨hi, fun ρ S w args' hr ha nn => ?_⟩; have he : args' = [.int .i64 n] := ha.eq_of_af (by rfl); subst he; have hC : CallsIn Fence.wide nn P f #[.int .i64 n] w _ := callsIn_wide.2 (hI n w hr.below (by omega) (by omega)); refine hC.mono fun e w' hret => ?_; obtain ⟨rfl, hb⟩ := hret; exact ⟨ρ, Moved.grewWorld hr hb (by rw [hz]; exact Nat.zero_le _), by rw [itoaF_eq h0 h1]; exact .lit rfl⟩
    cases hf
  | false =>
    rw [hfi] at hf; simp only [cond_false] at hf; cases hf
end Go.Fs
namespace Go.Proofs
open Go.Shelf
def Tryz.laysM243_ren : Go.Shelf.Ren := ⟨fun | 243 => 96 | 246 => 120 | 283 => 150 | 284 => 151 | 285 => 152 | 286 => 153 | 129 => 146 | 317 => 185 | 318 => 186 | 319 => 187 | 320 => 188 | 337 => 203 | 338 => 204 | n => n, fun | 3 => 3 | 9 => 9 | 2 => 2 | 4 => 4 | 171 => 207 | 0 => 0 | 53 => 202 | 37 => 26 | 5 => 5 | 173 => 209 | 212 => 239 | 51 => 83 | 20 => 20 | 213 => 240 | 46 => 144 | 232 => 260 | 233 => 261 | n => n, fun | 17 => 2 | 18 => 5 | 19 => 6 | n => n⟩
theorem Tryz.laysM243 : Go.Proofs.LaysM.n243 Tryz.prog Tryz.laysM243_ren := {
  mixed := by kernel_rfl
  f129 := Tryz.func146.trans (congrArg some (by kernel_rfl))
  f243 := Tryz.func96.trans (congrArg some (by kernel_rfl))
  f246 := Tryz.func120.trans (congrArg some (by kernel_rfl))
  f283 := Tryz.func150.trans (congrArg some (by kernel_rfl))
  f284 := Tryz.func151.trans (congrArg some (by kernel_rfl))
  f285 := Tryz.func152.trans (congrArg some (by kernel_rfl))
  f286 := Tryz.func153.trans (congrArg some (by kernel_rfl))
  f317 := Tryz.func185.trans (congrArg some (by kernel_rfl))
  f318 := Tryz.func186.trans (congrArg some (by kernel_rfl))
  f319 := Tryz.func187.trans (congrArg some (by kernel_rfl))
  f320 := Tryz.func188.trans (congrArg some (by kernel_rfl))
  f337 := Tryz.func203.trans (congrArg some (by kernel_rfl))
  f338 := Tryz.func204.trans (congrArg some (by kernel_rfl))
  t0 := Tryz.underlying0
  a0 := Tryz.isAgg0
  z0 := Tryz.sizeOf0
  v0 := Tryz.zeroValue0
  t2 := Tryz.underlying2
  a2 := Tryz.isAgg2
  z2 := Tryz.sizeOf2
  v2 := Tryz.zeroValue2
  t3 := Tryz.underlying3
  a3 := Tryz.isAgg3
  z3 := Tryz.sizeOf3
  v3 := Tryz.zeroValue3
  t4 := Tryz.underlying4
  a4 := Tryz.isAgg4
  z4 := Tryz.sizeOf4
  v4 := Tryz.zeroValue4
  t5 := Tryz.underlying5
  a5 := Tryz.isAgg5
  z5 := Tryz.sizeOf5
  v5 := Tryz.zeroValue5
  t9 := Tryz.underlying9
  a9 := Tryz.isAgg9
  z9 := Tryz.sizeOf9
  v9 := Tryz.zeroValue9
  t20 := Tryz.underlying20
  a20 := Tryz.isAgg20
  z20 := Tryz.sizeOf20
  v20 := Tryz.zeroValue20
  t37 := Tryz.underlying26
  a37 := Tryz.isAgg26
  z37 := Tryz.sizeOf26
  v37 := Tryz.zeroValue26
  t46 := Tryz.underlying144
  a46 := Tryz.isAgg144
  z46 := Tryz.sizeOf144
  v46 := Tryz.zeroValue144
  t51 := Tryz.underlying83
  a51 := Tryz.isAgg83
  z51 := Tryz.sizeOf83
  v51 := Tryz.zeroValue83
  t53 := Tryz.underlying202
  a53 := Tryz.isAgg202
  z53 := Tryz.sizeOf202
  v53 := Tryz.zeroValue202
  t171 := Tryz.underlying207
  a171 := Tryz.isAgg207
  z171 := Tryz.sizeOf207
  v171 := Tryz.zeroValue207
  t173 := Tryz.underlying209
  a173 := Tryz.isAgg209
  z173 := Tryz.sizeOf209
  v173 := Tryz.zeroValue209
  t212 := Tryz.underlying239
  a212 := Tryz.isAgg239
  z212 := Tryz.sizeOf239
  v212 := Tryz.zeroValue239
  t213 := Tryz.underlying240
  a213 := Tryz.isAgg240
  z213 := Tryz.sizeOf240
  t232 := Tryz.underlying260
  a232 := Tryz.isAgg260
  z232 := Tryz.sizeOf260
  v232 := Tryz.zeroValue260
  t233 := Tryz.underlying261
  a233 := Tryz.isAgg261
  z233 := Tryz.sizeOf261
  v233 := Tryz.zeroValue261
  g17 := by kernel_rfl
  g18 := by kernel_rfl
  g19 := by kernel_rfl
  i0 := by kernel_rfl
  i2 := by kernel_rfl
  i3 := by kernel_rfl
  i4 := by kernel_rfl
  i5 := by kernel_rfl
  i9 := by kernel_rfl
  i20 := by kernel_rfl
  i37 := by kernel_rfl
  i46 := by kernel_rfl
  i51 := by kernel_rfl
  i53 := by kernel_rfl
  i171 := by kernel_rfl
  i173 := by kernel_rfl
  i212 := by kernel_rfl
  i232 := by kernel_rfl
  i233 := by kernel_rfl
  m17 := by kernel_rfl
  m18 := by kernel_rfl
  m19 := by kernel_rfl }
open Go.RowKit Go.Sort Go.Lib in
/-- internal/strconv.Itoa: "Itoa is equivalent to FormatInt(int64(i), 10).": i's decimal numeral, for every int. (LAID: no walk: one application.) -/
theorem Tryz.internal_strconv_Itoa (n : Int) (h0 : -9223372036854775808 ≤ n) (h1 : n ≤ 9223372036854775807) (w : World) (htab : Lib.TabIs Tryz.prog w "internal/strconv.uint64pow10" .u64 Lib.pow10Tab) :
    Calls Tryz.prog 96 #[.int .i64 n] w fun e w' => e = .returned (.string ⟨(Lib.itoa n).toArray⟩) ∧ ∃ k os, w' = grow (w.drewN k) os := Any.internal_strconv_Itoa Tryz.laysM243 n h0 h1 w htab
def Tryz.laysM171_ren : Go.Shelf.Ren := ⟨fun | 171 => 55 | 243 => 96 | 246 => 120 | 283 => 150 | 284 => 151 | 285 => 152 | 286 => 153 | 129 => 146 | 317 => 185 | 318 => 186 | 319 => 187 | 320 => 188 | 337 => 203 | 338 => 204 | n => n, fun | 3 => 3 | 9 => 9 | 2 => 2 | 4 => 4 | 171 => 207 | 0 => 0 | 53 => 202 | 37 => 26 | 5 => 5 | 173 => 209 | 212 => 239 | 51 => 83 | 20 => 20 | 213 => 240 | 46 => 144 | 232 => 260 | 233 => 261 | n => n, fun | 17 => 2 | 18 => 5 | 19 => 6 | n => n⟩
theorem Tryz.laysM171 : Go.Proofs.LaysM.n171 Tryz.prog Tryz.laysM171_ren := {
  mixed := by kernel_rfl
  f129 := Tryz.func146.trans (congrArg some (by kernel_rfl))
  f171 := Tryz.func55.trans (congrArg some (by kernel_rfl))
  f243 := Tryz.func96.trans (congrArg some (by kernel_rfl))
  f246 := Tryz.func120.trans (congrArg some (by kernel_rfl))
  f283 := Tryz.func150.trans (congrArg some (by kernel_rfl))
  f284 := Tryz.func151.trans (congrArg some (by kernel_rfl))
  f285 := Tryz.func152.trans (congrArg some (by kernel_rfl))
  f286 := Tryz.func153.trans (congrArg some (by kernel_rfl))
  f317 := Tryz.func185.trans (congrArg some (by kernel_rfl))
  f318 := Tryz.func186.trans (congrArg some (by kernel_rfl))
  f319 := Tryz.func187.trans (congrArg some (by kernel_rfl))
  f320 := Tryz.func188.trans (congrArg some (by kernel_rfl))
  f337 := Tryz.func203.trans (congrArg some (by kernel_rfl))
  f338 := Tryz.func204.trans (congrArg some (by kernel_rfl))
  t0 := Tryz.underlying0
  a0 := Tryz.isAgg0
  z0 := Tryz.sizeOf0
  v0 := Tryz.zeroValue0
  t2 := Tryz.underlying2
  a2 := Tryz.isAgg2
  z2 := Tryz.sizeOf2
  v2 := Tryz.zeroValue2
  t3 := Tryz.underlying3
  a3 := Tryz.isAgg3
  z3 := Tryz.sizeOf3
  v3 := Tryz.zeroValue3
  t4 := Tryz.underlying4
  a4 := Tryz.isAgg4
  z4 := Tryz.sizeOf4
  v4 := Tryz.zeroValue4
  t5 := Tryz.underlying5
  a5 := Tryz.isAgg5
  z5 := Tryz.sizeOf5
  v5 := Tryz.zeroValue5
  t9 := Tryz.underlying9
  a9 := Tryz.isAgg9
  z9 := Tryz.sizeOf9
  v9 := Tryz.zeroValue9
  t20 := Tryz.underlying20
  a20 := Tryz.isAgg20
  z20 := Tryz.sizeOf20
  v20 := Tryz.zeroValue20
  t37 := Tryz.underlying26
  a37 := Tryz.isAgg26
  z37 := Tryz.sizeOf26
  v37 := Tryz.zeroValue26
  t46 := Tryz.underlying144
  a46 := Tryz.isAgg144
  z46 := Tryz.sizeOf144
  v46 := Tryz.zeroValue144
  t51 := Tryz.underlying83
  a51 := Tryz.isAgg83
  z51 := Tryz.sizeOf83
  v51 := Tryz.zeroValue83
  t53 := Tryz.underlying202
  a53 := Tryz.isAgg202
  z53 := Tryz.sizeOf202
  v53 := Tryz.zeroValue202
  t171 := Tryz.underlying207
  a171 := Tryz.isAgg207
  z171 := Tryz.sizeOf207
  v171 := Tryz.zeroValue207
  t173 := Tryz.underlying209
  a173 := Tryz.isAgg209
  z173 := Tryz.sizeOf209
  v173 := Tryz.zeroValue209
  t212 := Tryz.underlying239
  a212 := Tryz.isAgg239
  z212 := Tryz.sizeOf239
  v212 := Tryz.zeroValue239
  t213 := Tryz.underlying240
  a213 := Tryz.isAgg240
  z213 := Tryz.sizeOf240
  t232 := Tryz.underlying260
  a232 := Tryz.isAgg260
  z232 := Tryz.sizeOf260
  v232 := Tryz.zeroValue260
  t233 := Tryz.underlying261
  a233 := Tryz.isAgg261
  z233 := Tryz.sizeOf261
  v233 := Tryz.zeroValue261
  g17 := by kernel_rfl
  g18 := by kernel_rfl
  g19 := by kernel_rfl
  i0 := by kernel_rfl
  i2 := by kernel_rfl
  i3 := by kernel_rfl
  i4 := by kernel_rfl
  i5 := by kernel_rfl
  i9 := by kernel_rfl
  i20 := by kernel_rfl
  i37 := by kernel_rfl
  i46 := by kernel_rfl
  i51 := by kernel_rfl
  i53 := by kernel_rfl
  i171 := by kernel_rfl
  i173 := by kernel_rfl
  i212 := by kernel_rfl
  i232 := by kernel_rfl
  i233 := by kernel_rfl
  m17 := by kernel_rfl
  m18 := by kernel_rfl
  m19 := by kernel_rfl }
open Go.RowKit Go.Sort Go.Lib in
/-- strconv.Itoa: "Itoa is equivalent to FormatInt(int64(i), 10).": i's DECIMAL NUMERAL ('Lib.itoa': a '-' where i is negative, then the digits), FOR EVERY int. The world behind the call: the world before it, new blocks behind the heap (the library's 'var a [24]byte'), draws. (LAID: no walk: one application.) -/
theorem Tryz.strconv_Itoa (n : Int) (h0 : -9223372036854775808 ≤ n) (h1 : n ≤ 9223372036854775807) (w : World) (htab : Lib.TabIs Tryz.prog w "internal/strconv.uint64pow10" .u64 Lib.pow10Tab) :
    Calls Tryz.prog 55 #[.int .i64 n] w fun e w' => e = .returned (.string ⟨(Lib.itoa n).toArray⟩) ∧ ∃ k os, w' = grow (w.drewN k) os := Any.strconv_Itoa Tryz.laysM171 n h0 h1 w htab
def Tryz.laysC172_ren : Go.Shelf.Ren := ⟨fun | 172 => 101 | 244 => 124 | 245 => 125 | 247 => 163 | 279 => 164 | 280 => 165 | 281 => 166 | 282 => 167 | 287 => 194 | 316 => 195 | 171 => 55 | 205 => 196 | 321 => 206 | 322 => 207 | 243 => 96 | 246 => 120 | 283 => 150 | 284 => 151 | 285 => 152 | 286 => 153 | 129 => 146 | 317 => 185 | 318 => 186 | 319 => 187 | 320 => 188 | 337 => 203 | 338 => 204 | n => n, fun | 9 => 9 | 3 => 3 | 75 => 101 | 76 => 102 | 4 => 4 | 5 => 5 | 167 => 218 | 37 => 26 | 0 => 0 | 85 => 219 | 2 => 2 | 168 => 221 | 53 => 202 | 175 => 244 | 46 => 144 | 210 => 248 | 127 => 151 | 145 => 258 | 143 => 256 | 21 => 21 | 171 => 207 | 173 => 209 | 212 => 239 | 51 => 83 | 20 => 20 | 213 => 240 | 232 => 260 | 233 => 261 | 80 => 107 | n => n, fun | 15 => 3 | 16 => 4 | 17 => 2 | 18 => 5 | 19 => 6 | n => n⟩
theorem Tryz.laysC172 : Go.Proofs.LaysC.n172 Tryz.prog Tryz.laysC172_ren := {
  mixed := by kernel_rfl
  f129 := Tryz.func146.trans (congrArg some (by kernel_rfl))
  f171 := Tryz.func55.trans (congrArg some (by kernel_rfl))
  f172 := Tryz.func101.trans (congrArg some (by kernel_rfl))
  f205 := Tryz.func196.trans (congrArg some (by kernel_rfl))
  f243 := Tryz.func96.trans (congrArg some (by kernel_rfl))
  f244 := Tryz.func124.trans (congrArg some (by kernel_rfl))
  f245 := Tryz.func125.trans (congrArg some (by kernel_rfl))
  f246 := Tryz.func120.trans (congrArg some (by kernel_rfl))
  f247 := Tryz.func163.trans (congrArg some (by kernel_rfl))
  f279 := Tryz.func164.trans (congrArg some (by kernel_rfl))
  f280 := Tryz.func165.trans (congrArg some (by kernel_rfl))
  f281 := Tryz.func166.trans (congrArg some (by kernel_rfl))
  f282 := Tryz.func167.trans (congrArg some (by kernel_rfl))
  f283 := Tryz.func150.trans (congrArg some (by kernel_rfl))
  f284 := Tryz.func151.trans (congrArg some (by kernel_rfl))
  f285 := Tryz.func152.trans (congrArg some (by kernel_rfl))
  f286 := Tryz.func153.trans (congrArg some (by kernel_rfl))
  f287 := Tryz.func194.trans (congrArg some (by kernel_rfl))
  f316 := Tryz.func195.trans (congrArg some (by kernel_rfl))
  f317 := Tryz.func185.trans (congrArg some (by kernel_rfl))
  f318 := Tryz.func186.trans (congrArg some (by kernel_rfl))
  f319 := Tryz.func187.trans (congrArg some (by kernel_rfl))
  f320 := Tryz.func188.trans (congrArg some (by kernel_rfl))
  f321 := Tryz.func206.trans (congrArg some (by kernel_rfl))
  f322 := Tryz.func207.trans (congrArg some (by kernel_rfl))
  f337 := Tryz.func203.trans (congrArg some (by kernel_rfl))
  f338 := Tryz.func204.trans (congrArg some (by kernel_rfl))
  t0 := Tryz.underlying0
  a0 := Tryz.isAgg0
  z0 := Tryz.sizeOf0
  v0 := Tryz.zeroValue0
  t2 := Tryz.underlying2
  a2 := Tryz.isAgg2
  z2 := Tryz.sizeOf2
  v2 := Tryz.zeroValue2
  t3 := Tryz.underlying3
  a3 := Tryz.isAgg3
  z3 := Tryz.sizeOf3
  v3 := Tryz.zeroValue3
  t4 := Tryz.underlying4
  a4 := Tryz.isAgg4
  z4 := Tryz.sizeOf4
  v4 := Tryz.zeroValue4
  t5 := Tryz.underlying5
  a5 := Tryz.isAgg5
  z5 := Tryz.sizeOf5
  v5 := Tryz.zeroValue5
  t9 := Tryz.underlying9
  a9 := Tryz.isAgg9
  z9 := Tryz.sizeOf9
  v9 := Tryz.zeroValue9
  t20 := Tryz.underlying20
  a20 := Tryz.isAgg20
  z20 := Tryz.sizeOf20
  v20 := Tryz.zeroValue20
  t21 := Tryz.underlying21
  a21 := Tryz.isAgg21
  z21 := Tryz.sizeOf21
  v21 := Tryz.zeroValue21
  t37 := Tryz.underlying26
  a37 := Tryz.isAgg26
  z37 := Tryz.sizeOf26
  v37 := Tryz.zeroValue26
  t46 := Tryz.underlying144
  a46 := Tryz.isAgg144
  z46 := Tryz.sizeOf144
  v46 := Tryz.zeroValue144
  t51 := Tryz.underlying83
  a51 := Tryz.isAgg83
  z51 := Tryz.sizeOf83
  v51 := Tryz.zeroValue83
  t53 := Tryz.underlying202
  a53 := Tryz.isAgg202
  z53 := Tryz.sizeOf202
  v53 := Tryz.zeroValue202
  t75 := Tryz.underlying101
  a75 := Tryz.isAgg101
  z75 := Tryz.sizeOf101
  v75 := Tryz.zeroValue101
  t76 := Tryz.underlying102
  a76 := Tryz.isAgg102
  z76 := Tryz.sizeOf102
  v76 := Tryz.zeroValue102
  t85 := Tryz.underlying219
  a85 := Tryz.isAgg219
  z85 := Tryz.sizeOf219
  v85 := Tryz.zeroValue219
  t127 := Tryz.underlying151
  a127 := Tryz.isAgg151
  z127 := Tryz.sizeOf151
  v127 := Tryz.zeroValue151
  t143 := Tryz.underlying256
  a143 := Tryz.isAgg256
  z143 := Tryz.sizeOf256
  v143 := Tryz.zeroValue256
  t145 := Tryz.underlying258
  a145 := Tryz.isAgg258
  z145 := Tryz.sizeOf258
  v145 := Tryz.zeroValue258
  t167 := Tryz.underlying218
  a167 := Tryz.isAgg218
  z167 := Tryz.sizeOf218
  v167 := Tryz.zeroValue218
  t168 := Tryz.underlying221
  a168 := Tryz.isAgg221
  z168 := Tryz.sizeOf221
  v168 := Tryz.zeroValue221
  t171 := Tryz.underlying207
  a171 := Tryz.isAgg207
  z171 := Tryz.sizeOf207
  v171 := Tryz.zeroValue207
  t173 := Tryz.underlying209
  a173 := Tryz.isAgg209
  z173 := Tryz.sizeOf209
  v173 := Tryz.zeroValue209
  t175 := Tryz.underlying244
  a175 := Tryz.isAgg244
  z175 := Tryz.sizeOf244
  v175 := Tryz.zeroValue244
  t210 := Tryz.underlying248
  a210 := Tryz.isAgg248
  z210 := Tryz.sizeOf248
  v210 := Tryz.zeroValue248
  t212 := Tryz.underlying239
  a212 := Tryz.isAgg239
  z212 := Tryz.sizeOf239
  v212 := Tryz.zeroValue239
  t213 := Tryz.underlying240
  a213 := Tryz.isAgg240
  z213 := Tryz.sizeOf240
  t232 := Tryz.underlying260
  a232 := Tryz.isAgg260
  z232 := Tryz.sizeOf260
  v232 := Tryz.zeroValue260
  t233 := Tryz.underlying261
  a233 := Tryz.isAgg261
  z233 := Tryz.sizeOf261
  v233 := Tryz.zeroValue261
  g15 := by kernel_rfl
  g16 := by kernel_rfl
  g17 := by kernel_rfl
  g18 := by kernel_rfl
  g19 := by kernel_rfl
  t80 := Tryz.underlying107
  a80 := Tryz.isAgg107
  z80 := Tryz.sizeOf107
  v80 := Tryz.zeroValue107
  i0 := by kernel_rfl
  i2 := by kernel_rfl
  i3 := by kernel_rfl
  i4 := by kernel_rfl
  i5 := by kernel_rfl
  i9 := by kernel_rfl
  i20 := by kernel_rfl
  i21 := by kernel_rfl
  i37 := by kernel_rfl
  i46 := by kernel_rfl
  i51 := by kernel_rfl
  i53 := by kernel_rfl
  i75 := by kernel_rfl
  i76 := by kernel_rfl
  i80 := by kernel_rfl
  i85 := by kernel_rfl
  i127 := by kernel_rfl
  i143 := by kernel_rfl
  i145 := by kernel_rfl
  i167 := by kernel_rfl
  i168 := by kernel_rfl
  i171 := by kernel_rfl
  i173 := by kernel_rfl
  i175 := by kernel_rfl
  i210 := by kernel_rfl
  i212 := by kernel_rfl
  i232 := by kernel_rfl
  i233 := by kernel_rfl
  m15 := by kernel_rfl
  m16 := by kernel_rfl
  m17 := by kernel_rfl
  m18 := by kernel_rfl
  m19 := by kernel_rfl
  c0 := by kernel_rfl
  c2 := by kernel_rfl
  c3 := by kernel_rfl
  c4 := by kernel_rfl
  c5 := by kernel_rfl
  c9 := by kernel_rfl
  c20 := by kernel_rfl
  c21 := by kernel_rfl
  c37 := by kernel_rfl
  c46 := by kernel_rfl
  c51 := by kernel_rfl
  c53 := by kernel_rfl
  c75 := by kernel_rfl
  c76 := by kernel_rfl
  c80 := by kernel_rfl
  c85 := by kernel_rfl
  c127 := by kernel_rfl
  c143 := by kernel_rfl
  c145 := by kernel_rfl
  c167 := by kernel_rfl
  c168 := by kernel_rfl
  c171 := by kernel_rfl
  c173 := by kernel_rfl
  c175 := by kernel_rfl
  c210 := by kernel_rfl
  c212 := by kernel_rfl
  c213 := by kernel_rfl
  c232 := by kernel_rfl
  c233 := by kernel_rfl }
open Go.RowKit in
/-- strconv.Atoi, AT EVERY STRING THAT SPELLS AN int ('Lib.atoiAll .. = .ok v'; of whatever length: leading zeros count): v, AND NO ERROR. The world: asl it was, or with the one new row that '[]byte(..)' lays. (LAID: no walk: one application.) -/
theorem Tryz.strconv_Atoi_ok (s : ByteArray) (hmax : s.size ≤ 9223372036854775806) (v : Int) (h : Lib.atoiAll s.data.toList = .ok v) (w : World) :
    Calls Tryz.prog 101 #[.string s] w fun e w' => e = .returned (.tuple #[.int .i64 v, .nilIface]) ∧ (w' = w ∨ ∃ t, w' = Lib.bytesWorld w 5 t) := Any.strconv_Atoi_ok Tryz.laysC172 s hmax v h w
open Go.RowKit in
theorem Tryz.strconv_Atoi_syntax_var (s : ByteArray) (hlim : s.size ≤ 281474976710656) (h : Lib.atoiAll s.data.toList = Lib.NumEnd.syntax) (tp : TypeId) (p : Value) (w : World) (hvar : w.var? Tryz.prog "strconv.ErrSyntax" = some #[.iface tp p]) :
    Calls Tryz.prog 101 #[.string s] w fun e w' => ∃ N, e = .returned (.tuple #[.int .i64 0, .iface 221 (.pointer (some ⟨N, 0, none⟩))]) ∧ w.heap.size ≤ N ∧ w'.heap[N]? = some (.cells #[.string ⟨#[65, 116, 111, 105]⟩, .string s, .iface tp p] 248 (0, 0)) ∧ Below w.heap.size w w' := Any.strconv_Atoi_syntax_var Tryz.laysC172 s hlim h tp p w hvar
open Go.RowKit in
theorem Tryz.strconv_Atoi_range_var (s : ByteArray) (hlim : s.size ≤ 281474976710656) (h : Lib.atoiAll s.data.toList = .range) (tp : TypeId) (p : Value) (w : World) (hvar : w.var? Tryz.prog "strconv.ErrRange" = some #[.iface tp p]) :
    Calls Tryz.prog 101 #[.string s] w fun e w' => ∃ N, e = .returned (.tuple #[.int .i64 (Lib.atoiSat s.data.toList), .iface 221 (.pointer (some ⟨N, 0, none⟩))]) ∧ w.heap.size ≤ N ∧ w'.heap[N]? = some (.cells #[.string ⟨#[65, 116, 111, 105]⟩, .string s, .iface tp p] 248 (0, 0)) ∧ Below w.heap.size w w' := Any.strconv_Atoi_range_var Tryz.laysC172 s hlim h tp p w hvar
def Tryz.lays101_ren : Go.Shelf.Ren := ⟨fun | 101 => 102 | 208 => 126 | 206 => 168 | n => n, fun | 9 => 9 | 4 => 4 | 3 => 3 | n => n, fun | n => n⟩
theorem Tryz.lays101 : Go.Proofs.Lays.n101 Tryz.prog Tryz.lays101_ren := {
  mixed := by kernel_rfl
  f101 := Tryz.func102.trans (congrArg some (by kernel_rfl))
  f206 := Tryz.func168.trans (congrArg some (by kernel_rfl))
  f208 := Tryz.func126.trans (congrArg some (by kernel_rfl))
  t3 := Tryz.underlying3
  a3 := Tryz.isAgg3
  z3 := Tryz.sizeOf3
  v3 := Tryz.zeroValue3
  t4 := Tryz.underlying4
  a4 := Tryz.isAgg4
  z4 := Tryz.sizeOf4
  v4 := Tryz.zeroValue4
  t9 := Tryz.underlying9
  a9 := Tryz.isAgg9
  z9 := Tryz.sizeOf9
  v9 := Tryz.zeroValue9 }
open Go.RowKit Go.Lib in
/-- strings.TrimPrefix: "TrimPrefix returns s without the provided leading prefix string. If s doesn't start with prefix, s is returned unchanged.": IT RETURNS 'Lib.trimPrefix s prefix'; the world is asl it was. (LAID: no walk: one application.) -/
theorem Tryz.strings_TrimPrefix (s p : ByteArray) (w : World) :
    Calls Tryz.prog 102 #[.string s, .string p] w fun e w' => e = .returned (.string ⟨(Lib.trimPrefix s.data.toList p.data.toList).toArray⟩) ∧ w' = w := Any.strings_TrimPrefix Tryz.lays101 s p w
end Go.Proofs
namespace Go.Proofs
open Go.Fs
open Go.Shelf
open Go.RowKit (Below)
theorem tzAll : (Tryz.prog.funcs.toList.all fun fn => match fn.body with | some c => codeOk c && !(fn.name == "runtime.NumGoroutine") | none => true) = true := by kernel_rfl
theorem tzMixed : Tryz.prog.follows .mixedOrders = true := by kernel_rfl
theorem tzOk : ProgOk Tryz.prog where
  mixed := tzMixed
  name := fun f fn hf hb => by
    have := List.all_eq_true.1 tzAll fn (by rw [Array.mem_toList_iff]; exact Array.mem_of_getElem? hf)
    cases hx : fn.body with
    | none => rw [hx] at hb; cases hb
    | some c => rw [hx] at this; simpa using (band this).2
  code := fun f fn c hf hb => by
    have := List.all_eq_true.1 tzAll fn (by rw [Array.mem_toList_iff]; exact Array.mem_of_getElem? hf); rw [hb] at this; exact (band this).1
theorem tzItoa : Fs.Enters Tryz.prog 96 := ⟨_, Tryz.func96, rfl, by kernel_rfl⟩
theorem tzCheck : Fs.Enters Tryz.prog 95 := ⟨_, Tryz.func95, rfl, by kernel_rfl⟩
theorem tzAwakeE : Fs.Enters Tryz.prog 6 := ⟨_, Tryz.func6, rfl, by kernel_rfl⟩
def tzRen : Go.Shelf.Ren := ⟨fun | 240 => 95 | 276 => 119 | n => n, fun | 0 => 0 | 4 => 4 | 9 => 9 | 20 => 20 | 70 => 97 | 72 => 99 | 164 => 180 | 37 => 26 | n => n, fun | n => n⟩
theorem tzLays : Go.Proofs.Lays.n240 Tryz.prog tzRen := {
  mixed := by kernel_rfl
  f240 := Tryz.func95.trans (congrArg some (by kernel_rfl))
  f276 := Tryz.func119.trans (congrArg some (by kernel_rfl))
  t0 := Tryz.underlying0
  a0 := Tryz.isAgg0
  z0 := Tryz.sizeOf0
  v0 := Tryz.zeroValue0
  t4 := Tryz.underlying4
  a4 := Tryz.isAgg4
  z4 := Tryz.sizeOf4
  v4 := Tryz.zeroValue4
  t9 := Tryz.underlying9
  a9 := Tryz.isAgg9
  z9 := Tryz.sizeOf9
  v9 := Tryz.zeroValue9
  t20 := Tryz.underlying20
  a20 := Tryz.isAgg20
  z20 := Tryz.sizeOf20
  v20 := Tryz.zeroValue20
  t70 := Tryz.underlying97
  a70 := Tryz.isAgg97
  z70 := Tryz.sizeOf97
  v70 := Tryz.zeroValue97
  t72 := Tryz.underlying99
  a72 := Tryz.isAgg99
  z72 := Tryz.sizeOf99
  v72 := Tryz.zeroValue99
  t164 := Tryz.underlying180
  a164 := Tryz.isAgg180
  z164 := Tryz.sizeOf180
  v164 := Tryz.zeroValue180 }
theorem tzX72 : Builder.X72 Tryz.prog tzRen := { sizeBuilder := by kernel_rfl, liesBuilder := by kernel_rfl }
/-- No package variable is read. -/
def tzG : List (Nat × TypeId × List Value) := []
abbrev OB := orcB 96 96 95 99
theorem tzOrc {B : Nat} {w0 : World} (hz : w0.drawn = 0) (hB : w0.heap.size ≤ B) (ht : ∀ w, Below B w0 w → Lib.TabIs Tryz.prog w "internal/strconv.uint64pow10" .u64 Lib.pow10Tab) : CallSound Tryz.prog B w0 (orcS 96 96) :=
  orcI_sound hz tzItoa (fun n w hw h0 h1 => (Tryz.internal_strconv_Itoa n h0 h1 w (ht w hw)).mono fun e w' ⟨he, k, os, hw'⟩ => ⟨he, by rw [hw']; exact Lib.below_grow _ _ (Nat.le_refl _) _ _⟩)
theorem tzOrcB {B : Nat} {w0 : World} (hz : w0.drawn = 0) (hB : w0.heap.size ≤ B) (ht : ∀ w, Below B w0 w → Lib.TabIs Tryz.prog w "internal/strconv.uint64pow10" .u64 Lib.pow10Tab) : CallSound Tryz.prog B w0 OB :=
  orcB_sound hz (tzOrc hz hB ht) tzCheck (fun b w h0 h1 h2 => Any.Builder_copyCheck_fresh tzLays tzX72 b w h0 h1 h2) (fun b w h0 => Any.Builder_copyCheck_used tzLays tzX72 b w h0)
end Go.Proofs
namespace Go.Proofs
open Go.Fs
noncomputable def tzC : Code := match Tryz.f6.body with | some c => c | none => .skip
noncomputable def tzx0 : Tr := (.node (.bool false) (.node (.bool false) .leaf .leaf) .leaf)
noncomputable def tzx1 : Tr := (.node (.int .i64 0) (.node (.int .i64 0) .leaf .leaf) .leaf)
noncomputable def tzx2 : Tr := (.node (.int .i64 0) (.node (.slice none 0 0) .leaf .leaf) .leaf)
noncomputable def tzx3 : Tr := (.node (.agg #[.int .i64 0, .int .i64 0, .int .i64 1]) .leaf .leaf)
noncomputable def tzx4 : Tr := (.node (.tuple #[.slice (some ⟨62, 0, none⟩) 7 0, .int .i64 0]) .leaf .leaf)
noncomputable def tzx5 : Tr := (.node (.tuple #[.slice (some ⟨291, 0, none⟩) 1 0, .int .i64 0]) .leaf .leaf)
noncomputable def tzx6 : Tr := (.node (.tuple #[.slice (some ⟨318, 0, none⟩) 3 0, .int .i64 0]) .leaf .leaf)
noncomputable def tzx7 : Tr := (.node (.tuple #[.slice (some ⟨268, 0, none⟩) 3 0, .int .i64 0]) .leaf .leaf)
noncomputable def tzx8 : Tr := (.node (.slice (some ⟨1, 0, none⟩) 2 0) (.node (.bool false) .leaf .leaf) .leaf)
noncomputable def tzx9 : Tr := (.node (.slice (some ⟨2, 0, none⟩) 1 0) (.node (.bool false) .leaf .leaf) .leaf)
noncomputable def tzx10 : Tr := (.node (.int .i64 0) (.node (.slice (some ⟨55, 0, none⟩) 2 0) .leaf .leaf) .leaf)
noncomputable def tzx11 : Tr := (.node (.slice (some ⟨54, 0, none⟩) 2 0) (.node (.int .i64 7) .leaf .leaf) .leaf)
noncomputable def tzx12 : Tr := (.node (.slice (some ⟨55, 0, none⟩) 2 0) (.node (.bool false) .leaf .leaf) .leaf)
noncomputable def tzx13 : Tr := (.node (.slice (some ⟨51, 0, none⟩) 2 0) (.node (.bool false) .leaf .leaf) .leaf)
noncomputable def tzx14 : Tr := (.node (.bool true) (.node (.slice (some ⟨149, 0, none⟩) 7 0) .leaf .leaf) .leaf)
noncomputable def tzx15 : Tr := (.node (.int .i64 0) (.node (.agg #[.int .i64 5, .int .i64 6]) .leaf .leaf) .leaf)
noncomputable def tzx16 : Tr := (.node (.agg #[.int .i64 2, .int .i64 4]) (.node (.bool false) .leaf .leaf) .leaf)
noncomputable def tzx17 : Tr := (.node (.slice (some ⟨114, 0, none⟩) 1 0) (.node (.bool false) .leaf .leaf) .leaf)
noncomputable def tzx18 : Tr := (.node (.int .i64 0) (.node (.slice (some ⟨151, 0, none⟩) 1 0) .leaf .leaf) .leaf)
noncomputable def tzx19 : Tr := (.node (.int .i64 0) (.node (.slice (some ⟨154, 0, none⟩) 3 0) .leaf .leaf) .leaf)
noncomputable def tzx20 : Tr := (.node (.agg #[.int .i64 6, .int .i64 7]) (.node (.bool false) .leaf .leaf) .leaf)
noncomputable def tzx21 : Tr := (.node (.int .i64 0) tzx3 .leaf)
noncomputable def tzx22 : Tr := (.node (.slice (some ⟨55, 0, none⟩) 2 0) (.node (.pointer (some ⟨144, 5, none⟩)) .leaf .leaf) .leaf)
noncomputable def tzx23 : Tr := (.node (.slice (some ⟨62, 0, none⟩) 7 0) (.node (.pointer (some ⟨146, 3, none⟩)) .leaf .leaf) .leaf)
noncomputable def tzx24 : Tr := (.node (.agg #[.int .i64 0, .int .i64 2]) (.node (.pointer (some ⟨146, 2, none⟩)) .leaf .leaf) .leaf)
noncomputable def tzx25 : Tr := (.node (.slice (some ⟨53, 0, none⟩) 2 0) (.node (.slice (some ⟨118, 0, none⟩) 7 0) .leaf .leaf) .leaf)
noncomputable def tzx26 : Tr := (.node (.slice (some ⟨118, 0, none⟩) 7 0) (.node (.slice (some ⟨151, 0, none⟩) 1 0) .leaf .leaf) .leaf)
noncomputable def tzx27 : Tr := (.node (.agg #[.int .i64 7, .int .i64 9]) (.node (.slice (some ⟨144, 0, none⟩) 7 0) .leaf .leaf) .leaf)
noncomputable def tzx28 : Tr := (.node (.tuple #[.slice (some ⟨62, 0, none⟩) 7 0, .int .i64 0]) (.node (.bool false) .leaf .leaf) .leaf)
noncomputable def tzx29 : Tr := (.node (.agg #[.string ⟨#[97]⟩, .int .i64 0, .slice (some ⟨152, 0, none⟩) 3 0, .slice none 0 0]) .leaf .leaf)
noncomputable def tzx30 : Tr := (.node (.tuple #[.slice (some ⟨62, 0, none⟩) 7 0, .int .i64 0]) (.node (.float .f32 1069547520) .leaf .leaf) .leaf)
noncomputable def tzx31 : Tr := (.node (.agg #[.string ⟨#[114, 97, 110, 103, 101]⟩, .int .i64 0, .int .i64 48]) (.node (.bool false) .leaf .leaf) .leaf)
noncomputable def tzx32 : Tr := (.node (.agg #[.string ⟨#[98]⟩, .int .i64 0, .slice (some ⟨153, 0, none⟩) 3 0, .slice (some ⟨151, 0, none⟩) 1 0]) .leaf .leaf)
noncomputable def tzx33 : Tr := (.node (.agg #[.string ⟨#[97]⟩, .int .i64 0, .slice (some ⟨233, 0, none⟩) 3 0, .slice (some ⟨239, 0, none⟩) 1 0]) .leaf .leaf)
noncomputable def tzx34 : Tr := (.node (.tuple #[.slice (some ⟨118, 0, none⟩) 7 0, .int .i64 0]) (.node (.slice (some ⟨150, 0, none⟩) 1 0) .leaf .leaf) .leaf)
noncomputable def tzx35 : Tr := (.node (.tuple #[.slice (some ⟨118, 0, none⟩) 7 0, .int .i64 0]) (.node (.agg #[.int .i64 2, .int .i64 3]) .leaf .leaf) .leaf)
noncomputable def tzx36 : Tr := (.node (.agg #[.string ⟨#[99]⟩, .int .i64 0, .slice (some ⟨154, 0, none⟩) 3 0, .slice (some ⟨151, 0, none⟩) 1 0]) .leaf .leaf)
noncomputable def tzx37 : Tr := (.node (.agg #[.string ⟨#[106, 117, 109, 112]⟩, .int .i64 16, .int .i64 0]) (.node (.pointer (some ⟨146, 2, none⟩)) .leaf .leaf) .leaf)
noncomputable def tzx38 : Tr := (.node (.agg #[.string ⟨#[115, 116, 117, 99, 107]⟩, .int .i64 2, .int .i64 0]) (.node (.slice (some ⟨144, 0, none⟩) 7 0) .leaf .leaf) .leaf)
noncomputable def tzx39 : Tr := (.node (.int .i64 0) tzx33 .leaf)
noncomputable def tzx40 : Tr := (.node (.int .i64 0) tzx36 .leaf)
noncomputable def tzx41 : Tr := (.node (.tuple #[.agg #[.string ⟨#[104, 111, 111, 107]⟩, .int .i64 10, .slice (some ⟨95, 0, none⟩) 7 0, .slice (some ⟨109, 0, none⟩) 2 0], .int .i64 0]) .leaf .leaf)
noncomputable def tzx42 : Tr := (.node (.agg #[.string ⟨#[104, 111, 111, 107]⟩, .int .i64 10, .slice (some ⟨75, 0, none⟩) 7 0, .slice (some ⟨76, 0, none⟩) 1 0]) (.node (.bool false) .leaf .leaf) .leaf)
noncomputable def tzx43 : Tr := (.node (.agg #[.string ⟨#[104, 111, 111, 107]⟩, .int .i64 10, .slice (some ⟨57, 0, none⟩) 7 0, .slice (some ⟨58, 0, none⟩) 1 0]) (.node (.bool false) .leaf .leaf) .leaf)
noncomputable def tzx44 : Tr := (.node (.agg #[.string ⟨#[104, 111, 111, 107]⟩, .int .i64 10, .slice (some ⟨112, 0, none⟩) 7 0, .slice (some ⟨113, 0, none⟩) 1 0]) (.node (.bool true) .leaf .leaf) .leaf)
noncomputable def tzx45 : Tr := (.node (.slice (some ⟨141, 0, none⟩) 1 0) tzx32 .leaf)
noncomputable def tzx46 : Tr := (.node (.agg #[.string ⟨#[104, 111, 111, 107]⟩, .int .i64 10, .slice (some ⟨144, 0, none⟩) 7 0, .slice none 0 0]) (.node (.slice (some ⟨151, 0, none⟩) 1 0) .leaf .leaf) .leaf)
noncomputable def tzx47 : Tr := (.node (.int .i64 0) tzx22 tzx1)
noncomputable def tzx48 : Tr := (.node (.int .i64 0) tzx11 tzx18)
noncomputable def tzx49 : Tr := (.node (.agg #[.string ⟨#[104, 111, 111, 107]⟩, .int .i64 10, .slice (some ⟨95, 0, none⟩) 7 0, .slice (some ⟨109, 0, none⟩) 2 0]) (.node (.slice (some ⟨141, 0, none⟩) 1 0) .leaf .leaf) .leaf)
noncomputable def tzx50 : Tr := (.node (.tuple #[.agg #[.string ⟨#[104, 111, 111, 107]⟩, .int .i64 10, .slice (some ⟨95, 0, none⟩) 7 0, .slice (some ⟨109, 0, none⟩) 2 0], .int .i64 0]) (.node (.bool false) .leaf .leaf) .leaf)
noncomputable def tzx51 : Tr := (.node (.tuple #[.agg #[.string ⟨#[104, 111, 111, 107]⟩, .int .i64 10, .slice (some ⟨95, 0, none⟩) 7 0, .slice (some ⟨109, 0, none⟩) 2 0], .int .i64 0]) (.node (.int .i64 0) .leaf .leaf) .leaf)
noncomputable def tzx52 : Tr := (.node (.tuple #[.agg #[.string ⟨#[97]⟩, .int .i64 0, .slice (some ⟨233, 0, none⟩) 3 0, .slice (some ⟨239, 0, none⟩) 1 0], .agg #[.int .i64 0, .int .i64 0, .int .i64 1], .int .i64 0]) .leaf .leaf)
noncomputable def tzx53 : Tr := (.node (.slice (some ⟨1, 0, none⟩) 2 0) tzx16 tzx17)
noncomputable def tzx54 : Tr := (.node (.int .i64 0) tzx52 .leaf)
noncomputable def tzx55 : Tr := (.node (.slice (some ⟨34, 0, none⟩) 2 0) tzx27 tzx19)
noncomputable def tzx56 : Tr := (.node (.tuple #[.agg #[.string ⟨#[104, 111, 111, 107]⟩, .int .i64 10, .slice (some ⟨144, 0, none⟩) 7 0, .slice none 0 0], .slice (some ⟨141, 0, none⟩) 1 0, .int .i64 0]) (.node (.slice (some ⟨152, 0, none⟩) 3 0) .leaf .leaf) .leaf)
noncomputable def tzx57 : Tr := (.node (.tuple #[.agg #[.string ⟨#[104, 111, 111, 107]⟩, .int .i64 10, .slice (some ⟨144, 0, none⟩) 7 0, .slice none 0 0], .slice (some ⟨141, 0, none⟩) 1 0, .int .i64 0]) (.node (.slice (some ⟨153, 0, none⟩) 3 0) .leaf .leaf) .leaf)
noncomputable def tzx58 : Tr := (.node (.agg #[.string ⟨#[104, 111, 111, 107]⟩, .int .i64 10, .slice (some ⟨128, 0, none⟩) 7 0, .slice (some ⟨129, 0, none⟩) 1 0]) tzx29 .leaf)
noncomputable def tzx59 : Tr := (.node (.slice (some ⟨2, 0, none⟩) 1 0) tzx20 tzx35)
noncomputable def tzx60 : Tr := (.node (.tuple #[.slice (some ⟨17, 0, none⟩) 1 0, .int .i64 0]) tzx25 tzx26)
noncomputable def tzx61 : Tr := (.node (.slice (some ⟨51, 0, none⟩) 2 0) tzx38 tzx21)
noncomputable def tzx62 : Tr := (.node (.tuple #[.slice (some ⟨51, 0, none⟩) 2 0, .int .i64 0]) (.node (.bool true) (.node (.bool false) .leaf .leaf) .leaf) tzx40)
noncomputable def tzx63 : Tr := (.node (.slice (some ⟨2, 0, none⟩) 1 0) tzx13 tzx46)
noncomputable def tzx64 : Tr := (.node (.agg #[.string ⟨#[97]⟩, .int .i64 0, .slice (some ⟨152, 0, none⟩) 3 0, .slice none 0 0, .string ⟨#[98]⟩, .int .i64 0, .slice (some ⟨153, 0, none⟩) 3 0, .slice (some ⟨151, 0, none⟩) 1 0, .string ⟨#[99]⟩, .int .i64 0, .slice (some ⟨154, 0, none⟩) 3 0, .slice (some ⟨151, 0, none⟩) 1 0]) .leaf .leaf)
noncomputable def tzx65 : Tr := (.node (.int .i64 0) (.node (.bool false) (.node (.bool true) .leaf .leaf) .leaf) tzx56)
noncomputable def tzx66 : Tr := (.node (.slice (some ⟨2, 0, none⟩) 1 0) tzx0 tzx54)
noncomputable def tzx67 : Tr := (.node (.int .i64 0) tzx64 .leaf)
noncomputable def tzx68 : Tr := (.node (.slice (some ⟨1, 0, none⟩) 2 0) tzx0 tzx57)
noncomputable def tzx69 : Tr := (.node (.tuple #[.slice (some ⟨34, 0, none⟩) 2 0, .int .i64 0]) tzx24 tzx45)
noncomputable def tzx70 : Tr := (.node (.slice (some ⟨17, 0, none⟩) 1 0) tzx14 tzx54)
noncomputable def tzx71 : Tr := (.node (.tuple #[.slice (some ⟨51, 0, none⟩) 2 0, .int .i64 0]) tzx37 tzx39)
noncomputable def tzx72 : Tr := (.node (.tuple #[.slice (some ⟨34, 0, none⟩) 2 0, .int .i64 0]) tzx0 tzx58)
noncomputable def tzx73 : Tr := (.node (.slice (some ⟨1, 0, none⟩) 2 0) tzx0 tzx67)
noncomputable def tzK9 : List Nat := [109, 95, 110, 62]
noncomputable def tzT9 : Tr := (.node (.bool false) (.node (.slice (some ⟨1, 0, none⟩) 2 0) (.node (.slice (some ⟨17, 0, none⟩) 1 0) (.node (.slice (some ⟨51, 0, none⟩) 2 0) (.node (.tuple #[]) (.node (.tuple #[]) (.node (.int .i64 0) .leaf .leaf) tzx4) (.node (.int .i64 0) (.node (.bool false) .leaf .leaf) .leaf)) (.node (.tuple #[]) (.node (.slice (some ⟨1, 0, none⟩) 2 0) (.node (.bool false) .leaf .leaf) (.node (.int .i64 0) .leaf .leaf)) tzx8)) (.node (.int .i64 0) (.node (.tuple #[]) (.node (.tuple #[]) (.node (.slice (some ⟨17, 0, none⟩) 1 0) .leaf .leaf) (.node (.agg #[.string ⟨#[104, 111, 111, 107]⟩, .int .i64 10, .slice (some ⟨75, 0, none⟩) 7 0, .slice (some ⟨76, 0, none⟩) 1 0]) .leaf .leaf)) (.node (.tuple #[.slice (some ⟨34, 0, none⟩) 2 0, .int .i64 0]) (.node (.agg #[.int .i64 0, .int .i64 2]) .leaf .leaf) .leaf)) (.node (.tuple #[]) (.node (.slice (some ⟨1, 0, none⟩) 2 0) (.node (.agg #[.int .i64 2, .int .i64 4]) .leaf .leaf) .leaf) tzx10))) (.node (.slice (some ⟨34, 0, none⟩) 2 0) (.node (.slice (some ⟨55, 0, none⟩) 2 0) (.node (.tuple #[]) (.node (.tuple #[]) (.node (.bool false) .leaf .leaf) (.node (.int .i64 0) .leaf .leaf)) tzx8) (.node (.tuple #[]) tzx9 (.node (.tuple #[.slice (some ⟨51, 0, none⟩) 2 0, .int .i64 0]) (.node (.agg #[.string ⟨#[106, 117, 109, 112]⟩, .int .i64 16, .int .i64 0]) .leaf .leaf) .leaf))) (.node (.int .i64 0) (.node (.tuple #[]) (.node (.agg #[.int .i64 0, .int .i64 4]) (.node (.slice (some ⟨52, 0, none⟩) 1 0) .leaf .leaf) tzx41) (.node (.int .i64 0) (.node (.slice (some ⟨54, 0, none⟩) 2 0) .leaf .leaf) .leaf)) (.node (.tuple #[]) (.node (.tuple #[.slice (some ⟨17, 0, none⟩) 1 0, .int .i64 0]) (.node (.slice (some ⟨53, 0, none⟩) 2 0) .leaf .leaf) .leaf) (.node (.int .i64 0) (.node (.agg #[.string ⟨#[104, 111, 111, 107]⟩, .int .i64 10, .slice (some ⟨57, 0, none⟩) 7 0, .slice (some ⟨58, 0, none⟩) 1 0]) .leaf .leaf) .leaf))))) (.node (.slice (some ⟨2, 0, none⟩) 1 0) (.node (.int .i64 0) (.node (.int .i64 0) (.node (.tuple #[]) (.node (.tuple #[]) (.node (.int .i64 0) .leaf .leaf) (.node (.slice (some ⟨62, 0, none⟩) 7 0) .leaf .leaf)) (.node (.tuple #[.slice (some ⟨34, 0, none⟩) 2 0, .int .i64 0]) (.node (.bool false) .leaf .leaf) .leaf)) (.node (.tuple #[]) (.node (.agg #[.int .i64 2, .int .i64 7]) (.node (.bool false) .leaf .leaf) .leaf) tzx9)) (.node (.pointer (some ⟨110, 0, none⟩)) (.node (.tuple #[]) (.node (.tuple #[]) (.node (.agg #[.int .i64 0, .int .i64 9]) .leaf .leaf) (.node (.slice (some ⟨55, 0, none⟩) 2 0) .leaf .leaf)) (.node (.slice (some ⟨34, 0, none⟩) 2 0) (.node (.agg #[.int .i64 7, .int .i64 9]) .leaf .leaf) .leaf)) (.node (.tuple #[]) (.node (.slice (some ⟨2, 0, none⟩) 1 0) (.node (.agg #[.int .i64 6, .int .i64 7]) .leaf .leaf) .leaf) (.node (.int .i64 0) tzx4 .leaf)))) (.node (.int .i64 0) (.node (.slice (some ⟨62, 0, none⟩) 7 0) (.node (.tuple #[]) (.node (.tuple #[]) (.node (.bool false) .leaf .leaf) tzx41) (.node (.slice (some ⟨2, 0, none⟩) 1 0) (.node (.slice (some ⟨51, 0, none⟩) 2 0) .leaf .leaf) .leaf)) (.node (.tuple #[]) (.node (.tuple #[.slice (some ⟨17, 0, none⟩) 1 0, .int .i64 0]) (.node (.slice (some ⟨34, 0, none⟩) 2 0) .leaf .leaf) .leaf) (.node (.slice (some ⟨51, 0, none⟩) 2 0) (.node (.agg #[.string ⟨#[115, 116, 117, 99, 107]⟩, .int .i64 2, .int .i64 0]) .leaf .leaf) .leaf))) (.node (.tuple #[]) (.node (.tuple #[]) (.node (.agg #[.int .i64 6, .int .i64 9]) (.node (.bool true) .leaf .leaf) (.node (.agg #[.string ⟨#[104, 111, 111, 107]⟩, .int .i64 10, .slice (some ⟨95, 0, none⟩) 7 0, .slice (some ⟨109, 0, none⟩) 2 0]) .leaf .leaf)) (.node (.tuple #[.slice (some ⟨51, 0, none⟩) 2 0, .int .i64 0]) (.node (.bool true) .leaf .leaf) .leaf)) (.node (.tuple #[]) (.node (.slice (some ⟨17, 0, none⟩) 1 0) (.node (.bool true) .leaf .leaf) .leaf) tzx10)))))
noncomputable def tzF9 : Fr := ⟨tzT9, 304, []⟩
noncomputable def tzO9_0 : List (Nat × AObj) := [(110, .row 32 [.string ⟨#[104, 111, 111, 107]⟩, .int .i64 10, .slice (some ⟨95, 0, none⟩) 7 0, .slice (some ⟨109, 0, none⟩) 2 0] true false), (109, .row 53 [.int .i64 2, .int .i64 4, .int .i64 5, .int .i64 6] true true), (95, .row 68 [.float .f32 1065353216, .float .f32 1065353216, .float .f32 0, .float .f32 0, .float .f32 1069547520, .float .f32 0, .float .f32 1073741824] true false), (62, .row 3 [.int .i64 0, .int .i64 0, .int .i64 2, .int .i64 1, .int .i64 0, .int .i64 0, .int .i64 0] true false)]
noncomputable def tzL9 : List (Nat × AObj) := tzO9_0
noncomputable def tzH9 : Heap := ⟨111, 1, tzL9⟩
noncomputable def tzK14 : List Nat := [241, 239, 233, 240, 151]
noncomputable def tzT14 : Tr := (.node (.bool false) (.node (.slice (some ⟨1, 0, none⟩) 2 0) (.node (.slice (some ⟨17, 0, none⟩) 1 0) (.node (.slice (some ⟨51, 0, none⟩) 2 0) (.node (.int .i64 0) (.node (.tuple #[]) (.node (.int .i64 0) (.node (.slice (some ⟨147, 0, none⟩) 7 0) .leaf .leaf) .leaf) tzx28) tzx65) (.node (.tuple #[]) (.node (.slice (some ⟨1, 0, none⟩) 2 0) (.node (.bool false) (.node (.agg #[.int .i64 5, .int .i64 6]) .leaf .leaf) .leaf) tzx15) tzx73)) (.node (.int .i64 0) (.node (.slice (some ⟨151, 0, none⟩) 1 0) (.node (.tuple #[]) (.node (.slice (some ⟨17, 0, none⟩) 1 0) (.node (.bool false) .leaf .leaf) .leaf) tzx42) tzx69) (.node (.tuple #[]) tzx53 tzx47))) (.node (.slice (some ⟨34, 0, none⟩) 2 0) (.node (.slice (some ⟨55, 0, none⟩) 2 0) (.node (.slice (some ⟨141, 0, none⟩) 1 0) (.node (.tuple #[]) tzx0 tzx2) tzx68) (.node (.tuple #[]) (.node (.slice (some ⟨2, 0, none⟩) 1 0) (.node (.bool false) (.node (.bool true) .leaf .leaf) .leaf) tzx44) tzx71)) (.node (.int .i64 0) (.node (.pointer (some ⟨241, 0, none⟩)) (.node (.agg #[.int .i64 0, .int .i64 4]) (.node (.slice (some ⟨52, 0, none⟩) 1 0) (.node (.slice (some ⟨109, 0, none⟩) 2 0) .leaf .leaf) .leaf) tzx50) tzx48) (.node (.tuple #[]) tzx60 (.node (.int .i64 0) tzx43 (.node (.bool false) .leaf .leaf)))))) (.node (.slice (some ⟨2, 0, none⟩) 1 0) (.node (.int .i64 0) (.node (.int .i64 0) (.node (.pointer (some ⟨146, 0, none⟩)) (.node (.tuple #[]) (.node (.int .i64 0) (.node (.bool true) .leaf .leaf) .leaf) tzx23) tzx72) (.node (.tuple #[]) (.node (.agg #[.int .i64 2, .int .i64 7]) (.node (.bool false) (.node (.slice (some ⟨148, 0, none⟩) 2 0) .leaf .leaf) .leaf) tzx34) tzx66)) (.node (.pointer (some ⟨110, 0, none⟩)) (.node (.pointer (some ⟨240, 0, none⟩)) (.node (.tuple #[]) (.node (.agg #[.int .i64 0, .int .i64 9]) (.node (.pointer (some ⟨110, 3, none⟩)) .leaf .leaf) .leaf) tzx12) tzx55) (.node (.tuple #[]) tzx59 (.node (.int .i64 0) tzx30 (.node (.bool false) .leaf .leaf))))) (.node (.int .i64 0) (.node (.slice (some ⟨62, 0, none⟩) 7 0) (.node (.int .i64 0) (.node (.tuple #[]) tzx0 tzx51) tzx63) (.node (.tuple #[]) (.node (.tuple #[.slice (some ⟨17, 0, none⟩) 1 0, .int .i64 0]) (.node (.slice (some ⟨34, 0, none⟩) 2 0) (.node (.bool false) .leaf .leaf) .leaf) tzx31) tzx61)) (.node (.slice (some ⟨118, 0, none⟩) 7 0) (.node (.int .i64 0) (.node (.agg #[.int .i64 6, .int .i64 9]) (.node (.bool true) (.node (.agg #[.int .i64 2, .int .i64 4]) .leaf .leaf) .leaf) tzx49) tzx62) (.node (.tuple #[]) tzx70 (.node (.int .i64 0) tzx12 (.node (.slice (some ⟨62, 0, none⟩) 7 0) .leaf .leaf)))))))
noncomputable def tzF14 : Fr := ⟨tzT14, 304, []⟩
noncomputable def tzO14_0 : List (Nat × AObj) := [(241, .row 69 [.int .i64 0, .int .i64 0, .int .i64 1] true false), (240, .row 32 [.string ⟨#[97]⟩, .int .i64 0, .slice (some ⟨233, 0, none⟩) 3 0, .slice (some ⟨239, 0, none⟩) 1 0] true false), (239, .row 53 [.int .i64 2, .int .i64 3] true true), (233, .row 68 [.float .f32 1065353216, .float .f32 1077936128, .float .f32 0] true false), (151, .row 53 [.int .i64 2, .int .i64 3] true false)]
noncomputable def tzL14 : List (Nat × AObj) := tzO14_0
noncomputable def tzH14 : Heap := ⟨242, 1, tzL14⟩
noncomputable def tzK17 : List Nat := [318, 291, 268, 241, 239, 233, 240, 151]
noncomputable def tzT17 : Tr := (.node (.bool false) (.node (.slice (some ⟨1, 0, none⟩) 2 0) (.node (.slice (some ⟨17, 0, none⟩) 1 0) (.node (.slice (some ⟨51, 0, none⟩) 2 0) (.node (.int .i64 0) (.node (.tuple #[]) (.node (.int .i64 0) (.node (.slice (some ⟨147, 0, none⟩) 7 0) .leaf .leaf) (.node (.slice (some ⟨268, 0, none⟩) 3 0) .leaf .leaf)) tzx28) tzx65) (.node (.slice (some ⟨268, 0, none⟩) 3 0) (.node (.slice (some ⟨1, 0, none⟩) 2 0) (.node (.bool false) (.node (.agg #[.int .i64 5, .int .i64 6]) .leaf .leaf) (.node (.agg #[.string ⟨#[104, 111, 111, 107]⟩, .int .i64 10, .slice (some ⟨293, 0, none⟩) 7 0, .slice (some ⟨294, 0, none⟩) 1 0]) .leaf .leaf)) tzx15) tzx73)) (.node (.int .i64 0) (.node (.slice (some ⟨151, 0, none⟩) 1 0) (.node (.tuple #[]) (.node (.slice (some ⟨17, 0, none⟩) 1 0) (.node (.bool false) .leaf .leaf) tzx5) tzx42) tzx69) (.node (.slice (some ⟨318, 0, none⟩) 3 0) tzx53 tzx47))) (.node (.slice (some ⟨34, 0, none⟩) 2 0) (.node (.slice (some ⟨55, 0, none⟩) 2 0) (.node (.slice (some ⟨141, 0, none⟩) 1 0) (.node (.tuple #[]) (.node (.bool false) (.node (.bool false) .leaf .leaf) tzx5) tzx2) tzx68) (.node (.slice (some ⟨291, 0, none⟩) 1 0) (.node (.slice (some ⟨2, 0, none⟩) 1 0) (.node (.bool false) (.node (.bool true) .leaf .leaf) (.node (.slice (some ⟨318, 0, none⟩) 3 0) .leaf .leaf)) tzx44) tzx71)) (.node (.int .i64 0) (.node (.pointer (some ⟨241, 0, none⟩)) (.node (.agg #[.int .i64 0, .int .i64 4]) (.node (.slice (some ⟨52, 0, none⟩) 1 0) (.node (.slice (some ⟨109, 0, none⟩) 2 0) .leaf .leaf) (.node (.int .i64 0) .leaf .leaf)) tzx50) tzx48) (.node (.tuple #[]) tzx60 (.node (.int .i64 0) tzx43 (.node (.bool false) (.node (.agg #[.string ⟨#[104, 111, 111, 107]⟩, .int .i64 10, .slice (some ⟨243, 0, none⟩) 7 0, .slice (some ⟨244, 0, none⟩) 1 0]) .leaf .leaf) .leaf)))))) (.node (.slice (some ⟨2, 0, none⟩) 1 0) (.node (.int .i64 0) (.node (.int .i64 0) (.node (.pointer (some ⟨146, 0, none⟩)) (.node (.tuple #[]) (.node (.int .i64 0) (.node (.bool true) .leaf .leaf) (.node (.int .i64 0) .leaf .leaf)) tzx23) tzx72) (.node (.int .i64 0) (.node (.agg #[.int .i64 2, .int .i64 7]) (.node (.bool false) (.node (.slice (some ⟨148, 0, none⟩) 2 0) .leaf .leaf) tzx6) tzx34) tzx66)) (.node (.pointer (some ⟨110, 0, none⟩)) (.node (.pointer (some ⟨240, 0, none⟩)) (.node (.tuple #[]) (.node (.agg #[.int .i64 0, .int .i64 9]) (.node (.pointer (some ⟨110, 3, none⟩)) .leaf .leaf) (.node (.slice (some ⟨291, 0, none⟩) 1 0) .leaf .leaf)) tzx12) tzx55) (.node (.int .i64 0) tzx59 (.node (.int .i64 0) tzx30 (.node (.bool false) tzx7 .leaf))))) (.node (.int .i64 0) (.node (.slice (some ⟨62, 0, none⟩) 7 0) (.node (.int .i64 0) (.node (.tuple #[]) (.node (.bool false) (.node (.bool false) .leaf .leaf) (.node (.agg #[.string ⟨#[104, 111, 111, 107]⟩, .int .i64 10, .slice (some ⟨270, 0, none⟩) 7 0, .slice (some ⟨271, 0, none⟩) 1 0]) .leaf .leaf)) tzx51) tzx63) (.node (.int .i64 0) (.node (.tuple #[.slice (some ⟨17, 0, none⟩) 1 0, .int .i64 0]) (.node (.slice (some ⟨34, 0, none⟩) 2 0) (.node (.bool false) .leaf .leaf) (.node (.int .i64 0) .leaf .leaf)) tzx31) tzx61)) (.node (.slice (some ⟨118, 0, none⟩) 7 0) (.node (.int .i64 0) (.node (.agg #[.int .i64 6, .int .i64 9]) (.node (.bool true) (.node (.agg #[.int .i64 2, .int .i64 4]) .leaf .leaf) tzx6) tzx49) tzx62) (.node (.tuple #[]) tzx70 (.node (.int .i64 0) tzx12 (.node (.slice (some ⟨62, 0, none⟩) 7 0) tzx7 .leaf)))))))
noncomputable def tzF17 : Fr := ⟨tzT17, 304, []⟩
noncomputable def tzO17_0 : List (Nat × AObj) := [(318, .row 3 [.int .i64 0, .int .i64 4, .int .i64 6] true true), (291, .row 3 [.int .i64 0] true true), (268, .row 3 [.int .i64 0, .int .i64 3, .int .i64 6] true true)]
noncomputable def tzL17 : List (Nat × AObj) := tzO17_0 ++ tzL14
noncomputable def tzH17 : Heap := ⟨319, 1, tzL17⟩
end Go.Proofs
namespace Go.Proofs
open Go.Fs
theorem tzP9 : (runPre Tryz.prog OB 9 100000 (tzC) ⟨fillTr .leaf 0 [], Tryz.f6.ntmps, []⟩ (gHeap 1 tzG)).map (fun x => (x.1, x.2.1, x.2.2.1, gcH 1 tzK9 x.2.2.2)) = some (99991, sufx 9 tzC, tzF9, tzH9) := by kernel_rfl
end Go.Proofs
namespace Go.Proofs
open Go.Fs
theorem tzP14 : (runPre Tryz.prog OB 5 99991 (sufx 9 tzC) tzF9 tzH9).map (fun x => (x.1, x.2.1, x.2.2.1, gcH 1 tzK14 x.2.2.2)) = some (99986, sufx 14 tzC, tzF14, tzH14) := by kernel_rfl
end Go.Proofs
namespace Go.Proofs
open Go.Fs
theorem tzP17 : (runPre Tryz.prog OB 3 99986 (sufx 14 tzC) tzF14 tzH14).map (fun x => (x.1, x.2.1, x.2.2.1, gcH 1 tzK17 x.2.2.2)) = some (99983, sufx 17 tzC, tzF17, tzH17) := by kernel_rfl
end Go.Proofs
namespace Go.Proofs
open Go.Fs
theorem tzPe : (fsCodeX Tryz.prog OB 99983 none (sufx 17 tzC) tzF17 tzH17).bind (endV Tryz.prog Tryz.f6 (gHeap 1 tzG)) = some (.bool true) := by kernel_rfl
end Go.Proofs
namespace Go.Proofs
open Go.Fs
noncomputable def tzKs : List (Nat × List Nat) := [(9, tzK9), (5, tzK14), (3, tzK17)]
theorem tzRun : (fsEnter Tryz.prog (fsG Tryz.prog OB 1 100000 tzKs) 6 [] (gHeap 1 tzG)).map (·.1) = some (.bool true) := by
  rw [enter_map (c := tzC) Tryz.func6 rfl (by rfl)]; rw [fsG_eq (by kernel_rfl) (by kernel_rfl)]; unfold tzKs; show (runG Tryz.prog OB 1 _ 100000 tzC ⟨fillTr .leaf 0 [], Tryz.f6.ntmps, []⟩ (gHeap 1 tzG)).bind _ = _; rw [run_viaG tzP9]; rw [run_viaG tzP14]; rw [run_viaG tzP17]; exact tzPe
end Go.Proofs
namespace Go.Proofs
open Go.Fs Go.RowKit
set_option maxHeartbeats 40000000
set_option maxRecDepth 100000
theorem tqE101 : ∀ args w, (callFunc 101 args).run Tryz.prog w = .ok (.enter 101 args) w := enters_of Tryz.func101 (by kernel_rfl) rfl
theorem tqE102 : ∀ args w, (callFunc 102 args).run Tryz.prog w = .ok (.enter 102 args) w := enters_of Tryz.func102 (by kernel_rfl) rfl
theorem tqE55 : ∀ args w, (callFunc 55 args).run Tryz.prog w = .ok (.enter 55 args) w := enters_of Tryz.func55 (by kernel_rfl) rfl
theorem tqBad {s : ByteArray} (hs : s.size ≤ 1000000000) (w : World) {tp : TypeId} {p : Value} (h : Lib.atoiAll s.data.toList = Lib.NumEnd.syntax) (hvar : w.var? Tryz.prog "strconv.ErrSyntax" = some #[.iface tp p]) :
    Calls Tryz.prog 61 #[.string s] w fun e w' => e = .returned (.tuple #[.int .i64 0, .bool false]) ∧ Below w.heap.size w w' := by
  have e101 := tqE101
  go_enter Tryz.func61, (rfl : Tryz.f61.ntmps = _)
  go_wp2_with (go_at_fn 101; refine (Tryz.strconv_Atoi_syntax_var s (by omega) h tp p w hvar).mono ?_; rintro e w' ⟨N, rfl, h1, h2, h3⟩)
  refine bodyPost_ret (v := .tuple #[.int .i64 0, .bool false]) (by kernel_rfl) rfl ⟨rfl, h3⟩
theorem tqRng {s : ByteArray} (hs : s.size ≤ 1000000000) (w : World) {tp : TypeId} {p : Value} (h : Lib.atoiAll s.data.toList = .range) (hvar : w.var? Tryz.prog "strconv.ErrRange" = some #[.iface tp p]) :
    Calls Tryz.prog 61 #[.string s] w fun e w' => e = .returned (.tuple #[.int .i64 (Lib.atoiSat s.data.toList), .bool false]) ∧ Below w.heap.size w w' := by
  have e101 := tqE101
  go_enter Tryz.func61, (rfl : Tryz.f61.ntmps = _)
  go_wp2_with (go_at_fn 101; refine (Tryz.strconv_Atoi_range_var s (by omega) h tp p w hvar).mono ?_; rintro e w' ⟨N, rfl, h1, h2, h3⟩)
  refine bodyPost_ret (v := .tuple #[.int .i64 (Lib.atoiSat s.data.toList), .bool false]) (by kernel_rfl) rfl ⟨rfl, h3⟩
theorem tqWorld {w W : World} (hW : W = w ∨ ∃ t, W = Lib.bytesWorld w 5 t) : Below w.heap.size w W := by
  rcases hW with rfl | ⟨t, rfl⟩
  · exact Below.refl _ _
  · exact Lib.bytesWorld_below _ _ _
theorem tqNo {s : ByteArray} (hs : s.size ≤ 1000000000) (w : World) {v : Int} (h : Lib.atoiAll s.data.toList = .ok v) (hq : ¬ Lib.itoa v = s.toList) (h0 : -9223372036854775808 ≤ v) (h1 : v ≤ 9223372036854775807) (ht : ∀ w', Below w.heap.size w w' → Lib.TabIs Tryz.prog w' "internal/strconv.uint64pow10" .u64 Lib.pow10Tab) :
    Calls Tryz.prog 61 #[.string s] w fun e w' => e = .returned (.tuple #[.int .i64 v, .bool false]) ∧ Below w.heap.size w w' := by
  have e101 := tqE101; have e55 := tqE55
  go_enter Tryz.func61, (rfl : Tryz.f61.ntmps = _)
  go_wp2_with (first | (go_at_fn 101; refine (Tryz.strconv_Atoi_ok s (by omega) v h w).mono ?_; rintro e W1 ⟨rfl, hW⟩) | (go_at_fn 55; refine (Tryz.strconv_Itoa v h0 h1 _ (ht _ (tqWorld hW))).mono ?_; rintro e W3 ⟨rfl, k, os, hW3⟩))
  refine bodyPost_ret (v := .tuple #[.int .i64 v, .bool false]) (by kernel_rfl) rfl ⟨rfl, ?_⟩; exact (tqWorld hW).trans ((Lib.below_grow _ _ (Nat.le_refl _) _ _).mono (tqWorld hW).size)
theorem tqYes {s : ByteArray} (hs : s.size ≤ 1000000000) (w : World) {v : Int} (h : Lib.atoiAll s.data.toList = .ok v) (hq : Lib.itoa v = s.toList) (h0 : -9223372036854775808 ≤ v) (h1 : v ≤ 9223372036854775807) (ht : ∀ w', Below w.heap.size w w' → Lib.TabIs Tryz.prog w' "internal/strconv.uint64pow10" .u64 Lib.pow10Tab) :
    Calls Tryz.prog 61 #[.string s] w fun e w' => e = .returned (.tuple #[.int .i64 v, .bool (decide ((((Lib.trimPrefix s.data.toList [45]).length : Nat) : Int) ≤ 9))]) ∧ Below w.heap.size w w' := by
  have e101 := tqE101; have e102 := tqE102; have e55 := tqE55
  go_enter Tryz.func61, (rfl : Tryz.f61.ntmps = _)
  go_wp2_with (first | (go_at_fn 101; refine (Tryz.strconv_Atoi_ok s (by omega) v h w).mono ?_; rintro e W1 ⟨rfl, hW⟩) | (go_at_fn 102; refine (Tryz.strings_TrimPrefix s ⟨#[45]⟩ _).mono ?_; rintro e W2 ⟨rfl, rfl⟩) | (go_at_fn 55; refine (Tryz.strconv_Itoa v h0 h1 _ (ht _ (tqWorld hW))).mono ?_; rintro e W3 ⟨rfl, k, os, hW3⟩))
  refine bodyPost_ret (v := .tuple #[.int .i64 v, .bool (decide ((((Lib.trimPrefix s.data.toList [45]).length : Nat) : Int) ≤ 9))]) (by kernel_rfl) rfl ⟨rfl, ?_⟩; exact (tqWorld hW).trans ((Lib.below_grow _ _ (Nat.le_refl _) _ _).mono (tqWorld hW).size)
theorem tqTrim (l : List UInt8) : Lib.trimPrefix l [45] = noSign l := by
  unfold Lib.trimPrefix Lib.hasPrefix noSign
  cases l with
  | nil => rfl
  | cons c r =>
    by_cases hc : c = 45
    · subst hc; simp
    · simp [hc, Ne.symm hc]
/-- gauge.integer answers asl the oracle does. -/
theorem tqAll {s : ByteArray} (hs : s.size ≤ 1000000000) (w : World) (ht : ∀ w', Below w.heap.size w w' → Lib.TabIs Tryz.prog w' "internal/strconv.uint64pow10" .u64 Lib.pow10Tab)
    {t1 t2 : TypeId} {p1 p2 : Value} (hv1 : w.var? Tryz.prog "strconv.ErrSyntax" = some #[.iface t1 p1]) (hv2 : w.var? Tryz.prog "strconv.ErrRange" = some #[.iface t2 p2]) :
    Calls Tryz.prog 61 #[.string s] w fun | .returned v', w' => v' = .tuple #[.int .i64 (atoV s), .bool (atoK s)] ∧ Below w.heap.size w w' | _, _ => False := by
  have fin : ∀ {a : Int} {b : Bool}, atoV s = a → atoK s = b → Calls Tryz.prog 61 #[.string s] w (fun e w' => e = .returned (.tuple #[.int .i64 a, .bool b]) ∧ Below w.heap.size w w') → Calls Tryz.prog 61 #[.string s] w fun | .returned v', w' => v' = .tuple #[.int .i64 (atoV s), .bool (atoK s)] ∧ Below w.heap.size w w' | _, _ => False := fun ha hb hc => hc.mono fun e w' he => by
    obtain ⟨rfl, h2⟩ := he; exact ⟨by rw [ha, hb], h2⟩
  match h : Lib.atoiAll s.data.toList with
  | Lib.NumEnd.syntax => exact fin (by unfold atoV; rw [h]) (by unfold atoK; rw [h]) (tqBad hs w h hv1)
  | Lib.NumEnd.range => exact fin (by unfold atoV; rw [h]) (by unfold atoK; rw [h]) (tqRng hs w h hv2)
  | Lib.NumEnd.ok v =>
    obtain ⟨h0, h1⟩ := Lib.atoiAll_bounds h
    have hd : decide ((⟨(Lib.itoa v).toArray⟩ : ByteArray) = s) = decide (Lib.itoa v = s.toList) := by
      rw [Bool.eq_iff_iff, decide_eq_true_eq, decide_eq_true_eq, Lib.toList_data]; constructor
      · intro h; rw [← h]
      · intro h; rw [h]
    by_cases hq : Lib.itoa v = s.toList
    · refine fin (a := v) (by unfold atoV; rw [h]) ?_ (tqYes hs w h hq h0 h1 ht); unfold atoK; rw [h]; show (decide ((noSign s.data.toList).length ≤ 9) && _) = _; rw [← tqTrim, hd, decide_eq_true hq, Bool.and_true, Bool.eq_iff_iff, decide_eq_true_eq, decide_eq_true_eq]; omega
    · refine fin (a := v) (by unfold atoV; rw [h]) ?_ (tqNo hs w h hq h0 h1 ht); unfold atoK; rw [h]; show (decide ((noSign s.data.toList).length ≤ 9) && _) = _; rw [hd, decide_eq_false hq, Bool.and_false]
end Go.Proofs
namespace Go.Proofs.YteooaaiacpcfoaaGreatDoor
open Go.ChangeShapes Go.WideShapes Go.ChangeAt Go.RowKit Go.Fs
theorem own : ownKnob Tryz.prog.godebug = none := by kernel_rfl
theorem laidOut : laidOutB Tryz.prog = true := by kernel_rfl
def laid7 : List (String × DataW Unit) := [("math/bits.deBruijn32tab", Rows.laid_math_bits_deBruijn32tab), ("math/bits.deBruijn64tab", Rows.laid_math_bits_deBruijn64tab), ("internal/strconv.uint64pow10", Rows.laid_internal_strconv_uint64pow10), ("unicode/utf8.acceptRanges", Rows.laid_unicode_utf8_acceptRanges), ("strconv.ErrRange", Rows.laid_strconv_ErrRange), ("strconv.ErrSyntax", Rows.laid_strconv_ErrSyntax), ("unicode/utf8.first", Rows.laid_unicode_utf8_first)]
theorem gPow : ∃ g : Nat, Tryz.prog.globalNamed "internal/strconv.uint64pow10" = some g ∧ (Tryz.prog.globals[g]?).map (·.type) = some 239 := ⟨2, by kernel_rfl, by kernel_rfl⟩
theorem powTab {W : World} (h : laidMet Tryz.prog laid7 W) : Lib.TabIs Tryz.prog W "internal/strconv.uint64pow10" .u64 Lib.pow10Tab := by
  obtain ⟨g, h1, h2⟩ := gPow; exact Lib.tabIs_of_head h1 h2 Tryz.underlying239 Tryz.underlying202 (by kernel_rfl) (by kernel_rfl) (laidMet.tail (laidMet.tail h))
theorem errStar : "*" ++ "errors.errorString" = "*errors.errorString" := by decide
theorem errName (u : TypeId) (h : Tryz.prog.typeName? 3 u = some "*errors.errorString") : u = 256 :=
  typeName_ptr_named (nm := "errors.errorString") (by rw [errStar]; kernel_rfl) (by kernel_rfl) (by decide) u (by rw [errStar]; exact h)
theorem errS {W : World} (h : laidMet Tryz.prog laid7 W) : ∃ p : Value, W.var? Tryz.prog "strconv.ErrSyntax" = some #[.iface 256 p] := by
  obtain ⟨a, s, h1, _⟩ := _root_.Go.laid_sentinel (laidMet.tail (laidMet.tail (laidMet.tail (laidMet.tail (laidMet.tail h))))) (g := 3) (by kernel_rfl) (by kernel_rfl) Tryz.underlying101 errName Tryz.underlying256 Tryz.underlying258 rfl rfl Tryz.underlying9 (by kernel_rfl) (by kernel_rfl); exact ⟨_, h1⟩
theorem errR {W : World} (h : laidMet Tryz.prog laid7 W) : ∃ p : Value, W.var? Tryz.prog "strconv.ErrRange" = some #[.iface 256 p] := by
  obtain ⟨a, s, h1, _⟩ := _root_.Go.laid_sentinel (laidMet.tail (laidMet.tail (laidMet.tail (laidMet.tail h)))) (g := 4) (by kernel_rfl) (by kernel_rfl) Tryz.underlying101 errName Tryz.underlying256 Tryz.underlying258 rfl rfl Tryz.underlying9 (by kernel_rfl) (by kernel_rfl); exact ⟨_, h1⟩
theorem tzInt : Fs.Enters Tryz.prog 61 := ⟨_, Tryz.func61, rfl, by kernel_rfl⟩
theorem tzGlob {W : World} : ∀ x ∈ tzG, GlobW Tryz.prog W.heap.size W x := fun x hx => by cases hx
theorem tzGT : GT (⟨1, 1, []⟩ : Heap) [] := fun v hv => by cases hv
theorem seatHr {W : World} (h : laidMet Tryz.prog laid7 W) : HR Tryz.prog (fun _ => Loc.clean 0 0 0 0) (fun _ => False) W.heap.size (Go.Fs.wz W) ⟨1, 1, []⟩ W := hr_empty (Nat.zero_le _)
theorem var_below {w w' : World} {n : String} {cs : Array Value} (hb : Below w.heap.size w w') (h : w.var? Tryz.prog n = some cs) : w'.var? Tryz.prog n = some cs := by
  unfold World.var? at h ⊢
  cases hg : Tryz.prog.globalNamed n with
  | none => rw [hg] at h; cases h
  | some g =>
    rw [hg] at h; simp only [Option.bind_some] at h ⊢; by_cases hl : g < w.heap.size
    · rw [hb.block g hl]; exact h
    · rw [Array.getElem?_eq_none (by omega)] at h; cases h
/-- The oracle is sound wherever the tables and the error variables lie. -/
theorem orcOk {W : World} (h : laidMet Tryz.prog laid7 W) : CallSound Tryz.prog W.heap.size (Go.Fs.wz W) OA := by
  have ht := powTab h; obtain ⟨p1, hv1⟩ := errS h; obtain ⟨p2, hv2⟩ := errR h; have hT : ∀ w, Below W.heap.size W w → Lib.TabIs Tryz.prog w "internal/strconv.uint64pow10" .u64 Lib.pow10Tab := Lib.tabBelow_of_tabIs ht
  have hS : ∀ w, Below W.heap.size W w → CallSound Tryz.prog w.heap.size (Go.Fs.wz w) OB := fun w hw =>
    tzOrcB rfl (Nat.le_refl _) fun w' hw' => hT w' (hw.trans ((below_z hw').mono hw.size))
  refine orcC_sound ?_ tzCheck (fun b w h0 h1 h2 => Any.Builder_copyCheck_fresh tzLays tzX72 b w h0 h1 h2) (fun b w h0 => Any.Builder_copyCheck_used tzLays tzX72 b w h0); refine orcZ_sound rfl ?_ tzInt fun s w hw hs => ?_
  · refine orcA_sound rfl (tzOrc rfl (Nat.le_refl _) fun w' hw' => hT w' (below_z hw')) tzAwakeE fun w hw => ?_; exact awakeGc_calls tzOk (n := 1) (L := tzG) (fun x hx => by cases hx) (by decide) tzGlob (fun w hw => hw.size) (fun w' hw' => hS w' hw') tzRun w (below_z hw)
  · have hw' := below_z hw; exact tqAll hs w (fun w2 h2 => hT w2 (hw'.trans (h2.mono hw'.size))) (var_below hw' hv1) (var_below hw' hv2)
/-- The door's heap, with the table of first bytes, which the kit pins. -/
def firstVs : List Value := match Rows.laid_unicode_utf8_first with
  | .agg ds => ds.map fun | .lit (.int k n) => .int k n | _ => .nilIface
  | _ => []
def withFirst (o : Obj) : Obj := match o with
  | .cells _ t fr => .cells firstVs.toArray t fr
  | o => o
noncomputable def doorWorld (os : Os) : World := { World.doorLaid Tryz.prog 200 os with heap := (World.doorLaid Tryz.prog 200 os).heap.modify 7 withFirst }
end Go.Proofs.YteooaaiacpcfoaaGreatDoor
