/- Parts of the proof: an evaluator of the model, what it is sound for, and contracts of functions. No condition. -/
import Derived.Test.YthiofhkndpegjaaGreatDoorP7
import Derived.Test.YthiofhkndpegjaaGreatDoorP6
import Derived.Test.YthiofhkndpegjaaGreatDoorP3
import Derived.Test.YthiofhkndpegjaaGreatDoorP2
set_option linter.all false
namespace Go.Proofs
open Go.Fs Ieee
set_option linter.unusedVariables false
set_option maxHeartbeats 2000000

theorem run_val {r : Rec1} {x : Rul1} {n : Int} {S : List Int × List Bool} {i : Nat} : ∀ j : Nat, (runR r x n S j).1.getD i 0 = S.1.getD i 0 ∨ ((runR r x n S j).1.getD i 0 = n ∧ S.2.getD i false = true)
  | 0 => .inl rfl
  | j + 1 => by
    have ih := run_val (r := r) (x := x) (n := n) (S := S) (i := i) j
    show (stepR r x n S.2 (runR r x n S j) j).1.getD i 0 = _ ∨ ((stepR r x n S.2 (runR r x n S j) j).1.getD i 0 = n ∧ _)
    unfold stepR
    split
    · rename_i hc
      rw [Bool.and_eq_true] at hc
      show ((runR r x n S j).1.set j n).getD i 0 = _ ∨ (((runR r x n S j).1.set j n).getD i 0 = n ∧ _)
      by_cases hl : i < (runR r x n S j).1.length
      · rw [set_getD hl]
        by_cases e : j = i
        · rw [if_pos e]; subst e; exact .inr ⟨rfl, hc.1⟩
        rw [if_neg e]; exact ih
      rw [getD_out hl] at ih
      rw [getD_out (by rw [List.length_set]; exact hl)]; exact ih
    exact ih
theorem rea_rng {r : Rec1} {l : List Rul1} {i : Nat} : ∀ k : Nat, 0 ≤ (reaS r l k).1.getD i 0 ∧ (reaS r l k).1.getD i 0 ≤ (k : Int)
  | 0 => by
    show 0 ≤ (List.replicate r.2.2.1.length (0 : Int)).getD i 0 ∧ _
    by_cases hl : i < r.2.2.1.length
    · rw [getDat (by rw [List.length_replicate]; exact hl), List.getElem_replicate]
      refine ⟨Int.le_refl _, ?_⟩
      show (List.replicate r.2.2.1.length (0 : Int)).getD i 0 ≤ _
      rw [getDat (by rw [List.length_replicate]; exact hl), List.getElem_replicate]; exact Int.le_refl _
    rw [getD_out (by rw [List.length_replicate]; exact hl)]
    refine ⟨Int.le_refl _, ?_⟩
    show (List.replicate r.2.2.1.length (0 : Int)).getD i 0 ≤ _
    rw [getD_out (by rw [List.length_replicate]; exact hl)]; exact Int.le_refl _
  | k + 1 => by
    have ih := rea_rng (r := r) (l := l) (i := i) k
    show 0 ≤ (runR r (rulX l k) ((k : Int) + 1) (reaS r l k) r.2.2.1.length).1.getD i 0 ∧ (runR r (rulX l k) ((k : Int) + 1) (reaS r l k) r.2.2.1.length).1.getD i 0 ≤ _
    rcases run_val (r := r) (x := rulX l k) (n := (k : Int) + 1) (S := reaS r l k) (i := i) r.2.2.1.length with h | ⟨h, _⟩
    · rw [h]; omega
    rw [h]; omega
theorem rea_was {r : Rec1} {l : List Rul1} {i : Nat} (hi : i < r.2.2.1.length) : ∀ k : Nat, (reaS r l k).1.getD i 0 ≠ 0 → recB r i = true
  | 0 => fun h => by
    refine absurd ?_ h
    show (List.replicate r.2.2.1.length (0 : Int)).getD i 0 = 0
    rw [getDat (by rw [List.length_replicate]; exact hi), List.getElem_replicate]
  | k + 1 => fun h => by
    have h : (runR r (rulX l k) ((k : Int) + 1) (reaS r l k) r.2.2.1.length).1.getD i 0 ≠ 0 := h
    rcases run_val (r := r) (x := rulX l k) (n := (k : Int) + 1) (S := reaS r l k) (i := i) r.2.2.1.length with h2 | ⟨_, h2⟩
    · rw [h2] at h; exact rea_was hi k h
    have h3 := (rea_left (r := r) (l := l) k).at_ i hi
    rw [h2] at h3
    exact (Bool.and_eq_true_iff.1 h3.symm).1
theorem rea_last {r : Rec1} {l : List Rul1} {i k : Nat} (hi : i < r.2.2.1.length) : (reaS r l (k + 1)).1.getD i 0 = (reaS r l k).1.getD i 0 ∨ ((reaS r l (k + 1)).1.getD i 0 = (k : Int) + 1 ∧ (reaS r l k).1.getD i 0 = 0) := by
  rcases run_val (r := r) (x := rulX l k) (n := (k : Int) + 1) (S := reaS r l k) (i := i) r.2.2.1.length with h | ⟨h, h2⟩
  · exact .inl h
  refine .inr ⟨h, ?_⟩
  have h3 := (rea_left (r := r) (l := l) k).at_ i hi
  rw [h2] at h3
  exact of_decide_eq_true (Bool.and_eq_true_iff.1 h3.symm).2
theorem rea_take {r : Rec1} {l : List Rul1} {m : Nat} : ∀ k : Nat, k ≤ m → reaS r (l.take m) k = reaS r l k
  | 0, _ => rfl
  | k + 1, hk => by
    have ih := rea_take (r := r) (l := l) (m := m) k (by omega)
    show runR r (rulX (l.take m) k) _ (reaS r (l.take m) k) _ = runR r (rulX l k) _ (reaS r l k) _
    have e : rulX (l.take m) k = rulX l k := by
      unfold rulX
      by_cases h : k < l.length
      · rw [getDat (by rw [List.length_take]; omega), getDat h, List.getElem_take]
      rw [getD_out (by rw [List.length_take]; omega), getD_out h]
    rw [ih, e]
abbrev lefT (r : Rec1) (l : List Rul1) : List Bool := (reaS r l l.length).2
theorem keep_no {r : Rec1} {l : List Rul1} {k i : Nat} (h : recE r = 0) (hk : k < l.length) (hi : i < r.2.2.1.length) (hT : (lefT r l).getD i false = true) : rmvE (keepR r (lefT r l)) l[k] (lefT r l) (lefT r l) i = false := by
  have hl := (reaS_len (r := r) (l := l) l.length).2
  have h1 := kept_no hk hi hT
  rw [rulX_eq hk] at h1
  exact rmv_mono (rec_ok h).2.2.2.1 hl (by rw [hl]; exact hi) hT (left_sub hk (Nat.zero_le _)) (by have := left_sub (j := i) hk (by omega : i ≤ r.2.2.1.length); rw [rulX_eq hk] at this; exact this) h1
theorem keep_range {C : Rec1} {y : Rul1} {T : List Bool} {i : Nat} (h : rmvE C y T T i = false) (hy : y.1 = sRange) : ¬ lev16 C i < y.2.1 ∧ ¬ y.2.2 < lev16 C i := by
  unfold rmvE at h
  rw [if_pos hy, Bool.or_eq_false_iff, decide_eq_false_iff_not, decide_eq_false_iff_not] at h
  exact h
theorem keep_jump {C : Rec1} {y : Rul1} {T : List Bool} {i : Nat} (h : rmvE C y T T i = false) (hn : ¬ y.1 = sRange) (hy : y.1 = sJump) (hi : i ≠ 0) (hp : T.getD (i - 1) false = true) : ¬ y.2.1 < max (lev16 C i - lev16 C (i - 1)) (0 - (lev16 C i - lev16 C (i - 1))) := by
  unfold rmvE at h
  rw [if_neg hn, if_pos hy, hp, decide_eq_false hi] at h
  simpa using h
theorem keep_stuck {C : Rec1} {y : Rul1} {T : List Bool} {i : Nat} (h : rmvE C y T T i = false) (hn : ¬ y.1 = sRange) (hn2 : ¬ y.1 = sJump) (ha : y.2.1 ≤ (i : Int)) (hall : ∀ j, j < i + 1 → (i : Int) - y.2.1 ≤ (j : Int) → T.getD j false = true ∧ lev16 C j = lev16 C i) : False := by
  unfold rmvE at h
  rw [if_neg hn, if_neg hn2, decide_eq_false (by omega), stuckB, decide_eq_true hall] at h
  cases h
theorem jump_A {x : Rul1} (h : ruleE x = 0) (h1 : ¬ x.1 = sRange) (h2 : x.1 = sJump) : 0 ≤ x.2.1 ∧ x.2.1 ≤ 2048 := by
  unfold ruleE at h
  rw [if_neg h1, if_pos h2] at h
  exact rangeE_zero.1 (firstE_zero.1 h _ (by simp))
theorem eq_lv {x y : Nat} (hx : lvlE x = 0) (hy : lvlE y = 0) : fcmpE .eql .f32 x y = decide (sxE x = sxE y) := by
  rw [(fcmp32 (lvl_ok hx).1 (lvl_ok hy).1).1]
  exact decide_eq_decide.2 ⟨fun h => by omega, fun h => by rw [h]⟩
theorem keepT_id {r : Rec1} {T : List Bool} (hl : T.length = r.2.2.1.length) : keptL (keepR r T) T id T.length = keptL r T plusZ T.length := by
  refine List.ext_getElem (by rw [keptL_len]) fun i h1 h2 => ?_
  have h3 : i < (keptL r T plusZ T.length).length := h2
  rw [keptL_len] at h3
  rw [keptL_at (show i < (keepR r T).2.2.1.length from h2)]
  show (if i < T.length ∧ T.getD i false = true then id ((keptL r T plusZ T.length).getD i 0) else 0) = _
  rw [getDat h2]
  by_cases hc : i < T.length ∧ T.getD i false = true
  · rw [if_pos hc] <;> rfl
  rw [if_neg hc, keptL_at h3, if_neg hc]
theorem again_same {r : Rec1} {l : List Rul1} (h : recE r = 0) : sameRec (keepR (keepR r (lefT r l)) (lefT r l)) (keepR r (lefT r l)) = true := by
  have hl := (reaS_len (r := r) (l := l) l.length).2
  have hv := plus_lvl (l := lefT r l) (n := (lefT r l).length) (rec_ok h).2.2.2.1
  have hs := same_kept3 (r := keepR r (lefT r l)) (l := lefT r l) (n := (lefT r l).length) hv
  rw [keepT_id hl] at hs
  unfold sameRec
  show (decide (r.1 = r.1) && decide (r.2.1 = r.2.1) && sameLv _ _ && decide (_ = _)) = true
  rw [hs, decide_eq_true rfl, decide_eq_true rfl, decide_eq_true rfl] <;> rfl
theorem keep_eq {r : Rec1} {T : List Bool} {i : Nat} (hv : ∀ x ∈ r.2.2.1, lvlE x = 0) (hl : T.length = r.2.2.1.length) (hi : i < r.2.2.1.length) (hT : T.getD i false = true) (h2 : i < (keepR r T).2.2.1.length) : fcmpE .neq .f32 ((keepR r T).2.2.1[i]) r.2.2.1[i] = false := by
  have h1 := hv _ (List.getElem_mem hi)
  have h4 := lvl_ok h1
  have h3 := plusZ_ok h1
  show fcmpE .neq .f32 ((keptL r T plusZ T.length)[i]) r.2.2.1[i] = false
  rw [keptL_at hi, if_pos ⟨by omega, hT⟩, getDat hi, (fcmp32 (h3.2.2.trans h4.1) h4.1).2.1]
  exact decide_eq_false (by simp)
theorem keep_z {r : Rec1} {T : List Bool} {i : Nat} (hi : i < r.2.2.1.length) (hT : T.getD i false = false) (h2 : i < (keepR r T).2.2.1.length) : fcmpE .neq .f32 ((keepR r T).2.2.1[i]) 0 = false := by
  show fcmpE .neq .f32 ((keptL r T plusZ T.length)[i]) 0 = false
  rw [keptL_at hi, if_neg (fun hh => by rw [hT] at hh; exact absurd hh.2 (by decide))]; exact neq_00
theorem rules_take {l : List Rul1} {m : Nat} (h8 : l.length ≤ 8) (hr : ∀ x ∈ l, ruleE x = 0) : rulesE (l.take m) = 0 := by
  unfold rulesE
  rw [if_neg (by rw [List.length_take]; omega)]
  refine firstE_zero.2 fun x hx => ?_
  obtain ⟨y, hy, rfl⟩ := List.mem_map.1 hx
  exact hr y (List.mem_of_mem_take hy)
theorem keep_all {r : Rec1} (h : recE r = 0) : sameRec (keepR r (thereE r)) r = true := by
  have hr := rec_ok h
  have hc := rec_canon h
  have hs : sameLv (keptL r (thereE r) plusZ (thereE r).length) r.2.2.1 = true := by
    refine decide_eq_true ⟨keptL_len, fun i hi => ?_⟩
    rw [keptL_len] at hi
    rw [getDat (by rw [keptL_len]; exact hi), getDat hi, keptL_at hi]
    have h1 := hr.2.2.2.1 _ (List.getElem_mem hi)
    have h2 := lvl_ok h1
    by_cases hcc : i < (thereE r).length ∧ (thereE r).getD i false = true
    · rw [if_pos hcc, getDat hi]
      have h3 := plusZ_ok h1
      rw [(fcmp32 (h3.2.2.trans h2.1) h2.1).2.1]
      exact decide_eq_false (by simp)
    rw [if_neg hcc]
    refine zero_of h1 ?_
    have hlt : i < (thereE r).length := by rw [thereE_len]; exact hi
    have h4 : (thereE r).getD i false = !Sp.inL r.2.2.2 (i : Int) := by rw [getDat hlt, thereE_at hi hlt, recB_in hi]
    cases hin : Sp.inL r.2.2.2 (i : Int) with
    | false => rw [hin] at h4; exact absurd ⟨hlt, h4⟩ hcc
    | true =>
      cases hz : nzE r.2.2.1[i] with
      | false => rfl
      | true => exact absurd (fill_t (fun s hs => ⟨(hr.2.2.2.2 s hs).1, by have := (hr.2.2.2.2 s hs).2.1; omega, (hr.2.2.2.2 s hs).2.2⟩) hi hz hin) (by rw [hc.2.1]; decide)
  unfold sameRec
  show (decide (r.1 = r.1) && decide (r.2.1 = r.2.1) && sameLv (keptL r (thereE r) plusZ (thereE r).length) r.2.2.1 && decide (gapsE (thereE r) (thereE r).length = r.2.2.2)) = true
  rw [hs, decide_eq_true rfl, decide_eq_true rfl, decide_eq_true (rec_gaps h)] <;> rfl
theorem gReasonsV_ok {r : Rec1} {l : List Rul1} (h : reaC r l = 0) (hl : r.2.2.1.length < 1000000) (hgl : r.2.2.2.length < 1000000) (hll : l.length < 1000000) : VF Tryz.prog OA 49 [.v y65 r, .v y69 l] (.tup [.v y37 (reaS r l l.length).1, I 0]) := by
  have h0 := gReasons_ok (r := r) (l := l) hl hgl hll
  rw [if_neg (fun hh => hh h), h] at h0
  exact h0
theorem gCleanV_ok {r : Rec1} {l : List Rul1} (h : reaC r l = 0) (hl : r.2.2.1.length < 1000000) (hgl : r.2.2.2.length < 1000000) (hll : l.length < 1000000) : VF Tryz.prog OA 50 [.v y65 r, .v y69 l] (.tup [.v y65 (keepR r (lefT r l)), I 0]) := by
  have h0 := gClean_ok (r := r) (l := l) hl hgl hll
  rw [clnR, if_neg (fun hh => hh h), h] at h0
  exact h0
theorem rRulesU_ok {l : List (ByteArray × Int × Int)} (hl : l.length ≤ 9223372036854775807) : VF Tryz.prog OA 48 [.v y56 l] (I (rulesE l)) := by
  refine VF.enter Tryz.func48 rfl (fun _ _ => rfl) rfl ?_
  show VC _ _ _ _ _ [(0, .v y56 l)] [] _
  refine VC.seq (VC.text ?_); refine VO.c (.assign rfl) ?_; refine VO.go (VC.seq (VC.seq (VC.text ?_))); refine VO.c (.move rfl) ?_; refine VO.r (.len el56) ?_; refine VO.c (.gtr) ?_; refine VO.go ?_; refine VC.condD rfl (fun c1 => ?_) (fun c1 => ?_)
  · refine VC.seq (VC.text ?_); refine VO.c (.assign rfl) ?_; refine VO.go ?_; refine VC.ret ?_; exact VEnd.one rfl evT (pvI (by exact (if_pos c1).symm))
  refine VC.skip (VC.seq (VC.seq (VC.text ?_))); refine VO.c (.assign rfl) ?_; refine VO.go (VC.block ?_); refine VC.keep [(0, .v y56 l), (3, I ((0 : Nat) : Int))] ⟨rfl, rfl, trivial⟩ ?_; refine VC.loop (I := fun kk ff ss => ∃ (j : Nat), kk = l.length - j ∧ ff = [(0, .v y56 l), (3, I ((j : Nat) : Int))] ∧ ss = [] ∧ (j ≤ l.length) ∧ (rulesE l = firstE ((l.drop j).map ruleE))) ?_ _ _ _ ⟨0, rfl, rfl, rfl, Nat.zero_le _, (by exact if_neg c1)⟩; rintro kk ff ss ⟨j, hk0, rfl, rfl, hj, hf⟩; refine VC.seq (VC.seq (VC.text ?_)); refine VO.c (.move rfl) ?_; refine VO.c (.move rfl) ?_; refine VO.r (.len el56) ?_; refine VO.c (.lss) ?_; refine VO.go ?_; refine VC.condD rfl (fun c4 => ?_) (fun c4 => ?_)
  · refine VC.skip (VC.seq (VC.block (VC.seq (VC.text ?_)))); refine VO.c (.move rfl) ?_; refine VO.c (.move rfl) ?_; refine VO.c (.ix (j := j) rfl rfl el56 (by omega)) ?_; refine VO.r (.ld vt108) ?_; refine VO.call rfl rfl (VF.call (rRule_ok )) ?_; refine VO.c (.assign rfl) ?_; refine VO.go (VC.seq (VC.text ?_)); refine VO.c (.move rfl) ?_; refine VO.c (.neq) ?_; refine VO.go ?_; refine VC.condD rfl (fun c7 => ?_) (fun c7 => ?_)
    · refine VC.seq (VC.text ?_); refine VO.c (.move rfl) ?_; refine VO.c (.assign rfl) ?_; refine VO.go ?_; refine VC.ret ?_; exact VEnd.one rfl evT (pvI (by rw [hf, map_drop (by omega), if_neg c7]))
    refine VC.skip (VC.text ?_); refine VO.c (.move rfl) ?_; refine VO.c (.add rfl rfl (by omega)) ?_; refine VO.c (.assign rfl) ?_; refine VO.nil ?_; refine ⟨_, [(0, .v y56 l), (3, I (((j + 1) : Nat) : Int))], ?_, ⟨rfl, rfl, trivial⟩, (j + 1), rfl, rfl, rfl, (by omega), (by rw [hf, map_drop (by omega), if_pos (by simpa using c7)])⟩
    omega
  refine VC.exit (VC.seq (VC.text ?_)); refine VO.c (.assign rfl) ?_; refine VO.go ?_; refine VC.ret ?_; exact VEnd.one rfl evT (pvI (by rw [hf, map_end (by omega)]))
theorem law11_ok {r : ByteArray × Int × (List Nat) × (List (Int × Int))} {l : List (ByteArray × Int × Int)} (hl : l.length ≤ 9223372036854775807) : VF Tryz.prog OA 10 [.v y55 r, .v y56 l] (B true) := by
  refine VF.enter Tryz.func10 rfl (fun _ _ => rfl) rfl ?_
  show VC _ _ _ _ _ [(0, .v y55 r), (1, .v y56 l)] [] _
  refine VC.seq (VC.text ?_); refine VO.new (.box) ?_; refine VO.c (.assign rfl) ?_; refine VO.go (VC.seq (VC.seq (VC.text ?_))); refine VO.call rfl rfl (VF.call (awake_ok )) ?_; refine VO.c (.not) ?_; refine VO.c (.move rfl) ?_; refine VO.r (.ld vt55) ?_; refine VO.call rfl rfl (VF.call (rShort_ok )) ?_; refine VO.c (.not) ?_; refine VO.c (.pickF rfl rfl) ?_; refine VO.c (.move rfl) ?_; refine VO.rg (r := (!(shortE r))) (w := false) [] trivial (fun _ => (.ld vt55)) ?_; refine VO.callg (r0 := (!(shortE r))) (w := false) [(35, .v y55 r)] ⟨rfl, trivial⟩ rfl rfl .same .refl rfl (fun hgd => have g1_7 : (!(shortE r)) = false := (by first | exact eq_of_beq hgd | simpa using hgd); VF.call (rRec_ok (by have := shortE_t (r := r) (by simpa using g1_7); omega) (by have := shortE_t (r := r) (by simpa using g1_7); omega))) ?_; refine VO.cg (r := (!(shortE r))) (w := false) [(36, I (recE r))] ⟨rfl, trivial⟩ (fun _ => (.neq)) ?_; refine VO.c (.or) ?_; refine VO.c (.move rfl) ?_; refine VO.cg (r := ((!(shortE r)) || (decide (recE r ≠ (0 : Int))))) (w := false) [] trivial (fun _ => (.move rfl)) ?_; refine VO.callg (r0 := ((!(shortE r)) || (decide (recE r ≠ (0 : Int))))) (w := false) [(40, .v y56 l)] ⟨rfl, trivial⟩ rfl rfl .same .refl rfl (fun _ => VF.call (rRulesU_ok hl)) ?_; refine VO.cg (r := ((!(shortE r)) || (decide (recE r ≠ (0 : Int))))) (w := false) [(41, I (rulesE l))] ⟨rfl, trivial⟩ (fun _ => (.neq)) ?_; refine VO.c (.or) ?_; refine VO.go ?_; refine VC.condB rfl (fun c1 => ?_) (fun c1 => ?_)
  · try simp only [Bool.and_eq_true, Bool.or_eq_true, Bool.and_eq_false_iff, Bool.or_eq_false_iff, Bool.not_eq_true', Bool.not_eq_false', decide_eq_true_eq, decide_eq_false_iff_not] at c1
    refine VC.seq (VC.text ?_); refine VO.call rfl rfl (VF.call (awake_ok )) ?_; refine VO.c (.assign rfl) ?_; refine VO.go ?_; refine VC.ret ?_; exact VEnd.one rfl evT (pvE (by rfl))
  try simp only [Bool.and_eq_true, Bool.or_eq_true, Bool.and_eq_false_iff, Bool.or_eq_false_iff, Bool.not_eq_true', Bool.not_eq_false', decide_eq_true_eq, decide_eq_false_iff_not] at c1
  have hs := shortE_t c1.1.1
  have h : recE r = 0 := Classical.not_not.1 c1.1.2
  have hru : rulesE l = 0 := Classical.not_not.1 c1.2
  have hrr := rec_ok h
  have hrl := rules_all hru
  have hl8 : l.length ≤ 8 := by
    unfold rulesE at hru
    split at hru
    · cases hru
    omega
  have hll : l.length < 1000000 := by omega
  have hlen : r.2.2.1.length ≤ 40 := by omega
  have hgl : r.2.2.2.length < 1000000 := by omega
  have hTl : (lefT r l).length = r.2.2.1.length := (reaS_len (r := r) (l := l) l.length).2
  have hxl := (reaS_len (r := r) (l := l) l.length).1
  have hCl : (keepR r (lefT r l)).2.2.1.length = r.2.2.1.length := keptL_len
  have hCg : (keepR r (lefT r l)).2.2.2.length ≤ r.2.2.1.length := by
    have := gapsE_len (lefT r l) (lefT r l).length
    rw [hTl] at this
    exact (by rw [hTl]; exact this : (gapsE (lefT r l) (lefT r l).length).length ≤ _)
  have hrc : recE (keepR r (lefT r l)) = 0 := rec_keep h hTl (by omega)
  have hc0 : reaC r l = 0 := by
    unfold reaC
    rw [firstE_2 h hru] <;> rfl
  have hc1 : reaC (keepR r (lefT r l)) l = 0 := by
    unfold reaC
    rw [firstE_2 hrc hru] <;> rfl
  have hag := again_none (l := l) h l.length (Nat.le_refl _)
  have hag1 : (reaS (keepR r (lefT r l)) l l.length).1 = List.replicate r.2.2.1.length 0 := by rw [hag]
  have hag2 : (reaS (keepR r (lefT r l)) l l.length).2 = lefT r l := by rw [hag]
  have hsm := again_same (l := l) h
  have hnl : (reaS (keepR r (lefT r l)) l l.length).1.length = r.2.2.1.length := by rw [hag1, List.length_replicate]
  have hCv := plus_lvl (l := lefT r l) (n := (lefT r l).length) hrr.2.2.2.1
  have hT2 : (lefT (keepR r (lefT r l)) l).length = r.2.2.1.length := (reaS_len (r := keepR r (lefT r l)) (l := l) l.length).2.trans hCl
  have hAl : (keepR (keepR r (lefT r l)) (lefT (keepR r (lefT r l)) l)).2.2.1.length = r.2.2.1.length := (keptL_len (r := keepR r (lefT r l))).trans hCl
  have hAg : (keepR (keepR r (lefT r l)) (lefT (keepR r (lefT r l)) l)).2.2.2.length ≤ r.2.2.1.length := by
    have := gapsE_len (lefT (keepR r (lefT r l)) l) (lefT (keepR r (lefT r l)) l).length
    exact Nat.le_trans this (Nat.le_of_eq hT2)
  refine VC.skip (VC.seq (VC.text ?_)); refine VO.r (.ld vt55) ?_; refine VO.call rfl rfl (VF.call (lRecord_ok (by first | assumption | omega | simp) (by first | assumption | omega | simp))) ?_; refine VO.c (.move rfl) ?_; refine VO.call rfl rfl (VF.call (lRules_ok (by first | assumption | omega | simp))) ?_; refine VO.call rfl rfl (VF.call (gReasonsV_ok hc0 (by omega) hgl hll)) ?_; refine VO.c (.move rfl) ?_; refine VO.c (.extract) ?_; refine VO.c (.extract) ?_; refine VO.c (.assign rfl) ?_; refine VO.c (.assign rfl) ?_; refine VO.go (VC.seq (VC.text ?_)); refine VO.r (.ld vt55) ?_; refine VO.call rfl rfl (VF.call (lRecord_ok (by first | assumption | omega | simp) (by first | assumption | omega | simp))) ?_; refine VO.c (.move rfl) ?_; refine VO.call rfl rfl (VF.call (lRules_ok (by first | assumption | omega | simp))) ?_; refine VO.call rfl rfl (VF.call (gCleanV_ok hc0 (by omega) hgl hll)) ?_; refine VO.c (.move rfl) ?_; refine VO.c (.extract) ?_; refine VO.c (.extract) ?_; refine VO.cell (.alloc zt65) ?_; intro ww1; refine VO.setV (cs' := [St ((keepR r (lefT r l)).1), I ((keepR r (lefT r l)).2.1), .v y53 ((keepR r (lefT r l)).2.2.1), .v y22 ((keepR r (lefT r l)).2.2.2)]) vt65 .v ?_; refine VO.shut [(7, .p y65 (keepR r (lefT r l)))] (.cons rfl (.var m0 .refl) .nil) ?_; refine VO.c (.assign rfl) ?_; refine VO.go (VC.seq ?_); refine VC.keep [(1, .v y56 l), (2, .p y55 r), (5, .v y37 ((reaS r l l.length).1)), (6, I 0), (7, .p y65 (keepR r (lefT r l))), (8, I 0)] ⟨rfl, rfl, rfl, rfl, rfl, rfl, trivial⟩ ?_; refine VC.text ?_; refine VO.r (.ld vt65) ?_; refine VO.call rfl rfl (VF.call (lOwn_ok )) ?_; refine VO.call rfl rfl (VF.call (lRecord_ok (by omega) (by omega))) ?_; refine VO.c (.move rfl) ?_; refine VO.call rfl rfl (VF.call (lRules_ok (by first | assumption | omega | simp))) ?_; refine VO.call rfl rfl (VF.call (gCleanV_ok hc1 (by omega) (by omega) hll)) ?_; refine VO.c (.move rfl) ?_; refine VO.c (.extract) ?_; refine VO.c (.extract) ?_; refine VO.cell (.alloc zt65) ?_; intro ww2; refine VO.setV (cs' := [St ((keepR (keepR r (lefT r l)) (lefT (keepR r (lefT r l)) l)).1), I ((keepR (keepR r (lefT r l)) (lefT (keepR r (lefT r l)) l)).2.1), .v y53 ((keepR (keepR r (lefT r l)) (lefT (keepR r (lefT r l)) l)).2.2.1), .v y22 ((keepR (keepR r (lefT r l)) (lefT (keepR r (lefT r l)) l)).2.2.2)]) vt65 .v ?_; refine VO.shut [(9, .p y65 (keepR (keepR r (lefT r l)) (lefT (keepR r (lefT r l)) l)))] (.cons rfl (.var m0 .refl) .nil) ?_; refine VO.c (.assign rfl) ?_; refine VO.go (VC.seq (VC.text ?_)); refine VO.r (.ld vt65) ?_; refine VO.call rfl rfl (VF.call (lOwn_ok )) ?_; refine VO.call rfl rfl (VF.call (lRecord_ok (by omega) (by omega))) ?_; refine VO.c (.move rfl) ?_; refine VO.call rfl rfl (VF.call (lRules_ok (by first | assumption | omega | simp))) ?_; refine VO.call rfl rfl (VF.call (gReasonsV_ok hc1 (by omega) (by omega) hll)) ?_; refine VO.c (.move rfl) ?_; refine VO.c (.extract) ?_; refine VO.c (.extract) ?_; refine VO.c (.assign rfl) ?_; refine VO.c (.assign rfl) ?_; refine VO.go (VC.seq (VC.seq (VC.drawn ?_))); refine VD.c (.move rfl) ?_; refine VD.c (.move rfl) ?_; refine VD.c (.add rfl rfl (by omega)) ?_; refine VD.c (.move rfl) ?_; refine VD.c (.add rfl rfl (by omega)) ?_; refine VD.c (.move rfl) ?_; refine VD.nw [] ?_; refine VD.c (.add rfl rfl (by omega)) ?_; refine VD.c (.neq) ?_; refine VD.c (.move rfl) ?_; refine VD.splitD (x := 87) rfl (fun g7_8 => ?_) (fun g7_8 => ?_)
  · exact absurd (by omega) g7_8
  refine VD.c (.move rfl) ?_; refine VD.r [] (.len el37) (.inl rfl) ?_; refine VD.c (.fa (.r (.r (.l .o)))) ?_; refine VD.nw [] ?_; refine VD.r [] (.ld vt53) (.inl rfl) ?_; refine VD.r [] (.len el53) (.inl rfl) ?_; refine VD.c (.neq) ?_; refine VD.c (.pickF rfl rfl) ?_; refine VD.c (.move rfl) ?_; refine VD.splitD (x := 95) rfl (fun g7_16 => ?_) (fun g7_16 => ?_)
  · exact absurd (by omega) g7_16
  refine VD.c (.fa (.r (.r (.l .o)))) ?_; refine VD.nw [] ?_; refine VD.r [] (.ld vt53) (.inl rfl) ?_; refine VD.r [] (.len el53) (.inl rfl) ?_; refine VD.c (.move rfl) ?_; refine VD.r [] (.len el37) (.inl rfl) ?_; refine VD.c (.neq) ?_; refine VD.c (.pickF rfl rfl) ?_; refine VD.c (.move rfl) ?_; refine VD.nw [] ?_; refine VD.splitD (x := 103) rfl (fun g7_24 => ?_) (fun g7_24 => ?_)
  · exact absurd (by omega) g7_24
  refine VD.c (.move rfl) ?_; refine VD.r [] (.len el37) (.inl rfl) ?_; refine VD.c (.move rfl) ?_; refine VD.r [] (.len el37) (.inl rfl) ?_; refine VD.c (.neq) ?_; refine VD.c (.pickF rfl rfl) ?_; refine VD.nw [] ?_; refine VD.c (.move rfl) ?_; refine VD.splitD (x := 110) rfl (fun g7_31 => ?_) (fun g7_31 => ?_)
  · exact absurd (by omega) g7_31
  refine VD.r [] (.ld vt65) (.inl rfl) ?_; refine VD.call rfl rfl (VF.call (lOwn_ok )) ?_; refine VD.callO rfl rfl (VF.call (rRec_ok (by first | assumption | omega | simp) (by first | assumption | omega | simp))) ?_; refine VD.c (.neq) ?_; refine VD.c (.pickF rfl rfl) ?_; refine VD.nw [112] ?_; refine VD.c (.move rfl) ?_; refine VD.splitD (x := 116) rfl (fun g7_37 => ?_) (fun g7_37 => ?_)
  · exact absurd hrc g7_37
  refine VD.r [] (.ld vt65) (.inl rfl) ?_; refine VD.call rfl rfl (VF.call (lOwn_ok )) ?_; refine VD.r [] (.ld vt65) (.inl rfl) ?_; refine VD.call rfl rfl (VF.call (lOwn_ok )) ?_; refine VD.callO rfl rfl (VF.call (rSameRec_ok (Nat.lt_of_le_of_lt (Nat.le_of_eq hAl) (by omega)) (Nat.lt_of_le_of_lt hAg (by omega)) (Nat.lt_of_le_of_lt hCg (by omega)))) ?_; refine VD.nw [120, 118, 112] ?_; refine VD.c (.not) ?_; refine VD.c (.pickF rfl rfl) ?_; refine VD.c (.move rfl) ?_; refine VD.splitB (x := 124) rfl (fun g7_45 => ?_) (fun g7_45 => ?_)
  · try simp only [Bool.and_eq_true, Bool.or_eq_true, Bool.and_eq_false_iff, Bool.or_eq_false_iff, Bool.not_eq_true', Bool.not_eq_false', decide_eq_true_eq, decide_eq_false_iff_not] at g7_45
    exact absurd (show sameRec (keepR (keepR r (lefT r l)) (reaS (keepR r (lefT r l)) l l.length).2) (keepR r (lefT r l)) = true by rw [hag2]; exact hsm) (by rw [g7_45]; decide)
  try simp only [Bool.and_eq_true, Bool.or_eq_true, Bool.and_eq_false_iff, Bool.or_eq_false_iff, Bool.not_eq_true', Bool.not_eq_false', decide_eq_true_eq, decide_eq_false_iff_not] at g7_45
  refine VD.c (.fa (.l .o)) ?_; refine VD.r [] (.ld vt9) (.inl rfl) ?_; refine VD.c (.fa (.l .o)) ?_; refine VD.nw [120, 118, 112] ?_; refine VD.r [] (.ld vt9) (.inl rfl) ?_; refine VD.c (.sneq) ?_; refine VD.c (.pickF rfl rfl) ?_; refine VD.c (.move rfl) ?_; refine VD.splitD (x := 131) rfl (fun g7_52 => ?_) (fun g7_52 => ?_)
  · exact absurd rfl g7_52
  refine VD.c (.fa (.r (.l .o))) ?_; refine VD.r [] (.ld vt3) (.inl rfl) ?_; refine VD.nw [120, 118, 112] ?_; refine VD.c (.fa (.r (.l .o))) ?_; refine VD.r [] (.ld vt3) (.inl rfl) ?_; refine VD.c (.neq) ?_; refine VD.c (.pickF rfl rfl) ?_; refine VD.go ?_; refine VC.condD rfl (fun c7 => ?_) (fun c7 => ?_)
  · exact absurd rfl c7
  refine VC.skip (VC.seq (VC.seq ?_)); refine VC.keep [(1, .v y56 l), (2, .p y55 r), (5, .v y37 ((reaS r l l.length).1)), (7, .p y65 (keepR r (lefT r l))), (11, .v y37 ((reaS (keepR r (lefT r l)) l l.length).1))] ⟨rfl, rfl, rfl, rfl, rfl, trivial⟩ ?_; refine VC.text ?_; refine VO.c (.move rfl) ?_; refine VO.r (.len el37) ?_; refine VO.c (.move rfl) ?_; refine VO.go (VC.block ?_); refine VC.keep [(1, .v y56 l), (2, .p y55 r), (5, .v y37 ((reaS r l l.length).1)), (7, .p y65 (keepR r (lefT r l))), (11, .v y37 ((reaS (keepR r (lefT r l)) l l.length).1)), (138, .v y37 ((reaS r l l.length).1)), (139, I ((((reaS r l l.length).1).length : Nat) : Int)), (140, I ((0 : Nat) : Int))] ⟨rfl, rfl, rfl, rfl, rfl, rfl, rfl, rfl, trivial⟩ ?_; refine VC.loop (I := fun kk ff ss => ∃ (i : Nat), kk = r.2.2.1.length - i ∧ ff = [(1, .v y56 l), (2, .p y55 r), (5, .v y37 ((reaS r l l.length).1)), (7, .p y65 (keepR r (lefT r l))), (11, .v y37 ((reaS (keepR r (lefT r l)) l l.length).1)), (138, .v y37 ((reaS r l l.length).1)), (139, I ((((reaS r l l.length).1).length : Nat) : Int)), (140, I ((i : Nat) : Int))] ∧ ss = [] ∧ (i ≤ r.2.2.1.length)) ?_ _ _ _ ⟨0, rfl, rfl, rfl, Nat.zero_le _⟩; rintro kk ff ss ⟨i, hk0, rfl, rfl, hi⟩; refine VC.seq (VC.text ?_); refine VO.c (.lss) ?_; refine VO.go (VC.seq ?_); refine VC.condD rfl (fun c10 => ?_) (fun c10 => ?_)
  · have hib : i < r.2.2.1.length := by omega
    have hiC : i < (keepR r (lefT r l)).2.2.1.length := by omega
    have hL := (rea_left (r := r) (l := l) l.length).at_ i hib
    have hxi : (reaS r l l.length).1.getD i 0 = (reaS r l l.length).1[i]'(by omega) := getDat (by omega)
    rw [hxi] at hL
    have hrn := rea_rng (r := r) (l := l) (i := i) l.length
    rw [hxi] at hrn
    have hwas : (reaS r l l.length).1[i]'(by omega) ≠ 0 → recB r i = true := fun hh => rea_was hib l.length (by rw [hxi]; exact hh)
    have hnone : (reaS (keepR r (lefT r l)) l l.length).1[i]'(by omega) = 0 := by
      have e : (reaS (keepR r (lefT r l)) l l.length).1.getD i 0 = 0 := by
        rw [hag1, getDat (by rw [List.length_replicate]; exact hib), List.getElem_replicate]
      rw [getDat (by omega)] at e
      exact e
    have hrT : recB (keepR r (lefT r l)) i = (lefT r l).getD i false := by
      have h1 := thereE_at (r := keepR r (lefT r l)) hiC (by rw [thereE_len]; exact hiC)
      rw [← h1, ← getDat (d := false), there_keep hTl]
    have hce := fun hT => keep_eq hrr.2.2.2.1 hTl hib hT hiC
    have hcz := fun hT => keep_z hib hT hiC
    refine VC.skip (VC.seq (VC.block (VC.seq (VC.text ?_)))); refine VO.c (.move rfl) ?_; refine VO.c (.ix (j := i) rfl rfl el37 (by omega)) ?_; refine VO.r (.ld vt3) ?_; refine VO.c (.assign rfl) ?_; refine VO.c (.assign rfl) ?_; refine VO.go (VC.seq ?_); refine VC.join [(1, .v y56 l), (2, .p y55 r), (5, .v y37 ((reaS r l l.length).1)), (7, .p y65 (keepR r (lefT r l))), (11, .v y37 ((reaS (keepR r (lefT r l)) l l.length).1)), (13, I ((i : Nat) : Int)), (14, I (((reaS r l l.length).1)[i])), (15, B (recB r i)), (16, B ((lefT r l).getD i false)), (138, .v y37 ((reaS r l l.length).1)), (139, I ((((reaS r l l.length).1).length : Nat) : Int)), (140, I ((i : Nat) : Int))] [] ?_ ?_
    · skip
      refine VC.drawn ?_; refine VD.c (.fa (.r (.r (.r .o)))) ?_; refine VD.r [] (.ld vt22) (.inl rfl) ?_; refine VD.c (.move rfl) ?_; refine VD.call rfl rfl (VF.call (rHas_ok (by first | assumption | omega | simp))) ?_; refine VD.c (.not) ?_; refine VD.c (.fa (.r (.r (.r .o)))) ?_; refine VD.nw [] ?_; refine VD.r [] (.ld vt22) (.inl rfl) ?_; refine VD.c (.move rfl) ?_; refine VD.call rfl rfl (VF.call (rHas_ok (by first | assumption | omega | simp))) ?_; refine VD.c (.not) ?_; refine VD.c (.assign rfl) ?_; refine VD.c (.assign rfl) ?_; refine VD.nil ?_; exact ⟨⟨rfl, rfl, rfl, rfl, rfl, rfl, rfl, slE rfl (by exact (recB_in hib).symm), slE rfl (by (rw [← hrT, recB_in hiC])), rfl, rfl, rfl, trivial⟩, rfl⟩
    refine VC.seq (VC.seq ?_); refine VC.join [(1, .v y56 l), (2, .p y55 r), (5, .v y37 ((reaS r l l.length).1)), (7, .p y65 (keepR r (lefT r l))), (11, .v y37 ((reaS (keepR r (lefT r l)) l l.length).1)), (13, I ((i : Nat) : Int)), (16, B ((lefT r l).getD i false)), (138, .v y37 ((reaS r l l.length).1)), (139, I ((((reaS r l l.length).1).length : Nat) : Int)), (140, I ((i : Nat) : Int)), (214, B false)] [] ?_ ?_
    · skip
      refine VC.drawn ?_; refine VD.c (.move rfl) ?_; refine VD.c (.lss) ?_; refine VD.c (.move rfl) ?_; refine VD.splitD (x := 157) rfl (fun g13_2 => ?_) (fun g13_2 => ?_)
      · exact absurd g13_2 (by omega)
      refine VD.c (.move rfl) ?_; refine VD.c (.move rfl) ?_; refine VD.nw [] ?_; refine VD.r [] (.len el56) (.inl rfl) ?_; refine VD.c (.gtr) ?_; refine VD.c (.pickF rfl rfl) ?_; refine VD.c (.move rfl) ?_; refine VD.splitD (x := 163) rfl (fun g13_8 => ?_) (fun g13_8 => ?_)
      · exact absurd g13_8 (by omega)
      refine VD.c (.move rfl) ?_; refine VD.c (.move rfl) ?_; refine VD.nw [] ?_; refine VD.c (.ix (j := i) rfl rfl el37 (by omega)) ?_; refine VD.r [] (.ld vt3) (.inl rfl) ?_; refine VD.c (.neq) ?_; refine VD.c (.pickF rfl rfl) ?_; refine VD.c (.move rfl) ?_; refine VD.splitD (x := 170) rfl (fun g13_15 => ?_) (fun g13_15 => ?_)
      · exact absurd hnone g13_15
      refine VD.c (.move rfl) ?_; refine VD.nw [] ?_; refine VD.c (.gtr) ?_; refine VD.c (.move rfl) ?_; refine VD.splitD (x := 173) rfl (fun g13_18 => ?_) (fun g13_18 => ?_)
      · refine VD.c (.move rfl) ?_; refine VD.c (.not) ?_; refine VD.c (.pickT rfl rfl) ?_; refine VD.c (.pickF rfl rfl) ?_; refine VD.nw [] ?_; refine VD.c (.move rfl) ?_; refine VD.splitB (x := 178) rfl (fun g13_23 => ?_) (fun g13_23 => ?_)
        · try simp only [Bool.and_eq_true, Bool.or_eq_true, Bool.and_eq_false_iff, Bool.or_eq_false_iff, Bool.not_eq_true', Bool.not_eq_false', decide_eq_true_eq, decide_eq_false_iff_not] at g13_23
          exact absurd (hwas (by omega)) (by rw [g13_23]; decide)
        try simp only [Bool.and_eq_true, Bool.or_eq_true, Bool.and_eq_false_iff, Bool.or_eq_false_iff, Bool.not_eq_true', Bool.not_eq_false', decide_eq_true_eq, decide_eq_false_iff_not] at g13_23
        refine VD.c (.move rfl) ?_; refine VD.c (.move rfl) ?_; refine VD.c (.move rfl) ?_; refine VD.splitB (x := 181) rfl (fun g13_26 => ?_) (fun g13_26 => ?_)
        · refine VD.c (.move rfl) ?_; refine VD.nw [] ?_; refine VD.c (.eql) ?_; refine VD.c (.pickT rfl rfl) ?_; refine VD.c (.bneq) ?_; refine VD.c (.pickF rfl rfl) ?_; refine VD.c (.move rfl) ?_; refine VD.splitB (x := 187) rfl (fun g13_32 => ?_) (fun g13_32 => ?_)
          · try simp only [Bool.and_eq_true, Bool.or_eq_true, Bool.and_eq_false_iff, Bool.or_eq_false_iff, Bool.not_eq_true', Bool.not_eq_false', decide_eq_true_eq, decide_eq_false_iff_not] at g13_32
            exact absurd g13_32 (by rw [hL, g13_26]; simp)
          try simp only [Bool.and_eq_true, Bool.or_eq_true, Bool.and_eq_false_iff, Bool.or_eq_false_iff, Bool.not_eq_true', Bool.not_eq_false', decide_eq_true_eq, decide_eq_false_iff_not] at g13_32
          refine VD.c (.move rfl) ?_; refine VD.nw [] ?_; refine VD.c (.move rfl) ?_; refine VD.splitB (x := 189) rfl (fun g13_34 => ?_) (fun g13_34 => ?_)
          · refine VD.c (.fa (.r (.r (.l .o)))) ?_; refine VD.r [] (.ld vt53) (.inl rfl) ?_; refine VD.c (.move rfl) ?_; refine VD.c (.ix (j := i) rfl rfl el53 (by omega)) ?_; refine VD.r [] (.ld vt59) (.inl rfl) ?_; refine VD.nw [] ?_; refine VD.c (.fa (.r (.r (.l .o)))) ?_; refine VD.r [] (.ld vt53) (.inl rfl) ?_; refine VD.c (.move rfl) ?_; refine VD.c (.ix (j := i) rfl rfl el53 (by omega)) ?_; refine VD.r [] (.ld vt59) (.inl rfl) ?_; refine VD.c (.fcmp .neq) ?_; refine VD.c (.pickT rfl rfl) ?_; refine VD.nw [] ?_; refine VD.c (.pickF rfl rfl) ?_; refine VD.c (.move rfl) ?_; refine VD.splitB (x := 203) rfl (fun g13_48 => ?_) (fun g13_48 => ?_)
            · exact absurd g13_48 (by rw [hce g13_34]; decide)
            refine VD.c (.move rfl) ?_; refine VD.c (.not) ?_; refine VD.c (.move rfl) ?_; refine VD.splitB (x := 206) rfl (fun g13_51 => ?_) (fun g13_51 => ?_)
            · try simp only [Bool.and_eq_true, Bool.or_eq_true, Bool.and_eq_false_iff, Bool.or_eq_false_iff, Bool.not_eq_true', Bool.not_eq_false', decide_eq_true_eq, decide_eq_false_iff_not] at g13_51
              refine VD.nw [] ?_; refine VD.c (.fa (.r (.r (.l .o)))) ?_; refine VD.r [] (.ld vt53) (.inl rfl) ?_; refine VD.c (.move rfl) ?_; refine VD.c (.ix (j := i) rfl rfl el53 (by omega)) ?_; refine VD.r [] (.ld vt59) (.inl rfl) ?_; refine VD.c (.fcmp .neq) ?_; refine VD.c (.pickT rfl rfl) ?_; refine VD.nw [] ?_; refine VD.c (.pickF rfl rfl) ?_; refine VD.nil ?_; exact ⟨⟨rfl, rfl, rfl, rfl, rfl, rfl, rfl, rfl, rfl, rfl, slE rfl (by first | rfl | exact hcz g13_51), trivial⟩, rfl⟩
            try simp only [Bool.and_eq_true, Bool.or_eq_true, Bool.and_eq_false_iff, Bool.or_eq_false_iff, Bool.not_eq_true', Bool.not_eq_false', decide_eq_true_eq, decide_eq_false_iff_not] at g13_51
            refine VD.nw [] ?_; refine VD.skip ?_; refine VD.skip ?_; refine VD.skip ?_; refine VD.skip ?_; refine VD.skip ?_; refine VD.skip ?_; refine VD.c (.pickF rfl rfl) ?_; refine VD.nw [] ?_; refine VD.c (.pickF rfl rfl) ?_; refine VD.nil ?_; exact ⟨⟨rfl, rfl, rfl, rfl, rfl, rfl, rfl, rfl, rfl, rfl, slE rfl (by first | rfl | exact hcz g13_51), trivial⟩, rfl⟩
          refine VD.skip ?_; refine VD.skip ?_; refine VD.skip ?_; refine VD.skip ?_; refine VD.skip ?_; refine VD.nw [] ?_; refine VD.skip ?_; refine VD.skip ?_; refine VD.skip ?_; refine VD.skip ?_; refine VD.skip ?_; refine VD.skip ?_; refine VD.c (.pickF rfl rfl) ?_; refine VD.nw [] ?_; refine VD.c (.pickF rfl rfl) ?_; refine VD.c (.move rfl) ?_; refine VD.c (.move rfl) ?_; refine VD.c (.not) ?_; refine VD.c (.move rfl) ?_; refine VD.splitB (x := 206) rfl (fun g13_51 => ?_) (fun g13_51 => ?_)
          · try simp only [Bool.and_eq_true, Bool.or_eq_true, Bool.and_eq_false_iff, Bool.or_eq_false_iff, Bool.not_eq_true', Bool.not_eq_false', decide_eq_true_eq, decide_eq_false_iff_not] at g13_51
            refine VD.c (.fa (.r (.r (.l .o)))) ?_; refine VD.nw [] ?_; refine VD.r [] (.ld vt53) (.inl rfl) ?_; refine VD.c (.move rfl) ?_; refine VD.c (.ix (j := i) rfl rfl el53 (by omega)) ?_; refine VD.r [] (.ld vt59) (.inl rfl) ?_; refine VD.c (.fcmp .neq) ?_; refine VD.c (.pickT rfl rfl) ?_; refine VD.c (.pickF rfl rfl) ?_; refine VD.nil ?_; exact ⟨⟨rfl, rfl, rfl, rfl, rfl, rfl, rfl, rfl, rfl, rfl, slE rfl (by first | rfl | exact hcz g13_51), trivial⟩, rfl⟩
          try simp only [Bool.and_eq_true, Bool.or_eq_true, Bool.and_eq_false_iff, Bool.or_eq_false_iff, Bool.not_eq_true', Bool.not_eq_false', decide_eq_true_eq, decide_eq_false_iff_not] at g13_51
          refine VD.skip ?_; refine VD.nw [] ?_; refine VD.skip ?_; refine VD.skip ?_; refine VD.skip ?_; refine VD.skip ?_; refine VD.skip ?_; refine VD.c (.pickF rfl rfl) ?_; refine VD.c (.pickF rfl rfl) ?_; refine VD.nil ?_; exact ⟨⟨rfl, rfl, rfl, rfl, rfl, rfl, rfl, rfl, rfl, rfl, slE rfl (by first | rfl | exact hcz g13_51), trivial⟩, rfl⟩
        refine VD.skip ?_; refine VD.nw [] ?_; refine VD.skip ?_; refine VD.c (.pickF rfl rfl) ?_; refine VD.c (.bneq) ?_; refine VD.c (.pickF rfl rfl) ?_; refine VD.c (.move rfl) ?_; refine VD.splitB (x := 187) rfl (fun g13_32 => ?_) (fun g13_32 => ?_)
        · try simp only [Bool.and_eq_true, Bool.or_eq_true, Bool.and_eq_false_iff, Bool.or_eq_false_iff, Bool.not_eq_true', Bool.not_eq_false', decide_eq_true_eq, decide_eq_false_iff_not] at g13_32
          exact absurd g13_32 (by rw [hL, g13_26]; simp)
        try simp only [Bool.and_eq_true, Bool.or_eq_true, Bool.and_eq_false_iff, Bool.or_eq_false_iff, Bool.not_eq_true', Bool.not_eq_false', decide_eq_true_eq, decide_eq_false_iff_not] at g13_32
        refine VD.c (.move rfl) ?_; refine VD.nw [] ?_; refine VD.c (.move rfl) ?_; refine VD.splitB (x := 189) rfl (fun g13_34 => ?_) (fun g13_34 => ?_)
        · refine VD.c (.fa (.r (.r (.l .o)))) ?_; refine VD.r [] (.ld vt53) (.inl rfl) ?_; refine VD.c (.move rfl) ?_; refine VD.c (.ix (j := i) rfl rfl el53 (by omega)) ?_; refine VD.r [] (.ld vt59) (.inl rfl) ?_; refine VD.nw [] ?_; refine VD.c (.fa (.r (.r (.l .o)))) ?_; refine VD.r [] (.ld vt53) (.inl rfl) ?_; refine VD.c (.move rfl) ?_; refine VD.c (.ix (j := i) rfl rfl el53 (by omega)) ?_; refine VD.r [] (.ld vt59) (.inl rfl) ?_; refine VD.c (.fcmp .neq) ?_; refine VD.c (.pickT rfl rfl) ?_; refine VD.nw [] ?_; refine VD.c (.pickF rfl rfl) ?_; refine VD.c (.move rfl) ?_; refine VD.splitB (x := 203) rfl (fun g13_48 => ?_) (fun g13_48 => ?_)
          · exact absurd g13_48 (by rw [hce g13_34]; decide)
          refine VD.c (.move rfl) ?_; refine VD.c (.not) ?_; refine VD.c (.move rfl) ?_; refine VD.splitB (x := 206) rfl (fun g13_51 => ?_) (fun g13_51 => ?_)
          · try simp only [Bool.and_eq_true, Bool.or_eq_true, Bool.and_eq_false_iff, Bool.or_eq_false_iff, Bool.not_eq_true', Bool.not_eq_false', decide_eq_true_eq, decide_eq_false_iff_not] at g13_51
            refine VD.nw [] ?_; refine VD.c (.fa (.r (.r (.l .o)))) ?_; refine VD.r [] (.ld vt53) (.inl rfl) ?_; refine VD.c (.move rfl) ?_; refine VD.c (.ix (j := i) rfl rfl el53 (by omega)) ?_; refine VD.r [] (.ld vt59) (.inl rfl) ?_; refine VD.c (.fcmp .neq) ?_; refine VD.c (.pickT rfl rfl) ?_; refine VD.nw [] ?_; refine VD.c (.pickF rfl rfl) ?_; refine VD.nil ?_; exact ⟨⟨rfl, rfl, rfl, rfl, rfl, rfl, rfl, rfl, rfl, rfl, slE rfl (by first | rfl | exact hcz g13_51), trivial⟩, rfl⟩
          try simp only [Bool.and_eq_true, Bool.or_eq_true, Bool.and_eq_false_iff, Bool.or_eq_false_iff, Bool.not_eq_true', Bool.not_eq_false', decide_eq_true_eq, decide_eq_false_iff_not] at g13_51
          refine VD.nw [] ?_; refine VD.skip ?_; refine VD.skip ?_; refine VD.skip ?_; refine VD.skip ?_; refine VD.skip ?_; refine VD.skip ?_; refine VD.c (.pickF rfl rfl) ?_; refine VD.nw [] ?_; refine VD.c (.pickF rfl rfl) ?_; refine VD.nil ?_; exact ⟨⟨rfl, rfl, rfl, rfl, rfl, rfl, rfl, rfl, rfl, rfl, slE rfl (by first | rfl | exact hcz g13_51), trivial⟩, rfl⟩
        refine VD.skip ?_; refine VD.skip ?_; refine VD.skip ?_; refine VD.skip ?_; refine VD.skip ?_; refine VD.nw [] ?_; refine VD.skip ?_; refine VD.skip ?_; refine VD.skip ?_; refine VD.skip ?_; refine VD.skip ?_; refine VD.skip ?_; refine VD.c (.pickF rfl rfl) ?_; refine VD.nw [] ?_; refine VD.c (.pickF rfl rfl) ?_; refine VD.c (.move rfl) ?_; refine VD.c (.move rfl) ?_; refine VD.c (.not) ?_; refine VD.c (.move rfl) ?_; refine VD.splitB (x := 206) rfl (fun g13_51 => ?_) (fun g13_51 => ?_)
        · try simp only [Bool.and_eq_true, Bool.or_eq_true, Bool.and_eq_false_iff, Bool.or_eq_false_iff, Bool.not_eq_true', Bool.not_eq_false', decide_eq_true_eq, decide_eq_false_iff_not] at g13_51
          refine VD.c (.fa (.r (.r (.l .o)))) ?_; refine VD.nw [] ?_; refine VD.r [] (.ld vt53) (.inl rfl) ?_; refine VD.c (.move rfl) ?_; refine VD.c (.ix (j := i) rfl rfl el53 (by omega)) ?_; refine VD.r [] (.ld vt59) (.inl rfl) ?_; refine VD.c (.fcmp .neq) ?_; refine VD.c (.pickT rfl rfl) ?_; refine VD.c (.pickF rfl rfl) ?_; refine VD.nil ?_; exact ⟨⟨rfl, rfl, rfl, rfl, rfl, rfl, rfl, rfl, rfl, rfl, slE rfl (by first | rfl | exact hcz g13_51), trivial⟩, rfl⟩
        try simp only [Bool.and_eq_true, Bool.or_eq_true, Bool.and_eq_false_iff, Bool.or_eq_false_iff, Bool.not_eq_true', Bool.not_eq_false', decide_eq_true_eq, decide_eq_false_iff_not] at g13_51
        refine VD.skip ?_; refine VD.nw [] ?_; refine VD.skip ?_; refine VD.skip ?_; refine VD.skip ?_; refine VD.skip ?_; refine VD.skip ?_; refine VD.c (.pickF rfl rfl) ?_; refine VD.c (.pickF rfl rfl) ?_; refine VD.nil ?_; exact ⟨⟨rfl, rfl, rfl, rfl, rfl, rfl, rfl, rfl, rfl, rfl, slE rfl (by first | rfl | exact hcz g13_51), trivial⟩, rfl⟩
      refine VD.skip ?_; refine VD.skip ?_; refine VD.c (.pickF rfl rfl) ?_; refine VD.c (.pickF rfl rfl) ?_; refine VD.nw [] ?_; refine VD.c (.move rfl) ?_; refine VD.c (.move rfl) ?_; refine VD.c (.move rfl) ?_; refine VD.c (.move rfl) ?_; refine VD.splitB (x := 181) rfl (fun g13_26 => ?_) (fun g13_26 => ?_)
      · refine VD.c (.move rfl) ?_; refine VD.c (.eql) ?_; refine VD.nw [] ?_; refine VD.c (.pickT rfl rfl) ?_; refine VD.c (.bneq) ?_; refine VD.c (.pickF rfl rfl) ?_; refine VD.c (.move rfl) ?_; refine VD.splitB (x := 187) rfl (fun g13_32 => ?_) (fun g13_32 => ?_)
        · try simp only [Bool.and_eq_true, Bool.or_eq_true, Bool.and_eq_false_iff, Bool.or_eq_false_iff, Bool.not_eq_true', Bool.not_eq_false', decide_eq_true_eq, decide_eq_false_iff_not] at g13_32
          exact absurd g13_32 (by rw [hL, g13_26]; simp)
        try simp only [Bool.and_eq_true, Bool.or_eq_true, Bool.and_eq_false_iff, Bool.or_eq_false_iff, Bool.not_eq_true', Bool.not_eq_false', decide_eq_true_eq, decide_eq_false_iff_not] at g13_32
        refine VD.c (.move rfl) ?_; refine VD.c (.move rfl) ?_; refine VD.nw [] ?_; refine VD.splitB (x := 189) rfl (fun g13_34 => ?_) (fun g13_34 => ?_)
        · refine VD.c (.fa (.r (.r (.l .o)))) ?_; refine VD.r [] (.ld vt53) (.inl rfl) ?_; refine VD.c (.move rfl) ?_; refine VD.c (.ix (j := i) rfl rfl el53 (by omega)) ?_; refine VD.r [] (.ld vt59) (.inl rfl) ?_; refine VD.c (.fa (.r (.r (.l .o)))) ?_; refine VD.nw [] ?_; refine VD.r [] (.ld vt53) (.inl rfl) ?_; refine VD.c (.move rfl) ?_; refine VD.c (.ix (j := i) rfl rfl el53 (by omega)) ?_; refine VD.r [] (.ld vt59) (.inl rfl) ?_; refine VD.c (.fcmp .neq) ?_; refine VD.c (.pickT rfl rfl) ?_; refine VD.c (.pickF rfl rfl) ?_; refine VD.nw [] ?_; refine VD.c (.move rfl) ?_; refine VD.splitB (x := 203) rfl (fun g13_48 => ?_) (fun g13_48 => ?_)
          · exact absurd g13_48 (by rw [hce g13_34]; decide)
          refine VD.c (.move rfl) ?_; refine VD.c (.not) ?_; refine VD.c (.move rfl) ?_; refine VD.splitB (x := 206) rfl (fun g13_51 => ?_) (fun g13_51 => ?_)
          · try simp only [Bool.and_eq_true, Bool.or_eq_true, Bool.and_eq_false_iff, Bool.or_eq_false_iff, Bool.not_eq_true', Bool.not_eq_false', decide_eq_true_eq, decide_eq_false_iff_not] at g13_51
            refine VD.c (.fa (.r (.r (.l .o)))) ?_; refine VD.nw [] ?_; refine VD.r [] (.ld vt53) (.inl rfl) ?_; refine VD.c (.move rfl) ?_; refine VD.c (.ix (j := i) rfl rfl el53 (by omega)) ?_; refine VD.r [] (.ld vt59) (.inl rfl) ?_; refine VD.c (.fcmp .neq) ?_; refine VD.c (.pickT rfl rfl) ?_; refine VD.c (.pickF rfl rfl) ?_; refine VD.nil ?_; exact ⟨⟨rfl, rfl, rfl, rfl, rfl, rfl, rfl, rfl, rfl, rfl, slE rfl (by first | rfl | exact hcz g13_51), trivial⟩, rfl⟩
          try simp only [Bool.and_eq_true, Bool.or_eq_true, Bool.and_eq_false_iff, Bool.or_eq_false_iff, Bool.not_eq_true', Bool.not_eq_false', decide_eq_true_eq, decide_eq_false_iff_not] at g13_51
          refine VD.skip ?_; refine VD.nw [] ?_; refine VD.skip ?_; refine VD.skip ?_; refine VD.skip ?_; refine VD.skip ?_; refine VD.skip ?_; refine VD.c (.pickF rfl rfl) ?_; refine VD.c (.pickF rfl rfl) ?_; refine VD.nil ?_; exact ⟨⟨rfl, rfl, rfl, rfl, rfl, rfl, rfl, rfl, rfl, rfl, slE rfl (by first | rfl | exact hcz g13_51), trivial⟩, rfl⟩
        refine VD.skip ?_; refine VD.skip ?_; refine VD.skip ?_; refine VD.skip ?_; refine VD.skip ?_; refine VD.skip ?_; refine VD.nw [] ?_; refine VD.skip ?_; refine VD.skip ?_; refine VD.skip ?_; refine VD.skip ?_; refine VD.skip ?_; refine VD.c (.pickF rfl rfl) ?_; refine VD.c (.pickF rfl rfl) ?_; refine VD.nw [] ?_; refine VD.c (.move rfl) ?_; refine VD.c (.move rfl) ?_; refine VD.c (.not) ?_; refine VD.c (.move rfl) ?_; refine VD.splitB (x := 206) rfl (fun g13_51 => ?_) (fun g13_51 => ?_)
        · try simp only [Bool.and_eq_true, Bool.or_eq_true, Bool.and_eq_false_iff, Bool.or_eq_false_iff, Bool.not_eq_true', Bool.not_eq_false', decide_eq_true_eq, decide_eq_false_iff_not] at g13_51
          refine VD.c (.fa (.r (.r (.l .o)))) ?_; refine VD.r [] (.ld vt53) (.inl rfl) ?_; refine VD.nw [] ?_; refine VD.c (.move rfl) ?_; refine VD.c (.ix (j := i) rfl rfl el53 (by omega)) ?_; refine VD.r [] (.ld vt59) (.inl rfl) ?_; refine VD.c (.fcmp .neq) ?_; refine VD.c (.pickT rfl rfl) ?_; refine VD.c (.pickF rfl rfl) ?_; refine VD.nil ?_; exact ⟨⟨rfl, rfl, rfl, rfl, rfl, rfl, rfl, rfl, rfl, rfl, slE rfl (by first | rfl | exact hcz g13_51), trivial⟩, rfl⟩
        try simp only [Bool.and_eq_true, Bool.or_eq_true, Bool.and_eq_false_iff, Bool.or_eq_false_iff, Bool.not_eq_true', Bool.not_eq_false', decide_eq_true_eq, decide_eq_false_iff_not] at g13_51
        refine VD.skip ?_; refine VD.skip ?_; refine VD.nw [] ?_; refine VD.skip ?_; refine VD.skip ?_; refine VD.skip ?_; refine VD.skip ?_; refine VD.c (.pickF rfl rfl) ?_; refine VD.c (.pickF rfl rfl) ?_; refine VD.nil ?_; exact ⟨⟨rfl, rfl, rfl, rfl, rfl, rfl, rfl, rfl, rfl, rfl, slE rfl (by first | rfl | exact hcz g13_51), trivial⟩, rfl⟩
      refine VD.skip ?_; refine VD.skip ?_; refine VD.nw [] ?_; refine VD.c (.pickF rfl rfl) ?_; refine VD.c (.bneq) ?_; refine VD.c (.pickF rfl rfl) ?_; refine VD.c (.move rfl) ?_; refine VD.splitB (x := 187) rfl (fun g13_32 => ?_) (fun g13_32 => ?_)
      · try simp only [Bool.and_eq_true, Bool.or_eq_true, Bool.and_eq_false_iff, Bool.or_eq_false_iff, Bool.not_eq_true', Bool.not_eq_false', decide_eq_true_eq, decide_eq_false_iff_not] at g13_32
        exact absurd g13_32 (by rw [hL, g13_26]; simp)
      try simp only [Bool.and_eq_true, Bool.or_eq_true, Bool.and_eq_false_iff, Bool.or_eq_false_iff, Bool.not_eq_true', Bool.not_eq_false', decide_eq_true_eq, decide_eq_false_iff_not] at g13_32
      refine VD.c (.move rfl) ?_; refine VD.c (.move rfl) ?_; refine VD.nw [] ?_; refine VD.splitB (x := 189) rfl (fun g13_34 => ?_) (fun g13_34 => ?_)
      · refine VD.c (.fa (.r (.r (.l .o)))) ?_; refine VD.r [] (.ld vt53) (.inl rfl) ?_; refine VD.c (.move rfl) ?_; refine VD.c (.ix (j := i) rfl rfl el53 (by omega)) ?_; refine VD.r [] (.ld vt59) (.inl rfl) ?_; refine VD.c (.fa (.r (.r (.l .o)))) ?_; refine VD.nw [] ?_; refine VD.r [] (.ld vt53) (.inl rfl) ?_; refine VD.c (.move rfl) ?_; refine VD.c (.ix (j := i) rfl rfl el53 (by omega)) ?_; refine VD.r [] (.ld vt59) (.inl rfl) ?_; refine VD.c (.fcmp .neq) ?_; refine VD.c (.pickT rfl rfl) ?_; refine VD.c (.pickF rfl rfl) ?_; refine VD.nw [] ?_; refine VD.c (.move rfl) ?_; refine VD.splitB (x := 203) rfl (fun g13_48 => ?_) (fun g13_48 => ?_)
        · exact absurd g13_48 (by rw [hce g13_34]; decide)
        refine VD.c (.move rfl) ?_; refine VD.c (.not) ?_; refine VD.c (.move rfl) ?_; refine VD.splitB (x := 206) rfl (fun g13_51 => ?_) (fun g13_51 => ?_)
        · try simp only [Bool.and_eq_true, Bool.or_eq_true, Bool.and_eq_false_iff, Bool.or_eq_false_iff, Bool.not_eq_true', Bool.not_eq_false', decide_eq_true_eq, decide_eq_false_iff_not] at g13_51
          refine VD.c (.fa (.r (.r (.l .o)))) ?_; refine VD.nw [] ?_; refine VD.r [] (.ld vt53) (.inl rfl) ?_; refine VD.c (.move rfl) ?_; refine VD.c (.ix (j := i) rfl rfl el53 (by omega)) ?_; refine VD.r [] (.ld vt59) (.inl rfl) ?_; refine VD.c (.fcmp .neq) ?_; refine VD.c (.pickT rfl rfl) ?_; refine VD.c (.pickF rfl rfl) ?_; refine VD.nil ?_; exact ⟨⟨rfl, rfl, rfl, rfl, rfl, rfl, rfl, rfl, rfl, rfl, slE rfl (by first | rfl | exact hcz g13_51), trivial⟩, rfl⟩
        try simp only [Bool.and_eq_true, Bool.or_eq_true, Bool.and_eq_false_iff, Bool.or_eq_false_iff, Bool.not_eq_true', Bool.not_eq_false', decide_eq_true_eq, decide_eq_false_iff_not] at g13_51
        refine VD.skip ?_; refine VD.nw [] ?_; refine VD.skip ?_; refine VD.skip ?_; refine VD.skip ?_; refine VD.skip ?_; refine VD.skip ?_; refine VD.c (.pickF rfl rfl) ?_; refine VD.c (.pickF rfl rfl) ?_; refine VD.nil ?_; exact ⟨⟨rfl, rfl, rfl, rfl, rfl, rfl, rfl, rfl, rfl, rfl, slE rfl (by first | rfl | exact hcz g13_51), trivial⟩, rfl⟩
      refine VD.skip ?_; refine VD.skip ?_; refine VD.skip ?_; refine VD.skip ?_; refine VD.skip ?_; refine VD.skip ?_; refine VD.nw [] ?_; refine VD.skip ?_; refine VD.skip ?_; refine VD.skip ?_; refine VD.skip ?_; refine VD.skip ?_; refine VD.c (.pickF rfl rfl) ?_; refine VD.c (.pickF rfl rfl) ?_; refine VD.nw [] ?_; refine VD.c (.move rfl) ?_; refine VD.c (.move rfl) ?_; refine VD.c (.not) ?_; refine VD.c (.move rfl) ?_; refine VD.splitB (x := 206) rfl (fun g13_51 => ?_) (fun g13_51 => ?_)
      · try simp only [Bool.and_eq_true, Bool.or_eq_true, Bool.and_eq_false_iff, Bool.or_eq_false_iff, Bool.not_eq_true', Bool.not_eq_false', decide_eq_true_eq, decide_eq_false_iff_not] at g13_51
        refine VD.c (.fa (.r (.r (.l .o)))) ?_; refine VD.r [] (.ld vt53) (.inl rfl) ?_; refine VD.nw [] ?_; refine VD.c (.move rfl) ?_; refine VD.c (.ix (j := i) rfl rfl el53 (by omega)) ?_; refine VD.r [] (.ld vt59) (.inl rfl) ?_; refine VD.c (.fcmp .neq) ?_; refine VD.c (.pickT rfl rfl) ?_; refine VD.c (.pickF rfl rfl) ?_; refine VD.nil ?_; exact ⟨⟨rfl, rfl, rfl, rfl, rfl, rfl, rfl, rfl, rfl, rfl, slE rfl (by first | rfl | exact hcz g13_51), trivial⟩, rfl⟩
      try simp only [Bool.and_eq_true, Bool.or_eq_true, Bool.and_eq_false_iff, Bool.or_eq_false_iff, Bool.not_eq_true', Bool.not_eq_false', decide_eq_true_eq, decide_eq_false_iff_not] at g13_51
      refine VD.skip ?_; refine VD.skip ?_; refine VD.nw [] ?_; refine VD.skip ?_; refine VD.skip ?_; refine VD.skip ?_; refine VD.skip ?_; refine VD.c (.pickF rfl rfl) ?_; refine VD.c (.pickF rfl rfl) ?_; refine VD.nil ?_; exact ⟨⟨rfl, rfl, rfl, rfl, rfl, rfl, rfl, rfl, rfl, rfl, slE rfl (by first | rfl | exact hcz g13_51), trivial⟩, rfl⟩
    refine VC.condB rfl (fun c13 => ?_) (fun c13 => ?_)
    · exact absurd c13 (by decide)
    refine VC.skip (VC.seq (VC.seq (VC.text ?_))); refine VO.c (.move rfl) ?_; refine VO.c (.not) ?_; refine VO.go ?_; refine VC.condB rfl (fun c15 => ?_) (fun c15 => ?_)
    · try simp only [Bool.and_eq_true, Bool.or_eq_true, Bool.and_eq_false_iff, Bool.or_eq_false_iff, Bool.not_eq_true', Bool.not_eq_false', decide_eq_true_eq, decide_eq_false_iff_not] at c15
      have hTf : (lefT r l).getD i false = false := c15
      refine VC.exit (VC.text ?_); refine VO.c (.add rfl rfl (by omega)) ?_; refine VO.c (.move rfl) ?_; refine VO.nil ?_; refine ⟨_, [(1, .v y56 l), (2, .p y55 r), (5, .v y37 ((reaS r l l.length).1)), (7, .p y65 (keepR r (lefT r l))), (11, .v y37 ((reaS (keepR r (lefT r l)) l l.length).1)), (138, .v y37 ((reaS r l l.length).1)), (139, I ((((reaS r l l.length).1).length : Nat) : Int)), (140, I (((i + 1) : Nat) : Int))], ?_, ⟨rfl, rfl, rfl, rfl, rfl, rfl, rfl, rfl, trivial⟩, (i + 1), rfl, rfl, rfl, (by omega)⟩
      omega
    try simp only [Bool.and_eq_true, Bool.or_eq_true, Bool.and_eq_false_iff, Bool.or_eq_false_iff, Bool.not_eq_true', Bool.not_eq_false', decide_eq_true_eq, decide_eq_false_iff_not] at c15
    have hT : (lefT r l).getD i false = true := c15
    have hno := fun k (hk : k < l.length) => keep_no (k := k) h hk hib hT
    have hx16 : lvlE ((keepR r (lefT r l)).2.2.1[i]) = 0 := hCv _ (List.getElem_mem hiC)
    obtain ⟨hu, hu0, hu1⟩ := lvl_ok hx16
    have hb16 := u32_bound hu
    have hy16 := widen hu hb16
    obtain ⟨r16, hr16, hr17⟩ := mul16w v16 hu hy16 hb16
    have hli : lev16 (keepR r (lefT r l)) i = sxE ((keepR r (lefT r l)).2.2.1[i]) := lev16_at hiC
    refine VC.skip (VC.seq (VC.text ?_)); refine VO.c (.fa (.r (.r (.l .o)))) ?_; refine VO.r (.ld vt53) ?_; refine VO.c (.move rfl) ?_; refine VO.c (.ix (j := i) rfl rfl el53 (by omega)) ?_; refine VO.r (.ld vt59) ?_; refine VO.c (.widen hu hy16) ?_; refine VO.c (.fop (mul64E hr16)) ?_; refine VO.c (.cvFI (toInt64E (sxW hx16 hr17)) (fitN (by omega))) ?_; refine VO.c (.assign rfl) ?_; refine VO.go (VC.seq (VC.text ?_)); refine VO.c (.move rfl) ?_; refine VO.r (.len el56) ?_; refine VO.c (.move rfl) ?_; refine VO.go (VC.block ?_); refine VC.keep [(1, .v y56 l), (2, .p y55 r), (5, .v y37 ((reaS r l l.length).1)), (7, .p y65 (keepR r (lefT r l))), (11, .v y37 ((reaS (keepR r (lefT r l)) l l.length).1)), (13, I ((i : Nat) : Int)), (17, I (sxE ((keepR r (lefT r l)).2.2.1[i]))), (138, .v y37 ((reaS r l l.length).1)), (139, I ((((reaS r l l.length).1).length : Nat) : Int)), (140, I ((i : Nat) : Int)), (225, .v y56 l), (226, I ((l.length : Nat) : Int)), (227, I ((0 : Nat) : Int))] ⟨rfl, rfl, rfl, rfl, rfl, rfl, rfl, rfl, rfl, rfl, rfl, rfl, rfl, trivial⟩ ?_; refine VC.loop (I := fun kk ff ss => ∃ (k : Nat), kk = l.length - k ∧ ff = [(1, .v y56 l), (2, .p y55 r), (5, .v y37 ((reaS r l l.length).1)), (7, .p y65 (keepR r (lefT r l))), (11, .v y37 ((reaS (keepR r (lefT r l)) l l.length).1)), (13, I ((i : Nat) : Int)), (17, I (sxE ((keepR r (lefT r l)).2.2.1[i]))), (138, .v y37 ((reaS r l l.length).1)), (139, I ((((reaS r l l.length).1).length : Nat) : Int)), (140, I ((i : Nat) : Int)), (225, .v y56 l), (226, I ((l.length : Nat) : Int)), (227, I ((k : Nat) : Int))] ∧ ss = [] ∧ (k ≤ l.length)) ?_ _ _ _ ⟨0, rfl, rfl, rfl, Nat.zero_le _⟩; rintro kk ff ss ⟨k, hk2, rfl, rfl, hk⟩; refine VC.seq (VC.text ?_); refine VO.c (.lss) ?_; refine VO.go (VC.seq ?_); refine VC.condD rfl (fun c18 => ?_) (fun c18 => ?_)
    · have hkl : k < l.length := by omega
      have hnk := hno k hkl
      refine VC.skip (VC.seq (VC.block (VC.seq (VC.text ?_)))); refine VO.c (.ix (j := k) rfl rfl el56 (by omega)) ?_; refine VO.r (.ld vt108) ?_; refine VO.cell (.alloc zt108) ?_; intro ww3; refine VO.setV (cs' := [St ((l[k]).1), I ((l[k]).2.1), I ((l[k]).2.2)]) vt108 .v ?_; refine VO.shut [(19, .p y108 (l[k]))] (.cons rfl (.var m0 .refl) .nil) ?_; refine VO.go (VC.seq (VC.text ?_)); refine VO.c (.fa (.l .o)) ?_; refine VO.r (.ld vt9) ?_; refine VO.go (VC.block (VC.seq (VC.text ?_))); refine VO.c (.seql) ?_; refine VO.c (.assign rfl) ?_; refine VO.go ?_; refine VC.condD rfl (fun c21 => ?_) (fun c21 => ?_)
      · have hkr := keep_range hnk c21
        refine VC.seq (VC.text ?_); refine VO.c (.move rfl) ?_; refine VO.c (.fa (.r (.l .o))) ?_; refine VO.r (.ld vt3) ?_; refine VO.c (.lss) ?_; refine VO.c (.move rfl) ?_; refine VO.cg (r := decide (sxE ((keepR r (lefT r l)).2.2.1[i]) < (l[k]).2.1)) (w := false) [] trivial (fun _ => (.move rfl)) ?_; refine VO.cg (r := decide (sxE ((keepR r (lefT r l)).2.2.1[i]) < (l[k]).2.1)) (w := false) [] trivial (fun _ => (.fa (.r (.r (k := 0) .o)))) ?_; refine VO.rg (r := decide (sxE ((keepR r (lefT r l)).2.2.1[i]) < (l[k]).2.1)) (w := false) [(241, .p (.int .i64) ((l[k]).2.2))] ⟨rfl, trivial⟩ (fun _ => (.ld vt3)) ?_; refine VO.cg (r := decide (sxE ((keepR r (lefT r l)).2.2.1[i]) < (l[k]).2.1)) (w := false) [(240, I (sxE ((keepR r (lefT r l)).2.2.1[i]))), (242, I ((l[k]).2.2))] ⟨rfl, rfl, trivial⟩ (fun _ => (.gtr)) ?_; refine VO.c (.or) ?_; refine VO.go ?_; refine VC.condB rfl (fun c22 => ?_) (fun c22 => ?_)
        · try simp only [Bool.and_eq_true, Bool.or_eq_true, Bool.and_eq_false_iff, Bool.or_eq_false_iff, Bool.not_eq_true', Bool.not_eq_false', decide_eq_true_eq, decide_eq_false_iff_not] at c22
          exact (c22.elim (fun hh => hkr.1 (by rw [hli]; exact hh)) (fun hh => hkr.2 (by rw [hli]; exact hh)) : False).elim
        try simp only [Bool.and_eq_true, Bool.or_eq_true, Bool.and_eq_false_iff, Bool.or_eq_false_iff, Bool.not_eq_true', Bool.not_eq_false', decide_eq_true_eq, decide_eq_false_iff_not] at c22
        refine VC.skip (VC.text ?_); refine VO.c (.add rfl rfl (by omega)) ?_; refine VO.c (.move rfl) ?_; refine VO.nil ?_; refine ⟨_, [(1, .v y56 l), (2, .p y55 r), (5, .v y37 ((reaS r l l.length).1)), (7, .p y65 (keepR r (lefT r l))), (11, .v y37 ((reaS (keepR r (lefT r l)) l l.length).1)), (13, I ((i : Nat) : Int)), (17, I (sxE ((keepR r (lefT r l)).2.2.1[i]))), (138, .v y37 ((reaS r l l.length).1)), (139, I ((((reaS r l l.length).1).length : Nat) : Int)), (140, I ((i : Nat) : Int)), (225, .v y56 l), (226, I ((l.length : Nat) : Int)), (227, I (((k + 1) : Nat) : Int))], ?_, ⟨rfl, rfl, rfl, rfl, rfl, rfl, rfl, rfl, rfl, rfl, rfl, rfl, rfl, trivial⟩, (k + 1), rfl, rfl, rfl, (by omega)⟩
        omega
      refine VC.seq (VC.text ?_); refine VO.c (.seql) ?_; refine VO.c (.assign rfl) ?_; refine VO.go ?_; refine VC.condD rfl (fun c24 => ?_) (fun c24 => ?_)
      · refine VC.seq (VC.text ?_); refine VO.c (.move rfl) ?_; refine VO.c (.gtr) ?_; refine VO.c (.move rfl) ?_; refine VO.cg (r := decide ((0 : Int) < ((i : Nat) : Int))) (w := true) [] trivial (fun _ => (.fa (.r (.r (.r (k := 0) .o))))) ?_; refine VO.rg (r := decide ((0 : Int) < ((i : Nat) : Int))) (w := true) [(250, .p y22 ((keepR r (lefT r l)).2.2.2))] ⟨rfl, trivial⟩ (fun _ => (.ld vt22)) ?_; refine VO.cg (r := decide ((0 : Int) < ((i : Nat) : Int))) (w := true) [] trivial (fun _ => (.move rfl)) ?_; refine VO.cg (r := decide ((0 : Int) < ((i : Nat) : Int))) (w := true) [(252, I ((i : Nat) : Int))] ⟨rfl, trivial⟩ (fun hgd => have g25_2 : (0 : Int) < ((i : Nat) : Int) := (by simpa using hgd); (.sub rfl rfl (by omega))) ?_; refine VO.callg (r0 := decide ((0 : Int) < ((i : Nat) : Int))) (w := true) [(251, .v y22 ((keepR r (lefT r l)).2.2.2)), (253, I (((i : Nat) : Int) - (1 : Int)))] ⟨rfl, rfl, trivial⟩ rfl rfl .same .refl rfl (fun hgd => have g25_2 : (0 : Int) < ((i : Nat) : Int) := (by simpa using hgd); VF.call (rHas_ok (by first | assumption | omega | simp))) ?_; refine VO.cg (r := decide ((0 : Int) < ((i : Nat) : Int))) (w := true) [(254, B (Sp.inL ((keepR r (lefT r l)).2.2.2) (((i : Nat) : Int) - (1 : Int))))] ⟨rfl, trivial⟩ (fun _ => (.not)) ?_; refine VO.c (.and) ?_; refine VO.go ?_; refine VC.condB rfl (fun c25 => ?_) (fun c25 => ?_)
        · try simp only [Bool.and_eq_true, Bool.or_eq_true, Bool.and_eq_false_iff, Bool.or_eq_false_iff, Bool.not_eq_true', Bool.not_eq_false', decide_eq_true_eq, decide_eq_false_iff_not] at c25
          have hi0 : i ≠ 0 := by have := c25.1; omega
          have hip : ((i : Int) - 1).toNat = i - 1 := by omega
          have hTp : (lefT r l).getD (i - 1) false = true := by
            have h1 := thereE_at (r := keepR r (lefT r l)) (i := i - 1) (by omega) (by rw [thereE_len]; omega)
            rw [← getDat (d := false), there_keep hTl, recB_in (by omega), show ((i - 1 : Nat) : Int) = (i : Int) - 1 by omega, show Sp.inL (keepR r (lefT r l)).2.2.2 ((i : Int) - 1) = false from c25.2] at h1
            exact h1
          have hA := jump_A (hrl _ (List.getElem_mem hkl)) (fun hh => c21 hh) c24
          have hkj := keep_jump hnk (fun hh => c21 hh) c24 hi0 hTp
          have hpC : ((i : Int) - 1).toNat < (keepR r (lefT r l)).2.2.1.length := by omega
          have hp16 : lvlE ((keepR r (lefT r l)).2.2.1[Int.toNat ((i : Int) - 1)]) = 0 := hCv _ (List.getElem_mem hpC)
          obtain ⟨hpu, hpu0, hpu1⟩ := lvl_ok hp16
          have hpb := u32_bound hpu
          have hpy := widen hpu hpb
          obtain ⟨p16, hpr16, hpr17⟩ := mul16w v16 hpu hpy hpb
          have hpi : lev16 (keepR r (lefT r l)) (i - 1) = sxE ((keepR r (lefT r l)).2.2.1[Int.toNat ((i : Int) - 1)]) := by
            rw [lev16_at (show i - 1 < (keepR r (lefT r l)).2.2.1.length by omega)]
            simp only [hip]
          rw [hli, hpi] at hkj
          refine VC.seq (VC.text ?_); refine VO.c (.move rfl) ?_; refine VO.c (.fa (.r (.r (.l .o)))) ?_; refine VO.r (.ld vt53) ?_; refine VO.c (.move rfl) ?_; refine VO.c (.sub rfl rfl (by omega)) ?_; refine VO.c (.ixZ (k := (((i : Nat) : Int) - (1 : Int))) rfl rfl el53 (by omega) (by omega)) ?_; refine VO.r (.ld vt59) ?_; refine VO.c (.widen hpu hpy) ?_; refine VO.c (.fop (mul64E hpr16)) ?_; refine VO.c (.cvFI (toInt64E (sxW hp16 hpr17)) (fitN (by omega))) ?_; refine VO.c (.sub rfl rfl (by omega)) ?_; refine VO.c (.assign rfl) ?_; refine VO.go (VC.seq (VC.text ?_)); refine VO.c (.move rfl) ?_; refine VO.c (.fa (.r (.l .o))) ?_; refine VO.r (.ld vt3) ?_; refine VO.c (.gtr) ?_; refine VO.c (.move rfl) ?_; refine VO.cg (r := decide ((l[k]).2.1 < (sxE ((keepR r (lefT r l)).2.2.1[i]) - sxE ((keepR r (lefT r l)).2.2.1[Int.toNat ((i : Int) - 1)])))) (w := false) [] trivial (fun _ => (.move rfl)) ?_; refine VO.cg (r := decide ((l[k]).2.1 < (sxE ((keepR r (lefT r l)).2.2.1[i]) - sxE ((keepR r (lefT r l)).2.2.1[Int.toNat ((i : Int) - 1)])))) (w := false) [] trivial (fun _ => (.fa (.r (.l .o)))) ?_; refine VO.rg (r := decide ((l[k]).2.1 < (sxE ((keepR r (lefT r l)).2.2.1[i]) - sxE ((keepR r (lefT r l)).2.2.1[Int.toNat ((i : Int) - 1)])))) (w := false) [(274, .p (.int .i64) ((l[k]).2.1))] ⟨rfl, trivial⟩ (fun _ => (.ld vt3)) ?_; refine VO.cg (r := decide ((l[k]).2.1 < (sxE ((keepR r (lefT r l)).2.2.1[i]) - sxE ((keepR r (lefT r l)).2.2.1[Int.toNat ((i : Int) - 1)])))) (w := false) [(275, I ((l[k]).2.1))] ⟨rfl, trivial⟩ (fun hgd => have g27_4 : ¬ ((l[k]).2.1 < (sxE ((keepR r (lefT r l)).2.2.1[i]) - sxE ((keepR r (lefT r l)).2.2.1[Int.toNat ((i : Int) - 1)]))) := (by simpa using hgd); (.neg rfl (by omega))) ?_; refine VO.cg (r := decide ((l[k]).2.1 < (sxE ((keepR r (lefT r l)).2.2.1[i]) - sxE ((keepR r (lefT r l)).2.2.1[Int.toNat ((i : Int) - 1)])))) (w := false) [(273, I (sxE ((keepR r (lefT r l)).2.2.1[i]) - sxE ((keepR r (lefT r l)).2.2.1[Int.toNat ((i : Int) - 1)]))), (276, I (-((l[k]).2.1)))] ⟨rfl, rfl, trivial⟩ (fun _ => (.lss)) ?_; refine VO.c (.or) ?_; refine VO.go ?_; refine VC.condB rfl (fun c27 => ?_) (fun c27 => ?_)
          · try simp only [Bool.and_eq_true, Bool.or_eq_true, Bool.and_eq_false_iff, Bool.or_eq_false_iff, Bool.not_eq_true', Bool.not_eq_false', decide_eq_true_eq, decide_eq_false_iff_not] at c27
            have h27 : (l[k]).2.1 < sxE ((keepR r (lefT r l)).2.2.1[i]) - sxE ((keepR r (lefT r l)).2.2.1[Int.toNat ((i : Int) - 1)]) ∨ sxE ((keepR r (lefT r l)).2.2.1[i]) - sxE ((keepR r (lefT r l)).2.2.1[Int.toNat ((i : Int) - 1)]) < -(l[k]).2.1 := c27
            exact (hkj (by omega)).elim
          try simp only [Bool.and_eq_true, Bool.or_eq_true, Bool.and_eq_false_iff, Bool.or_eq_false_iff, Bool.not_eq_true', Bool.not_eq_false', decide_eq_true_eq, decide_eq_false_iff_not] at c27
          refine VC.skip ?_; refine VC.keep [(1, .v y56 l), (2, .p y55 r), (5, .v y37 ((reaS r l l.length).1)), (7, .p y65 (keepR r (lefT r l))), (11, .v y37 ((reaS (keepR r (lefT r l)) l l.length).1)), (13, I ((i : Nat) : Int)), (17, I (sxE ((keepR r (lefT r l)).2.2.1[i]))), (138, .v y37 ((reaS r l l.length).1)), (139, I ((((reaS r l l.length).1).length : Nat) : Int)), (140, I ((i : Nat) : Int)), (225, .v y56 l), (226, I ((l.length : Nat) : Int)), (227, I ((k : Nat) : Int))] ⟨rfl, rfl, rfl, rfl, rfl, rfl, rfl, rfl, rfl, rfl, rfl, rfl, rfl, trivial⟩ ?_; refine VC.text ?_; refine VO.c (.add rfl rfl (by omega)) ?_; refine VO.c (.move rfl) ?_; refine VO.nil ?_; refine ⟨_, [(1, .v y56 l), (2, .p y55 r), (5, .v y37 ((reaS r l l.length).1)), (7, .p y65 (keepR r (lefT r l))), (11, .v y37 ((reaS (keepR r (lefT r l)) l l.length).1)), (13, I ((i : Nat) : Int)), (17, I (sxE ((keepR r (lefT r l)).2.2.1[i]))), (138, .v y37 ((reaS r l l.length).1)), (139, I ((((reaS r l l.length).1).length : Nat) : Int)), (140, I ((i : Nat) : Int)), (225, .v y56 l), (226, I ((l.length : Nat) : Int)), (227, I (((k + 1) : Nat) : Int))], ?_, ⟨rfl, rfl, rfl, rfl, rfl, rfl, rfl, rfl, rfl, rfl, rfl, rfl, rfl, trivial⟩, (k + 1), rfl, rfl, rfl, (by omega)⟩
          omega
        try simp only [Bool.and_eq_true, Bool.or_eq_true, Bool.and_eq_false_iff, Bool.or_eq_false_iff, Bool.not_eq_true', Bool.not_eq_false', decide_eq_true_eq, decide_eq_false_iff_not] at c25
        refine VC.skip (VC.text ?_); refine VO.c (.add rfl rfl (by omega)) ?_; refine VO.c (.move rfl) ?_; refine VO.nil ?_; refine ⟨_, [(1, .v y56 l), (2, .p y55 r), (5, .v y37 ((reaS r l l.length).1)), (7, .p y65 (keepR r (lefT r l))), (11, .v y37 ((reaS (keepR r (lefT r l)) l l.length).1)), (13, I ((i : Nat) : Int)), (17, I (sxE ((keepR r (lefT r l)).2.2.1[i]))), (138, .v y37 ((reaS r l l.length).1)), (139, I ((((reaS r l l.length).1).length : Nat) : Int)), (140, I ((i : Nat) : Int)), (225, .v y56 l), (226, I ((l.length : Nat) : Int)), (227, I (((k + 1) : Nat) : Int))], ?_, ⟨rfl, rfl, rfl, rfl, rfl, rfl, rfl, rfl, rfl, rfl, rfl, rfl, rfl, trivial⟩, (k + 1), rfl, rfl, rfl, (by omega)⟩
        omega
      refine VC.seq (VC.text ?_); refine VO.c (.seql) ?_; refine VO.c (.assign rfl) ?_; refine VO.go ?_; refine VC.condD rfl (fun c29 => ?_) (fun c29 => ?_)
      · refine VC.seq (VC.text ?_); refine VO.c (.assign rfl) ?_; refine VO.go (VC.seq (VC.seq (VC.text ?_))); refine VO.c (.move rfl) ?_; refine VO.c (.assign rfl) ?_; refine VO.go (VC.block ?_); refine VC.keep [(1, .v y56 l), (2, .p y55 r), (5, .v y37 ((reaS r l l.length).1)), (7, .p y65 (keepR r (lefT r l))), (11, .v y37 ((reaS (keepR r (lefT r l)) l l.length).1)), (13, I ((i : Nat) : Int)), (17, I (sxE ((keepR r (lefT r l)).2.2.1[i]))), (19, .p y108 (l[k])), (21, I ((0 : Nat) : Int)), (22, I ((i : Int) - 0)), (138, .v y37 ((reaS r l l.length).1)), (139, I ((((reaS r l l.length).1).length : Nat) : Int)), (140, I ((i : Nat) : Int)), (225, .v y56 l), (226, I ((l.length : Nat) : Int)), (227, I ((k : Nat) : Int))] ⟨rfl, rfl, rfl, rfl, rfl, rfl, rfl, rfl, rfl, slI rfl (by omega), rfl, rfl, rfl, rfl, rfl, rfl, trivial⟩ ?_; refine VC.loop (I := fun kk ff ss => ∃ (m : Nat), kk = i + 2 - m ∧ ff = [(1, .v y56 l), (2, .p y55 r), (5, .v y37 ((reaS r l l.length).1)), (7, .p y65 (keepR r (lefT r l))), (11, .v y37 ((reaS (keepR r (lefT r l)) l l.length).1)), (13, I ((i : Nat) : Int)), (17, I (sxE ((keepR r (lefT r l)).2.2.1[i]))), (19, .p y108 (l[k])), (21, I ((m : Nat) : Int)), (22, I ((i : Int) - m)), (138, .v y37 ((reaS r l l.length).1)), (139, I ((((reaS r l l.length).1).length : Nat) : Int)), (140, I ((i : Nat) : Int)), (225, .v y56 l), (226, I ((l.length : Nat) : Int)), (227, I ((k : Nat) : Int))] ∧ ss = [] ∧ (m ≤ i + 1) ∧ (∀ j : Nat, j ≤ i → (i : Int) - m < (j : Int) → (lefT r l).getD j false = true ∧ lev16 (keepR r (lefT r l)) j = lev16 (keepR r (lefT r l)) i)) ?_ _ _ _ ⟨0, rfl, rfl, rfl, (by omega), (by exact fun j h1 h2 => absurd h2 (by omega))⟩; rintro kk ff ss ⟨m, hk5, rfl, rfl, hm, hall⟩; refine VC.seq (VC.seq (VC.drawn ?_)); refine VD.c (.move rfl) ?_; refine VD.c (.geq) ?_; refine VD.c (.move rfl) ?_; refine VD.splitD (x := 284) rfl (fun g32_2 => ?_) (fun g32_2 => ?_)
        · refine VD.c (.fa (.r (.r (.r .o)))) ?_; refine VD.r [] (.ld vt22) (.inl rfl) ?_; refine VD.nw [] ?_; refine VD.c (.move rfl) ?_; refine VD.call rfl rfl (VF.call (rHas_ok (by first | assumption | omega | simp))) ?_; refine VD.c (.not) ?_; refine VD.c (.pickT rfl rfl) ?_; refine VD.c (.move rfl) ?_; refine VD.splitB (x := 291) rfl (fun g32_9 => ?_) (fun g32_9 => ?_)
          · try simp only [Bool.and_eq_true, Bool.or_eq_true, Bool.and_eq_false_iff, Bool.or_eq_false_iff, Bool.not_eq_true', Bool.not_eq_false', decide_eq_true_eq, decide_eq_false_iff_not] at g32_9
            have hkC : ((i : Int) - m).toNat < (keepR r (lefT r l)).2.2.1.length := by omega
            have hvk : lvlE ((keepR r (lefT r l)).2.2.1[Int.toNat ((i : Int) - m)]) = 0 := hCv _ (List.getElem_mem hkC)
            refine VD.c (.fa (.r (.r (.l .o)))) ?_; refine VD.nw [] ?_; refine VD.r [] (.ld vt53) (.inl rfl) ?_; refine VD.c (.move rfl) ?_; refine VD.c (.ixZ (k := ((i : Int) - m)) rfl rfl el53 (by omega) (by omega)) ?_; refine VD.r [] (.ld vt59) (.inl rfl) ?_; refine VD.c (.fa (.r (.r (.l .o)))) ?_; refine VD.r [] (.ld vt53) (.inl rfl) ?_; refine VD.c (.move rfl) ?_; refine VD.nw [] ?_; refine VD.c (.ix (j := i) rfl rfl el53 (by omega)) ?_; refine VD.r [] (.ld vt59) (.inl rfl) ?_; refine VD.c (.fcmpD (b := .eql) (eq_lv hvk hx16)) ?_; refine VD.c (.pickT rfl rfl) ?_; refine VD.go ?_; refine VC.condD rfl (fun c32 => ?_) (fun c32 => ?_)
            · have hTk : (lefT r l).getD ((i : Int) - m).toNat false = true := by
                have h1 := thereE_at (r := keepR r (lefT r l)) hkC (by rw [thereE_len]; exact hkC)
                rw [← getDat (d := false), there_keep hTl, recB_in hkC, show (((((i : Int) - m).toNat : Nat)) : Int) = (i : Int) - m by omega, show Sp.inL (keepR r (lefT r l)).2.2.2 ((i : Int) - m) = false from g32_9] at h1
                exact h1
              have hthis : (lefT r l).getD ((i : Int) - m).toNat false = true ∧ lev16 (keepR r (lefT r l)) ((i : Int) - m).toNat = lev16 (keepR r (lefT r l)) i := ⟨hTk, by rw [hli, lev16_at hkC]; exact c32⟩
              refine VC.skip (VC.seq (VC.block (VC.text ?_))); refine VO.c (.move rfl) ?_; refine VO.c (.add rfl rfl (by omega)) ?_; refine VO.c (.assign rfl) ?_; refine VO.nil (VC.text ?_); refine VO.c (.move rfl) ?_; refine VO.c (.sub rfl rfl (by omega)) ?_; refine VO.c (.assign rfl) ?_; refine VO.nil ?_; refine ⟨_, [(1, .v y56 l), (2, .p y55 r), (5, .v y37 ((reaS r l l.length).1)), (7, .p y65 (keepR r (lefT r l))), (11, .v y37 ((reaS (keepR r (lefT r l)) l l.length).1)), (13, I ((i : Nat) : Int)), (17, I (sxE ((keepR r (lefT r l)).2.2.1[i]))), (19, .p y108 (l[k])), (21, I (((m + 1) : Nat) : Int)), (22, I ((i : Int) - (m + 1))), (138, .v y37 ((reaS r l l.length).1)), (139, I ((((reaS r l l.length).1).length : Nat) : Int)), (140, I ((i : Nat) : Int)), (225, .v y56 l), (226, I ((l.length : Nat) : Int)), (227, I ((k : Nat) : Int))], ?_, ⟨rfl, rfl, rfl, rfl, rfl, rfl, rfl, rfl, rfl, slI rfl (by omega), rfl, rfl, rfl, rfl, rfl, rfl, trivial⟩, (m + 1), rfl, rfl, rfl, (by omega), (by exact fun j h1 h2 => if e : j = (((i : Int) - m)).toNat then (by subst e; exact hthis) else hall j h1 (by omega))⟩
              omega
            refine VC.exit (VC.seq (VC.text ?_)); refine VO.c (.move rfl) ?_; refine VO.c (.fa (.r (.l .o))) ?_; refine VO.r (.ld vt3) ?_; refine VO.c (.gtr) ?_; refine VO.go ?_; refine VC.condD rfl (fun c35 => ?_) (fun c35 => ?_)
            · exact (keep_stuck hnk (fun hh => c21 hh) (fun hh => c24 hh) (by omega) (fun j h1 h2 => hall j (by omega) (by omega))).elim
            refine VC.skip (VC.text ?_); refine VO.c (.add rfl rfl (by omega)) ?_; refine VO.c (.move rfl) ?_; refine VO.nil ?_; refine ⟨_, [(1, .v y56 l), (2, .p y55 r), (5, .v y37 ((reaS r l l.length).1)), (7, .p y65 (keepR r (lefT r l))), (11, .v y37 ((reaS (keepR r (lefT r l)) l l.length).1)), (13, I ((i : Nat) : Int)), (17, I (sxE ((keepR r (lefT r l)).2.2.1[i]))), (138, .v y37 ((reaS r l l.length).1)), (139, I ((((reaS r l l.length).1).length : Nat) : Int)), (140, I ((i : Nat) : Int)), (225, .v y56 l), (226, I ((l.length : Nat) : Int)), (227, I (((k + 1) : Nat) : Int))], ?_, ⟨rfl, rfl, rfl, rfl, rfl, rfl, rfl, rfl, rfl, rfl, rfl, rfl, rfl, trivial⟩, (k + 1), rfl, rfl, rfl, (by omega)⟩
            omega
          try simp only [Bool.and_eq_true, Bool.or_eq_true, Bool.and_eq_false_iff, Bool.or_eq_false_iff, Bool.not_eq_true', Bool.not_eq_false', decide_eq_true_eq, decide_eq_false_iff_not] at g32_9
          refine VD.skip ?_; refine VD.nw [] ?_; refine VD.skip ?_; refine VD.skip ?_; refine VD.skip ?_; refine VD.skip ?_; refine VD.skip ?_; refine VD.skip ?_; refine VD.skip ?_; refine VD.nw [] ?_; refine VD.skip ?_; refine VD.skip ?_; refine VD.skip ?_; refine VD.c (.pickF rfl rfl) ?_; refine VD.go ?_; refine VC.condF rfl ?_; refine VC.exit (VC.seq (VC.text ?_)); refine VO.c (.move rfl) ?_; refine VO.c (.fa (.r (.l .o))) ?_; refine VO.r (.ld vt3) ?_; refine VO.c (.gtr) ?_; refine VO.go ?_; refine VC.condD rfl (fun c35 => ?_) (fun c35 => ?_)
          · exact (keep_stuck hnk (fun hh => c21 hh) (fun hh => c24 hh) (by omega) (fun j h1 h2 => hall j (by omega) (by omega))).elim
          refine VC.skip (VC.text ?_); refine VO.c (.add rfl rfl (by omega)) ?_; refine VO.c (.move rfl) ?_; refine VO.nil ?_; refine ⟨_, [(1, .v y56 l), (2, .p y55 r), (5, .v y37 ((reaS r l l.length).1)), (7, .p y65 (keepR r (lefT r l))), (11, .v y37 ((reaS (keepR r (lefT r l)) l l.length).1)), (13, I ((i : Nat) : Int)), (17, I (sxE ((keepR r (lefT r l)).2.2.1[i]))), (138, .v y37 ((reaS r l l.length).1)), (139, I ((((reaS r l l.length).1).length : Nat) : Int)), (140, I ((i : Nat) : Int)), (225, .v y56 l), (226, I ((l.length : Nat) : Int)), (227, I (((k + 1) : Nat) : Int))], ?_, ⟨rfl, rfl, rfl, rfl, rfl, rfl, rfl, rfl, rfl, rfl, rfl, rfl, rfl, trivial⟩, (k + 1), rfl, rfl, rfl, (by omega)⟩
          omega
        refine VD.skip ?_; refine VD.skip ?_; refine VD.nw [] ?_; refine VD.skip ?_; refine VD.skip ?_; refine VD.skip ?_; refine VD.c (.pickF rfl rfl) ?_; refine VD.c (.move rfl) ?_; refine VD.skip ?_; refine VD.skip ?_; refine VD.nw [] ?_; refine VD.skip ?_; refine VD.skip ?_; refine VD.skip ?_; refine VD.skip ?_; refine VD.skip ?_; refine VD.skip ?_; refine VD.skip ?_; refine VD.nw [] ?_; refine VD.skip ?_; refine VD.skip ?_; refine VD.c (.pickF rfl rfl) ?_; refine VD.go ?_; refine VC.condF rfl ?_; refine VC.exit (VC.seq (VC.text ?_)); refine VO.c (.move rfl) ?_; refine VO.c (.fa (.r (.l .o))) ?_; refine VO.r (.ld vt3) ?_; refine VO.c (.gtr) ?_; refine VO.go ?_; refine VC.condD rfl (fun c35 => ?_) (fun c35 => ?_)
        · exact (keep_stuck hnk (fun hh => c21 hh) (fun hh => c24 hh) (by omega) (fun j h1 h2 => hall j (by omega) (by omega))).elim
        refine VC.skip (VC.text ?_); refine VO.c (.add rfl rfl (by omega)) ?_; refine VO.c (.move rfl) ?_; refine VO.nil ?_; refine ⟨_, [(1, .v y56 l), (2, .p y55 r), (5, .v y37 ((reaS r l l.length).1)), (7, .p y65 (keepR r (lefT r l))), (11, .v y37 ((reaS (keepR r (lefT r l)) l l.length).1)), (13, I ((i : Nat) : Int)), (17, I (sxE ((keepR r (lefT r l)).2.2.1[i]))), (138, .v y37 ((reaS r l l.length).1)), (139, I ((((reaS r l l.length).1).length : Nat) : Int)), (140, I ((i : Nat) : Int)), (225, .v y56 l), (226, I ((l.length : Nat) : Int)), (227, I (((k + 1) : Nat) : Int))], ?_, ⟨rfl, rfl, rfl, rfl, rfl, rfl, rfl, rfl, rfl, rfl, rfl, rfl, rfl, trivial⟩, (k + 1), rfl, rfl, rfl, (by omega)⟩
        omega
      refine VC.skip (VC.text ?_); refine VO.c (.add rfl rfl (by omega)) ?_; refine VO.c (.move rfl) ?_; refine VO.nil ?_; refine ⟨_, [(1, .v y56 l), (2, .p y55 r), (5, .v y37 ((reaS r l l.length).1)), (7, .p y65 (keepR r (lefT r l))), (11, .v y37 ((reaS (keepR r (lefT r l)) l l.length).1)), (13, I ((i : Nat) : Int)), (17, I (sxE ((keepR r (lefT r l)).2.2.1[i]))), (138, .v y37 ((reaS r l l.length).1)), (139, I ((((reaS r l l.length).1).length : Nat) : Int)), (140, I ((i : Nat) : Int)), (225, .v y56 l), (226, I ((l.length : Nat) : Int)), (227, I (((k + 1) : Nat) : Int))], ?_, ⟨rfl, rfl, rfl, rfl, rfl, rfl, rfl, rfl, rfl, rfl, rfl, rfl, rfl, trivial⟩, (k + 1), rfl, rfl, rfl, (by omega)⟩
      omega
    refine VC.exit (VC.text ?_); refine VO.c (.add rfl rfl (by omega)) ?_; refine VO.c (.move rfl) ?_; refine VO.nil ?_; refine ⟨_, [(1, .v y56 l), (2, .p y55 r), (5, .v y37 ((reaS r l l.length).1)), (7, .p y65 (keepR r (lefT r l))), (11, .v y37 ((reaS (keepR r (lefT r l)) l l.length).1)), (138, .v y37 ((reaS r l l.length).1)), (139, I ((((reaS r l l.length).1).length : Nat) : Int)), (140, I (((i + 1) : Nat) : Int))], ?_, ⟨rfl, rfl, rfl, rfl, rfl, rfl, rfl, rfl, trivial⟩, (i + 1), rfl, rfl, rfl, (by omega)⟩
    omega
  refine VC.exit (VC.seq (VC.seq (VC.text ?_))); refine VO.c (.move rfl) ?_; refine VO.r (.len el56) ?_; refine VO.c (.eql) ?_; refine VO.go ?_; refine VC.condD rfl (fun c39 => ?_) (fun c39 => ?_)
  · refine VC.seq (VC.drawn ?_); refine VD.r [] (.ld vt65) (.inl rfl) ?_; refine VD.call rfl rfl (VF.call (lOwn_ok )) ?_; refine VD.r [] (.ld vt55) (.inl rfl) ?_; refine VD.callO rfl rfl (VF.call (rSameRec_ok (by first | assumption | omega | simp) (by first | assumption | omega | simp) (by first | assumption | omega | simp))) ?_; refine VD.c (.assign rfl) ?_; refine VD.go ?_; refine VC.ret ?_; exact VEnd.one rfl evT (pvE (by have e : l = [] := List.length_eq_zero_iff.1 (by omega); subst e; exact keep_all h))
  have hl1 : 0 < l.length := by omega
  have hm1 : (((l.length : Nat) : Int) - (1 : Int)).toNat = l.length - 1 := by omega
  have htk : (l.take (((l.length : Nat) : Int) - (1 : Int)).toNat).length = l.length - 1 := by rw [List.length_take]; omega
  have hcF : reaC r (l.take (((l.length : Nat) : Int) - (1 : Int)).toNat) = 0 := by
    unfold reaC
    rw [firstE_2 h (rules_take hl8 hrl)] <;> rfl
  have hfew : (reaS r (l.take (((l.length : Nat) : Int) - (1 : Int)).toNat) (l.take (((l.length : Nat) : Int) - (1 : Int)).toNat).length).1 = (reaS r l (l.length - 1)).1 := by rw [htk, rea_take _ (by omega)]
  have hfl : (reaS r (l.take (((l.length : Nat) : Int) - (1 : Int)).toNat) (l.take (((l.length : Nat) : Int) - (1 : Int)).toNat).length).1.length = r.2.2.1.length := (reaS_len _).1
  refine VC.skip (VC.seq (VC.drawn ?_)); refine VD.r [] (.ld vt55) (.inl rfl) ?_; refine VD.call rfl rfl (VF.call (lRecord_ok (by first | assumption | omega | simp) (by first | assumption | omega | simp))) ?_; refine VD.c (.move rfl) ?_; refine VD.c (.move rfl) ?_; refine VD.r [] (.len el56) (.inl rfl) ?_; refine VD.c (.sub rfl rfl (by omega)) ?_; refine VD.nw [323] ?_; refine VD.r [] (.cutH rfl rfl el56 (by omega)) (.inl rfl) ?_; refine VD.call rfl rfl (VF.call (lRules_ok (by omega))) ?_; refine VD.callO rfl rfl (VF.call (gReasonsV_ok hcF (by omega) hgl (by omega))) ?_; refine VD.c (.move rfl) ?_; refine VD.c (.extract) ?_; refine VD.c (.extract) ?_; refine VD.c (.assign rfl) ?_; refine VD.nw [23, 331, 321, 330, 329, 323] ?_; refine VD.c (.assign rfl) ?_; refine VD.go (VC.seq (VC.seq (VC.text ?_))); refine VO.c (.move rfl) ?_; refine VO.c (.neq) ?_; refine VO.c (.move rfl) ?_; refine VO.cg (r := decide (0 ≠ (0 : Int))) (w := false) [] trivial (fun _ => (.move rfl)) ?_; refine VO.rg (r := decide (0 ≠ (0 : Int))) (w := false) [(336, .v y37 ((reaS r (l.take ((((l.length : Nat) : Int) - (1 : Int))).toNat) (l.take ((((l.length : Nat) : Int) - (1 : Int))).toNat).length).1))] ⟨rfl, trivial⟩ (fun _ => (.len el37)) ?_; refine VO.cg (r := decide (0 ≠ (0 : Int))) (w := false) [] trivial (fun _ => (.move rfl)) ?_; refine VO.rg (r := decide (0 ≠ (0 : Int))) (w := false) [(338, .v y37 ((reaS r l l.length).1))] ⟨rfl, trivial⟩ (fun _ => (.len el37)) ?_; refine VO.cg (r := decide (0 ≠ (0 : Int))) (w := false) [(337, I ((((reaS r (l.take ((((l.length : Nat) : Int) - (1 : Int))).toNat) (l.take ((((l.length : Nat) : Int) - (1 : Int))).toNat).length).1).length : Nat) : Int)), (339, I ((((reaS r l l.length).1).length : Nat) : Int))] ⟨rfl, rfl, trivial⟩ (fun _ => (.neq)) ?_; refine VO.c (.or) ?_; refine VO.go ?_; refine VC.condB rfl (fun c42 => ?_) (fun c42 => ?_)
  · try simp only [Bool.and_eq_true, Bool.or_eq_true, Bool.and_eq_false_iff, Bool.or_eq_false_iff, Bool.not_eq_true', Bool.not_eq_false', decide_eq_true_eq, decide_eq_false_iff_not] at c42
    exact (c42.elim (fun hh => hh rfl) (fun hh => hh (by omega)) : False).elim
  try simp only [Bool.and_eq_true, Bool.or_eq_true, Bool.and_eq_false_iff, Bool.or_eq_false_iff, Bool.not_eq_true', Bool.not_eq_false', decide_eq_true_eq, decide_eq_false_iff_not] at c42
  refine VC.skip (VC.seq (VC.seq (VC.text ?_))); refine VO.c (.move rfl) ?_; refine VO.r (.len el37) ?_; refine VO.c (.move rfl) ?_; refine VO.go (VC.block ?_); refine VC.keep [(1, .v y56 l), (5, .v y37 ((reaS r l l.length).1)), (342, .v y37 ((reaS r (l.take ((((l.length : Nat) : Int) - (1 : Int))).toNat) (l.take ((((l.length : Nat) : Int) - (1 : Int))).toNat).length).1)), (343, I ((((reaS r (l.take ((((l.length : Nat) : Int) - (1 : Int))).toNat) (l.take ((((l.length : Nat) : Int) - (1 : Int))).toNat).length).1).length : Nat) : Int)), (344, I ((0 : Nat) : Int))] ⟨rfl, rfl, rfl, rfl, rfl, trivial⟩ ?_; refine VC.loop (I := fun kk ff ss => ∃ (q : Nat), kk = r.2.2.1.length - q ∧ ff = [(1, .v y56 l), (5, .v y37 ((reaS r l l.length).1)), (342, .v y37 ((reaS r (l.take ((((l.length : Nat) : Int) - (1 : Int))).toNat) (l.take ((((l.length : Nat) : Int) - (1 : Int))).toNat).length).1)), (343, I ((((reaS r (l.take ((((l.length : Nat) : Int) - (1 : Int))).toNat) (l.take ((((l.length : Nat) : Int) - (1 : Int))).toNat).length).1).length : Nat) : Int)), (344, I ((q : Nat) : Int))] ∧ ss = [] ∧ (q ≤ r.2.2.1.length)) ?_ _ _ _ ⟨0, rfl, rfl, rfl, Nat.zero_le _⟩; rintro kk ff ss ⟨q, hk7, rfl, rfl, hq⟩; refine VC.seq (VC.text ?_); refine VO.c (.lss) ?_; refine VO.go (VC.seq ?_); refine VC.condD rfl (fun c45 => ?_) (fun c45 => ?_)
  · have hqb : q < r.2.2.1.length := by omega
    have hls := rea_last (l := l) (k := l.length - 1) hqb
    rw [show l.length - 1 + 1 = l.length by omega, ← hfew, getDat (show q < (reaS r l l.length).1.length by omega), getDat (show q < (reaS r (l.take (((l.length : Nat) : Int) - (1 : Int)).toNat) (l.take (((l.length : Nat) : Int) - (1 : Int)).toNat).length).1.length by omega)] at hls
    have hrq := rea_rng (r := r) (l := l) (i := q) (l.length - 1)
    rw [← hfew, getDat (show q < (reaS r (l.take (((l.length : Nat) : Int) - (1 : Int)).toNat) (l.take (((l.length : Nat) : Int) - (1 : Int)).toNat).length).1.length by omega)] at hrq
    refine VC.skip (VC.seq (VC.block (VC.seq (VC.text ?_)))); refine VO.c (.move rfl) ?_; refine VO.c (.ix (j := q) rfl rfl el37 (by omega)) ?_; refine VO.r (.ld vt3) ?_; refine VO.c (.assign rfl) ?_; refine VO.c (.assign rfl) ?_; refine VO.go (VC.seq ?_); refine VC.join [(1, .v y56 l), (5, .v y37 ((reaS r l l.length).1)), (342, .v y37 ((reaS r (l.take ((((l.length : Nat) : Int) - (1 : Int))).toNat) (l.take ((((l.length : Nat) : Int) - (1 : Int))).toNat).length).1)), (343, I ((((reaS r (l.take ((((l.length : Nat) : Int) - (1 : Int))).toNat) (l.take ((((l.length : Nat) : Int) - (1 : Int))).toNat).length).1).length : Nat) : Int)), (344, I ((q : Nat) : Int)), (378, B false)] [] ?_ ?_
    · skip
      refine VC.text ?_; refine VO.c (.move rfl) ?_; refine VO.c (.gtr) ?_; refine VO.c (.move rfl) ?_; refine VO.splitD (x := 351) rfl (fun g47_2 => ?_) (fun g47_2 => ?_)
      · refine VO.c (.move rfl) ?_; refine VO.c (.move rfl) ?_; refine VO.c (.ix (j := q) rfl rfl el37 (by omega)) ?_; refine VO.r (.ld vt3) ?_; refine VO.c (.move rfl) ?_; refine VO.c (.neq) ?_; refine VO.c (.pickT rfl rfl) ?_; refine VO.c (.move rfl) ?_; refine VO.splitD (x := 359) rfl (fun g47_10 => ?_) (fun g47_10 => ?_)
        · exact absurd g47_10 (by omega)
        refine VO.c (.move rfl) ?_; refine VO.c (.eql) ?_; refine VO.c (.move rfl) ?_; refine VO.splitD (x := 362) rfl (fun g47_13 => ?_) (fun g47_13 => ?_)
        · refine VO.c (.move rfl) ?_; refine VO.c (.move rfl) ?_; refine VO.c (.ix (j := q) rfl rfl el37 (by omega)) ?_; refine VO.r (.ld vt3) ?_; refine VO.c (.neq) ?_; refine VO.c (.pickT rfl rfl) ?_; refine VO.c (.move rfl) ?_; refine VO.splitD (x := 369) rfl (fun g47_20 => ?_) (fun g47_20 => ?_)
          · refine VO.c (.move rfl) ?_; refine VO.c (.move rfl) ?_; refine VO.c (.ix (j := q) rfl rfl el37 (by omega)) ?_; refine VO.r (.ld vt3) ?_; refine VO.c (.move rfl) ?_; refine VO.r (.len el56) ?_; refine VO.c (.neq) ?_; refine VO.c (.pickT rfl rfl) ?_; refine VO.c (.pickF rfl rfl) ?_; refine VO.nil ?_; exact ⟨⟨rfl, rfl, rfl, rfl, rfl, slE rfl (by first | rfl | exact decide_eq_false (by omega)), trivial⟩, rfl⟩
          refine VO.skip ?_; refine VO.skip ?_; refine VO.skip ?_; refine VO.skip ?_; refine VO.skip ?_; refine VO.skip ?_; refine VO.skip ?_; refine VO.c (.pickF rfl rfl) ?_; refine VO.c (.pickF rfl rfl) ?_; refine VO.nil ?_; exact ⟨⟨rfl, rfl, rfl, rfl, rfl, slE rfl (by first | rfl | exact decide_eq_false (by omega)), trivial⟩, rfl⟩
        refine VO.skip ?_; refine VO.skip ?_; refine VO.skip ?_; refine VO.skip ?_; refine VO.skip ?_; refine VO.c (.pickF rfl rfl) ?_; refine VO.c (.move rfl) ?_; refine VO.skip ?_; refine VO.skip ?_; refine VO.skip ?_; refine VO.skip ?_; refine VO.skip ?_; refine VO.skip ?_; refine VO.skip ?_; refine VO.c (.pickF rfl rfl) ?_; refine VO.c (.pickF rfl rfl) ?_; refine VO.nil ?_; exact ⟨⟨rfl, rfl, rfl, rfl, rfl, slE rfl (by first | rfl | exact decide_eq_false (by omega)), trivial⟩, rfl⟩
      refine VO.skip ?_; refine VO.skip ?_; refine VO.skip ?_; refine VO.skip ?_; refine VO.skip ?_; refine VO.skip ?_; refine VO.c (.pickF rfl rfl) ?_; refine VO.c (.move rfl) ?_; refine VO.c (.move rfl) ?_; refine VO.c (.eql) ?_; refine VO.c (.move rfl) ?_; refine VO.splitD (x := 362) rfl (fun g47_13 => ?_) (fun g47_13 => ?_)
      · refine VO.c (.move rfl) ?_; refine VO.c (.move rfl) ?_; refine VO.c (.ix (j := q) rfl rfl el37 (by omega)) ?_; refine VO.r (.ld vt3) ?_; refine VO.c (.neq) ?_; refine VO.c (.pickT rfl rfl) ?_; refine VO.c (.move rfl) ?_; refine VO.splitD (x := 369) rfl (fun g47_20 => ?_) (fun g47_20 => ?_)
        · refine VO.c (.move rfl) ?_; refine VO.c (.move rfl) ?_; refine VO.c (.ix (j := q) rfl rfl el37 (by omega)) ?_; refine VO.r (.ld vt3) ?_; refine VO.c (.move rfl) ?_; refine VO.r (.len el56) ?_; refine VO.c (.neq) ?_; refine VO.c (.pickT rfl rfl) ?_; refine VO.c (.pickF rfl rfl) ?_; refine VO.nil ?_; exact ⟨⟨rfl, rfl, rfl, rfl, rfl, slE rfl (by first | rfl | exact decide_eq_false (by omega)), trivial⟩, rfl⟩
        refine VO.skip ?_; refine VO.skip ?_; refine VO.skip ?_; refine VO.skip ?_; refine VO.skip ?_; refine VO.skip ?_; refine VO.skip ?_; refine VO.c (.pickF rfl rfl) ?_; refine VO.c (.pickF rfl rfl) ?_; refine VO.nil ?_; exact ⟨⟨rfl, rfl, rfl, rfl, rfl, slE rfl (by first | rfl | exact decide_eq_false (by omega)), trivial⟩, rfl⟩
      refine VO.skip ?_; refine VO.skip ?_; refine VO.skip ?_; refine VO.skip ?_; refine VO.skip ?_; refine VO.c (.pickF rfl rfl) ?_; refine VO.c (.move rfl) ?_; refine VO.skip ?_; refine VO.skip ?_; refine VO.skip ?_; refine VO.skip ?_; refine VO.skip ?_; refine VO.skip ?_; refine VO.skip ?_; refine VO.c (.pickF rfl rfl) ?_; refine VO.c (.pickF rfl rfl) ?_; refine VO.nil ?_; exact ⟨⟨rfl, rfl, rfl, rfl, rfl, slE rfl (by first | rfl | exact decide_eq_false (by omega)), trivial⟩, rfl⟩
    refine VC.condB rfl (fun c47 => ?_) (fun c47 => ?_)
    · exact absurd c47 (by decide)
    refine VC.skip (VC.text ?_); refine VO.c (.add rfl rfl (by omega)) ?_; refine VO.c (.move rfl) ?_; refine VO.nil ?_; refine ⟨_, [(1, .v y56 l), (5, .v y37 ((reaS r l l.length).1)), (342, .v y37 ((reaS r (l.take ((((l.length : Nat) : Int) - (1 : Int))).toNat) (l.take ((((l.length : Nat) : Int) - (1 : Int))).toNat).length).1)), (343, I ((((reaS r (l.take ((((l.length : Nat) : Int) - (1 : Int))).toNat) (l.take ((((l.length : Nat) : Int) - (1 : Int))).toNat).length).1).length : Nat) : Int)), (344, I (((q + 1) : Nat) : Int))], ?_, ⟨rfl, rfl, rfl, rfl, rfl, trivial⟩, (q + 1), rfl, rfl, rfl, (by omega)⟩
    omega
  refine VC.exit (VC.seq (VC.text ?_)); refine VO.c (.assign rfl) ?_; refine VO.go ?_; refine VC.ret ?_; exact VEnd.one rfl evT (pvE (by first | rfl | simp))
end Go.Proofs
namespace Go.Fs
open Go.RowKit (Below)
variable {P : Program}
def orcB (fi fj fc : FuncId) (T : TypeId) : FuncId → List Value → Heap → Option (Value × Heap) := fun f xs h =>
  bif Nat.beq f fc then
    match xs with
    | [.pointer (some ⟨b, 0, none⟩)] =>
      match h.get b with
      | some (.row e [p, v] true false) =>
        bif Nat.beq e T then
          match p with
          | .pointer none => some (.tuple #[], h.set b (.row e [.pointer (some ⟨b, 0, none⟩), v] true false))
          | .pointer (some ⟨b', 0, none⟩) => bif Nat.beq b' b then some (.tuple #[], h) else none
          | _ => none
        else none
      | _ => none
    | _ => none
  else orcS fi fj f xs h
theorem orcB_sound {B : Nat} {w0 : World} {fi fj fc : FuncId} {T : TypeId} (hz : w0.drawn = 0) (hS : CallSound P B w0 (orcS fi fj)) (hc : Enters P fc)
    (hF : ∀ (b : Nat) (w : World), w.cell? ⟨b, 0, none⟩ = some (.pointer none) → w.shape? b = some (T, 2) → w.frozen? ⟨b, 0, none⟩ = false →
      Calls P fc #[.pointer (some ⟨b, 0, none⟩)] w fun e w' => e = .returned (.tuple #[]) ∧ w' = w.setCell ⟨b, 0, none⟩ (.pointer (some ⟨b, 0, none⟩)))
    (hU : ∀ (b : Nat) (w : World), w.cell? ⟨b, 0, none⟩ = some (.pointer (some ⟨b, 0, none⟩)) → Calls P fc #[.pointer (some ⟨b, 0, none⟩)] w fun e w' => e = .returned (.tuple #[]) ∧ w' = w) :
    CallSound P B w0 (orcB fi fj fc T) := by
  intro f xs h v h' hf
  unfold orcB at hf
  cases hb : Nat.beq f fc with
  | false =>
    rw [hb] at hf
    exact hS f xs h v h' hf
  | true =>
    have := nbeq hb
    subst this
    rw [hb] at hf
    simp only [cond_true] at hf
    split at hf
    · rename_i b
      split at hf
      · rename_i e p u hg
        obtain ⟨he, hf2⟩ := bif_some hf
        obtain rfl := nbeq he; refine ⟨hc, fun ρ S w args' hr ha nn => ?_⟩
        obtain ⟨hsb, cur, k1, k2, k3, k4, k5, k6, k7⟩ := hr.objs b _ hg
        have hcl : cur.length = 2 := (k6 rfl).symm
        match cur, hcl with
        | [p', u'], _ =>
        have hp : VR ρ S p p' := k7 0 (by simp)
        have hu : VR ρ S u u' := k7 1 (by simp)
        have hat : (ρ b).at 0 = ⟨(ρ b).block, 0, none⟩ := by unfold Loc.at; rw [k2]
        have harg : args' = [.pointer (some ⟨(ρ b).block, 0, none⟩)] := by
          have h1 := ha.1
          match args', h1 with
          | [a], _ =>
            have h2 : VR ρ S (.pointer (some ⟨b, 0, none⟩)) a := ha.2 0 (by simp)
            rw [h2.ptr_inv.2, hat]
        subst harg
        have hcell : w.cell? ⟨(ρ b).block, 0, none⟩ = some p' := by simp [World.cell?, k1]
        split at hf2
        · simp only [Option.some.injEq, Prod.mk.injEq] at hf2
          obtain ⟨rfl, rfl⟩ := hf2
          obtain rfl := hp.eq_of_af0 rfl
          have hC : CallsIn Fence.wide nn P f #[.pointer (some ⟨(ρ b).block, 0, none⟩)] w _ := callsIn_wide.2 (hF (ρ b).block w hcell (by simp [World.shape?, k1]) (frozen_soft k1 (by rw [k3]; exact Nat.zero_lt_succ _)))
          refine hC.mono fun e2 w' hret => ?_
          obtain ⟨rfl, rfl⟩ := hret
          refine ⟨ρ, Moved.set hr hg rfl rfl rfl rfl rfl (by simp [World.setCell]) (fun k hk => ?_) ?_, VR.tuple' LR.nil⟩
          · simp only [World.setCell, Array.getElem?_modify]
            rw [if_neg (fun e0 => hk e0.symm)]
          refine ⟨[.pointer (some ⟨(ρ b).block, 0, none⟩), u'], ?_, k2, k3, k4, Nat.le_refl _, fun _ => rfl, fun i hi => ?_⟩
          · simp only [World.setCell, Array.getElem?_modify, if_pos rfl, k1]
            simp
          match i, hi with
          | 0, _ => show VR ρ S (.pointer (some ⟨b, 0, none⟩)) (.pointer (some ⟨(ρ b).block, 0, none⟩)); rw [← hat]; exact .ptr b 0 hsb
          | 1, _ => exact hu
        · rename_i b'
          obtain ⟨hbb, hf3⟩ := bif_some hf2
          obtain rfl := nbeq hbb
          simp only [Option.some.injEq, Prod.mk.injEq] at hf3
          obtain ⟨rfl, rfl⟩ := hf3
          have hp2 := hp.ptr_inv.2
          rw [hat] at hp2
          subst hp2
          have hC : CallsIn Fence.wide nn P f #[.pointer (some ⟨(ρ b').block, 0, none⟩)] w _ := callsIn_wide.2 (hU (ρ b').block w hcell)
          refine hC.mono fun e2 w' hret => ?_
          obtain ⟨rfl, rfl⟩ := hret
          exact ⟨ρ, Moved.same hr, VR.tuple' LR.nil⟩
        cases hf2
      cases hf
    cases hf
end Go.Fs
namespace Go.Fs
open Go.RowKit (Below)
variable {P : Program} {ops : Array Oper} {n : Nat}
def sameV : Value → Value → Bool
  | .int k a, .int k' b => decide (k = k') && decide (a = b)
  | .bool a, .bool b => decide (a = b)
  | _, _ => false
theorem sameV_eq {a b : Value} (h : sameV a b = true) : a = b := by
  unfold sameV at h
  split at h
  · obtain ⟨h1, h2⟩ := band h
    rw [of_decide_eq_true h1, of_decide_eq_true h2]
  · rw [of_decide_eq_true h]
  cases h
def sameL : List Value → List Value → Bool
  | [], [] => true
  | a :: r, b :: q => sameV a b && sameL r q
  | _, _ => false
theorem sameL_eq : ∀ {a b : List Value}, sameL a b = true → a = b
  | [], [], _ => rfl
  | [], _ :: _, h => by cases h
  | _ :: _, [], h => by cases h
  | a :: r, b :: q, h => by
    obtain ⟨h1, h2⟩ := band (h : (sameV a b && sameL r q) = true)
    rw [sameV_eq h1, sameL_eq h2]
def sameO : AObj → AObj → Bool
  | .row e cs o m, .row e' cs' o' m' => Nat.beq e e' && sameL cs cs' && decide (o = o') && decide (m = m')
  | _, _ => false
theorem sameO_eq {a b : AObj} (h : sameO a b = true) : a = b := by
  unfold sameO at h
  split at h
  · obtain ⟨h, h1⟩ := band h
    obtain ⟨h, h2⟩ := band h
    obtain ⟨h, h3⟩ := band h
    rw [nbeq h, sameL_eq h3, of_decide_eq_true h2, of_decide_eq_true h1]
  cases h
def okRd (rd : List (Nat × AObj)) (h : Heap) : Bool := rd.all fun p => match h.get p.1 with
  | some ob => sameO ob p.2
  | none => false
theorem stLook_mem {b : Nat} {ob : AObj} : ∀ {l : List (Nat × AObj)}, look l b = some ob → (b, ob) ∈ l
  | [], h => by cases h
  | (c, oc) :: r, h => by
    simp only [look] at h
    cases hc : Nat.beq c b with
    | true =>
      rw [hc] at h
      simp only [cond_true, Option.some.injEq] at h
      rw [nbeq hc, h]; exact List.mem_cons_self
    | false =>
      rw [hc] at h
      simp only [cond_false] at h
      exact List.mem_cons_of_mem _ (stLook_mem h)
theorem okRd_get {rd : List (Nat × AObj)} {h : Heap} (hk : okRd rd h = true) {b : Nat} {ob : AObj} (hl : look rd b = some ob) : h.get b = some ob := by
  have := List.all_eq_true.1 hk _ (stLook_mem hl)
  simp only at this
  split at this
  · rename_i o2 hg
    rw [hg, sameO_eq this]
  cases this
def stillR (P : Program) (rd : List (Nat × AObj)) (ops : Array Oper) (n : Nat) (o : Oper) (s : DSt) : Option DSt :=
  match fsWanted ops s.t o, o.op with
  | some true, .load T a =>
    match evalO s.t a with
    | .pointer (some p) =>
      match look rd p.block with
      | some ob =>
        match fsLoad P T (evalO s.t a) { next := s.h.next, low := s.h.next, objs := [(p.block, ob)] } with
        | some v => (put n s.t o.dst v).map fun t => { s with t, bs := s.bs ++ [beforeOf s.bs o] }
        | none => none
      | none => none
    | _ => none
  | _, _ => none
def fsDrawnY (P : Program) (rd : List (Nat × AObj)) (step : Oper → (Operand → Value) → Heap → Option (Value × Heap)) (ops : Array Oper) (n : Nat) : List Oper → Nat → DSt → Option DSt
  | [], _, s => bif okRd rd s.h then some s else none
  | o :: r, i, s => bif okRd rd s.h then
      match fsDraw step ops n o i s with
      | some s' => fsDrawnY P rd step ops n r (i + 1) s'
      | none => match stillR P rd ops n o s with
        | some s' => fsDrawnY P rd step ops n r (i + 1) s'
        | none => none
    else none
def fsReads (P : Program) (h0 : Heap) (step : Oper → (Operand → Value) → Heap → Option (Value × Heap)) (ops : Array Oper) (n : Nat) : List Oper → Nat → DSt → List (Nat × AObj) → List (Nat × AObj)
  | [], _, _, l => l
  | o :: r, i, s, l => match fsDraw step ops n o i s with
    | some s' => fsReads P h0 step ops n r (i + 1) s' l
    | none => match stillO P h0 ops n o s with
      | some (s', b) => match h0.get (b - 1) with
        | some ob => fsReads P h0 step ops n r (i + 1) s' ((b - 1, ob) :: l)
        | none => l
      | none => l
def drawnY (P : Program) (h0 : Heap) (step : Oper → (Operand → Value) → Heap → Option (Value × Heap)) (ops : Array Oper) (n : Nat) (s : DSt) (rd : List (Nat × AObj)) : Option DSt :=
  bif rd.all fun p => Nat.blt p.1 h0.next then fsDrawnY P rd step ops n ops.toList 0 s else none

theorem stillR_of {call : FuncId → List Value → Heap → Option (Value × Heap)} {yield : Nat → List Value → Heap → Option (Value × Heap)} {X : Nat → AObj → Prop} {rd : List (Nat × AObj)} {o : Oper} {i : Nat} {s s' : DSt}
    (hf : stillR P rd ops n o s = some s') (hX : ∀ c ob, look rd c = some ob → X c ob) :
    s'.bs = s.bs ++ [beforeOf s.bs o] ∧ Did (fsOp P call yield) ops n X o i s s' := by
  unfold stillR at hf
  split at hf
  · rename_i T a hw hop
    split at hf
    · rename_i p hev
      split at hf
      · rename_i ob hg
        split at hf
        · rename_i v hv
          obtain ⟨t, h3, h4⟩ := Option.map_eq_some_iff.1 hf
          subst h4
          refine ⟨rfl, .still hw v [(p.block, ob)] (fun c oc hc => ?_) ?_ h3 rfl rfl rfl rfl⟩
          · simp only [look] at hc
            cases hbc : Nat.beq p.block c with
            | true =>
              rw [hbc] at hc
              simp only [cond_true, Option.some.injEq] at hc
              obtain rfl := nbeq hbc
              subst hc
              exact hX _ _ hg
            | false => rw [hbc] at hc; cases hc
          unfold fsOp
          rw [hop]
          simp only [hv, Option.map_some]
        cases hf
      cases hf
    cases hf
  cases hf
theorem drawnY_trace {call : FuncId → List Value → Heap → Option (Value × Heap)} {yield : Nat → List Value → Heap → Option (Value × Heap)} {rd : List (Nat × AObj)} : ∀ (l : List Oper) (i : Nat) (s s' : DSt), fsDrawnY P rd (fsOp P call yield) ops n l i s = some s' →
    ∃ st : Nat → DSt, st i = s ∧ st (i + l.length) = s' ∧ (∀ q, i ≤ q → q ≤ i + l.length → okRd rd (st q).h = true) ∧
    ∀ j o, l[j]? = some o → ∀ X : Nat → AObj → Prop, (∀ c ob, look rd c = some ob → X c ob) → (st (i + j + 1)).bs = (st (i + j)).bs ++ [beforeOf (st (i + j)).bs o] ∧ Did (fsOp P call yield) ops n X o (i + j) (st (i + j)) (st (i + j + 1))
  | [], i, s, s', h => by
    simp only [fsDrawnY] at h
    obtain ⟨h1, h2⟩ := bif_some h
    simp only [Option.some.injEq] at h2
    subst h2
    exact ⟨fun _ => s, rfl, rfl, fun _ _ _ => h1, fun j o hj => by simp at hj⟩
  | o :: l, i, s, s', h => by
    simp only [fsDrawnY] at h
    obtain ⟨hok, h⟩ := bif_some h
    have key : ∀ s1, fsDrawnY P rd (fsOp P call yield) ops n l (i + 1) s1 = some s' →
        (∀ X : Nat → AObj → Prop, (∀ c ob, look rd c = some ob → X c ob) → s1.bs = s.bs ++ [beforeOf s.bs o] ∧ Did (fsOp P call yield) ops n X o i s s1) →
      ∃ st : Nat → DSt, st i = s ∧ st (i + (o :: l).length) = s' ∧ (∀ q, i ≤ q → q ≤ i + (o :: l).length → okRd rd (st q).h = true) ∧
        ∀ j o', (o :: l)[j]? = some o' → ∀ X : Nat → AObj → Prop, (∀ c ob, look rd c = some ob → X c ob) → (st (i + j + 1)).bs = (st (i + j)).bs ++ [beforeOf (st (i + j)).bs o'] ∧ Did (fsOp P call yield) ops n X o' (i + j) (st (i + j)) (st (i + j + 1)) := fun s1 hr hd => by
      obtain ⟨st, h1, h2, hq, h3⟩ := drawnY_trace l (i + 1) s1 s' hr
      refine ⟨fun k => if k = i then s else st k, by simp, ?_, fun q hq1 hq2 => ?_, fun j o' hj X hX => ?_⟩
      · simp only [List.length_cons]
        rw [if_neg (by omega), ← h2]
        congr 1; omega
      · rw [List.length_cons] at hq2
        by_cases e : q = i
        · subst e; simpa using hok
        simp only [if_neg e]; exact hq q (by omega) (by omega)
      cases j with
      | zero =>
        simp at hj
        subst hj
        simpa [h1] using hd X hX
      | succ j =>
        simp only [List.getElem?_cons_succ] at hj
        have := h3 j o' hj X hX
        rw [show i + 1 + j = i + (j + 1) by omega] at this
        simp only
        rw [if_neg (by omega), if_neg (by omega)]
        exact this
    split at h
    · rename_i s1 hs1
      exact key s1 h fun X _ => did_of hs1
    split at h
    · rename_i s1 hs1
      exact key s1 h fun X hX => stillR_of hs1 hX
    cases h
theorem traceY_of {call : FuncId → List Value → Heap → Option (Value × Heap)} {yield : Nat → List Value → Heap → Option (Value × Heap)} {t0 : Tr} {h0 : Heap} {s : DSt} {rd : List (Nat × AObj)} (h : drawnY P h0 (fsOp P call yield) ops n ⟨t0, h0, [], [], 0, false⟩ rd = some s) : ∃ st, Trace (fsOp P call yield) ops n st t0 h0 ∧ st ops.size = s := by
  unfold drawnY at h
  obtain ⟨hb, h⟩ := bif_some h
  obtain ⟨st, h1, h2, hq, h3⟩ := drawnY_trace _ _ _ _ h
  have h2' : st ops.size = s := by simpa using h2
  refine ⟨st, ⟨h1, fun i o ho => ?_⟩, h2'⟩
  have := h3 i o (by simpa using ho) (fun b ob => h0.get b = some ob ∧ b < h0.next ∧ (b < (st ops.size).h.low ∨ ∀ q, q ≤ ops.size → (st q).h.get b = some ob)) (fun c ob hc => ?_)
  · simpa only [Nat.zero_add] using this
  have hall : ∀ q, q ≤ ops.size → (st q).h.get c = some ob := fun q hq2 => okRd_get (hq q (Nat.zero_le _) (by simpa using hq2)) hc
  have h0 := hall 0 (Nat.zero_le _)
  rw [h1] at h0
  exact ⟨h0, nblt (List.all_eq_true.1 hb _ (stLook_mem hc)), .inr hall⟩
variable {B : Nat} {w0 : World} {S : Nat → Prop} {ρ0 : Ren} {call : FuncId → List Value → Heap → Option (Value × Heap)} {yield : Nat → List Value → Heap → Option (Value × Heap)} {t0 : Tr} {h0 : Heap}
theorem drawn_wpY (hcs : CallSnd P B w0 call) (hys : YieldSound P B w0 yield) (hok : regionOk ops = true) {s : DSt} {rd : List (Nat × AObj)} (hf : drawnY P h0 (fsOp P call yield) ops n ⟨t0, h0, [], [], 0, false⟩ rd = some s)
    {w : World} {a : Act} (hr : HR P ρ0 S B w0 h0 w) (ht : TrR ρ0 S t0 n a.tmps) {r : Option Nat} {nn : Nat} {Q : Exit → Act → World → Prop}
    (k : ∀ ρ' w' a', Moved P B w0 ρ0 ρ' S h0 s.h w w' → TrR ρ' (Ext S h0 s.h) s.t n a'.tmps → a'.defers = a.defers → Q .normal a' w') (t : Nat) :
    wpOpsIn (Wide r) nn P ops Q (Region.schedule true ops t) a w := drawn_wpT hcs hys hok (traceY_of hf) hr ht k t
end Go.Fs
namespace Go.Fs
open Go.RowKit (Below)
variable {P : Program} {B : Nat} {w0 : World}

def fsStepX (P : Program) (orc : FuncId → List Value → Heap → Option (Value × Heap)) (rec : Rec) : Rec := fun rnd c fr h =>
  match c with
  | .region _ ops true => match drawnX P { next := h.next, low := h.next, objs := h.objs } (fsOp P (callOf P orc rec) (fsYield rec)) ops fr.n ⟨fr.t, { next := h.next, low := h.next, objs := h.objs }, [], [], 0, false⟩ with
    | some s => some (.normal, { t := s.t, n := fr.n, marks := fr.marks }, { next := s.h.next, low := min h.low s.h.low, objs := s.h.objs })
    | none => match drawnY P { next := h.next, low := h.next, objs := h.objs } (fsOp P (callOf P orc rec) (fsYield rec)) ops fr.n ⟨fr.t, { next := h.next, low := h.next, objs := h.objs }, [], [], 0, false⟩ (fsReads P { next := h.next, low := h.next, objs := h.objs } (fsOp P (callOf P orc rec) (fsYield rec)) ops fr.n ops.toList 0 ⟨fr.t, { next := h.next, low := h.next, objs := h.objs }, [], [], 0, false⟩ []) with
      | some s => some (.normal, { t := s.t, n := fr.n, marks := fr.marks }, { next := s.h.next, low := min h.low s.h.low, objs := s.h.objs })
      | none => fsStep P orc rec rnd c fr h
  | c => fsStep P orc rec rnd c fr h
def fsCodeX (P : Program) (orc : FuncId → List Value → Heap → Option (Value × Heap)) : Nat → Rec
  | 0 => fun _ _ _ _ => none
  | n + 1 => fsStepX P orc (fsCodeX P orc n)

theorem HR.low {ρ : Ren} {S : Nat → Prop} {h : Heap} {w : World} (hr : HR P ρ S B w0 h w) (l : Nat) : HR P ρ S B w0 { next := h.next, low := l, objs := h.objs } w :=
  { objs := hr.objs, inj := hr.inj, base := hr.base, ro := hr.ro, ids := hr.ids, pos := hr.pos, below := hr.below, drawn := hr.drawn, size := hr.size }
theorem Moved.lowered {ρ ρ' : Ren} {S : Nat → Prop} {h h' : Heap} {w w' : World} {l : Nat} (m : Moved P B w0 ρ ρ' S { next := h.next, low := l, objs := h.objs } h' w w') :
    Moved P B w0 ρ ρ' S h { next := h'.next, low := min h.low h'.low, objs := h'.objs } w w' where
  agree := m.agree
  next := m.next
  hr := m.hr.low _
  frame := ⟨m.frame.os, m.frame.tape, m.frame.output, m.frame.size, m.frame.block⟩
  low := Nat.min_le_left _ _
  keep := fun i hi hl => m.keep i hi (Nat.lt_of_lt_of_le hl (Nat.min_le_right _ _))
  old := m.old
  fresh := fun i o ho hi => by
    obtain ⟨h1, h2⟩ := m.fresh i o ho hi
    refine ⟨h1, ?_⟩
    rcases h2 with h2 | ⟨j, oj, h3, h4, h5, h6, h7⟩
    · exact .inl h2
    exact .inr ⟨j, oj, h3, h4, h5, Nat.le_trans (Nat.min_le_right _ _) h6, h7⟩
theorem stepX_sound (hP : ProgOk P) {orc : FuncId → List Value → Heap → Option (Value × Heap)} (horc : CallSound P B w0 orc) {m : Nat} {rec : Rec} (hrec : SoundR P B w0 m rec) : SoundR P B w0 (m + 1) (fsStepX P orc rec) := by
  have hcs : CallSnd P B w0 (callOf P orc rec) := call_sound hP horc hrec
  have hys : YieldSound P B w0 (fsYield rec) := yield_sound hrec
  have hold := step_sound hP horc hrec
  intro rnd c fr h e fr' h' hok hf
  cases c with
  | region id ops draw =>
    cases draw with
    | false => exact hold rnd _ fr h e fr' h' hok hf
    | true =>
      intro ρ S w a nn Q hr ht hm hs k
      simp only [fsStepX] at hf
      split at hf
      · rename_i s hrun
        simp only [Option.some.injEq, Prod.mk.injEq] at hf
        obtain ⟨rfl, rfl, rfl⟩ := hf
        refine wpIn_region_draw fun t => ?_
        rw [hP.mixed]
        exact drawn_wpX (h0 := { next := h.next, low := h.next, objs := h.objs }) (call := callOf P orc rec) (yield := fsYield rec) hcs hys hok hrun ((hr.drew _).low _) ht (fun ρ1 w1 a1 m1 ht1 hd1 => k _ _ _ ⟨(Moved.ofDrew m1).lowered, ht1, by rw [hd1]; exact hm.mono fun b hb => ⟨.inl hb, m1.agree b hb⟩⟩) t
      split at hf
      · rename_i s hrun
        simp only [Option.some.injEq, Prod.mk.injEq] at hf
        obtain ⟨rfl, rfl, rfl⟩ := hf
        refine wpIn_region_draw fun t => ?_
        rw [hP.mixed]
        exact drawn_wpY (h0 := { next := h.next, low := h.next, objs := h.objs }) (call := callOf P orc rec) (yield := fsYield rec) hcs hys hok hrun ((hr.drew _).low _) ht (fun ρ1 w1 a1 m1 ht1 hd1 => k _ _ _ ⟨(Moved.ofDrew m1).lowered, ht1, by rw [hd1]; exact hm.mono fun b hb => ⟨.inl hb, m1.agree b hb⟩⟩) t
      exact hold rnd _ fr h e fr' h' hok hf ρ S w a nn Q hr ht hm hs k
  | _ => exact hold rnd _ fr h e fr' h' hok hf

theorem codeX_sound (hP : ProgOk P) {orc : FuncId → List Value → Heap → Option (Value × Heap)} (horc : CallSound P B w0 orc) : ∀ m, SoundR P B w0 m (fsCodeX P orc m)
  | 0 => fun rnd c fr h e fr' h' _ hf => by cases hf
  | m + 1 => stepX_sound hP horc (codeX_sound hP horc m)
theorem fsX_calls (hP : ProgOk P) {orc : FuncId → List Value → Heap → Option (Value × Heap)} (horc : CallSound P B w0 orc) (m : Nat) : CallSound P B w0 (fsEnter P (fsCodeX P orc m)) := enter_sound hP (codeX_sound hP horc m)
theorem fsX_closed (hP : ProgOk P) {w : World} {orc : FuncId → List Value → Heap → Option (Value × Heap)} (horc : CallSound P w.heap.size (wz w) orc) {m : Nat} {f : FuncId} {args : List Value} {v : Value} (ha : args.all af = true)
    (hf : (fsEnter P (fsCodeX P orc m) f args ⟨1, 1, []⟩).map (·.1) = some v) (hv : af v = true) :
    Calls P f args.toArray w fun | .returned v', w' => v' = v ∧ Below w.heap.size w w' | _, _ => False := by
  obtain ⟨⟨v0, h0⟩, h1, h2⟩ := Option.map_eq_some_iff.1 hf
  simp only at h2
  subst h2
  have hr : HR P (fun _ => Loc.clean 0 0 0 0) (fun _ => False) w.heap.size (wz w) ⟨1, 1, []⟩ w :=
    { objs := fun i o hi => (by cases hi), inj := fun i j oi oj hi => (by cases hi), base := fun i o hi => (by cases hi), ro := fun i o hi => (by cases hi), ids := fun b hb => hb.elim, pos := by decide,
      below := z_below (Below.refl _ _), drawn := Nat.zero_le _, size := Nat.le_refl _ }
  have hc := ((fsX_calls hP horc m) f args _ _ _ h1).2 _ _ w args hr ⟨rfl, fun i hi => .of_af (List.all_eq_true.1 ha _ (mem_getD hi))⟩ 0
  refine Calls.mono (callsIn_wide.1 hc) fun e w' he => ?_
  cases e with
  | returned v' =>
    obtain ⟨ρ', m1, hv1⟩ := he
    exact ⟨hv1.eq_of_af hv, below_z m1.hr.below⟩
  | panicked c => exact he.elim
  | outgrown => exact he.elim
theorem awakeX_calls (hP : ProgOk P) {B : Nat} {w0 : World} {O : FuncId → List Value → Heap → Option (Value × Heap)} {fa : FuncId} (hS : ∀ w, Below B w0 w → CallSound P w.heap.size (wz w) O) {m : Nat}
    (hrun : (fsEnter P (fsCodeX P O m) fa [] ⟨1, 1, []⟩).map (·.1) = some (.bool true)) (w : World) (hw : Below B w0 w) :
    Calls P fa #[] w fun | .returned v', w' => v' = .bool true ∧ Below w.heap.size w w' | _, _ => False :=
  fsX_closed hP (hS w hw) (args := []) rfl hrun rfl
end Go.Fs
namespace Go.Fs
variable {P : Program} {orc : FuncId → List Value → Heap → Option (Value × Heap)}
def runPre (P : Program) (orc : FuncId → List Value → Heap → Option (Value × Heap)) : Nat → Nat → Code → Fr → Heap → Option (Nat × Code × Fr × Heap)
  | 0, n, c, fr, h => some (n, c, fr, h)
  | k + 1, n, c, fr, h => match n, c with
    | n + 1, .seq a b => match fsCodeX P orc n none a fr h with
      | some (.normal, fr1, h1) => runPre P orc k n b fr1 h1
      | _ => none
    | _, _ => none
theorem run_via : ∀ {k n : Nat} {c : Code} {fr : Fr} {h : Heap} {n' : Nat} {c' : Code} {fr' : Fr} {h' : Heap}, runPre P orc k n c fr h = some (n', c', fr', h') → fsCodeX P orc n none c fr h = fsCodeX P orc n' none c' fr' h'
  | 0, n, c, fr, h, n', c', fr', h', hr => by
    simp only [runPre, Option.some.injEq, Prod.mk.injEq] at hr
    obtain ⟨rfl, rfl, rfl, rfl⟩ := hr
    rfl
  | k + 1, n, c, fr, h, n', c', fr', h', hr => by
    simp only [runPre] at hr
    split at hr
    · rename_i n a b
      split at hr
      · rename_i fr1 h1 ha
        rw [← run_via hr]
        show fsStep P orc (fsCodeX P orc n) none (.seq a b) fr h = _
        simp only [fsStep, ha]
      cases hr
    cases hr
def endV (P : Program) (fn : Func) (h : Heap) (x : Ex × Fr × Heap) : Option Value :=
  bif x.1.goes then
    match dropMarks x.2.1.marks x.2.2 with
    | some h2 => (fsResults P x.2.1.t h2 fn.results.toList).map tupled
    | none => none
  else none
theorem enter_map {rec : Rec} {f : FuncId} {args : List Value} {h : Heap} {fn : Func} {c : Code} (hf : P.funcs[f]? = some fn) (hc : fn.body = some c) (hn : (Nat.blt 4000 fn.ntmps || Nat.blt fn.ntmps args.length) = false) :
    (fsEnter P rec f args h).map (·.1) = (rec none c ⟨fillTr .leaf 0 args, fn.ntmps, []⟩ { next := h.next, low := h.next, objs := h.objs }).bind (endV P fn h) := by
  unfold fsEnter fsEnterK endV
  simp only [hf, hc, hn, cond_false]
  cases rec none c ⟨fillTr .leaf 0 args, fn.ntmps, []⟩ { next := h.next, low := h.next, objs := h.objs } with
  | none => rfl
  | some x =>
    obtain ⟨e, fr, h1⟩ := x
    simp only [Option.bind_some]
    cases e.goes with
    | false => rfl
    | true =>
      simp only [cond_true]
      cases dropMarks fr.marks h1 with
      | none => rfl
      | some h2 =>
        simp only
        cases fsResults P fr.t h2 fn.results.toList with
        | none => rfl
        | some vs =>
          simp only [Option.map_some]
          generalize (!false && (af (tupled vs) && Nat.ble h.next h2.low)) = q
          cases q <;> rfl
def sufx : Nat → Code → Code
  | 0, c => c
  | k + 1, .seq _ b => sufx k b
  | _ + 1, c => c
def rfOf : Code → Option (Array Tmp × Code × Code)
  | .rangeFunc _ ps a b => some (ps, a, b)
  | .seq a b => (rfOf a).or (rfOf b)
  | .cond _ a b => (rfOf a).or (rfOf b)
  | .block _ b => rfOf b
  | .loop b => rfOf b
  | .scope b => rfOf b
  | _ => none
def rfIn (fn : Func) : Array Tmp × Code × Code := (fn.body.bind rfOf).getD (#[], .skip, .skip)
end Go.Fs
namespace Go.Fs
open Go.RowKit (Below)

variable {P : Program} {B : Nat} {w0 : World}
theorem orcI_sound {fi : FuncId} (hz : w0.drawn = 0) (hi : Enters P fi)
    (hI : ∀ (n : Int) (w : World), Below B w0 w → -9223372036854775808 ≤ n → n ≤ 9223372036854775807 → Calls P fi #[.int .i64 n] w fun e w' => e = .returned (.string ⟨(Lib.itoa n).toArray⟩) ∧ Below w.heap.size w w') : CallSound P B w0 (orcS fi fi) := by
  intro f xs h v h' hf
  unfold orcS at hf
  cases hfi : Nat.beq f fi with
  | true =>
    have := nbeq hfi
    subst this
    rw [hfi] at hf
    simp only [cond_true] at hf
    split at hf
    · rename_i n
      obtain ⟨hc, hf2⟩ := bif_some hf
      obtain ⟨h0, h1⟩ := band hc
      have h0 := of_decide_eq_true h0
      have h1 := of_decide_eq_true h1
      simp only [Option.some.injEq, Prod.mk.injEq] at hf2
      obtain ⟨rfl, rfl⟩ := hf2
      refine ⟨hi, fun ρ S w args' hr ha nn => ?_⟩
      have he : args' = [.int .i64 n] := ha.eq_of_af (by rfl)
      subst he
      have hC : CallsIn Fence.wide nn P f #[.int .i64 n] w _ := callsIn_wide.2 (hI n w hr.below (by omega) (by omega))
      refine hC.mono fun e w' hret => ?_
      obtain ⟨rfl, hb⟩ := hret
      exact ⟨ρ, Moved.grewWorld hr hb (by rw [hz]; exact Nat.zero_le _), by rw [itoaF_eq h0 h1]; exact .lit rfl⟩
    cases hf
  | false =>
    rw [hfi] at hf
    simp only [cond_false] at hf
    cases hf
end Go.Fs
