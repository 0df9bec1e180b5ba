/- Parts of the proof: an evaluator of the model, what it is sound for, and contracts of functions. No condition. -/
import Derived.Test.YthiofhkndpegjaaGreatDoorP7
import Derived.Test.YthiofhkndpegjaaGreatDoorP6
import Derived.Test.YthiofhkndpegjaaGreatDoorP3
import Derived.Test.YthiofhkndpegjaaGreatDoorP2
set_option linter.all false
namespace Go.Proofs
open Go.Fs Ieee
set_option linter.unusedVariables false
set_option maxHeartbeats 400000

theorem set_getD {α : Type} {l : List α} {i j : Nat} {v d : α} (hj : j < l.length) : (l.set i v).getD j d = if i = j then v else l.getD j d := by
  rw [getDat (by rw [List.length_set]; exact hj), List.getElem_set, getDat hj]
structure LeftI (r : Rec1) (S : List Int × List Bool) : Prop where
  l1 : S.1.length = r.2.2.1.length
  l2 : S.2.length = r.2.2.1.length
  at_ : ∀ i : Nat, i < r.2.2.1.length → S.2.getD i false = (recB r i && decide (S.1.getD i 0 = 0))
theorem LeftI.step {r : Rec1} {x : Rul1} {n : Int} {old : List Bool} {S : List Int × List Bool} {i : Nat} (h : LeftI r S) (hn : n ≠ 0) : LeftI r (stepR r x n old S i) := by
  unfold stepR
  split
  · refine ⟨by rw [List.length_set]; exact h.l1, by rw [List.length_set]; exact h.l2, fun j hj => ?_⟩
    show (S.2.set i false).getD j false = (recB r j && decide ((S.1.set i n).getD j 0 = 0))
    rw [set_getD (by rw [h.l2]; exact hj), set_getD (by rw [h.l1]; exact hj)]
    by_cases e : i = j
    · rw [if_pos e, if_pos e, decide_eq_false hn, Bool.and_false]
    rw [if_neg e, if_neg e]; exact h.at_ j hj
  exact h
theorem LeftI.run {r : Rec1} {x : Rul1} {n : Int} {S : List Int × List Bool} (h : LeftI r S) (hn : n ≠ 0) : ∀ i : Nat, LeftI r (runR r x n S i)
  | 0 => h
  | i + 1 => (LeftI.run h hn i).step hn
theorem rea_left {r : Rec1} {l : List Rul1} : ∀ k : Nat, LeftI r (reaS r l k)
  | 0 => ⟨List.length_replicate, thereE_len, fun i hi => by
    show (thereE r).getD i false = (recB r i && decide ((List.replicate r.2.2.1.length (0 : Int)).getD i 0 = 0))
    rw [getDat (by rw [thereE_len]; exact hi), thereE_at hi (by rw [thereE_len]; exact hi), getDat (by rw [List.length_replicate]; exact hi), List.getElem_replicate, decide_eq_true rfl, Bool.and_true]⟩
  | k + 1 => LeftI.run (rea_left k) (by omega) _
theorem cln_left {r : Rec1} {l : List Rul1} {k : Nat} : clnL r (reaS r l k).1 r.2.2.1.length = (reaS r l k).2 := by
  have h := rea_left (r := r) (l := l) k
  refine List.ext_getElem (by rw [clnL_len, h.l2]) fun i h1 h2 => ?_
  rw [clnL_len] at h1
  rw [clnL_at h1, if_pos h1, clnB, ← h.at_ i h1, getDat h2]
theorem neq_00 : fcmpE .neq .f32 0 0 = false := by decide +kernel
theorem same_kept3 {r : Rec1} {l : List Bool} {n : Nat} (hv : ∀ x ∈ r.2.2.1, lvlE x = 0) : sameLv (keptL r l plusZ n) (keptL r l id n) = true := by
  refine decide_eq_true ⟨by rw [keptL_len, keptL_len], fun i hi => ?_⟩
  rw [keptL_len] at hi
  rw [getDat (by rw [keptL_len]; exact hi), getDat (by rw [keptL_len]; exact hi), keptL_at hi, keptL_at hi]
  by_cases hc : i < n ∧ l.getD i false = true
  · rw [if_pos hc, if_pos hc, getDat hi]
    have h1 := hv _ (List.getElem_mem hi)
    have h2 := lvl_ok h1
    have h3 := plusZ_ok h1
    show fcmpE .neq .f32 (plusZ r.2.2.1[i]) r.2.2.1[i] = false
    rw [(fcmp32 (h3.2.2.trans h2.1) h2.1).2.1]
    exact decide_eq_false (by simp)
  rw [if_neg hc, if_neg hc]; exact neq_00
theorem same_z3 : sameRec zRec zRec = true := by decide +kernel
theorem told_cln {r : Rec1} {l : List Rul1} (h : reaC r l = 0) : toldE (clnR r l) (reaC r l) (reaC r l) (keptE r (clnL r (reaS r l l.length).1 r.2.2.1.length)) = true := by
  have hr := rec_ok (firstE_zero.1 h (recE r) (by simp))
  have hs := same_kept3 (l := (reaS r l l.length).2) (n := (reaS r l l.length).2.length) hr.2.2.2.1
  rw [toldE, if_neg (fun hh => hh h), clnR, if_neg (fun hh => hh h), cln_left, decide_eq_true h, Bool.true_and]
  unfold sameRec keptE
  show (decide (r.1 = r.1) && decide (r.2.1 = r.2.1) && sameLv _ _ && decide (_ = _)) = true
  rw [hs, decide_eq_true rfl, decide_eq_true rfl, decide_eq_true rfl] <;> rfl
theorem told_cln0 {r : Rec1} {l : List Rul1} {w : Rec1} (h : ¬ reaC r l = 0) : toldE (clnR r l) (reaC r l) (reaC r l) w = true := by
  rw [toldE, if_pos h, clnR, if_pos h, same_z3, decide_eq_true rfl] <;> rfl
theorem filU_sub {r : Rec1} {n : Int} : ∀ k : Nat, k ≤ r.2.2.2.length → (filA r n k).2.1.Sublist (r.2.2.2.take k)
  | 0, _ => List.nil_sublist _
  | k + 1, hk => by
    have ih := filU_sub (r := r) (n := n) k (by omega)
    rw [filA_s (by omega), List.take_succ_eq_append_getElem (by omega)]
    by_cases hf : flP n r.2.2.2[k]
    · rw [filS_t hf]; exact ih.append (List.Sublist.refl _)
    rw [filS_f hf]; exact ih.trans (List.sublist_append_left _ _)
theorem thP_in {r : Rec1} {n : Int} (hp : r.2.2.2.Pairwise fun s u => s.2 < u.1) (hb : ∀ s ∈ r.2.2.2, s.1 < s.2) {t : Int} : ∀ k : Nat, k ≤ r.2.2.2.length → thP r n k t = (Sp.inL (filA r n k).2.1 t || Sp.inL (r.2.2.2.drop k) t)
  | 0, _ => rfl
  | k + 1, hk => by
    have ih := thP_in (n := n) (t := t) hp hb k (by omega)
    have hkl : k < r.2.2.2.length := by omega
    have hd : r.2.2.2.drop k = r.2.2.2[k] :: r.2.2.2.drop (k + 1) := List.drop_eq_getElem_cons hkl
    show (if flP n (spX r.2.2.2 k) then thP r n k t else thP r n k t && !(decide ((spX r.2.2.2 k).1 ≤ t) && decide (t < (spX r.2.2.2 k).2))) = _
    rw [spX_eq hkl, filA_s hkl, ih, hd]
    have hg : ∀ l : List (Int × Int), Sp.inL (r.2.2.2[k] :: l) t = ((decide ((r.2.2.2[k]).1 ≤ t) && decide (t < (r.2.2.2[k]).2)) || Sp.inL l t) := fun l => rfl
    by_cases hf : flP n r.2.2.2[k]
    · rw [if_pos hf, filS_t hf, hg]
      show _ = (Sp.inL ((filA r n k).2.1 ++ [r.2.2.2[k]]) t || _)
      rw [Sp.inL_app, hg, show Sp.inL [] t = false from rfl, Bool.or_false, Bool.or_assoc]
    rw [if_neg hf, filS_f hf, hg]
    show _ = (Sp.inL (filA r n k).2.1 t || _)
    cases hin : (decide ((r.2.2.2[k]).1 ≤ t) && decide (t < (r.2.2.2[k]).2)) with
    | false => simp
    | true =>
      simp only [Bool.and_eq_true, decide_eq_true_eq] at hin
      have hU : Sp.inL (filA r n k).2.1 t = false := by
        cases hu : Sp.inL (filA r n k).2.1 t with
        | false => rfl
        | true =>
          obtain ⟨s, hs, h2⟩ := List.any_eq_true.1 hu
          simp only [Bool.and_eq_true, decide_eq_true_eq] at h2
          obtain ⟨j, hj, rfl⟩ := List.mem_iff_getElem.1 ((filU_sub k (by omega)).subset hs)
          have hjl : j < k := by rw [List.length_take] at hj; omega
          rw [List.getElem_take] at h2
          have := canon_before hp hkl hjl
          omega
      have hD : Sp.inL (r.2.2.2.drop (k + 1)) t = false := by
        cases hu : Sp.inL (r.2.2.2.drop (k + 1)) t with
        | false => rfl
        | true =>
          obtain ⟨s, hs, h2⟩ := List.any_eq_true.1 hu
          simp only [Bool.and_eq_true, decide_eq_true_eq] at h2
          obtain ⟨j, hj, rfl⟩ := List.mem_iff_getElem.1 hs
          rw [List.getElem_drop] at h2
          rw [List.length_drop] at hj
          have := canon_before (k := k + 1 + j) (i := k) hp (by omega) (by omega)
          omega
      rw [hU, hD] <;> rfl
theorem thP_all {r : Rec1} {n : Int} {t : Int} : ∀ k : Nat, k ≤ r.2.2.2.length → thP r n k t = true → Sp.inL r.2.2.2 t = true ∧ ∀ i (hi : i < r.2.2.2.length), i < k → ¬ flP n r.2.2.2[i] → ¬ ((r.2.2.2[i]).1 ≤ t ∧ t < (r.2.2.2[i]).2)
  | 0, _, h => ⟨h, fun i hi h2 => absurd h2 (by omega)⟩
  | k + 1, hk, h => by
    have hkl : k < r.2.2.2.length := by omega
    have h : (if flP n (spX r.2.2.2 k) then thP r n k t else thP r n k t && !(decide ((spX r.2.2.2 k).1 ≤ t) && decide (t < (spX r.2.2.2 k).2))) = true := h
    rw [spX_eq hkl] at h
    by_cases hf : flP n r.2.2.2[k]
    · rw [if_pos hf] at h
      obtain ⟨h1, h2⟩ := thP_all k (by omega) h
      refine ⟨h1, fun i hi h3 h4 => ?_⟩
      by_cases e : i = k
      · subst e; exact absurd hf h4
      exact h2 i hi (by omega) h4
    rw [if_neg hf, Bool.and_eq_true] at h
    obtain ⟨h1, h2⟩ := thP_all k (by omega) h.1
    refine ⟨h1, fun i hi h3 h4 => ?_⟩
    by_cases e : i = k
    · subst e
      intro hh
      have h5 := h.2
      rw [decide_eq_true hh.1, decide_eq_true hh.2] at h5
      cases h5
    exact h2 i hi (by omega) h4
theorem filA_pre2 {r : Rec1} {n : Int} {j : Nat} : ∀ k : Nat, k ≤ r.2.2.2.length → (∀ i (hi : i < r.2.2.2.length), i < k → ¬ flP n r.2.2.2[i] → ¬ ((r.2.2.2[i]).1 ≤ (j : Int) ∧ (j : Int) < (r.2.2.2[i]).2)) → (filA r n k).1.getD j 0 = r.2.2.1.getD j 0
  | 0, _, _ => rfl
  | k + 1, hk, h => by
    have ih := filA_pre2 (r := r) (n := n) (j := j) k (by omega) fun i hi h2 => h i hi (by omega)
    have hg := h k (by omega) (by omega)
    rw [filA_s (by omega)]
    by_cases hf : flP n r.2.2.2[k]
    · rw [filS_t hf]; exact ih
    rw [filS_f hf]
    show (putF _ _ _ _).getD j 0 = _
    rw [putF_out (fun hh => hg hf ⟨hh.1, by omega⟩)]; exact ih
theorem canon_sub {m : Int} {a b : List (Int × Int)} (h : a.Sublist b) (hb : Sp.Canon m b) : Sp.Canon m a := ⟨fun s hs => hb.1 s (h.subset hs), hb.2.sublist h⟩
theorem fil_gaps {r : Rec1} {n : Int} (h : recE r = 0) : gapsE (thF r n) (thF r n).length = (filA r n r.2.2.2.length).2.1 := by
  have hc := (rec_canon h).1
  have e : thF r n = offB r.2.2.1.length (Sp.inL (filA r n r.2.2.2.length).2.1) := offB_ext fun u _ => by
    rw [thP_in hc.2 (fun s hs => (hc.1 s hs).2.1) _ (Nat.le_refl _), List.drop_length, show Sp.inL [] (u : Int) = false from rfl, Bool.or_false]
  rw [e, offB_len]
  refine gaps_off (canon_sub ?_ hc)
  have := filU_sub (r := r) (n := n) r.2.2.2.length (Nat.le_refl _)
  rwa [List.take_length] at this
theorem zero_of {x : Nat} (hv : lvlE x = 0) (h : nzE x = false) : fcmpE .neq .f32 0 x = false := by
  have h1 := lvl_ok hv
  unfold nzE at h
  rw [(fcmp32 h1.1 u32_0).2.1, decide_eq_false_iff_not] at h
  rw [(fcmp32 u32_0 h1.1).2.1]
  exact decide_eq_false (by omega)
theorem fil_same {r : Rec1} {n : Int} (h : recE r = 0) : sameLv (keptL (filP r n) (thF r n) plusZ (thF r n).length) (filA r n r.2.2.2.length).1 = true := by
  have hr := rec_ok h
  have hc := rec_canon h
  have hl : (filA r n r.2.2.2.length).1.length = r.2.2.1.length := (filA_len r.2.2.2.length (Nat.le_refl _)).1
  have hlv := filA_lvl (n := n) hr.2.2.2.1 r.2.2.2.length (Nat.le_refl _)
  have hP : (filP r n).2.2.1.length = r.2.2.1.length := hl
  refine decide_eq_true ⟨by rw [keptL_len]; rfl, fun i hi => ?_⟩
  rw [keptL_len, hP] at hi
  have hil : i < (filA r n r.2.2.2.length).1.length := by omega
  rw [getDat (by rw [keptL_len, hP]; exact hi), keptL_at (show i < (filP r n).2.2.1.length by omega), getDat hil]
  have h1 := hlv _ (List.getElem_mem hil)
  have h2 := lvl_ok h1
  by_cases hcc : i < (thF r n).length ∧ (thF r n).getD i false = true
  · rw [if_pos hcc]
    have h3 := plusZ_ok h1
    show fcmpE .neq .f32 (plusZ ((filA r n r.2.2.2.length).1.getD i 0)) _ = false
    rw [getDat hil, (fcmp32 (h3.2.2.trans h2.1) h2.1).2.1]
    exact decide_eq_false (by simp)
  rw [if_neg hcc]
  refine zero_of h1 ?_
  have ht : thP r n r.2.2.2.length (i : Int) = true := by
    have h4 : (thF r n).getD i false = !thP r n r.2.2.2.length (i : Int) := offB_getD hi
    cases hb : thP r n r.2.2.2.length (i : Int) with
    | true => rfl
    | false =>
      rw [hb] at h4
      exact absurd ⟨by rw [thF_len]; exact hi, h4⟩ hcc
  obtain ⟨h5, h6⟩ := thP_all _ (Nat.le_refl _) ht
  have h7 := filA_pre2 (n := n) (j := i) r.2.2.2.length (Nat.le_refl _) h6
  rw [getDat hil, getDat hi] at h7
  rw [h7]
  cases hz : nzE r.2.2.1[i] with
  | false => rfl
  | true => exact absurd (fill_t (fun s hs => ⟨(hr.2.2.2.2 s hs).1, by have := (hr.2.2.2.2 s hs).2.1; omega, (hr.2.2.2.2 s hs).2.2⟩) hi hz h5) (by rw [hc.2.1]; decide)
theorem told_fil {r : Rec1} {n : Int} (h : filC r n = 0) : toldE (filR r n) (filC r n) (filC r n) (r.1, r.2.1, (filA r n r.2.2.2.length).1, (filA r n r.2.2.2.length).2.1) = true := by
  have hre := firstE_zero.1 h (recE r) (by simp)
  rw [toldE, if_neg (fun hh => hh h), filR, if_neg (fun hh => hh h), fil_gaps hre, decide_eq_true h, Bool.true_and]
  unfold sameRec
  show (decide (r.1 = r.1) && decide (r.2.1 = r.2.1) && sameLv _ _ && decide (_ = _)) = true
  rw [fil_same hre, decide_eq_true rfl, decide_eq_true rfl, decide_eq_true rfl] <;> rfl
theorem told_fil0 {r : Rec1} {n : Int} {w : Rec1} (h : ¬ filC r n = 0) : toldE (filR r n) (filC r n) (filC r n) w = true := by
  rw [toldE, if_pos h, filR, if_pos h, same_z3, decide_eq_true rfl] <;> rfl
def wantR (r : Rec1) (l : List Rul1) : List Int := if reaC r l = 0 then (reaS r l l.length).1 else []
def wantC (r : Rec1) (l : List Rul1) : Rec1 := if reaC r l = 0 then keptE r (clnL r (reaS r l l.length).1 r.2.2.1.length) else zRec
def wantF (r : Rec1) (n : Int) : Rec1 := if filC r n = 0 then (r.1, r.2.1, (filA r n r.2.2.2.length).1, (filA r n r.2.2.2.length).2.1) else zRec
def wantS (r : Rec1) (n : Int) : List (Int × Int) := if filC r n = 0 then (filA r n r.2.2.2.length).2.2 else []
theorem wantC_len {r : Rec1} {l : List Rul1} : (wantC r l).2.2.2.length ≤ r.2.2.1.length := by
  unfold wantC
  split
  · have h := gapsE_len (clnL r (reaS r l l.length).1 r.2.2.1.length) (clnL r (reaS r l l.length).1 r.2.2.1.length).length
    rw [clnL_len] at h
    exact (by rw [clnL_len]; exact h : (gapsE (clnL r (reaS r l l.length).1 r.2.2.1.length) (clnL r (reaS r l l.length).1 r.2.2.1.length).length).length ≤ _)
  exact Nat.zero_le _
theorem wantF_len {r : Rec1} {n : Int} : (wantF r n).2.2.2.length ≤ r.2.2.2.length := by
  unfold wantF
  split
  · exact (filA_len r.2.2.2.length (Nat.le_refl _)).2.1
  exact Nat.zero_le _
theorem clnR_len {r : Rec1} {l : List Rul1} : (clnR r l).2.2.1.length ≤ r.2.2.1.length ∧ (clnR r l).2.2.2.length ≤ r.2.2.1.length := by
  unfold clnR
  split
  · exact ⟨Nat.zero_le _, Nat.zero_le _⟩
  refine ⟨by show (keptL _ _ _ _).length ≤ _; rw [keptL_len]; exact Nat.le_refl _, ?_⟩
  have h := gapsE_len (reaS r l l.length).2 (reaS r l l.length).2.length
  rw [(reaS_len (r := r) (l := l) l.length).2] at h
  exact (by rw [(reaS_len (r := r) (l := l) l.length).2]; exact h : (gapsE (reaS r l l.length).2 (reaS r l l.length).2.length).length ≤ _)
theorem filR_len {r : Rec1} {n : Int} : (filR r n).2.2.1.length ≤ r.2.2.1.length ∧ (filR r n).2.2.2.length ≤ r.2.2.1.length := by
  unfold filR
  split
  · exact ⟨Nat.zero_le _, Nat.zero_le _⟩
  refine ⟨by show (keptL _ _ _ _).length ≤ _; rw [keptL_len]; exact Nat.le_of_eq (filA_len r.2.2.2.length (Nat.le_refl _)).1, ?_⟩
  have h := gapsE_len (thF r n) (thF r n).length
  rw [thF_len] at h
  exact (by rw [thF_len]; exact h : (gapsE (thF r n) (thF r n).length).length ≤ _)
theorem reaX_len {r : Rec1} {l : List Rul1} : (if reaC r l ≠ 0 then [] else (reaS r l l.length).1).length ≤ r.2.2.1.length := by
  split
  · exact Nat.zero_le _
  exact Nat.le_of_eq (reaS_len _).1
theorem wantR_len {r : Rec1} {l : List Rul1} : (wantR r l).length ≤ r.2.2.1.length := by
  unfold wantR
  split
  · exact Nat.le_of_eq (reaS_len _).1
  exact Nat.zero_le _
theorem filX_len {r : Rec1} {n : Int} : (if filC r n ≠ 0 then [] else (filA r n r.2.2.2.length).2.2).length ≤ r.2.2.2.length := by
  split
  · exact Nat.zero_le _
  exact (filA_len r.2.2.2.length (Nat.le_refl _)).2.2
theorem wantS_len {r : Rec1} {n : Int} : (wantS r n).length ≤ r.2.2.2.length := by
  unfold wantS
  split
  · exact (filA_len r.2.2.2.length (Nat.le_refl _)).2.2
  exact Nat.zero_le _
theorem fin7 {r : Rec1} {l : List Rul1} {n : Int} : (((((decide ((if reaC r l ≠ 0 then [] else (reaS r l l.length).1) = wantR r l)) && (decide (reaC r l = reaC r l))) && (toldE (clnR r l) (reaC r l) (reaC r l) (wantC r l))) && (toldE (filR r n) (filC r n) (filC r n) (wantF r n))) && (decide ((if filC r n ≠ 0 then [] else (filA r n r.2.2.2.length).2.2) = wantS r n))) = true := by
  have h1 : (if reaC r l ≠ 0 then [] else (reaS r l l.length).1) = wantR r l := by
    unfold wantR
    by_cases h : reaC r l = 0
    · rw [if_neg (fun hh => hh h), if_pos h]
    rw [if_pos h, if_neg h]
  have h2 : (if filC r n ≠ 0 then [] else (filA r n r.2.2.2.length).2.2) = wantS r n := by
    unfold wantS
    by_cases h : filC r n = 0
    · rw [if_neg (fun hh => hh h), if_pos h]
    rw [if_pos h, if_neg h]
  have h3 : toldE (clnR r l) (reaC r l) (reaC r l) (wantC r l) = true := by
    unfold wantC
    by_cases h : reaC r l = 0
    · rw [if_pos h]; exact told_cln h
    exact told_cln0 h
  have h4 : toldE (filR r n) (filC r n) (filC r n) (wantF r n) = true := by
    unfold wantF
    by_cases h : filC r n = 0
    · rw [if_pos h]; exact told_fil h
    exact told_fil0 h
  rw [decide_eq_true h1, decide_eq_true h2, h3, h4, decide_eq_true rfl] <;> rfl
theorem law7_ok {r : ByteArray × Int × (List Nat) × (List (Int × Int))} {l : List (ByteArray × Int × Int)} {n : Int} (hl : l.length ≤ 9223372036854775807) : VF Tryz.prog OA 7 [.v y55 r, .v y56 l, I n] (B true) := by
  refine VF.enter Tryz.func7 rfl (fun _ _ => rfl) rfl ?_
  show VC _ _ _ _ _ [(0, .v y55 r), (1, .v y56 l), (2, I n)] [] _
  refine VC.seq (VC.text ?_); refine VO.new (.box) ?_; refine VO.c (.assign rfl) ?_; refine VO.go (VC.seq (VC.seq (VC.text ?_))); refine VO.call rfl rfl (VF.call (awake_ok )) ?_; refine VO.c (.not) ?_; refine VO.c (.move rfl) ?_; refine VO.r (.ld vt55) ?_; refine VO.call rfl rfl (VF.call (rShort_ok )) ?_; refine VO.c (.not) ?_; refine VO.c (.pickF rfl rfl) ?_; refine VO.c (.move rfl) ?_; refine VO.cg (r := (!(shortE r))) (w := false) [] trivial (fun _ => (.move rfl)) ?_; refine VO.callg (r0 := (!(shortE r))) (w := false) [(29, .v y56 l)] ⟨rfl, trivial⟩ rfl rfl .same .refl rfl (fun hgd => have g1_7 : (!(shortE r)) = false := (by first | exact eq_of_beq hgd | simpa using hgd); VF.call (rShortR_ok (by first | assumption | omega | simp))) ?_; refine VO.cg (r := (!(shortE r))) (w := false) [(30, B (shortR l))] ⟨rfl, trivial⟩ (fun _ => (.not)) ?_; refine VO.c (.or) ?_; refine VO.go ?_; refine VC.condB rfl (fun c1 => ?_) (fun c1 => ?_)
  · try simp only [Bool.and_eq_true, Bool.or_eq_true, Bool.and_eq_false_iff, Bool.or_eq_false_iff, Bool.not_eq_true', Bool.not_eq_false', decide_eq_true_eq, decide_eq_false_iff_not] at c1
    refine VC.seq (VC.text ?_); refine VO.call rfl rfl (VF.call (awake_ok )) ?_; refine VO.c (.assign rfl) ?_; refine VO.go ?_; refine VC.ret ?_; exact VEnd.one rfl evT (pvE (by rfl))
  try simp only [Bool.and_eq_true, Bool.or_eq_true, Bool.and_eq_false_iff, Bool.or_eq_false_iff, Bool.not_eq_true', Bool.not_eq_false', decide_eq_true_eq, decide_eq_false_iff_not] at c1
  have hs := shortE_t c1.1
  have hs9 := shortR_t c1.2
  have hll : l.length < 1000000 := by omega
  have hrl : r.2.2.1.length < 100000 := by omega
  have hrg : r.2.2.2.length < 1000000 := by omega
  refine VC.skip (VC.seq (VC.text ?_)); refine VO.r (.ld vt55) ?_; refine VO.call rfl rfl (VF.call (lRecord_ok (by first | assumption | omega | simp) (by first | assumption | omega | simp))) ?_; refine VO.c (.move rfl) ?_; refine VO.call rfl rfl (VF.call (lRules_ok (by first | assumption | omega | simp))) ?_; refine VO.call rfl rfl (VF.call (gReasons_ok (by first | assumption | omega | simp) (by first | assumption | omega | simp) (by first | assumption | omega | simp))) ?_; refine VO.c (.move rfl) ?_; refine VO.c (.extract) ?_; refine VO.c (.extract) ?_; refine VO.c (.assign rfl) ?_; refine VO.c (.assign rfl) ?_; refine VO.go (VC.seq (VC.text ?_)); refine VO.r (.ld vt55) ?_; refine VO.call rfl rfl (VF.call (lRecord_ok (by first | assumption | omega | simp) (by first | assumption | omega | simp))) ?_; refine VO.c (.move rfl) ?_; refine VO.call rfl rfl (VF.call (lRules_ok (by first | assumption | omega | simp))) ?_; refine VO.call rfl rfl (VF.call (gClean_ok (by first | assumption | omega | simp) (by first | assumption | omega | simp) (by first | assumption | omega | simp))) ?_; refine VO.c (.move rfl) ?_; refine VO.c (.extract) ?_; refine VO.c (.extract) ?_; refine VO.cell (.alloc zt65) ?_; intro ww1; refine VO.setV (cs' := [St ((clnR r l).1), I ((clnR r l).2.1), .v y53 ((clnR r l).2.2.1), .v y22 ((clnR r l).2.2.2)]) vt65 .v ?_; refine VO.shut [(9, .p y65 (clnR r l))] (.cons rfl (.var m0 .refl) .nil) ?_; refine VO.c (.assign rfl) ?_; refine VO.go (VC.seq ?_); refine VC.keep [(1, .v y56 l), (2, I n), (3, .p y55 r), (7, .v y37 (if reaC r l ≠ 0 then [] else (reaS r l l.length).1)), (8, I (reaC r l)), (9, .p y65 (clnR r l)), (10, I (reaC r l))] ⟨rfl, rfl, rfl, rfl, rfl, rfl, rfl, trivial⟩ ?_; refine VC.text ?_; refine VO.r (.ld vt55) ?_; refine VO.call rfl rfl (VF.call (lRecord_ok (by first | assumption | omega | simp) (by first | assumption | omega | simp))) ?_; refine VO.c (.move rfl) ?_; refine VO.call rfl rfl (VF.call (gFill_ok (by first | assumption | omega | simp) (by first | assumption | omega | simp))) ?_; refine VO.c (.move rfl) ?_; refine VO.c (.extract) ?_; refine VO.c (.extract) ?_; refine VO.c (.extract) ?_; refine VO.cell (.alloc zt65) ?_; intro ww2; refine VO.setV (cs' := [St ((filR r n).1), I ((filR r n).2.1), .v y53 ((filR r n).2.2.1), .v y22 ((filR r n).2.2.2)]) vt65 .v ?_; refine VO.shut [(11, .p y65 (filR r n))] (.cons rfl (.var m0 .refl) .nil) ?_; refine VO.c (.assign rfl) ?_; refine VO.c (.assign rfl) ?_; refine VO.go (VC.seq (VC.text ?_)); refine VO.r (.ld vt55) ?_; refine VO.call rfl rfl (VF.call (rRec_ok (by first | assumption | omega | simp) (by first | assumption | omega | simp))) ?_; refine VO.c (.assign rfl) ?_; refine VO.go (VC.seq (VC.text ?_)); refine VO.c (.move rfl) ?_; refine VO.c (.move rfl) ?_; refine VO.call rfl rfl (VF.call (rRules_ok (by first | assumption | omega | simp))) ?_; refine VO.new (.lit [recE r, rulesE l] el37) ?_; refine VO.call rfl rfl (VF.call (lFirst_ok (by first | assumption | omega | simp))) ?_; refine VO.c (.move rfl) ?_; refine VO.c (.move rfl) ?_; refine VO.call rfl rfl (VF.call (rCheckRange_ok )) ?_; refine VO.new (.lit [recE r, rangeE n (0 : Int) (4096 : Int)] el37) ?_; refine VO.call rfl rfl (VF.call (lFirst_ok (by first | assumption | omega | simp))) ?_; refine VO.c (.assign rfl) ?_; refine VO.c (.assign rfl) ?_; refine VO.go (VC.seq (VC.text ?_)); refine VO.c (.assign rfl) ?_; refine VO.go (VC.seq ?_); refine VC.nilD 17 (.int .i64) rfl ?_; refine VC.text ?_; refine VO.cell (.alloc zt55) ?_; intro ww3; refine VO.cell (.alloc zt55) ?_; intro ww4; refine VO.go (VC.seq (VC.text ?_)); refine VO.c (.assign rfl) ?_; refine VO.go (VC.seq (VC.seq ?_)); refine VC.nilD 20 y39 rfl ?_; refine VC.text ?_; refine VO.c (.move rfl) ?_; refine VO.c (.eql) ?_; refine VO.go ?_; refine VC.join [(2, I n), (3, .p y55 r), (7, .v y37 (if reaC r l ≠ 0 then [] else (reaS r l l.length).1)), (8, I (reaC r l)), (9, .p y65 (clnR r l)), (10, I (reaC r l)), (11, .p y65 (filR r n)), (12, .v y22 (if filC r n ≠ 0 then [] else (filA r n r.2.2.2.length).2.2)), (13, I (filC r n)), (15, I (reaC r l)), (16, I (filC r n)), (17, .v y37 (wantR r l)), (18, .raw ww3), (19, .raw ww4), (20, .v y22 [])] [(ww4, .var [St ByteArray.empty, I (0 : Int), .v y53 [], .v y22 []]), (ww3, .var [St ((wantC r l).1), I ((wantC r l).2.1), .v y53 ((wantC r l).2.2.1), .v y22 ((wantC r l).2.2.2)])] ?_ ?_; refine VC.condD rfl (fun c11 => ?_) (fun c11 => ?_)
  · have hz := firstE_zero.1 (show reaC r l = 0 from c11)
    have hrr := rec_ok (hz (recE r) (by simp))
    have hru := rules_all (hz (rulesE l) (by simp))
    refine VC.keep [(1, .v y56 l), (2, I n), (3, .p y55 r), (7, .v y37 (if reaC r l ≠ 0 then [] else (reaS r l l.length).1)), (8, I (reaC r l)), (9, .p y65 (clnR r l)), (10, I (reaC r l)), (11, .p y65 (filR r n)), (12, .v y22 (if filC r n ≠ 0 then [] else (filA r n r.2.2.2.length).2.2)), (13, I (filC r n)), (15, I (reaC r l)), (16, I (filC r n)), (18, .raw ww3), (19, .raw ww4), (20, .v y22 [])] ⟨rfl, rfl, rfl, rfl, rfl, rfl, rfl, rfl, rfl, rfl, rfl, rfl, rfl, rfl, rfl, trivial⟩ ?_; refine VC.drawn ?_; refine VD.r [] (.ld vt55) (.inl rfl) ?_; refine VD.c (.move rfl) ?_; refine VD.call rfl rfl (VF.call (rReasons_ok hrr.2.1 hrg hrr.2.2.2.1 hll hru)) ?_; refine VD.r [] (.ld vt55) (.inl rfl) ?_; refine VD.c (.move rfl) ?_; refine VD.call rfl rfl (VF.call (rClean_ok hrr.2.1 hrg hrr.2.2.2.1 hll hru)) ?_; refine VD.nw [77, 74] ?_; refine VD.c (.assign rfl) ?_; refine VD.perm swap1 ?_; refine VD.mk0 (MakeV.setF (k := 0) vt55 .v (Nat.le_of_ble_eq_true rfl) (.inr ⟨rfl, rfl⟩) rfl rfl) ?_; rintro _ _ tl5 ⟨rfl, rfl⟩; refine VD.perm swap1 ?_; refine VD.nil ?_; exact ⟨⟨rfl, rfl, rfl, rfl, rfl, rfl, rfl, rfl, rfl, rfl, rfl, slE rfl (by first | exact (if_pos c11).symm | exact (if_neg c11).symm), rfl, rfl, rfl, trivial⟩, (by first | (rw [show wantC r l = keptE r (clnL r (reaS r l l.length).1 r.2.2.1.length) from if_pos c11] <;> rfl) | (rw [show wantC r l = zRec from if_neg c11] <;> rfl))⟩
  · refine VC.skip ?_; exact ⟨⟨rfl, rfl, rfl, rfl, rfl, rfl, rfl, rfl, rfl, rfl, rfl, slE rfl (by first | exact (if_pos c11).symm | exact (if_neg c11).symm), rfl, rfl, rfl, trivial⟩, (by first | (rw [show wantC r l = keptE r (clnL r (reaS r l l.length).1 r.2.2.1.length) from if_pos c11] <;> rfl) | (rw [show wantC r l = zRec from if_neg c11] <;> rfl))⟩
  refine VC.seq (VC.seq ?_); refine VC.keep [(2, I n), (3, .p y55 r), (7, .v y37 (if reaC r l ≠ 0 then [] else (reaS r l l.length).1)), (8, I (reaC r l)), (9, .p y65 (clnR r l)), (10, I (reaC r l)), (11, .p y65 (filR r n)), (12, .v y22 (if filC r n ≠ 0 then [] else (filA r n r.2.2.2.length).2.2)), (13, I (filC r n)), (15, I (reaC r l)), (16, I (filC r n)), (17, .v y37 (wantR r l)), (18, .raw ww3), (19, .raw ww4), (20, .v y22 [])] ⟨rfl, rfl, rfl, rfl, rfl, rfl, rfl, rfl, rfl, rfl, rfl, rfl, rfl, rfl, rfl, trivial⟩ ?_; refine VC.text ?_; refine VO.c (.move rfl) ?_; refine VO.c (.eql) ?_; refine VO.go ?_; refine VC.join [(7, .v y37 (if reaC r l ≠ 0 then [] else (reaS r l l.length).1)), (8, I (reaC r l)), (9, .p y65 (clnR r l)), (10, I (reaC r l)), (11, .p y65 (filR r n)), (12, .v y22 (if filC r n ≠ 0 then [] else (filA r n r.2.2.2.length).2.2)), (13, I (filC r n)), (15, I (reaC r l)), (16, I (filC r n)), (17, .v y37 (wantR r l)), (18, .raw ww3), (19, .raw ww4), (20, .v y22 (wantS r n))] [(ww4, .var [St ((wantF r n).1), I ((wantF r n).2.1), .v y53 ((wantF r n).2.2.1), .v y22 ((wantF r n).2.2.2)]), (ww3, .var [St ((wantC r l).1), I ((wantC r l).2.1), .v y53 ((wantC r l).2.2.1), .v y22 ((wantC r l).2.2.2)])] ?_ ?_; refine VC.condD rfl (fun c13 => ?_) (fun c13 => ?_)
  · have hz := firstE_zero.1 (show filC r n = 0 from c13)
    have hrr := rec_ok (hz (recE r) (by simp))
    have hrn := rangeE_zero.1 (hz (rangeE n 0 4096) (by simp))
    refine VC.text ?_; refine VO.r (.ld vt55) ?_; refine VO.c (.move rfl) ?_; refine VO.call rfl rfl (VF.call (rFill_ok hrr.2.1 hrg (by omega) hrr.2.2.2.2)) ?_; refine VO.c (.move rfl) ?_; refine VO.c (.extract) ?_; refine VO.c (.extract) ?_; refine VO.setV (cs' := [St r.1, I r.2.1, .v y53 ((filA r n r.2.2.2.length).1), .v y22 ((filA r n r.2.2.2.length).2.1)]) vt55 .v ?_; refine VO.c (.assign rfl) ?_; refine VO.nil ?_; exact ⟨⟨rfl, rfl, rfl, rfl, rfl, rfl, rfl, rfl, rfl, rfl, rfl, rfl, slE rfl (by first | exact (if_pos c13).symm | exact (if_neg c13).symm), trivial⟩, (by first | (rw [show wantF r n = (r.1, r.2.1, (filA r n r.2.2.2.length).1, (filA r n r.2.2.2.length).2.1) from if_pos c13] <;> rfl) | (rw [show wantF r n = zRec from if_neg c13] <;> rfl))⟩
  · refine VC.skip ?_; exact ⟨⟨rfl, rfl, rfl, rfl, rfl, rfl, rfl, rfl, rfl, rfl, rfl, rfl, slE rfl (by first | exact (if_pos c13).symm | exact (if_neg c13).symm), trivial⟩, (by first | (rw [show wantF r n = (r.1, r.2.1, (filA r n r.2.2.2.length).1, (filA r n r.2.2.2.length).2.1) from if_pos c13] <;> rfl) | (rw [show wantF r n = zRec from if_neg c13] <;> rfl))⟩
  refine VC.seq (VC.text ?_); refine VO.c (.move rfl) ?_; refine VO.c (.move rfl) ?_; refine VO.call rfl rfl (VF.call (rSameI_ok (Nat.lt_of_le_of_lt reaX_len (by omega)) (Nat.lt_of_le_of_lt wantR_len (by omega)))) ?_; refine VO.c (.move rfl) ?_; refine VO.cg (r := decide ((if reaC r l ≠ 0 then [] else (reaS r l l.length).1) = (wantR r l))) (w := true) [] trivial (fun _ => (.move rfl)) ?_; refine VO.cg (r := decide ((if reaC r l ≠ 0 then [] else (reaS r l l.length).1) = (wantR r l))) (w := true) [] trivial (fun _ => (.move rfl)) ?_; refine VO.cg (r := decide ((if reaC r l ≠ 0 then [] else (reaS r l l.length).1) = (wantR r l))) (w := true) [(90, I (reaC r l)), (91, I (reaC r l))] ⟨rfl, rfl, trivial⟩ (fun _ => (.eql)) ?_; refine VO.c (.and) ?_; refine VO.c (.move rfl) ?_; refine VO.rg (r := ((decide ((if reaC r l ≠ 0 then [] else (reaS r l l.length).1) = (wantR r l))) && (decide (reaC r l = reaC r l)))) (w := true) [] trivial (fun _ => (.ld vt65)) ?_; refine VO.cg (r := ((decide ((if reaC r l ≠ 0 then [] else (reaS r l l.length).1) = (wantR r l))) && (decide (reaC r l = reaC r l)))) (w := true) [] trivial (fun _ => (.move rfl)) ?_; refine VO.cg (r := ((decide ((if reaC r l ≠ 0 then [] else (reaS r l l.length).1) = (wantR r l))) && (decide (reaC r l = reaC r l)))) (w := true) [] trivial (fun _ => (.move rfl)) ?_; refine VO.rg (r := ((decide ((if reaC r l ≠ 0 then [] else (reaS r l l.length).1) = (wantR r l))) && (decide (reaC r l = reaC r l)))) (w := true) [] trivial (fun _ => (.ldA (dx := (((wantC r l).1), ((wantC r l).2.1), ((wantC r l).2.2.1), ((wantC r l).2.2.2))) m1 vt55)) ?_; refine VO.callg (r0 := ((decide ((if reaC r l ≠ 0 then [] else (reaS r l l.length).1) = (wantR r l))) && (decide (reaC r l = reaC r l)))) (w := true) [(95, .v y65 (clnR r l)), (96, I (reaC r l)), (97, I (reaC r l)), (98, .v y55 (((wantC r l).1), ((wantC r l).2.1), ((wantC r l).2.2.1), ((wantC r l).2.2.2)))] ⟨rfl, rfl, rfl, rfl, trivial⟩ rfl rfl .same .refl rfl (fun hgd => have g15_8 : ((decide ((if reaC r l ≠ 0 then [] else (reaS r l l.length).1) = (wantR r l))) && (decide (reaC r l = reaC r l))) = true := (by simpa using hgd); VF.call (lTold_ok (Nat.lt_of_le_of_lt clnR_len.1 (by omega)) (Nat.lt_of_le_of_lt clnR_len.2 (by omega)) (Nat.lt_of_le_of_lt wantC_len (by omega)))) ?_; refine VO.c (.and) ?_; refine VO.c (.move rfl) ?_; refine VO.rg (r := (((decide ((if reaC r l ≠ 0 then [] else (reaS r l l.length).1) = (wantR r l))) && (decide (reaC r l = reaC r l))) && (toldE (clnR r l) (reaC r l) (reaC r l) (((wantC r l).1), ((wantC r l).2.1), ((wantC r l).2.2.1), ((wantC r l).2.2.2))))) (w := true) [] trivial (fun _ => (.ld vt65)) ?_; refine VO.cg (r := (((decide ((if reaC r l ≠ 0 then [] else (reaS r l l.length).1) = (wantR r l))) && (decide (reaC r l = reaC r l))) && (toldE (clnR r l) (reaC r l) (reaC r l) (((wantC r l).1), ((wantC r l).2.1), ((wantC r l).2.2.1), ((wantC r l).2.2.2))))) (w := true) [] trivial (fun _ => (.move rfl)) ?_; refine VO.cg (r := (((decide ((if reaC r l ≠ 0 then [] else (reaS r l l.length).1) = (wantR r l))) && (decide (reaC r l = reaC r l))) && (toldE (clnR r l) (reaC r l) (reaC r l) (((wantC r l).1), ((wantC r l).2.1), ((wantC r l).2.2.1), ((wantC r l).2.2.2))))) (w := true) [] trivial (fun _ => (.move rfl)) ?_; refine VO.rg (r := (((decide ((if reaC r l ≠ 0 then [] else (reaS r l l.length).1) = (wantR r l))) && (decide (reaC r l = reaC r l))) && (toldE (clnR r l) (reaC r l) (reaC r l) (((wantC r l).1), ((wantC r l).2.1), ((wantC r l).2.2.1), ((wantC r l).2.2.2))))) (w := true) [] trivial (fun _ => (.ldA (dx := (((wantF r n).1), ((wantF r n).2.1), ((wantF r n).2.2.1), ((wantF r n).2.2.2))) m0 vt55)) ?_; refine VO.callg (r0 := (((decide ((if reaC r l ≠ 0 then [] else (reaS r l l.length).1) = (wantR r l))) && (decide (reaC r l = reaC r l))) && (toldE (clnR r l) (reaC r l) (reaC r l) (((wantC r l).1), ((wantC r l).2.1), ((wantC r l).2.2.1), ((wantC r l).2.2.2))))) (w := true) [(102, .v y65 (filR r n)), (103, I (filC r n)), (104, I (filC r n)), (105, .v y55 (((wantF r n).1), ((wantF r n).2.1), ((wantF r n).2.2.1), ((wantF r n).2.2.2)))] ⟨rfl, rfl, rfl, rfl, trivial⟩ rfl rfl .same .refl rfl (fun hgd => have g15_15 : (((decide ((if reaC r l ≠ 0 then [] else (reaS r l l.length).1) = (wantR r l))) && (decide (reaC r l = reaC r l))) && (toldE (clnR r l) (reaC r l) (reaC r l) (((wantC r l).1), ((wantC r l).2.1), ((wantC r l).2.2.1), ((wantC r l).2.2.2)))) = true := (by simpa using hgd); VF.call (lTold_ok (Nat.lt_of_le_of_lt filR_len.1 (by omega)) (Nat.lt_of_le_of_lt filR_len.2 (by omega)) (Nat.lt_of_le_of_lt wantF_len (by omega)))) ?_; refine VO.c (.and) ?_; refine VO.c (.move rfl) ?_; refine VO.cg (r := ((((decide ((if reaC r l ≠ 0 then [] else (reaS r l l.length).1) = (wantR r l))) && (decide (reaC r l = reaC r l))) && (toldE (clnR r l) (reaC r l) (reaC r l) (((wantC r l).1), ((wantC r l).2.1), ((wantC r l).2.2.1), ((wantC r l).2.2.2)))) && (toldE (filR r n) (filC r n) (filC r n) (((wantF r n).1), ((wantF r n).2.1), ((wantF r n).2.2.1), ((wantF r n).2.2.2))))) (w := true) [] trivial (fun _ => (.move rfl)) ?_; refine VO.cg (r := ((((decide ((if reaC r l ≠ 0 then [] else (reaS r l l.length).1) = (wantR r l))) && (decide (reaC r l = reaC r l))) && (toldE (clnR r l) (reaC r l) (reaC r l) (((wantC r l).1), ((wantC r l).2.1), ((wantC r l).2.2.1), ((wantC r l).2.2.2)))) && (toldE (filR r n) (filC r n) (filC r n) (((wantF r n).1), ((wantF r n).2.1), ((wantF r n).2.2.1), ((wantF r n).2.2.2))))) (w := true) [] trivial (fun _ => (.move rfl)) ?_; refine VO.callg (r0 := ((((decide ((if reaC r l ≠ 0 then [] else (reaS r l l.length).1) = (wantR r l))) && (decide (reaC r l = reaC r l))) && (toldE (clnR r l) (reaC r l) (reaC r l) (((wantC r l).1), ((wantC r l).2.1), ((wantC r l).2.2.1), ((wantC r l).2.2.2)))) && (toldE (filR r n) (filC r n) (filC r n) (((wantF r n).1), ((wantF r n).2.1), ((wantF r n).2.2.1), ((wantF r n).2.2.2))))) (w := true) [(109, .v y22 (if filC r n ≠ 0 then [] else (filA r n r.2.2.2.length).2.2)), (110, .v y22 (wantS r n))] ⟨rfl, rfl, trivial⟩ rfl rfl .same .refl rfl (fun hgd => have g15_22 : ((((decide ((if reaC r l ≠ 0 then [] else (reaS r l l.length).1) = (wantR r l))) && (decide (reaC r l = reaC r l))) && (toldE (clnR r l) (reaC r l) (reaC r l) (((wantC r l).1), ((wantC r l).2.1), ((wantC r l).2.2.1), ((wantC r l).2.2.2)))) && (toldE (filR r n) (filC r n) (filC r n) (((wantF r n).1), ((wantF r n).2.1), ((wantF r n).2.2.1), ((wantF r n).2.2.2)))) = true := (by simpa using hgd); VF.call (rSameSp_ok (Nat.lt_of_le_of_lt filX_len (by omega)) (Nat.lt_of_le_of_lt wantS_len (by omega)))) ?_; refine VO.c (.and) ?_; refine VO.c (.assign rfl) ?_; refine VO.go ?_; refine VC.ret ?_; exact VEnd.one rfl evT (pvE (by exact fin7))
end Go.Proofs
namespace Go.Fs
open Go.RowKit (Below)
variable {P : Program}
def orcB (fi fj fc : FuncId) (T : TypeId) : FuncId → List Value → Heap → Option (Value × Heap) := fun f xs h =>
  bif Nat.beq f fc then
    match xs with
    | [.pointer (some ⟨b, 0, none⟩)] =>
      match h.get b with
      | some (.row e [p, v] true false) =>
        bif Nat.beq e T then
          match p with
          | .pointer none => some (.tuple #[], h.set b (.row e [.pointer (some ⟨b, 0, none⟩), v] true false))
          | .pointer (some ⟨b', 0, none⟩) => bif Nat.beq b' b then some (.tuple #[], h) else none
          | _ => none
        else none
      | _ => none
    | _ => none
  else orcS fi fj f xs h
theorem orcB_sound {B : Nat} {w0 : World} {fi fj fc : FuncId} {T : TypeId} (hz : w0.drawn = 0) (hS : CallSound P B w0 (orcS fi fj)) (hc : Enters P fc)
    (hF : ∀ (b : Nat) (w : World), w.cell? ⟨b, 0, none⟩ = some (.pointer none) → w.shape? b = some (T, 2) → w.frozen? ⟨b, 0, none⟩ = false →
      Calls P fc #[.pointer (some ⟨b, 0, none⟩)] w fun e w' => e = .returned (.tuple #[]) ∧ w' = w.setCell ⟨b, 0, none⟩ (.pointer (some ⟨b, 0, none⟩)))
    (hU : ∀ (b : Nat) (w : World), w.cell? ⟨b, 0, none⟩ = some (.pointer (some ⟨b, 0, none⟩)) → Calls P fc #[.pointer (some ⟨b, 0, none⟩)] w fun e w' => e = .returned (.tuple #[]) ∧ w' = w) :
    CallSound P B w0 (orcB fi fj fc T) := by
  intro f xs h v h' hf
  unfold orcB at hf
  cases hb : Nat.beq f fc with
  | false =>
    rw [hb] at hf
    exact hS f xs h v h' hf
  | true =>
    have := nbeq hb
    subst this
    rw [hb] at hf
    simp only [cond_true] at hf
    split at hf
    · rename_i b
      split at hf
      · rename_i e p u hg
        obtain ⟨he, hf2⟩ := bif_some hf
        obtain rfl := nbeq he; refine ⟨hc, fun ρ S w args' hr ha nn => ?_⟩
        obtain ⟨hsb, cur, k1, k2, k3, k4, k5, k6, k7⟩ := hr.objs b _ hg
        have hcl : cur.length = 2 := (k6 rfl).symm
        match cur, hcl with
        | [p', u'], _ =>
        have hp : VR ρ S p p' := k7 0 (by simp)
        have hu : VR ρ S u u' := k7 1 (by simp)
        have hat : (ρ b).at 0 = ⟨(ρ b).block, 0, none⟩ := by unfold Loc.at; rw [k2]
        have harg : args' = [.pointer (some ⟨(ρ b).block, 0, none⟩)] := by
          have h1 := ha.1
          match args', h1 with
          | [a], _ =>
            have h2 : VR ρ S (.pointer (some ⟨b, 0, none⟩)) a := ha.2 0 (by simp)
            rw [h2.ptr_inv.2, hat]
        subst harg
        have hcell : w.cell? ⟨(ρ b).block, 0, none⟩ = some p' := by simp [World.cell?, k1]
        split at hf2
        · simp only [Option.some.injEq, Prod.mk.injEq] at hf2
          obtain ⟨rfl, rfl⟩ := hf2
          obtain rfl := hp.eq_of_af0 rfl
          have hC : CallsIn Fence.wide nn P f #[.pointer (some ⟨(ρ b).block, 0, none⟩)] w _ := callsIn_wide.2 (hF (ρ b).block w hcell (by simp [World.shape?, k1]) (frozen_soft k1 (by rw [k3]; exact Nat.zero_lt_succ _)))
          refine hC.mono fun e2 w' hret => ?_
          obtain ⟨rfl, rfl⟩ := hret
          refine ⟨ρ, Moved.set hr hg rfl rfl rfl rfl rfl (by simp [World.setCell]) (fun k hk => ?_) ?_, VR.tuple' LR.nil⟩
          · simp only [World.setCell, Array.getElem?_modify]
            rw [if_neg (fun e0 => hk e0.symm)]
          refine ⟨[.pointer (some ⟨(ρ b).block, 0, none⟩), u'], ?_, k2, k3, k4, Nat.le_refl _, fun _ => rfl, fun i hi => ?_⟩
          · simp only [World.setCell, Array.getElem?_modify, if_pos rfl, k1]
            simp
          match i, hi with
          | 0, _ => show VR ρ S (.pointer (some ⟨b, 0, none⟩)) (.pointer (some ⟨(ρ b).block, 0, none⟩)); rw [← hat]; exact .ptr b 0 hsb
          | 1, _ => exact hu
        · rename_i b'
          obtain ⟨hbb, hf3⟩ := bif_some hf2
          obtain rfl := nbeq hbb
          simp only [Option.some.injEq, Prod.mk.injEq] at hf3
          obtain ⟨rfl, rfl⟩ := hf3
          have hp2 := hp.ptr_inv.2
          rw [hat] at hp2
          subst hp2
          have hC : CallsIn Fence.wide nn P f #[.pointer (some ⟨(ρ b').block, 0, none⟩)] w _ := callsIn_wide.2 (hU (ρ b').block w hcell)
          refine hC.mono fun e2 w' hret => ?_
          obtain ⟨rfl, rfl⟩ := hret
          exact ⟨ρ, Moved.same hr, VR.tuple' LR.nil⟩
        cases hf2
      cases hf
    cases hf
end Go.Fs
namespace Go.Fs
open Go.RowKit (Below)
variable {P : Program} {ops : Array Oper} {n : Nat}
def sameV : Value → Value → Bool
  | .int k a, .int k' b => decide (k = k') && decide (a = b)
  | .bool a, .bool b => decide (a = b)
  | _, _ => false
theorem sameV_eq {a b : Value} (h : sameV a b = true) : a = b := by
  unfold sameV at h
  split at h
  · obtain ⟨h1, h2⟩ := band h
    rw [of_decide_eq_true h1, of_decide_eq_true h2]
  · rw [of_decide_eq_true h]
  cases h
def sameL : List Value → List Value → Bool
  | [], [] => true
  | a :: r, b :: q => sameV a b && sameL r q
  | _, _ => false
theorem sameL_eq : ∀ {a b : List Value}, sameL a b = true → a = b
  | [], [], _ => rfl
  | [], _ :: _, h => by cases h
  | _ :: _, [], h => by cases h
  | a :: r, b :: q, h => by
    obtain ⟨h1, h2⟩ := band (h : (sameV a b && sameL r q) = true)
    rw [sameV_eq h1, sameL_eq h2]
def sameO : AObj → AObj → Bool
  | .row e cs o m, .row e' cs' o' m' => Nat.beq e e' && sameL cs cs' && decide (o = o') && decide (m = m')
  | _, _ => false
theorem sameO_eq {a b : AObj} (h : sameO a b = true) : a = b := by
  unfold sameO at h
  split at h
  · obtain ⟨h, h1⟩ := band h
    obtain ⟨h, h2⟩ := band h
    obtain ⟨h, h3⟩ := band h
    rw [nbeq h, sameL_eq h3, of_decide_eq_true h2, of_decide_eq_true h1]
  cases h
def okRd (rd : List (Nat × AObj)) (h : Heap) : Bool := rd.all fun p => match h.get p.1 with
  | some ob => sameO ob p.2
  | none => false
theorem stLook_mem {b : Nat} {ob : AObj} : ∀ {l : List (Nat × AObj)}, look l b = some ob → (b, ob) ∈ l
  | [], h => by cases h
  | (c, oc) :: r, h => by
    simp only [look] at h
    cases hc : Nat.beq c b with
    | true =>
      rw [hc] at h
      simp only [cond_true, Option.some.injEq] at h
      rw [nbeq hc, h]; exact List.mem_cons_self
    | false =>
      rw [hc] at h
      simp only [cond_false] at h
      exact List.mem_cons_of_mem _ (stLook_mem h)
theorem okRd_get {rd : List (Nat × AObj)} {h : Heap} (hk : okRd rd h = true) {b : Nat} {ob : AObj} (hl : look rd b = some ob) : h.get b = some ob := by
  have := List.all_eq_true.1 hk _ (stLook_mem hl)
  simp only at this
  split at this
  · rename_i o2 hg
    rw [hg, sameO_eq this]
  cases this
def stillR (P : Program) (rd : List (Nat × AObj)) (ops : Array Oper) (n : Nat) (o : Oper) (s : DSt) : Option DSt :=
  match fsWanted ops s.t o, o.op with
  | some true, .load T a =>
    match evalO s.t a with
    | .pointer (some p) =>
      match look rd p.block with
      | some ob =>
        match fsLoad P T (evalO s.t a) { next := s.h.next, low := s.h.next, objs := [(p.block, ob)] } with
        | some v => (put n s.t o.dst v).map fun t => { s with t, bs := s.bs ++ [beforeOf s.bs o] }
        | none => none
      | none => none
    | _ => none
  | _, _ => none
def fsDrawnY (P : Program) (rd : List (Nat × AObj)) (step : Oper → (Operand → Value) → Heap → Option (Value × Heap)) (ops : Array Oper) (n : Nat) : List Oper → Nat → DSt → Option DSt
  | [], _, s => bif okRd rd s.h then some s else none
  | o :: r, i, s => bif okRd rd s.h then
      match fsDraw step ops n o i s with
      | some s' => fsDrawnY P rd step ops n r (i + 1) s'
      | none => match stillR P rd ops n o s with
        | some s' => fsDrawnY P rd step ops n r (i + 1) s'
        | none => none
    else none
def fsReads (P : Program) (h0 : Heap) (step : Oper → (Operand → Value) → Heap → Option (Value × Heap)) (ops : Array Oper) (n : Nat) : List Oper → Nat → DSt → List (Nat × AObj) → List (Nat × AObj)
  | [], _, _, l => l
  | o :: r, i, s, l => match fsDraw step ops n o i s with
    | some s' => fsReads P h0 step ops n r (i + 1) s' l
    | none => match stillO P h0 ops n o s with
      | some (s', b) => match h0.get (b - 1) with
        | some ob => fsReads P h0 step ops n r (i + 1) s' ((b - 1, ob) :: l)
        | none => l
      | none => l
def drawnY (P : Program) (h0 : Heap) (step : Oper → (Operand → Value) → Heap → Option (Value × Heap)) (ops : Array Oper) (n : Nat) (s : DSt) (rd : List (Nat × AObj)) : Option DSt :=
  bif rd.all fun p => Nat.blt p.1 h0.next then fsDrawnY P rd step ops n ops.toList 0 s else none

theorem stillR_of {call : FuncId → List Value → Heap → Option (Value × Heap)} {yield : Nat → List Value → Heap → Option (Value × Heap)} {X : Nat → AObj → Prop} {rd : List (Nat × AObj)} {o : Oper} {i : Nat} {s s' : DSt}
    (hf : stillR P rd ops n o s = some s') (hX : ∀ c ob, look rd c = some ob → X c ob) :
    s'.bs = s.bs ++ [beforeOf s.bs o] ∧ Did (fsOp P call yield) ops n X o i s s' := by
  unfold stillR at hf
  split at hf
  · rename_i T a hw hop
    split at hf
    · rename_i p hev
      split at hf
      · rename_i ob hg
        split at hf
        · rename_i v hv
          obtain ⟨t, h3, h4⟩ := Option.map_eq_some_iff.1 hf
          subst h4
          refine ⟨rfl, .still hw v [(p.block, ob)] (fun c oc hc => ?_) ?_ h3 rfl rfl rfl rfl⟩
          · simp only [look] at hc
            cases hbc : Nat.beq p.block c with
            | true =>
              rw [hbc] at hc
              simp only [cond_true, Option.some.injEq] at hc
              obtain rfl := nbeq hbc
              subst hc
              exact hX _ _ hg
            | false => rw [hbc] at hc; cases hc
          unfold fsOp
          rw [hop]
          simp only [hv, Option.map_some]
        cases hf
      cases hf
    cases hf
  cases hf
theorem drawnY_trace {call : FuncId → List Value → Heap → Option (Value × Heap)} {yield : Nat → List Value → Heap → Option (Value × Heap)} {rd : List (Nat × AObj)} : ∀ (l : List Oper) (i : Nat) (s s' : DSt), fsDrawnY P rd (fsOp P call yield) ops n l i s = some s' →
    ∃ st : Nat → DSt, st i = s ∧ st (i + l.length) = s' ∧ (∀ q, i ≤ q → q ≤ i + l.length → okRd rd (st q).h = true) ∧
    ∀ j o, l[j]? = some o → ∀ X : Nat → AObj → Prop, (∀ c ob, look rd c = some ob → X c ob) → (st (i + j + 1)).bs = (st (i + j)).bs ++ [beforeOf (st (i + j)).bs o] ∧ Did (fsOp P call yield) ops n X o (i + j) (st (i + j)) (st (i + j + 1))
  | [], i, s, s', h => by
    simp only [fsDrawnY] at h
    obtain ⟨h1, h2⟩ := bif_some h
    simp only [Option.some.injEq] at h2
    subst h2
    exact ⟨fun _ => s, rfl, rfl, fun _ _ _ => h1, fun j o hj => by simp at hj⟩
  | o :: l, i, s, s', h => by
    simp only [fsDrawnY] at h
    obtain ⟨hok, h⟩ := bif_some h
    have key : ∀ s1, fsDrawnY P rd (fsOp P call yield) ops n l (i + 1) s1 = some s' →
        (∀ X : Nat → AObj → Prop, (∀ c ob, look rd c = some ob → X c ob) → s1.bs = s.bs ++ [beforeOf s.bs o] ∧ Did (fsOp P call yield) ops n X o i s s1) →
      ∃ st : Nat → DSt, st i = s ∧ st (i + (o :: l).length) = s' ∧ (∀ q, i ≤ q → q ≤ i + (o :: l).length → okRd rd (st q).h = true) ∧
        ∀ j o', (o :: l)[j]? = some o' → ∀ X : Nat → AObj → Prop, (∀ c ob, look rd c = some ob → X c ob) → (st (i + j + 1)).bs = (st (i + j)).bs ++ [beforeOf (st (i + j)).bs o'] ∧ Did (fsOp P call yield) ops n X o' (i + j) (st (i + j)) (st (i + j + 1)) := fun s1 hr hd => by
      obtain ⟨st, h1, h2, hq, h3⟩ := drawnY_trace l (i + 1) s1 s' hr
      refine ⟨fun k => if k = i then s else st k, by simp, ?_, fun q hq1 hq2 => ?_, fun j o' hj X hX => ?_⟩
      · simp only [List.length_cons]
        rw [if_neg (by omega), ← h2]
        congr 1; omega
      · rw [List.length_cons] at hq2
        by_cases e : q = i
        · subst e; simpa using hok
        simp only [if_neg e]; exact hq q (by omega) (by omega)
      cases j with
      | zero =>
        simp at hj
        subst hj
        simpa [h1] using hd X hX
      | succ j =>
        simp only [List.getElem?_cons_succ] at hj
        have := h3 j o' hj X hX
        rw [show i + 1 + j = i + (j + 1) by omega] at this
        simp only
        rw [if_neg (by omega), if_neg (by omega)]
        exact this
    split at h
    · rename_i s1 hs1
      exact key s1 h fun X _ => did_of hs1
    split at h
    · rename_i s1 hs1
      exact key s1 h fun X hX => stillR_of hs1 hX
    cases h
theorem traceY_of {call : FuncId → List Value → Heap → Option (Value × Heap)} {yield : Nat → List Value → Heap → Option (Value × Heap)} {t0 : Tr} {h0 : Heap} {s : DSt} {rd : List (Nat × AObj)} (h : drawnY P h0 (fsOp P call yield) ops n ⟨t0, h0, [], [], 0, false⟩ rd = some s) : ∃ st, Trace (fsOp P call yield) ops n st t0 h0 ∧ st ops.size = s := by
  unfold drawnY at h
  obtain ⟨hb, h⟩ := bif_some h
  obtain ⟨st, h1, h2, hq, h3⟩ := drawnY_trace _ _ _ _ h
  have h2' : st ops.size = s := by simpa using h2
  refine ⟨st, ⟨h1, fun i o ho => ?_⟩, h2'⟩
  have := h3 i o (by simpa using ho) (fun b ob => h0.get b = some ob ∧ b < h0.next ∧ (b < (st ops.size).h.low ∨ ∀ q, q ≤ ops.size → (st q).h.get b = some ob)) (fun c ob hc => ?_)
  · simpa only [Nat.zero_add] using this
  have hall : ∀ q, q ≤ ops.size → (st q).h.get c = some ob := fun q hq2 => okRd_get (hq q (Nat.zero_le _) (by simpa using hq2)) hc
  have h0 := hall 0 (Nat.zero_le _)
  rw [h1] at h0
  exact ⟨h0, nblt (List.all_eq_true.1 hb _ (stLook_mem hc)), .inr hall⟩
variable {B : Nat} {w0 : World} {S : Nat → Prop} {ρ0 : Ren} {call : FuncId → List Value → Heap → Option (Value × Heap)} {yield : Nat → List Value → Heap → Option (Value × Heap)} {t0 : Tr} {h0 : Heap}
theorem drawn_wpY (hcs : CallSnd P B w0 call) (hys : YieldSound P B w0 yield) (hok : regionOk ops = true) {s : DSt} {rd : List (Nat × AObj)} (hf : drawnY P h0 (fsOp P call yield) ops n ⟨t0, h0, [], [], 0, false⟩ rd = some s)
    {w : World} {a : Act} (hr : HR P ρ0 S B w0 h0 w) (ht : TrR ρ0 S t0 n a.tmps) {r : Option Nat} {nn : Nat} {Q : Exit → Act → World → Prop}
    (k : ∀ ρ' w' a', Moved P B w0 ρ0 ρ' S h0 s.h w w' → TrR ρ' (Ext S h0 s.h) s.t n a'.tmps → a'.defers = a.defers → Q .normal a' w') (t : Nat) :
    wpOpsIn (Wide r) nn P ops Q (Region.schedule true ops t) a w := drawn_wpT hcs hys hok (traceY_of hf) hr ht k t
end Go.Fs
namespace Go.Fs
open Go.RowKit (Below)
variable {P : Program} {B : Nat} {w0 : World}

def fsStepX (P : Program) (orc : FuncId → List Value → Heap → Option (Value × Heap)) (rec : Rec) : Rec := fun rnd c fr h =>
  match c with
  | .region _ ops true => match drawnX P { next := h.next, low := h.next, objs := h.objs } (fsOp P (callOf P orc rec) (fsYield rec)) ops fr.n ⟨fr.t, { next := h.next, low := h.next, objs := h.objs }, [], [], 0, false⟩ with
    | some s => some (.normal, { t := s.t, n := fr.n, marks := fr.marks }, { next := s.h.next, low := min h.low s.h.low, objs := s.h.objs })
    | none => match drawnY P { next := h.next, low := h.next, objs := h.objs } (fsOp P (callOf P orc rec) (fsYield rec)) ops fr.n ⟨fr.t, { next := h.next, low := h.next, objs := h.objs }, [], [], 0, false⟩ (fsReads P { next := h.next, low := h.next, objs := h.objs } (fsOp P (callOf P orc rec) (fsYield rec)) ops fr.n ops.toList 0 ⟨fr.t, { next := h.next, low := h.next, objs := h.objs }, [], [], 0, false⟩ []) with
      | some s => some (.normal, { t := s.t, n := fr.n, marks := fr.marks }, { next := s.h.next, low := min h.low s.h.low, objs := s.h.objs })
      | none => fsStep P orc rec rnd c fr h
  | c => fsStep P orc rec rnd c fr h
def fsCodeX (P : Program) (orc : FuncId → List Value → Heap → Option (Value × Heap)) : Nat → Rec
  | 0 => fun _ _ _ _ => none
  | n + 1 => fsStepX P orc (fsCodeX P orc n)

theorem HR.low {ρ : Ren} {S : Nat → Prop} {h : Heap} {w : World} (hr : HR P ρ S B w0 h w) (l : Nat) : HR P ρ S B w0 { next := h.next, low := l, objs := h.objs } w :=
  { objs := hr.objs, inj := hr.inj, base := hr.base, ro := hr.ro, ids := hr.ids, pos := hr.pos, below := hr.below, drawn := hr.drawn, size := hr.size }
theorem Moved.lowered {ρ ρ' : Ren} {S : Nat → Prop} {h h' : Heap} {w w' : World} {l : Nat} (m : Moved P B w0 ρ ρ' S { next := h.next, low := l, objs := h.objs } h' w w') :
    Moved P B w0 ρ ρ' S h { next := h'.next, low := min h.low h'.low, objs := h'.objs } w w' where
  agree := m.agree
  next := m.next
  hr := m.hr.low _
  frame := ⟨m.frame.os, m.frame.tape, m.frame.output, m.frame.size, m.frame.block⟩
  low := Nat.min_le_left _ _
  keep := fun i hi hl => m.keep i hi (Nat.lt_of_lt_of_le hl (Nat.min_le_right _ _))
  old := m.old
  fresh := fun i o ho hi => by
    obtain ⟨h1, h2⟩ := m.fresh i o ho hi
    refine ⟨h1, ?_⟩
    rcases h2 with h2 | ⟨j, oj, h3, h4, h5, h6, h7⟩
    · exact .inl h2
    exact .inr ⟨j, oj, h3, h4, h5, Nat.le_trans (Nat.min_le_right _ _) h6, h7⟩
theorem stepX_sound (hP : ProgOk P) {orc : FuncId → List Value → Heap → Option (Value × Heap)} (horc : CallSound P B w0 orc) {m : Nat} {rec : Rec} (hrec : SoundR P B w0 m rec) : SoundR P B w0 (m + 1) (fsStepX P orc rec) := by
  have hcs : CallSnd P B w0 (callOf P orc rec) := call_sound hP horc hrec
  have hys : YieldSound P B w0 (fsYield rec) := yield_sound hrec
  have hold := step_sound hP horc hrec
  intro rnd c fr h e fr' h' hok hf
  cases c with
  | region id ops draw =>
    cases draw with
    | false => exact hold rnd _ fr h e fr' h' hok hf
    | true =>
      intro ρ S w a nn Q hr ht hm hs k
      simp only [fsStepX] at hf
      split at hf
      · rename_i s hrun
        simp only [Option.some.injEq, Prod.mk.injEq] at hf
        obtain ⟨rfl, rfl, rfl⟩ := hf
        refine wpIn_region_draw fun t => ?_
        rw [hP.mixed]
        exact drawn_wpX (h0 := { next := h.next, low := h.next, objs := h.objs }) (call := callOf P orc rec) (yield := fsYield rec) hcs hys hok hrun ((hr.drew _).low _) ht (fun ρ1 w1 a1 m1 ht1 hd1 => k _ _ _ ⟨(Moved.ofDrew m1).lowered, ht1, by rw [hd1]; exact hm.mono fun b hb => ⟨.inl hb, m1.agree b hb⟩⟩) t
      split at hf
      · rename_i s hrun
        simp only [Option.some.injEq, Prod.mk.injEq] at hf
        obtain ⟨rfl, rfl, rfl⟩ := hf
        refine wpIn_region_draw fun t => ?_
        rw [hP.mixed]
        exact drawn_wpY (h0 := { next := h.next, low := h.next, objs := h.objs }) (call := callOf P orc rec) (yield := fsYield rec) hcs hys hok hrun ((hr.drew _).low _) ht (fun ρ1 w1 a1 m1 ht1 hd1 => k _ _ _ ⟨(Moved.ofDrew m1).lowered, ht1, by rw [hd1]; exact hm.mono fun b hb => ⟨.inl hb, m1.agree b hb⟩⟩) t
      exact hold rnd _ fr h e fr' h' hok hf ρ S w a nn Q hr ht hm hs k
  | _ => exact hold rnd _ fr h e fr' h' hok hf

theorem codeX_sound (hP : ProgOk P) {orc : FuncId → List Value → Heap → Option (Value × Heap)} (horc : CallSound P B w0 orc) : ∀ m, SoundR P B w0 m (fsCodeX P orc m)
  | 0 => fun rnd c fr h e fr' h' _ hf => by cases hf
  | m + 1 => stepX_sound hP horc (codeX_sound hP horc m)
theorem fsX_calls (hP : ProgOk P) {orc : FuncId → List Value → Heap → Option (Value × Heap)} (horc : CallSound P B w0 orc) (m : Nat) : CallSound P B w0 (fsEnter P (fsCodeX P orc m)) := enter_sound hP (codeX_sound hP horc m)
theorem fsX_closed (hP : ProgOk P) {w : World} {orc : FuncId → List Value → Heap → Option (Value × Heap)} (horc : CallSound P w.heap.size (wz w) orc) {m : Nat} {f : FuncId} {args : List Value} {v : Value} (ha : args.all af = true)
    (hf : (fsEnter P (fsCodeX P orc m) f args ⟨1, 1, []⟩).map (·.1) = some v) (hv : af v = true) :
    Calls P f args.toArray w fun | .returned v', w' => v' = v ∧ Below w.heap.size w w' | _, _ => False := by
  obtain ⟨⟨v0, h0⟩, h1, h2⟩ := Option.map_eq_some_iff.1 hf
  simp only at h2
  subst h2
  have hr : HR P (fun _ => Loc.clean 0 0 0 0) (fun _ => False) w.heap.size (wz w) ⟨1, 1, []⟩ w :=
    { objs := fun i o hi => (by cases hi), inj := fun i j oi oj hi => (by cases hi), base := fun i o hi => (by cases hi), ro := fun i o hi => (by cases hi), ids := fun b hb => hb.elim, pos := by decide,
      below := z_below (Below.refl _ _), drawn := Nat.zero_le _, size := Nat.le_refl _ }
  have hc := ((fsX_calls hP horc m) f args _ _ _ h1).2 _ _ w args hr ⟨rfl, fun i hi => .of_af (List.all_eq_true.1 ha _ (mem_getD hi))⟩ 0
  refine Calls.mono (callsIn_wide.1 hc) fun e w' he => ?_
  cases e with
  | returned v' =>
    obtain ⟨ρ', m1, hv1⟩ := he
    exact ⟨hv1.eq_of_af hv, below_z m1.hr.below⟩
  | panicked c => exact he.elim
  | outgrown => exact he.elim
theorem awakeX_calls (hP : ProgOk P) {B : Nat} {w0 : World} {O : FuncId → List Value → Heap → Option (Value × Heap)} {fa : FuncId} (hS : ∀ w, Below B w0 w → CallSound P w.heap.size (wz w) O) {m : Nat}
    (hrun : (fsEnter P (fsCodeX P O m) fa [] ⟨1, 1, []⟩).map (·.1) = some (.bool true)) (w : World) (hw : Below B w0 w) :
    Calls P fa #[] w fun | .returned v', w' => v' = .bool true ∧ Below w.heap.size w w' | _, _ => False :=
  fsX_closed hP (hS w hw) (args := []) rfl hrun rfl
end Go.Fs
namespace Go.Fs
variable {P : Program} {orc : FuncId → List Value → Heap → Option (Value × Heap)}
def runPre (P : Program) (orc : FuncId → List Value → Heap → Option (Value × Heap)) : Nat → Nat → Code → Fr → Heap → Option (Nat × Code × Fr × Heap)
  | 0, n, c, fr, h => some (n, c, fr, h)
  | k + 1, n, c, fr, h => match n, c with
    | n + 1, .seq a b => match fsCodeX P orc n none a fr h with
      | some (.normal, fr1, h1) => runPre P orc k n b fr1 h1
      | _ => none
    | _, _ => none
theorem run_via : ∀ {k n : Nat} {c : Code} {fr : Fr} {h : Heap} {n' : Nat} {c' : Code} {fr' : Fr} {h' : Heap}, runPre P orc k n c fr h = some (n', c', fr', h') → fsCodeX P orc n none c fr h = fsCodeX P orc n' none c' fr' h'
  | 0, n, c, fr, h, n', c', fr', h', hr => by
    simp only [runPre, Option.some.injEq, Prod.mk.injEq] at hr
    obtain ⟨rfl, rfl, rfl, rfl⟩ := hr
    rfl
  | k + 1, n, c, fr, h, n', c', fr', h', hr => by
    simp only [runPre] at hr
    split at hr
    · rename_i n a b
      split at hr
      · rename_i fr1 h1 ha
        rw [← run_via hr]
        show fsStep P orc (fsCodeX P orc n) none (.seq a b) fr h = _
        simp only [fsStep, ha]
      cases hr
    cases hr
def endV (P : Program) (fn : Func) (h : Heap) (x : Ex × Fr × Heap) : Option Value :=
  bif x.1.goes then
    match dropMarks x.2.1.marks x.2.2 with
    | some h2 => (fsResults P x.2.1.t h2 fn.results.toList).map tupled
    | none => none
  else none
theorem enter_map {rec : Rec} {f : FuncId} {args : List Value} {h : Heap} {fn : Func} {c : Code} (hf : P.funcs[f]? = some fn) (hc : fn.body = some c) (hn : (Nat.blt 4000 fn.ntmps || Nat.blt fn.ntmps args.length) = false) :
    (fsEnter P rec f args h).map (·.1) = (rec none c ⟨fillTr .leaf 0 args, fn.ntmps, []⟩ { next := h.next, low := h.next, objs := h.objs }).bind (endV P fn h) := by
  unfold fsEnter fsEnterK endV
  simp only [hf, hc, hn, cond_false]
  cases rec none c ⟨fillTr .leaf 0 args, fn.ntmps, []⟩ { next := h.next, low := h.next, objs := h.objs } with
  | none => rfl
  | some x =>
    obtain ⟨e, fr, h1⟩ := x
    simp only [Option.bind_some]
    cases e.goes with
    | false => rfl
    | true =>
      simp only [cond_true]
      cases dropMarks fr.marks h1 with
      | none => rfl
      | some h2 =>
        simp only
        cases fsResults P fr.t h2 fn.results.toList with
        | none => rfl
        | some vs =>
          simp only [Option.map_some]
          generalize (!false && (af (tupled vs) && Nat.ble h.next h2.low)) = q
          cases q <;> rfl
def sufx : Nat → Code → Code
  | 0, c => c
  | k + 1, .seq _ b => sufx k b
  | _ + 1, c => c
def rfOf : Code → Option (Array Tmp × Code × Code)
  | .rangeFunc _ ps a b => some (ps, a, b)
  | .seq a b => (rfOf a).or (rfOf b)
  | .cond _ a b => (rfOf a).or (rfOf b)
  | .block _ b => rfOf b
  | .loop b => rfOf b
  | .scope b => rfOf b
  | _ => none
def rfIn (fn : Func) : Array Tmp × Code × Code := (fn.body.bind rfOf).getD (#[], .skip, .skip)
end Go.Fs
namespace Go.Fs
open Go.RowKit (Below)

variable {P : Program} {B : Nat} {w0 : World}
theorem orcI_sound {fi : FuncId} (hz : w0.drawn = 0) (hi : Enters P fi)
    (hI : ∀ (n : Int) (w : World), Below B w0 w → -9223372036854775808 ≤ n → n ≤ 9223372036854775807 → Calls P fi #[.int .i64 n] w fun e w' => e = .returned (.string ⟨(Lib.itoa n).toArray⟩) ∧ Below w.heap.size w w') : CallSound P B w0 (orcS fi fi) := by
  intro f xs h v h' hf
  unfold orcS at hf
  cases hfi : Nat.beq f fi with
  | true =>
    have := nbeq hfi
    subst this
    rw [hfi] at hf
    simp only [cond_true] at hf
    split at hf
    · rename_i n
      obtain ⟨hc, hf2⟩ := bif_some hf
      obtain ⟨h0, h1⟩ := band hc
      have h0 := of_decide_eq_true h0
      have h1 := of_decide_eq_true h1
      simp only [Option.some.injEq, Prod.mk.injEq] at hf2
      obtain ⟨rfl, rfl⟩ := hf2
      refine ⟨hi, fun ρ S w args' hr ha nn => ?_⟩
      have he : args' = [.int .i64 n] := ha.eq_of_af (by rfl)
      subst he
      have hC : CallsIn Fence.wide nn P f #[.int .i64 n] w _ := callsIn_wide.2 (hI n w hr.below (by omega) (by omega))
      refine hC.mono fun e w' hret => ?_
      obtain ⟨rfl, hb⟩ := hret
      exact ⟨ρ, Moved.grewWorld hr hb (by rw [hz]; exact Nat.zero_le _), by rw [itoaF_eq h0 h1]; exact .lit rfl⟩
    cases hf
  | false =>
    rw [hfi] at hf
    simp only [cond_false] at hf
    cases hf
end Go.Fs
