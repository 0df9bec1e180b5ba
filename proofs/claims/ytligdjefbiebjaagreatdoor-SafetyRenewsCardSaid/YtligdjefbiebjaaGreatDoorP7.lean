/- Parts of the proof: an evaluator of the model, what it is sound for, and contracts of functions. No condition. -/
import Derived.Test.YtligdjefbiebjaaGreatDoorP6
import Derived.Test.YtligdjefbiebjaaGreatDoorP5
set_option linter.all false
namespace Go.Proofs
open Go.Fs
theorem case_ev {c : Cse} (h : caseE c = 0) : ∀ i (hi : i < c.2.1.length), ¬ 0 ≤ evidE (c.2.1.take i) c.2.1[i].1 := fun i hi => by
  have hv : versE c.1 = 0 := (case_known h).1
  have he : firstR (evAt c) 0 c.2.1.length = 0 := by
    unfold caseE at h
    rw [if_neg (fun h2 : versE c.1 ≠ 0 => h2 hv)] at h
    by_cases h4 : 64 < (c.2.1.length : Int)
    · rw [if_pos h4] at h; cases h
    · rw [if_neg h4] at h
      by_cases h5 : firstR (evAt c) 0 c.2.1.length = 0
      · exact h5
      · rw [if_pos h5] at h; exact h
  have h1 := firstR_zero _ 0 rfl he i (Nat.zero_le _) hi
  unfold evAt at h1
  rw [eAt_eq hi] at h1
  have h2 := firstE_mem0 h1 (whenE (decide (0 ≤ evidE (c.2.1.take i) c.2.1[i].1)) 9) (by simp)
  intro h3
  rw [decide_eq_true h3] at h2
  cases h2
theorem evid_in {l : List Evid} {s : ByteArray} : 0 ≤ evidE l s ↔ ∃ x ∈ l, x.1 = s := by
  unfold evidE
  rw [idxG_none]
  constructor
  · rintro ⟨x, hx, he⟩; exact ⟨x, hx, of_decide_eq_true he⟩
  · rintro ⟨x, hx, he⟩; exact ⟨x, hx, decide_eq_true he⟩
theorem ev_nodup {c : Cse} (h : caseE c = 0) : (c.2.1.map (·.1)).Nodup := by
  refine List.pairwise_iff_getElem.2 fun i j hi hj hij => ?_
  rw [List.length_map] at hi hj
  rw [List.getElem_map, List.getElem_map]
  intro e
  exact case_ev h j hj (evid_in.2 ⟨c.2.1[i], List.mem_take_iff_getElem.2 ⟨i, by omega, rfl⟩, e⟩)
theorem validR_nodup {c : Cse} (h : caseE c = 0) : (validR c).Nodup := by
  unfold validR
  exact (ev_nodup h).sublist (List.Sublist.map _ List.filter_sublist)
theorem lackW_drop {l : List ByteArray} (hn : l.Nodup) {i : Nat} (hi : i < l.length) : lackW l l[i] = dropI l i := by
  have hp := List.pairwise_iff_getElem.1 hn
  have e : lackW l l[i] = lackW (l.take i ++ l[i] :: l.drop (i + 1)) l[i] := by
    rw [← List.drop_eq_getElem_cons hi, List.take_append_drop]
  rw [e]
  unfold lackW dropI
  rw [List.filter_append, List.filter_cons_of_neg (by simp)]
  congr 1
  · refine List.filter_eq_self.2 fun o ho => ?_
    obtain ⟨k, hk, rfl⟩ := List.mem_take_iff_getElem.1 ho
    rw [decide_eq_false (hp k i (by omega) hi (by omega))]; rfl
  · refine List.filter_eq_self.2 fun o ho => ?_
    obtain ⟨k, hk, rfl⟩ := List.getElem_of_mem ho
    rw [List.length_drop] at hk
    rw [List.getElem_drop, decide_eq_false (fun e => hp i (i + 1 + k) hi (by omega) (by omega) e.symm)]; rfl
/-- What is in its order is distinct. -/
theorem chkO_nodup {c : Cse} : ∀ {l : List ByteArray} {k : Int}, chkO c k l = 0 → l.Nodup ∧ ∀ s ∈ l, k < evidE c.2.1 s
  | [], k, _ => ⟨List.nodup_nil, fun s hs => by cases hs⟩
  | s :: r, k, h => by
    unfold chkO at h
    by_cases h1 : evidE c.2.1 s < 0
    · rw [if_pos h1] at h; cases h
    · rw [if_neg h1] at h
      by_cases h2 : evidE c.2.1 s ≤ k
      · rw [if_pos h2] at h; cases h
      · rw [if_neg h2] at h
        obtain ⟨h3, h4⟩ := chkO_nodup h
        refine ⟨List.nodup_cons.2 ⟨fun hm => ?_, h3⟩, fun w hw => ?_⟩
        · have := h4 s hm; omega
        · rcases List.mem_cons.1 hw with rfl | hw
          · omega
          · have := h4 w hw; omega
def badR (c : Cse) (s : ByteArray) (l : List ByteArray) (i : Nat) : Bool := !hasB (validR c) (l.getD i ByteArray.empty) || byR c (dropI l i) s
theorem badR_at {c : Cse} {s : ByteArray} {l : List ByteArray} {i : Nat} (h : i < l.length) : badR c s l i = (!hasB (validR c) l[i] || byR c (dropI l i) s) := by
  unfold badR
  rw [getD_at h]
def supR (c : Cse) (s : ByteArray) (l : List ByteArray) : Int := if rTwo c s ≠ 0 then rTwo c s else if chkO c (-1) l ≠ 0 then chkO c (-1) l else whenE ((List.range l.length).any (badR c s l) || !byR c l s) 22
theorem badS_R {c : Cse} {s : ByteArray} {l : List ByteArray} (h : caseE c = 0) (hn : l.Nodup) : badS c s l = ((List.range l.length).any (badR c s l) || !byR c l s) := by
  have hb : inM (byM c l) s = byR c l s := rfl
  have hc : decide (((l.filter (needB c s l)).length : Int) ≠ (l.length : Int)) = (List.range l.length).any fun i => byR c (dropI l i) s := by
    rw [Bool.eq_iff_iff, decide_eq_true_eq, List.any_eq_true]
    constructor
    · intro h1
      have h2 : ¬ l.all (needB c s l) = true := fun h3 => h1 (by rw [List.filter_eq_self.2 (List.all_eq_true.1 h3)])
      rw [Bool.not_eq_true, List.all_eq_false] at h2
      obtain ⟨w, hw, h3⟩ := h2
      obtain ⟨i, hi, rfl⟩ := List.getElem_of_mem hw
      refine ⟨i, List.mem_range.2 hi, ?_⟩
      unfold needB at h3
      rw [lackW_drop hn hi] at h3
      have h4 : inM (byM c (dropI l i)) s = true := by simpa using h3
      exact h4
    · rintro ⟨i, hi, h1⟩ h2
      have hi := List.mem_range.1 hi
      have h3 : (l.filter (needB c s l)).length = l.length := by omega
      have h4 := List.length_filter_eq_length_iff.1 h3 l[i] (List.getElem_mem hi)
      unfold needB at h4
      rw [lackW_drop hn hi] at h4
      have h1 : inM (byM c (dropI l i)) s = true := h1
      rw [h1] at h4
      cases h4
  have ha : (l.any fun w => !hasB (validE c) w) = (List.range l.length).any fun i => !hasB (validR c) (l.getD i ByteArray.empty) := by
    rw [validE_R h, Bool.eq_iff_iff, List.any_eq_true, List.any_eq_true]
    constructor
    · rintro ⟨w, hw, h1⟩
      obtain ⟨i, hi, rfl⟩ := List.getElem_of_mem hw
      exact ⟨i, List.mem_range.2 hi, by rw [getD_at hi]; exact h1⟩
    · rintro ⟨i, hi, h1⟩
      have hi := List.mem_range.1 hi
      rw [getD_at hi] at h1
      exact ⟨_, List.getElem_mem hi, h1⟩
  have hd : (List.range l.length).any (badR c s l) = (((List.range l.length).any fun i => !hasB (validR c) (l.getD i ByteArray.empty)) || (List.range l.length).any fun i => byR c (dropI l i) s) := by
    rw [Bool.eq_iff_iff, Bool.or_eq_true, List.any_eq_true, List.any_eq_true, List.any_eq_true]
    constructor
    · rintro ⟨i, hi, h1⟩
      unfold badR at h1
      rw [Bool.or_eq_true] at h1
      exact h1.imp (fun h => ⟨i, hi, h⟩) fun h => ⟨i, hi, h⟩
    · rintro (⟨i, hi, h1⟩ | ⟨i, hi, h1⟩)
      · exact ⟨i, hi, by unfold badR; rw [h1]; rfl⟩
      · exact ⟨i, hi, by unfold badR; rw [h1, Bool.or_true]⟩
  unfold badS
  rw [ha, hb, hc, hd]
  cases (List.range l.length).any fun i => !hasB (validR c) (l.getD i ByteArray.empty) <;> cases (List.range l.length).any fun i => byR c (dropI l i) s <;> cases byR c l s <;> rfl
theorem sup_same {c : Cse} {s : ByteArray} {l : List ByteArray} : supE c s l = supR c s l := by
  unfold supE supR
  rw [two_same]
  by_cases h : rTwo c s = 0
  · have e1 : ¬ rTwo c s ≠ 0 := fun h2 => h2 h
    rw [if_neg e1, if_neg e1]
    by_cases h2 : chkO c (-1) l = 0
    · have e2 : ¬ chkO c (-1) l ≠ 0 := fun h3 => h3 h2
      rw [if_neg e2, if_neg e2, badS_R (rTwo_ok h).1 (chkO_nodup h2).1]
    · rw [if_pos h2, if_pos h2]
  · rw [if_pos h, if_pos h]
theorem ev_one {c : Cse} (h : caseE c = 0) {x y : Evid} (hx : x ∈ c.2.1) (hy : y ∈ c.2.1) (e : x.1 = y.1) : x = y := by
  obtain ⟨i, hi, rfl⟩ := List.getElem_of_mem hx
  obtain ⟨j, hj, rfl⟩ := List.getElem_of_mem hy
  rcases Nat.lt_trichotomy i j with h1 | h1 | h1
  · exact absurd (evid_in.2 ⟨c.2.1[i], List.mem_take_iff_getElem.2 ⟨i, by omega, rfl⟩, e⟩) (case_ev h j hj)
  · subst h1; rfl
  · exact absurd (evid_in.2 ⟨c.2.1[j], List.mem_take_iff_getElem.2 ⟨j, by omega, rfl⟩, e.symm⟩) (case_ev h i hi)
theorem valid_has {c : Cse} (h : caseE c = 0) {x : Evid} (hx : x ∈ c.2.1) : hasB (validR c) x.1 = validB c x := by
  unfold hasB validR
  rw [Bool.eq_iff_iff, List.any_eq_true]
  constructor
  · rintro ⟨w, hw, h1⟩
    have h1 := of_decide_eq_true h1
    obtain ⟨y, hy, rfl⟩ := List.mem_map.1 hw
    obtain ⟨h2, h3⟩ := List.mem_filter.1 hy
    rw [← ev_one h h2 hx h1]; exact h3
  · exact fun h1 => ⟨x.1, List.mem_map.2 ⟨x, List.mem_filter.2 ⟨hx, h1⟩, rfl⟩, decide_eq_true rfl⟩
theorem staleE_R {c : Cse} (h : caseE c = 0) : staleE c = (c.2.1.filter fun x => !hasB (validR c) x.1).map (·.1) := by
  obtain ⟨hv, hk⟩ := case_known h
  unfold staleE
  congr 1
  exact List.filter_congr fun x hx => by rw [valid_has h hx, fresh_valid hv (hk x hx)]
end Go.Proofs
namespace Go.Proofs
open Go.Fs
set_option linter.unusedVariables false
set_option maxHeartbeats 1000000

theorem leanS_t {c : Cse} {s : ByteArray} {o out : List ByteArray} {i : Nat} (h : byR c (dropI out i ++ o) s = true) : leanS c s o out i = dropI out i := if_pos h
theorem leanS_f {c : Cse} {s : ByteArray} {o out : List ByteArray} {i : Nat} (h : byR c (dropI out i ++ o) s = false) : leanS c s o out i = out := by
  unfold leanS
  have h : inM (byM c (dropI out i ++ o)) s = false := h
  rw [h] <;> rfl
theorem sup_0 {c : Cse} {s : ByteArray} {l : List ByteArray} (h : ¬ rTwo c s ≠ 0) (h2 : chkO c (-1) l = 0) : supR c s l = whenE ((List.range l.length).any (badR c s l) || !byR c l s) 22 := by
  unfold supR
  rw [if_neg h, if_neg (fun h3 => h3 h2)]
end Go.Proofs
namespace Go.Proofs
open Go.Fs
set_option linter.unusedVariables false
set_option maxHeartbeats 2000000

theorem holds_R {c : Cse} {s : ByteArray} (h : caseE c = 0) : holdsE c s = byR c (validR c) s := by
  show inM (byM c (validE c)) s = inM (byM c (validR c)) s
  rw [validE_R h]
theorem lack_0 {c : Cse} {s : ByteArray} (h : rTwo c s = 0) : lackE c s = if byR c (validR c) s = true then 7 else 0 := by
  unfold lackE
  rw [two_same, firstE_two, if_pos h, if_pos h, holds_R (rTwo_ok h).1]
  cases byR c (validR c) s <;> rfl
theorem lack_1 {c : Cse} {s : ByteArray} (h : ¬ rTwo c s = 0) : lackE c s = rTwo c s := by
  unfold lackE
  rw [two_same, firstE_two, if_neg h]
end Go.Proofs
namespace Go.Proofs
open Go.Fs
theorem firstR_all {f : Nat → Int} {n : Nat} : ∀ (d i : Nat), n - i = d → (∀ k, i ≤ k → k < n → f k = 0) → firstR f i n = 0
  | 0, i, hd, _ => firstR_end (by omega)
  | d + 1, i, hd, h => by
    rw [firstR_step (by omega), if_pos (h i (Nat.le_refl _) (by omega))]
    exact firstR_all d (i + 1) (by omega) fun k h1 h2 => h k (by omega) h2
theorem firstE_of0 {l : List Int} (h : ∀ x ∈ l, x = 0) : firstE l = 0 := by
  induction l with
  | nil => rfl
  | cons x l ih => show (if x = 0 then firstE l else x) = 0; rw [if_pos (h x List.mem_cons_self)]; exact ih fun y hy => h y (List.mem_cons_of_mem _ hy)
structure CaseP (c : Cse) : Prop where
  v : versE c.1 = 0
  e : (c.2.1.length : Int) ≤ 64
  ev : ∀ i, i < c.2.1.length → evAt c i = 0
  l : (c.2.2.length : Int) ≤ 64
  cl : ∀ i, i < c.2.2.length → clAt c i = 0
theorem caseP {c : Cse} (h : caseE c = 0) : CaseP c := by
  have hv : versE c.1 = 0 := (case_known h).1
  unfold caseE at h
  rw [if_neg (fun h2 : versE c.1 ≠ 0 => h2 hv)] at h
  by_cases h4 : 64 < (c.2.1.length : Int)
  · rw [if_pos h4] at h; cases h
  rw [if_neg h4] at h
  by_cases h5 : firstR (evAt c) 0 c.2.1.length ≠ 0
  · rw [if_pos h5] at h; exact absurd h h5
  rw [if_neg h5] at h
  by_cases h6 : 64 < (c.2.2.length : Int)
  · rw [if_pos h6] at h; cases h
  rw [if_neg h6] at h
  exact ⟨hv, by omega, fun i hi => firstR_zero _ 0 rfl (Decidable.not_not.1 h5) i (Nat.zero_le _) hi, by omega, fun i hi => firstR_zero _ 0 rfl h i (Nat.zero_le _) hi⟩
theorem CaseP.case {c : Cse} (h : CaseP c) : caseE c = 0 := by
  have h5 : firstR (evAt c) 0 c.2.1.length = 0 := firstR_all _ 0 rfl fun k _ hk => h.ev k hk
  unfold caseE
  rw [if_neg (fun h2 : versE c.1 ≠ 0 => h2 h.v), if_neg (by have := h.e; omega), if_neg (fun h2 => h2 h5), if_neg (by have := h.l; omega)]
  exact firstR_all _ 0 rfl fun k _ hk => h.cl k hk
theorem vers_at {l : List Vers} (h : versE l = 0) : ∀ i, i < l.length → verAt l i = 0 := fun i hi => by
  unfold versE at h
  by_cases hl : 64 < (l.length : Int)
  · rw [if_pos hl] at h; cases h
  rw [if_neg hl] at h; exact firstR_zero _ 0 rfl h i (Nat.zero_le _) hi
theorem vers_len {l : List Vers} (h : versE l = 0) : (l.length : Int) ≤ 64 := by
  unfold versE at h
  by_cases hl : 64 < (l.length : Int)
  · rw [if_pos hl] at h; cases h
  omega
theorem vers_num {l : List Vers} (h : versE l = 0) {i : Nat} (hi : i < l.length) : 0 ≤ l[i].2 ∧ l[i].2 ≤ 999 := by
  have h1 := vers_at h i hi
  unfold verAt at h1
  rw [vAt_eq hi] at h1
  have h2 := firstE_mem0 h1 (rangeE l[i].2 0 999) (by simp)
  unfold rangeE at h2
  split at h2
  · cases h2
  omega
theorem idxG_map {α β : Type} {F : β → Bool} {g : α → β} : ∀ {l : List α} {k : Int}, idxG (fun x => F (g x)) l k = idxG F (l.map g) k
  | [], _ => rfl
  | x :: l, k => by
    show (if F (g x) = true then k else idxG (fun x => F (g x)) l (k + 1)) = (if F (g x) = true then k else idxG F (l.map g) (k + 1))
    rw [idxG_map]
theorem thing_names {l m : List Vers} {s : ByteArray} (h : l.map (·.1) = m.map (·.1)) : thingE l s = thingE m s := by
  unfold thingE
  rw [idxG_map (F := fun x => decide (x = s)) (g := fun v : Vers => v.1), idxG_map (F := fun x => decide (x = s)) (g := fun v : Vers => v.1), h]
theorem evid_names {l m : List Evid} {s : ByteArray} (h : l.map (·.1) = m.map (·.1)) : evidE l s = evidE m s := by
  unfold evidE
  rw [idxG_map (F := fun x => decide (x = s)) (g := fun v : Evid => v.1), idxG_map (F := fun x => decide (x = s)) (g := fun v : Evid => v.1), h]
theorem setN_names {l : List Vers} {i : Nat} {n : Int} (hi : i < l.length) : (setN l i n).map (·.1) = l.map (·.1) := by
  unfold setN
  rw [List.getD_eq_getElem?_getD, List.getElem?_eq_getElem hi]
  refine List.ext_getElem (by simp) fun j h1 h2 => ?_
  rw [List.getElem_map, List.getElem_map, List.getElem_set]
  split
  · rename_i he; subst he; rfl
  rfl
theorem setN_len {l : List Vers} {i : Nat} {n : Int} : (setN l i n).length = l.length := by unfold setN; rw [List.length_set]
theorem setN_at {l : List Vers} {i j : Nat} {n : Int} (hj : j < l.length) : (setN l i n)[j]'(by rw [setN_len]; exact hj) = (l[j].1, if i = j then n else l[j].2) := by
  unfold setN
  rw [List.getElem_set]
  split
  · rename_i he; subst he; rw [getD_at hj]
  rfl
theorem take_names {α : Type} {l m : List (ByteArray × α)} (h : l.map (·.1) = m.map (·.1)) (k : Nat) : (l.take k).map (·.1) = (m.take k).map (·.1) := by
  rw [List.map_take, List.map_take, h]
theorem setN_vers {l : List Vers} {i : Nat} {n : Int} (h : versE l = 0) (hi : i < l.length) (h0 : 0 ≤ n) (h1 : n ≤ 999) : versE (setN l i n) = 0 := by
  unfold versE
  rw [setN_len, if_neg (by have := vers_len h; omega)]
  refine firstR_all _ 0 rfl fun k _ hk => ?_
  have h2 := vers_at h k hk
  unfold verAt at h2 ⊢
  rw [vAt_eq hk] at h2
  rw [vAt_eq (by rw [setN_len]; exact hk), setN_at hk, thing_names (take_names (setN_names hi) k)]
  refine firstE_of0 fun x hx => ?_
  simp only [List.mem_cons, List.not_mem_nil, or_false] at hx
  rcases hx with rfl | rfl | rfl
  · exact firstE_mem0 h2 _ (by simp)
  · show rangeE (if i = k then n else l[k].2) 0 999 = 0
    split
    · unfold rangeE; rw [if_neg (by omega)]
    exact firstE_mem0 h2 _ (by simp)
  exact firstE_mem0 h2 _ (by simp)
theorem chg_parts {c : Cse} {s : ByteArray} {n : Int} (h : chgE c s n = 0) : caseE c = 0 ∧ 0 ≤ thingE c.1 s ∧ 0 ≤ n ∧ n ≤ 999 := by
  obtain ⟨h1, h2, h3⟩ := fst3 h
  have h4 := of_decide_eq_false (when_no (by decide) h2)
  refine ⟨h1, by omega, ?_⟩
  unfold rangeE at h3
  split at h3
  · cases h3
  omega
theorem chg_names {c : Cse} {s : ByteArray} {n : Int} (h : 0 ≤ thingE c.1 s) : (chgC c s n).1.map (·.1) = c.1.map (·.1) := setN_names (thing_get h).1
theorem chg_thing {c : Cse} {s t : ByteArray} {n : Int} (h : 0 ≤ thingE c.1 s) : thingE (chgC c s n).1 t = thingE c.1 t := thing_names (chg_names h)
theorem chg_case {c : Cse} {s : ByteArray} {n : Int} (h : chgE c s n = 0) : caseE (chgC c s n) = 0 := by
  obtain ⟨h1, h2, h3, h4⟩ := chg_parts h
  have hp := caseP h1
  refine CaseP.case ⟨setN_vers hp.v (thing_get h2).1 h3 h4, hp.e, fun i hi => ?_, hp.l, hp.cl⟩
  have hk : knowsV (chgC c s n) = knowsV c := funext fun t => by unfold knowsV; rw [chg_thing h2]
  have := hp.ev i hi
  unfold evAt at this ⊢
  rw [hk]
  exact this
theorem chg_ok {c : Cse} {s : ByteArray} {n : Int} (hc : CseOk c) : CseOk (chgC c s n) := ⟨by show (setN _ _ _).length < _; rw [setN_len]; exact hc.v, hc.e, hc.l, hc.w, hc.u⟩
theorem chg_now {c : Cse} {s t : ByteArray} {n : Int} (h : 0 ≤ thingE c.1 s) (hk : 0 ≤ thingE c.1 t) (hv : versE c.1 = 0) : nowE (chgC c s n).1 t = if t = s then n else nowE c.1 t := by
  obtain ⟨h1, h2⟩ := thing_get hk
  obtain ⟨h3, h4⟩ := thing_get h
  unfold nowE
  rw [chg_thing h, vAt_eq h1]
  show (vAt (setN c.1 (thingE c.1 s).toNat n) (thingE c.1 t).toNat).2 = _
  rw [vAt_eq (by rw [setN_len]; exact h1), setN_at h1]
  show (if (thingE c.1 s).toNat = (thingE c.1 t).toNat then n else c.1[(thingE c.1 t).toNat].2) = _
  by_cases he : t = s
  · subst he; rw [if_pos rfl, if_pos rfl]
  rw [if_neg he, if_neg]
  intro e
  refine he ?_
  rw [← h2, ← h4]
  simp only [e]
theorem chg_back {c : Cse} {s : ByteArray} {n m : Int} {i : Nat} (hv : versE c.1 = 0) (hi : i < c.1.length) (hs : c.1[i].1 = s) (hm : c.1[i].2 = m) : chgC (chgC c s n) s m = c := by
  have hf := vers_first hv hi
  rw [hs] at hf
  have h0 : 0 ≤ thingE c.1 s := by omega
  have e1 : chgC (chgC c s n) s m = (setN (setN c.1 (thingE c.1 s).toNat n) (thingE (chgC c s n).1 s).toNat m, c.2) := rfl
  rw [e1, chg_thing h0, hf, Int.toNat_natCast]
  refine Prod.ext (List.ext_getElem (by rw [setN_len, setN_len]) fun j h1 h2 => ?_) rfl
  show (setN (setN c.1 i n) i m)[j] = c.1[j]
  rw [setN_at (by rw [setN_len]; exact h2), setN_at h2]
  show (c.1[j].1, if i = j then m else if i = j then n else c.1[j].2) = c.1[j]
  split
  · rename_i he; subst he; rw [← hm]
  rfl
theorem has_in {l : List ByteArray} {s : ByteArray} : hasB l s = true ↔ s ∈ l := by
  unfold hasB
  rw [List.any_eq_true]
  constructor
  · rintro ⟨x, hx, he⟩; rw [← of_decide_eq_true he]; exact hx
  exact fun h => ⟨s, h, decide_eq_true rfl⟩
theorem used_le {m : BMap} {x : Clm} : usedN m x ≤ x.2.2.length := List.length_filter_le _ _
theorem filter_mono {α : Type} {p q : α → Bool} : ∀ {l : List α}, (∀ x ∈ l, p x = true → q x = true) → (l.filter p).length ≤ (l.filter q).length
  | [], _ => Nat.le_refl _
  | x :: l, h => by
    have ih := filter_mono (p := p) (q := q) (l := l) fun y hy => h y (List.mem_cons_of_mem _ hy)
    by_cases hp : p x = true
    · rw [List.filter_cons_of_pos hp, List.filter_cons_of_pos (h x List.mem_cons_self hp)]
      simp only [List.length_cons]; omega
    rw [List.filter_cons_of_neg hp]
    by_cases hq : q x = true
    · rw [List.filter_cons_of_pos hq]; simp only [List.length_cons]; omega
    rw [List.filter_cons_of_neg hq]; exact ih
theorem holds_mono {m m' : BMap} {x : Clm} (h : ∀ s, inM m s = true → inM m' s = true) (hx : holdsX m x = true) : holdsX m' x = true := by
  have h1 : usedN m x ≤ usedN m' x := filter_mono fun s _ => h s
  have h2 := used_le (m := m') (x := x)
  unfold holdsX at hx ⊢
  rw [Bool.or_eq_true, Bool.and_eq_true, decide_eq_true_eq, decide_eq_true_eq] at hx ⊢
  rcases hx with hx | ⟨hx, hy⟩
  · left; omega
  right; exact ⟨hx, by omega⟩
theorem clM_mono {c : Cse} {l l' : List ByteArray} (h : ∀ s ∈ l, s ∈ l') : ∀ i, i ≤ c.2.2.length → ∀ s, inM (clM c l i) s = true → inM (clM c l' i) s = true
  | 0, _, s, hs => by
    have hs : inM (evM l l.length) s = true := hs
    show inM (evM l' l'.length) s = true
    rw [inM_ev _ (Nat.le_refl _), List.take_length, has_in] at hs ⊢
    exact h s hs
  | i + 1, hi, s, hs => by
    have ih := clM_mono (c := c) h i (by omega)
    rw [clM_succ (by omega), inM_set] at hs ⊢
    split at hs
    · rename_i he; rw [if_pos he]; exact holds_mono ih hs
    rename_i he; rw [if_neg he]; exact ih s hs
theorem by_mono {c : Cse} {l l' : List ByteArray} {s : ByteArray} (h : ∀ s ∈ l, s ∈ l') (hs : byR c l s = true) : byR c l' s = true := clM_mono h _ (Nat.le_refl _) s hs
theorem by_set {c : Cse} {l l' : List ByteArray} {s : ByteArray} (h : ∀ s, s ∈ l ↔ s ∈ l') : byR c l s = byR c l' s := by
  rw [Bool.eq_iff_iff]
  exact ⟨by_mono fun s => (h s).1, by_mono fun s => (h s).2⟩
theorem claim_uses {c : Cse} (h : CaseP c) {j : Nat} (hj : j < c.2.2.length) : 0 < (c.2.2[j]).2.2.length := by
  have h1 := h.cl j hj
  unfold clAt at h1
  rw [cAt_eq hj] at h1
  have h2 := firstE_mem0 h1 (usesE (knownC c j) c.2.2[j].2.2) (by simp)
  unfold usesE at h2
  refine Nat.pos_of_ne_zero fun h3 => ?_
  rw [h3] at h2
  cases h2
theorem by_all {c : Cse} (h : CaseP c) {l : List ByteArray} (hl : ∀ x ∈ c.2.1, x.1 ∈ l) : ∀ n j (hj : j < c.2.2.length), j < n → byR c l c.2.2[j].1 = true
  | 0, _, _, h0 => by omega
  | n + 1, j, hj, h0 => by
    have hk := case_claims h.case
    rw [byR_at hk hj]
    unfold holdsX usedN
    rw [List.filter_eq_self.2 fun u hu => ?_, decide_eq_true rfl, Bool.true_or]
    rw [use_eq hk hj hu]
    by_cases he : 0 ≤ evidE c.2.1 u
    · obtain ⟨x, hx, hxu⟩ := evid_in.1 he
      rw [decide_eq_true he, has_in.2 (hxu ▸ hl x hx)]; rfl
    obtain ⟨h1, h2⟩ := use_before hk hj hu (by omega)
    obtain ⟨h3, h4⟩ := claim_ix h1
    have := by_all h hl n _ h3 (by omega)
    rw [h4] at this
    rw [this, decide_eq_true (show evidE c.2.1 u < 0 by omega)]; simp
theorem by_none {c : Cse} (h : CaseP c) : ∀ n j (hj : j < c.2.2.length), j < n → byR c [] c.2.2[j].1 = false
  | 0, _, _, h0 => by omega
  | n + 1, j, hj, h0 => by
    have hk := case_claims h.case
    have hu0 := claim_uses h hj
    have hz : usedN (clM c [] j) c.2.2[j] = 0 := by
      unfold usedN
      rw [List.length_eq_zero_iff, List.filter_eq_nil_iff]
      intro u hu
      rw [use_eq hk hj hu]
      by_cases he : 0 ≤ evidE c.2.1 u
      · rw [decide_eq_false (show ¬ evidE c.2.1 u < 0 by omega)]; simp [hasB]
      obtain ⟨h1, h2⟩ := use_before hk hj hu (by omega)
      obtain ⟨h3, h4⟩ := claim_ix h1
      have := by_none h n _ h3 (by omega)
      rw [h4] at this
      rw [this, decide_eq_false he]; simp
    rw [byR_at hk hj]
    unfold holdsX
    rw [hz, decide_eq_false (by omega), decide_eq_false (by omega)]; simp
theorem drop_mem {l : List ByteArray} (hn : l.Nodup) {i : Nat} (hi : i < l.length) {w : ByteArray} : w ∈ dropI l i ↔ w ∈ l ∧ w ≠ l[i] := by
  rw [← lackW_drop hn hi]
  unfold lackW
  rw [List.mem_filter]
  simp
theorem drop_nodup {l : List ByteArray} (hn : l.Nodup) {i : Nat} : (dropI l i).Nodup := by
  refine hn.sublist ?_
  unfold dropI
  have : l = l.take i ++ l.drop i := (List.take_append_drop i l).symm
  conv => rhs; rw [this]
  exact List.Sublist.append (List.Sublist.refl _) (List.drop_sublist_drop_left l (Nat.le_succ i))
theorem drop_sub {l : List ByteArray} {i : Nat} : List.Sublist (dropI l i) l := by
  unfold dropI
  have : l = l.take i ++ l.drop i := (List.take_append_drop i l).symm
  conv => rhs; rw [this]
  exact List.Sublist.append (List.Sublist.refl _) (List.drop_sublist_drop_left l (Nat.le_succ i))
theorem lean_ok {c : Cse} {s : ByteArray} {o : List ByteArray} : ∀ (i : Nat) {out : List ByteArray}, i ≤ out.length → out.Nodup → byR c (out ++ o) s = true →
    (∀ w ∈ out, w ∉ out.take i → byR c (lackW out w ++ o) s = false) →
    byR c (leanF c s o i out ++ o) s = true ∧ (leanF c s o i out).Nodup ∧ List.Sublist (leanF c s o i out) out ∧ ∀ w ∈ leanF c s o i out, byR c (lackW (leanF c s o i out) w ++ o) s = false
  | 0, out, _, hn, hb, hm => ⟨hb, hn, List.Sublist.refl _, fun w hw => hm w hw (by simp)⟩
  | i + 1, out, hi, hn, hb, hm => by
    have hi' : i < out.length := by omega
    show byR c (leanF c s o i (leanS c s o out i) ++ o) s = true ∧ (leanF c s o i (leanS c s o out i)).Nodup ∧ List.Sublist (leanF c s o i (leanS c s o out i)) out ∧ ∀ w ∈ leanF c s o i (leanS c s o out i), byR c (lackW (leanF c s o i (leanS c s o out i)) w ++ o) s = false
    cases hd : byR c (dropI out i ++ o) s with
    | true =>
      rw [leanS_t hd]
      have ht : (dropI out i).take i = out.take i := by
        unfold dropI
        rw [List.take_append_of_le_length (by rw [List.length_take]; omega), List.take_take, Nat.min_self]
      obtain ⟨h1, h2, h3, h4⟩ := lean_ok i (out := dropI out i) (by rw [dropI_len hi']; omega) (drop_nodup hn) hd fun w hw hwt => by
        obtain ⟨h5, h6⟩ := (drop_mem hn hi').1 hw
        rw [ht] at hwt
        have h7 := hm w h5 (by
          rw [List.take_succ_eq_append_getElem hi', List.mem_append, List.mem_singleton]
          exact fun h => h.elim hwt h6)
        cases hq : byR c (lackW (dropI out i) w ++ o) s with
        | false => rfl
        | true =>
          have := by_mono (l' := lackW out w ++ o) (fun x hx => by
            rcases List.mem_append.1 hx with hx | hx
            · refine List.mem_append_left _ ?_
              unfold lackW at hx ⊢
              rw [List.mem_filter] at hx ⊢
              exact ⟨((drop_mem hn hi').1 hx.1).1, hx.2⟩
            exact List.mem_append_right _ hx) hq
          rw [h7] at this; cases this
      exact ⟨h1, h2, h3.trans drop_sub, h4⟩
    | false =>
      rw [leanS_f hd]
      refine lean_ok i (by omega) hn hb fun w hw hwt => ?_
      by_cases he : w = out[i]
      · subst he; rw [lackW_drop hn hi']; exact hd
      refine hm w hw ?_
      rw [List.take_succ_eq_append_getElem hi', List.mem_append, List.mem_singleton]
      exact fun h => h.elim hwt he
end Go.Proofs
namespace Go.Proofs
open Go.Fs
theorem now_name {c : Cse} {v : Vers} (hk : 0 ≤ thingE c.1 v.1) : (nowV c v).1 = v.1 := by
  obtain ⟨h1, h2⟩ := thing_get hk
  unfold nowV
  rw [vAt_eq h1, h2]
theorem now_num {c : Cse} {v : Vers} (hv : versE c.1 = 0) (hk : 0 ≤ thingE c.1 v.1) : rangeE (nowV c v).2 0 999 = 0 := by
  obtain ⟨h1, h2⟩ := thing_get hk
  have h3 := vers_num hv h1
  unfold nowV rangeE
  rw [vAt_eq h1, if_neg (by omega)]
theorem now_names {c : Cse} : ∀ {w : List Vers}, (∀ v ∈ w, 0 ≤ thingE c.1 v.1) → (w.map (nowV c)).map (·.1) = w.map (·.1)
  | [], _ => rfl
  | v :: w, h => by
    rw [List.map_cons, List.map_cons, List.map_cons, now_name (h v List.mem_cons_self), now_names fun x hx => h x (List.mem_cons_of_mem _ hx)]
structure RnwP (c : Cse) (s : ByteArray) (i : Nat) : Prop where
  hi : i < c.2.1.length
  at' : evidE c.2.1 s = (i : Nat)
  nm : (c.2.1[i]).1 = s
theorem rnwP {c : Cse} {s : ByteArray} (h : 0 ≤ evidE c.2.1 s) : RnwP c s (evidE c.2.1 s).toNat := by
  obtain ⟨h1, h2⟩ := idxG_get (F := fun v : Evid => decide (v.1 = s)) h
  exact ⟨h1, by show _ = (((idxG _ c.2.1 0).toNat : Nat) : Int); unfold evidE at h ⊢; omega, of_decide_eq_true h2⟩
theorem rnw_ev {c : Cse} {s : ByteArray} {i : Nat} (h : RnwP c s i) : rnwC c s = (c.1, c.2.1.set i ((c.2.1[i]'h.hi).1, (c.2.1[i]'h.hi).2.map (nowV c)), c.2.2) := by
  unfold rnwC
  rw [h.at', Int.toNat_natCast, eAt_eq h.hi]
theorem rnw_len {c : Cse} {s : ByteArray} : (rnwC c s).2.1.length = c.2.1.length := by
  unfold rnwC
  show (List.set _ _ _).length = _
  rw [List.length_set]
theorem rnw_at {c : Cse} {s : ByteArray} {i j : Nat} (h : RnwP c s i) (hj : j < c.2.1.length) : (rnwC c s).2.1[j]'(by rw [rnw_len]; exact hj) = if i = j then (c.2.1[j].1, c.2.1[j].2.map (nowV c)) else c.2.1[j] := by
  have e : (rnwC c s).2.1 = c.2.1.set i ((c.2.1[i]'h.hi).1, (c.2.1[i]'h.hi).2.map (nowV c)) := by rw [rnw_ev h]
  simp only [e, List.getElem_set]
  split
  · rename_i he; subst he; rfl
  · rfl
theorem rnw_name {c : Cse} {s : ByteArray} {i j : Nat} (h : RnwP c s i) (hj : j < c.2.1.length) : ((rnwC c s).2.1[j]'(by rw [rnw_len]; exact hj)).1 = c.2.1[j].1 := by
  rw [rnw_at h hj]
  split <;> rfl
theorem rnw_names {c : Cse} {s : ByteArray} (h : 0 ≤ evidE c.2.1 s) : (rnwC c s).2.1.map (·.1) = c.2.1.map (·.1) := by
  have hr := rnwP h
  refine List.ext_getElem (by rw [List.length_map, List.length_map, rnw_len]) fun j h1 h2 => ?_
  rw [List.length_map] at h2
  rw [List.getElem_map, List.getElem_map, rnw_name hr h2]
theorem with_zero {K : ByteArray → Bool} {l m : List Vers} (hn : m.map (·.1) = l.map (·.1)) (hr : ∀ v ∈ m, rangeE v.2 0 999 = 0) (h : withE K l = 0) : withE K m = 0 := by
  have hlen : m.length = l.length := by have := congrArg List.length hn; rwa [List.length_map, List.length_map] at this
  unfold withE at h ⊢
  rw [hlen]
  by_cases h1 : 16 < (l.length : Int)
  · rw [if_pos h1] at h; cases h
  · rw [if_neg h1] at h ⊢
    refine firstR_all _ 0 rfl fun k _ hk => ?_
    have h2 := firstR_zero _ 0 rfl h k (Nat.zero_le _) hk
    have hk2 : k < m.length := by omega
    have en : m[k].1 = l[k].1 := by
      have := List.getElem_of_eq hn (i := k) (by rw [List.length_map]; exact hk2)
      rwa [List.getElem_map, List.getElem_map] at this
    unfold withAt at h2 ⊢
    rw [vAt_eq hk] at h2
    rw [vAt_eq hk2, en, thing_names (take_names hn k)]
    refine firstE_of0 fun x hx => ?_
    simp only [List.mem_cons, List.not_mem_nil, or_false] at hx
    rcases hx with rfl | rfl | rfl
    · exact firstE_mem0 h2 _ (by simp)
    · exact hr _ (List.getElem_mem hk2)
    · exact firstE_mem0 h2 _ (by simp)
theorem rnw_case {c : Cse} {s : ByteArray} (hz : caseE c = 0) (h : 0 ≤ evidE c.2.1 s) : caseE (rnwC c s) = 0 := by
  have hp := caseP hz
  have hr := rnwP h
  have hK := (case_known hz).2
  refine CaseP.case ⟨hp.v, by rw [rnw_len]; exact hp.e, fun j hj => ?_, hp.l, fun j hj => ?_⟩
  · have hj' : j < c.2.1.length := by rw [rnw_len] at hj; exact hj
    have h1 := hp.ev j hj'
    have h2 : withE (knowsV c) c.2.1[j].2 = 0 := by
      unfold evAt at h1
      rw [eAt_eq hj'] at h1
      exact firstE_mem0 h1 _ (by simp)
    unfold evAt at h1 ⊢
    rw [eAt_eq hj'] at h1
    rw [eAt_eq hj, rnw_name hr hj', evid_names (take_names (rnw_names h) j)]
    refine firstE_of0 fun x hx => ?_
    simp only [List.mem_cons, List.not_mem_nil, or_false] at hx
    rcases hx with rfl | rfl | rfl
    · exact firstE_mem0 h1 _ (by simp)
    · exact firstE_mem0 h1 _ (by simp)
    · show withE (knowsV c) _ = 0
      rw [rnw_at hr hj']
      split
      · refine with_zero (now_names (hK _ (List.getElem_mem hj'))) (fun v hv => ?_) h2
        obtain ⟨u, hu, rfl⟩ := List.mem_map.1 hv
        exact now_num hp.v (hK _ (List.getElem_mem hj') u hu)
      · exact h2
  · have h1 := hp.cl j hj
    have hkn : knownC (rnwC c s) j = knownC c j := funext fun t => by
      unfold knownC
      rw [evid_names (rnw_names h)]
      rfl
    unfold clAt at h1 ⊢
    rw [hkn]
    exact h1
theorem rnw_ok {c : Cse} {s : ByteArray} (hc : CseOk c) (h : 0 ≤ evidE c.2.1 s) : CseOk (rnwC c s) := ⟨hc.v, by rw [rnw_len]; exact hc.e, hc.l, fun x hx => by
  obtain ⟨j, hj, rfl⟩ := List.getElem_of_mem hx
  have hj' : j < c.2.1.length := by rw [rnw_len] at hj; exact hj
  rw [rnw_at (rnwP h) hj']
  split
  · show (List.map _ _).length < _
    rw [List.length_map]
    exact hc.w _ (List.getElem_mem hj')
  · exact hc.w _ (List.getElem_mem hj'), hc.u⟩
theorem rnw_zero {c : Cse} {s : ByteArray} (h : caseE c = 0) (h2 : 0 ≤ evidE c.2.1 s) : rnwE c s = 0 := by
  unfold rnwE
  rw [if_neg (fun h3 => h3 h), if_neg (by omega)]
/-- What is valid when a piece was renewed. -/
theorem rnw_valid {c : Cse} {s : ByteArray} {i j : Nat} (hz : caseE c = 0) (h : RnwP c s i) (hj : j < c.2.1.length) : validB (rnwC c s) ((rnwC c s).2.1[j]'(by rw [rnw_len]; exact hj)) = if i = j then true else validB c c.2.1[j] := by
  have hK := (case_known hz).2
  rw [rnw_at h hj]
  split
  · show List.all _ _ = true
    rw [List.all_eq_true]
    intro v hv
    obtain ⟨u, hu, rfl⟩ := List.mem_map.1 hv
    refine decide_eq_true ?_
    show nowE c.1 (nowV c u).1 = (nowV c u).2
    rw [now_name (hK _ (List.getElem_mem hj) u hu)]
    rfl
  · rfl
theorem validR_mem {c : Cse} {w : ByteArray} : w ∈ validR c ↔ ∃ x ∈ c.2.1, x.1 = w ∧ validB c x = true := by
  unfold validR
  rw [List.mem_map]
  constructor
  · rintro ⟨x, hx, rfl⟩
    rw [List.mem_filter] at hx
    exact ⟨x, hx.1, rfl, hx.2⟩
  · rintro ⟨x, hx, rfl, hv⟩
    exact ⟨x, List.mem_filter.2 ⟨hx, hv⟩, rfl⟩
theorem rnw_validR {c : Cse} {s w : ByteArray} (hz : caseE c = 0) (h : 0 ≤ evidE c.2.1 s) : w ∈ validR (rnwC c s) ↔ w ∈ validR c ∨ w = s := by
  have hr := rnwP h
  rw [validR_mem, validR_mem]
  constructor
  · rintro ⟨x, hx, rfl, hv⟩
    obtain ⟨j, hj, rfl⟩ := List.getElem_of_mem hx
    have hj' : j < c.2.1.length := by rw [rnw_len] at hj; exact hj
    rw [rnw_name hr hj']
    rw [rnw_valid hz hr hj'] at hv
    by_cases he : (evidE c.2.1 s).toNat = j
    · right; have := hr.nm; simpa [he] using this
    · rw [if_neg he] at hv
      left; exact ⟨_, List.getElem_mem hj', rfl, hv⟩
  · rintro (⟨x, hx, rfl, hv⟩ | rfl)
    · obtain ⟨j, hj, rfl⟩ := List.getElem_of_mem hx
      refine ⟨_, List.getElem_mem (by rw [rnw_len]; exact hj), rnw_name hr hj, ?_⟩
      rw [rnw_valid hz hr hj]
      split
      · rfl
      · exact hv
    · refine ⟨_, List.getElem_mem (by rw [rnw_len]; exact hr.hi), by rw [rnw_name hr hr.hi]; exact hr.nm, ?_⟩
      rw [rnw_valid hz hr hr.hi, if_pos rfl]
theorem nodup_le : ∀ {l m : List ByteArray}, l.Nodup → (∀ x ∈ l, x ∈ m) → l.length ≤ m.length
  | [], _, _, _ => Nat.zero_le _
  | x :: l, m, hn, h => by
    obtain ⟨h1, h2⟩ := List.nodup_cons.1 hn
    have hx := h x List.mem_cons_self
    have h3 := nodup_le (m := lackW m x) h2 fun y hy => List.mem_filter.2 ⟨h y (List.mem_cons_of_mem _ hy), by
      have : ¬ y = x := fun e => h1 (by rw [← e]; exact hy)
      simp [this]⟩
    have h4 : (lackW m x).length < m.length := List.length_filter_lt_length_iff_exists.2 ⟨x, hx, by simp⟩
    simp only [List.length_cons]
    omega
theorem rnw_more {c : Cse} {s : ByteArray} (hz : caseE c = 0) (h : 0 ≤ evidE c.2.1 s) : (validR c).length ≤ (validR (rnwC c s)).length := nodup_le (validR_nodup hz) fun _ hx => (rnw_validR hz h).2 (.inl hx)
theorem rnw_by {c : Cse} {s t : ByteArray} {l : List ByteArray} : byR (rnwC c s) l t = byR c l t := rfl
theorem opnR_mem {c : Cse} {t : ByteArray} : t ∈ opnR c c.2.2.length ↔ (∃ x ∈ c.2.2, x.1 = t) ∧ byR c (validR c) t = false := by
  unfold opnR
  rw [List.take_length, List.mem_map]
  constructor
  · rintro ⟨x, hx, rfl⟩
    rw [List.mem_filter] at hx
    exact ⟨⟨x, hx.1, rfl⟩, by simpa using hx.2⟩
  · rintro ⟨⟨x, hx, rfl⟩, h⟩
    exact ⟨x, List.mem_filter.2 ⟨hx, by simp [h]⟩, rfl⟩
theorem rnw_open {c : Cse} {s t : ByteArray} (hz : caseE c = 0) (h : 0 ≤ evidE c.2.1 s) (ht : t ∈ opnR (rnwC c s) (rnwC c s).2.2.length) : t ∈ opnR c c.2.2.length := by
  rw [opnR_mem] at ht ⊢
  refine ⟨ht.1, ?_⟩
  cases hb : byR c (validR c) t with
  | false => rfl
  | true =>
    have := by_mono (c := c) (l' := validR (rnwC c s)) (fun x hx => (rnw_validR hz h).2 (.inl hx)) hb
    have h2 := ht.2
    rw [rnw_by, this] at h2
    cases h2
/-! ## What an open claim lacks -/
structure LackP (c : Cse) (s : ByteArray) (l : List ByteArray) : Prop where
  by1 : byR c (l ++ validR c) s = true
  nd : l.Nodup
  sub : ∀ w ∈ l, (∃ x ∈ c.2.1, x.1 = w) ∧ w ∉ validR c
  min : ∀ w ∈ l, byR c (lackW l w ++ validR c) s = false
  len : l.length ≤ c.2.1.length
theorem stale_mem {c : Cse} {w : ByteArray} (hz : caseE c = 0) : w ∈ staleE c ↔ (∃ x ∈ c.2.1, x.1 = w) ∧ w ∉ validR c := by
  rw [staleE_R hz, List.mem_map]
  constructor
  · rintro ⟨x, hx, rfl⟩
    rw [List.mem_filter] at hx
    refine ⟨⟨x, hx.1, rfl⟩, fun h => ?_⟩
    have := hx.2
    rw [has_in.2 h] at this
    cases this
  · rintro ⟨⟨x, hx, rfl⟩, h⟩
    refine ⟨x, List.mem_filter.2 ⟨hx, ?_⟩, rfl⟩
    cases hb : hasB (validR c) x.1 with
    | false => rfl
    | true => exact absurd (has_in.1 hb) h
theorem stale_nodup {c : Cse} (hz : caseE c = 0) : (staleE c).Nodup := by
  rw [staleE_R hz]
  exact (ev_nodup hz).sublist (List.Sublist.map _ List.filter_sublist)
theorem lackP {c : Cse} {s : ByteArray} (hz : caseE c = 0) (hs : 0 ≤ claimE c.2.2 s) : LackP c s (leanF c s (validR c) (staleE c).length (staleE c)) := by
  have hb : byR c (staleE c ++ validR c) s = true := by
    obtain ⟨h1, h2⟩ := claim_ix hs
    rw [← h2]
    refine by_all (caseP hz) (fun x hx => ?_) _ _ h1 (Nat.lt_succ_self _)
    by_cases hv : x.1 ∈ validR c
    · exact List.mem_append_right _ hv
    · exact List.mem_append_left _ ((stale_mem hz).2 ⟨⟨x, hx, rfl⟩, hv⟩)
  obtain ⟨h1, h2, h3, h4⟩ := lean_ok (c := c) (s := s) (o := validR c) (staleE c).length (Nat.le_refl _) (stale_nodup hz) hb fun w hw hwt => absurd hw (by rwa [List.take_length] at hwt)
  exact ⟨h1, h2, fun w hw => (stale_mem hz).1 (h3.subset hw), h4, Nat.le_trans h3.length_le staleE_len⟩
theorem lack_ne {c : Cse} {s : ByteArray} {l : List ByteArray} (h : LackP c s l) (hb : byR c (validR c) s = false) : l ≠ [] := fun e => by
  have := h.by1
  rw [e, List.nil_append, hb] at this
  cases this
/-- The case with the pieces l renewed. -/
def rnwL (c : Cse) (l : List ByteArray) : Cse := l.foldl rnwC c
structure RnwL (c : Cse) (l : List ByteArray) (y : Cse) : Prop where
  z : caseE y = 0
  ok : CseOk y
  nm : y.2.1.map (·.1) = c.2.1.map (·.1)
  cl : y.2.2 = c.2.2
  v : ∀ w, w ∈ validR y ↔ w ∈ validR c ∨ w ∈ l
theorem rnwL_nil {c : Cse} (hz : caseE c = 0) (hc : CseOk c) : RnwL c [] c := ⟨hz, hc, rfl, rfl, fun w => by simp⟩
theorem rnwL_has {c y : Cse} {l : List ByteArray} {w : ByteArray} (h : RnwL c l y) (hw : ∃ x ∈ c.2.1, x.1 = w) : 0 ≤ evidE y.2.1 w := by
  rw [evid_names h.nm]
  exact evid_in.2 hw
theorem rnwL_step {c y : Cse} {l : List ByteArray} {w : ByteArray} (h : RnwL c l y) (hw : ∃ x ∈ c.2.1, x.1 = w) : RnwL c (l ++ [w]) (rnwC y w) := by
  have h0 := rnwL_has h hw
  refine ⟨rnw_case h.z h0, rnw_ok h.ok h0, (rnw_names h0).trans h.nm, h.cl, fun u => ?_⟩
  rw [rnw_validR h.z h0, h.v, List.mem_append, List.mem_singleton, or_assoc]
theorem by_cl {c y : Cse} {l : List ByteArray} {s : ByteArray} (h : y.2.2 = c.2.2) : byR y l s = byR c l s := by
  unfold byR byM clM
  rw [h]
theorem rnwL_by {c y : Cse} {l : List ByteArray} {s : ByteArray} (h : RnwL c l y) : byR y (validR y) s = byR c (l ++ validR c) s := by
  rw [by_cl h.cl]
  exact by_set fun w => by rw [h.v, List.mem_append]; exact or_comm
end Go.Proofs
namespace Go.Proofs
open Go.Fs
theorem ev_first {c : Cse} (h : caseE c = 0) {i : Nat} (hi : i < c.2.1.length) : evidE c.2.1 c.2.1[i].1 = (i : Int) := by
  have h4 := case_ev h i hi
  have h5 : ¬ evidE c.2.1 c.2.1[i].1 < (i : Int) := fun h6 => h4 ((evid_lt hi).1 h6)
  have h6 := (idxG_le (F := fun v : Evid => decide (v.1 = c.2.1[i].1)) hi (decide_eq_true rfl)).1
  unfold evidE at h5 ⊢
  omega
theorem chk_sub {c : Cse} (h : caseE c = 0) : ∀ (m : List Evid) (i : Nat) (l : List ByteArray) (k : Int), c.2.1.drop i = m → List.Sublist l (m.map (·.1)) → k < (i : Int) → chkO c k l = 0
  | [], i, l, k, hd, hs, hk => by
    have : l = [] := List.sublist_nil.1 hs
    subst this; rfl
  | x :: m, i, l, k, hd, hs, hk => by
    have hi : i < c.2.1.length := by
      have := congrArg List.length hd
      rw [List.length_drop] at this
      simp only [List.length_cons] at this
      omega
    have hd2 := List.drop_eq_getElem_cons hi
    rw [hd] at hd2
    obtain ⟨e1, e2⟩ := List.cons.inj hd2
    rw [List.map_cons] at hs
    cases hs with
    | cons _ hs => exact chk_sub h m (i + 1) l k e2.symm hs (by omega)
    | cons_cons _ hs =>
      rename_i l'
      have e3 : evidE c.2.1 x.1 = (i : Int) := by rw [e1]; exact ev_first h hi
      show (if evidE c.2.1 x.1 < 0 then 10 else if evidE c.2.1 x.1 ≤ k then 11 else chkO c (evidE c.2.1 x.1) l') = 0
      rw [e3, if_neg (by omega), if_neg (by omega)]
      exact chk_sub h m (i + 1) l' _ e2.symm hs (by omega)
theorem chk_names {c : Cse} (h : caseE c = 0) {l : List ByteArray} (hs : List.Sublist l (c.2.1.map (·.1))) : chkO c (-1) l = 0 := chk_sub h c.2.1 0 l (-1) List.drop_zero hs (by omega)
theorem validR_sub {c : Cse} : List.Sublist (validR c) (c.2.1.map (·.1)) := List.Sublist.map _ List.filter_sublist
/-! ## The support -/
def supL (c : Cse) (s : ByteArray) : List ByteArray := leanF c s [] (validR c).length (validR c)
structure SupP (c : Cse) (s : ByteArray) (l : List ByteArray) : Prop where
  by1 : byR c l s = true
  nd : l.Nodup
  sub : List.Sublist l (validR c)
  min : ∀ w ∈ l, byR c (lackW l w) s = false
theorem supP {c : Cse} {s : ByteArray} (hz : caseE c = 0) (hb : byR c (validR c) s = true) : SupP c s (supL c s) := by
  obtain ⟨h1, h2, h3, h4⟩ := lean_ok (c := c) (s := s) (o := []) (validR c).length (Nat.le_refl _) (validR_nodup hz) (by rw [List.append_nil]; exact hb) fun w hw hwt => absurd hw (by rwa [List.take_length] at hwt)
  refine ⟨by rwa [List.append_nil] at h1, h2, h3, fun w hw => ?_⟩
  have := h4 w hw
  rwa [List.append_nil] at this
theorem sup_ne {c : Cse} {s : ByteArray} {l : List ByteArray} (hz : caseE c = 0) (hs : 0 ≤ claimE c.2.2 s) (h : SupP c s l) : l ≠ [] := fun e => by
  obtain ⟨h1, h2⟩ := claim_ix hs
  have h3 := by_none (caseP hz) _ _ h1 (Nat.lt_succ_self _)
  rw [h2] at h3
  have := h.by1
  rw [e, h3] at this
  cases this
theorem supp_len {c : Cse} {s : ByteArray} {l : List ByteArray} (h : SupP c s l) : l.length ≤ c.2.1.length := Nat.le_trans h.sub.length_le (by have := validR_len (c := c); omega)
theorem supE_0 {c : Cse} {s : ByteArray} {l : List ByteArray} (hr : rTwo c s = 0) (ho : chkO c (-1) l = 0) : supE c s l = whenE ((List.range l.length).any (badR c s l) || !byR c l s) 22 := by
  rw [sup_same]
  exact sup_0 (fun h => h hr) ho
theorem sup_yes {c : Cse} {s : ByteArray} {l : List ByteArray} (hr : rTwo c s = 0) (h : SupP c s l) : supE c s l = 0 := by
  have hz := (rTwo_ok hr).1
  rw [supE_0 hr (chk_names hz (h.sub.trans validR_sub)), h.by1]
  have : (List.range l.length).any (badR c s l) = false := by
    rw [List.any_eq_false]
    intro i hi
    have hi := List.mem_range.1 hi
    rw [badR_at hi, has_in.2 (h.sub.subset (List.getElem_mem hi)), ← lackW_drop h.nd hi, h.min _ (List.getElem_mem hi)]
    decide
  rw [this]; rfl
theorem sup_less {c : Cse} {s : ByteArray} {l : List ByteArray} (hr : rTwo c s = 0) (h : SupP c s l) (hl : l ≠ []) : supE c s (l.drop 1) = 22 := by
  have hz := (rTwo_ok hr).1
  have h0 : 0 < l.length := by cases l with | nil => exact absurd rfl hl | cons => simp
  have e : l.drop 1 = lackW l l[0] := by rw [lackW_drop h.nd h0]; simp [dropI]
  rw [supE_0 hr (chk_names hz (((List.drop_sublist 1 l).trans h.sub).trans validR_sub)), e, h.min _ (List.getElem_mem h0)]
  simp [whenE]
theorem sup_needs {c : Cse} {s w : ByteArray} {l : List ByteArray} (h : SupP c s l) (hw : w ∈ (validR c).filter (needB c s (validR c))) : w ∈ l := by
  rw [List.mem_filter] at hw
  refine Classical.byContradiction fun hn => ?_
  have h1 : byR c (lackW (validR c) w) s = true := by_mono (fun x hx => by
    unfold lackW
    rw [List.mem_filter]
    refine ⟨h.sub.subset hx, ?_⟩
    have : ¬ x = w := fun e => hn (e ▸ hx)
    simp [this]) h.by1
  have h2 := hw.2
  unfold needB at h2
  have h1 : inM (byM c (lackW (validR c) w)) s = true := h1
  rw [h1] at h2
  cases h2
/-! ## A support with a piece more -/
def moreF (c : Cse) (l m : List ByteArray) (y : Evid) : List ByteArray := if (hasB l y.1 || (decide ((m.length : Int) = (l.length : Int)) && hasB (validR c) y.1)) = true then m ++ [y.1] else m
def moreL (c : Cse) (l : List ByteArray) (j : Nat) : List ByteArray := (c.2.1.take j).foldl (moreF c l) []
theorem moreL_succ {c : Cse} {l : List ByteArray} {j : Nat} (h : j < c.2.1.length) : moreL c l (j + 1) = moreF c l (moreL c l j) c.2.1[j] := by
  unfold moreL
  rw [List.take_succ_eq_append_getElem h, List.foldl_append]; rfl
theorem more_ok {c : Cse} {s : ByteArray} {l : List ByteArray} (h : SupP c s l) : ∀ j, j ≤ c.2.1.length → List.Sublist (moreL c l j) ((c.2.1.take j).map (·.1)) ∧ (∀ w ∈ moreL c l j, w ∈ validR c) ∧ (∀ y ∈ c.2.1.take j, y.1 ∈ l → y.1 ∈ moreL c l j)
  | 0, _ => ⟨List.Sublist.refl _, ⟨fun w (hw : w ∈ ([] : List ByteArray)) => (by cases hw), fun y (hy : y ∈ ([] : List Evid)) => (by cases hy)⟩⟩
  | j + 1, hj => by
    obtain ⟨h1, h2, h3⟩ := more_ok h j (by omega)
    have ej := List.take_succ_eq_append_getElem (l := c.2.1) (i := j) (by omega)
    rw [moreL_succ (by omega), ej, List.map_append]
    unfold moreF
    split
    · rename_i hc
      refine ⟨h1.append (List.Sublist.refl _), fun w hw => ?_, fun y hy hl => ?_⟩
      · rcases List.mem_append.1 hw with hw | hw
        · exact h2 w hw
        · rw [List.mem_singleton.1 hw]
          rw [Bool.or_eq_true, Bool.and_eq_true] at hc
          rcases hc with hc | hc
          · exact h.sub.subset (has_in.1 hc)
          · exact has_in.1 hc.2
      · rcases List.mem_append.1 hy with hy | hy
        · exact List.mem_append_left _ (h3 y hy hl)
        · rw [List.mem_singleton.1 hy]; exact List.mem_append_right _ List.mem_cons_self
    · rename_i hc
      refine ⟨h1.trans (List.sublist_append_left _ _), h2, fun y hy hl => ?_⟩
      rcases List.mem_append.1 hy with hy | hy
      · exact h3 y hy hl
      · rw [List.mem_singleton.1 hy] at hl ⊢
        exact absurd (by rw [has_in.2 hl]; rfl) hc
theorem more_len {c : Cse} {l : List ByteArray} : ∀ j, j ≤ c.2.1.length → (moreL c l j).length ≤ j
  | 0, _ => Nat.le_refl _
  | j + 1, hj => by
    have := more_len (c := c) (l := l) j (by omega)
    rw [moreL_succ (by omega)]
    unfold moreF
    split
    · rw [List.length_append]; simp only [List.length_cons, List.length_nil]; omega
    · omega
theorem sup_more {c : Cse} {s : ByteArray} {l : List ByteArray} (hr : rTwo c s = 0) (h : SupP c s l) (hm : l.length < (moreL c l c.2.1.length).length) : supE c s (moreL c l c.2.1.length) = 22 := by
  have hz := (rTwo_ok hr).1
  obtain ⟨h1, h2, h3⟩ := more_ok h c.2.1.length (Nat.le_refl _)
  rw [List.take_length] at h1 h3
  have hn : (moreL c l c.2.1.length).Nodup := (ev_nodup hz).sublist h1
  have hsub : ∀ w ∈ l, w ∈ moreL c l c.2.1.length := fun w hw => by
    obtain ⟨x, hx, rfl, _⟩ := validR_mem.1 (h.sub.subset hw)
    exact h3 x hx hw
  obtain ⟨w, hw, hwl⟩ : ∃ w ∈ moreL c l c.2.1.length, w ∉ l := Classical.byContradiction fun hno => by
    have := nodup_le hn (m := l) fun x hx => Classical.byContradiction fun h4 => hno ⟨x, hx, h4⟩
    omega
  obtain ⟨i, hi, rfl⟩ := List.getElem_of_mem hw
  rw [supE_0 hr (chk_names hz h1)]
  have : badR c s (moreL c l c.2.1.length) i = true := by
    rw [badR_at hi, ← lackW_drop hn hi, by_mono (fun x hx => by
      unfold lackW
      rw [List.mem_filter]
      refine ⟨hsub x hx, ?_⟩
      have : ¬ x = (moreL c l c.2.1.length)[i] := fun e => hwl (e ▸ hx)
      simp [this]) h.by1, Bool.or_true]
  rw [List.any_eq_true.2 ⟨i, List.mem_range.2 hi, this⟩]
  rfl
/-! ## A change that touches no support -/
def touchW (s : ByteArray) (w : List Vers) : Bool := w.any fun v => decide (v.1 = s)
def touchE (c : Cse) (l : List ByteArray) (s : ByteArray) (j : Nat) : Bool := (c.2.1.take j).any fun y => hasB l y.1 && touchW s y.2
theorem touch_succ {c : Cse} {l : List ByteArray} {s : ByteArray} {j : Nat} (h : j < c.2.1.length) : touchE c l s (j + 1) = (touchE c l s j || (hasB l c.2.1[j].1 && touchW s c.2.1[j].2)) := by
  unfold touchE
  rw [List.take_succ_eq_append_getElem h, List.any_append]
  simp
theorem touch_no {c : Cse} {s t : ByteArray} {n : Int} {l : List ByteArray} (hg : chgE c t n = 0) (h : SupP c s l) (ht : touchE c l t c.2.1.length = false) : byR (chgC c t n) (validR (chgC c t n)) s = true := by
  obtain ⟨hz, h2, _⟩ := chg_parts hg
  have hv := (case_known hz).1
  have hK := (case_known hz).2
  refine by_mono (c := c) (fun w hw => ?_) h.by1
  obtain ⟨x, hx, rfl, hb⟩ := validR_mem.1 (h.sub.subset hw)
  refine validR_mem.2 ⟨x, hx, rfl, ?_⟩
  unfold validB at hb ⊢
  rw [List.all_eq_true] at hb ⊢
  intro v hvx
  have hne : ¬ v.1 = t := fun e => by
    unfold touchE at ht
    rw [List.take_length, List.any_eq_false] at ht
    refine ht x hx ?_
    rw [has_in.2 hw, Bool.true_and]
    exact List.any_eq_true.2 ⟨v, hvx, decide_eq_true e⟩
  rw [chg_now h2 (hK x hx v hvx) hv, if_neg hne]
  exact hb v hvx
/-! ## Reopened -/
def reopE (c : Cse) (t : ByteArray) (n : Int) : List ByteArray := (openE (chgC c t n)).filter fun s => !hasB (openE c) s
theorem reop_len {c : Cse} {t : ByteArray} {n : Int} : (reopE c t n).length ≤ c.2.2.length := Nat.le_trans (List.length_filter_le _ _) (opnE_len (c := chgC c t n) (i := c.2.2.length))
theorem openE_mem {c : Cse} {t : ByteArray} (hz : caseE c = 0) : t ∈ openE c ↔ (∃ x ∈ c.2.2, x.1 = t) ∧ byR c (validR c) t = false := by rw [openE_R hz]; exact opnR_mem
theorem reop_mem {c : Cse} {t s : ByteArray} {n : Int} (hg : chgE c t n = 0) : s ∈ reopE c t n ↔ (∃ x ∈ c.2.2, x.1 = s) ∧ byR c (validR c) s = true ∧ byR (chgC c t n) (validR (chgC c t n)) s = false := by
  obtain ⟨hz, _⟩ := chg_parts hg
  unfold reopE
  rw [List.mem_filter, openE_mem (chg_case hg)]
  constructor
  · rintro ⟨⟨h1, h2⟩, h3⟩
    refine ⟨h1, ?_, h2⟩
    cases hb : byR c (validR c) s with
    | true => rfl
    | false =>
      rw [has_in.2 ((openE_mem hz).2 ⟨h1, hb⟩)] at h3
      cases h3
  · rintro ⟨h1, h2, h3⟩
    refine ⟨⟨h1, h3⟩, ?_⟩
    cases hb : hasB (openE c) s with
    | false => rfl
    | true => have := ((openE_mem hz).1 (has_in.1 hb)).2; rw [h2] at this; cases this
/-- The reference's way: claim by claim. -/
def reopR (c : Cse) (t : ByteArray) (n : Int) (i : Nat) : List ByteArray := ((c.2.2.take i).filter fun x => byR c (validR c) x.1 && !byR (chgC c t n) (validR (chgC c t n)) x.1).map (·.1)
theorem reop_R {c : Cse} {t : ByteArray} {n : Int} (hg : chgE c t n = 0) : reopE c t n = reopR c t n c.2.2.length := by
  obtain ⟨hz, _⟩ := chg_parts hg
  unfold reopE reopR
  rw [openE_R (chg_case hg)]
  unfold opnR
  show List.filter _ (List.map _ (List.filter _ (c.2.2.take c.2.2.length))) = _
  rw [List.filter_map, List.filter_filter]
  congr 1
  refine List.filter_congr fun x hx => ?_
  have hx : x ∈ c.2.2 := List.mem_of_mem_take hx
  show (!hasB (openE c) x.1 && !byR (chgC c t n) (validR (chgC c t n)) x.1) = _
  congr 1
  cases hb : byR c (validR c) x.1 with
  | true =>
    cases ho : hasB (openE c) x.1 with
    | false => rfl
    | true => have := ((openE_mem hz).1 (has_in.1 ho)).2; rw [hb] at this; cases this
  | false => rw [has_in.2 ((openE_mem hz).2 ⟨⟨x, hx, rfl⟩, hb⟩)]; rfl
theorem reopR_len {c : Cse} {t : ByteArray} {n : Int} {i : Nat} : (reopR c t n i).length ≤ i := by
  unfold reopR
  rw [List.length_map]
  refine Nat.le_trans (List.length_filter_le _ _) ?_
  rw [List.length_take]; omega
theorem reopR_t {c : Cse} {t : ByteArray} {n : Int} {i : Nat} (h : i < c.2.2.length) (h1 : byR c (validR c) c.2.2[i].1 = true) (h2 : byR (chgC c t n) (validR (chgC c t n)) c.2.2[i].1 = false) : reopR c t n (i + 1) = reopR c t n i ++ [c.2.2[i].1] := by
  unfold reopR
  rw [List.take_succ_eq_append_getElem h, List.filter_append, List.map_append]
  simp [h1, h2]
theorem reopR_f {c : Cse} {t : ByteArray} {n : Int} {i : Nat} (h : i < c.2.2.length) (h1 : (byR c (validR c) c.2.2[i].1 && !byR (chgC c t n) (validR (chgC c t n)) c.2.2[i].1) = false) : reopR c t n (i + 1) = reopR c t n i := by
  unfold reopR
  rw [List.take_succ_eq_append_getElem h, List.filter_append, List.map_append]
  simp only [List.filter_cons, h1, List.filter_nil, List.map_nil, List.append_nil]
  simp
/-! ## What a claim's uses say -/
def restB (c : Cse) (u : ByteArray) : Bool := hasB (validR c) u || (decide (rTwo c u = 0) && byR c (validR c) u)
theorem rest_use {c : Cse} (hz : caseE c = 0) {j : Nat} (hj : j < c.2.2.length) {u : ByteArray} (hu : u ∈ c.2.2[j].2.2) : restB c u = inM (clM c (validR c) j) u := by
  have hk := case_claims hz
  rw [use_eq hk hj hu]
  unfold restB
  by_cases he : 0 ≤ evidE c.2.1 u
  · rw [decide_eq_true he, decide_eq_false (show ¬ evidE c.2.1 u < 0 by omega)]
    have : ¬ rTwo c u = 0 := fun h => by
      obtain ⟨_, h2⟩ := rTwo_ok h
      obtain ⟨h3, h4⟩ := claim_ix h2
      have := (known_no (hk.new _ h3)).1
      rw [h4] at this
      exact this he
    rw [decide_eq_false this]; simp
  · have hn : hasB (validR c) u = false := by
      cases hb : hasB (validR c) u with
      | false => rfl
      | true =>
        obtain ⟨x, hx, hxu, _⟩ := validR_mem.1 (has_in.1 hb)
        exact absurd (evid_in.2 ⟨x, hx, hxu⟩) he
    have hr : rTwo c u = 0 := by
      unfold rTwo
      rw [if_neg (fun h => h hz), if_neg (by have := (use_before hk hj hu (by omega)).1; omega)]
    rw [hn, decide_eq_true hr, decide_eq_false he, decide_eq_true (show evidE c.2.1 u < 0 by omega)]; simp
theorem rTwo_of {c : Cse} (hz : caseE c = 0) {j : Nat} (hj : j < c.2.2.length) : rTwo c c.2.2[j].1 = 0 := by
  unfold rTwo
  rw [if_neg (fun h => h hz), if_neg (by have := claim_has (c := c) hj; omega)]
end Go.Proofs
namespace Go.Proofs
open Go.Fs
set_option linter.unusedVariables false
set_option maxHeartbeats 2000000
theorem zt64 : ZerT Tryz.prog 64 y64 := zerT_of (z := .agg #[.slice none 0 0, .slice none 0 0, .slice none 0 0]) (by kernel_rfl) rfl rfl
theorem eq99 : EqT Tryz.prog 99 y99 := eqT_of (by kernel_rfl)
theorem same_noV {α : Type} {a b : List α} (h : (a.length : Int) ≠ (b.length : Int)) : ¬ a = b := fun e => h (by rw [e])
theorem same_goV {α : Type} {a b : List α} {j : Nat} {ha : j < a.length} {hb : j < b.length} (hi : ∀ k (h : k < a.length) (h2 : k < b.length), k < j → a[k] = b[k]) (e : ¬ a[j] ≠ b[j]) : ∀ k (h : k < a.length) (h2 : k < b.length), k < j + 1 → a[k] = b[k] := fun k h h2 h3 => by
  by_cases h4 : k < j
  · exact hi k h h2 h4
  have : k = j := by omega
  subst this
  exact Classical.not_not.1 e
theorem rSameV_ok {a : List (ByteArray × Int)} {b : List (ByteArray × Int)} (ha : a.length < 1000000) (hb : b.length < 1000000) : VF Tryz.prog OA 88 [.v y60 a, .v y60 b] (B (decide (a = b))) := by
  refine VF.enter Tryz.func88 rfl (fun _ _ => rfl) rfl ?_
  show VC _ _ _ _ _ [(0, .v y60 a), (1, .v y60 b)] [] _
  refine VC.seq (VC.text ?_)
  refine VO.c (.assign rfl) ?_
  refine VO.go (VC.seq (VC.seq (VC.text ?_)))
  refine VO.c (.move rfl) ?_
  refine VO.r (.len el60) ?_
  refine VO.c (.move rfl) ?_
  refine VO.r (.len el60) ?_
  refine VO.c (.neq) ?_
  refine VO.go ?_
  refine VC.condD rfl (fun c1 => ?_) (fun c1 => ?_)
  · refine VC.seq (VC.text ?_)
    refine VO.c (.assign rfl) ?_
    refine VO.go ?_
    refine VC.ret ?_
    exact VEnd.one rfl evT (pvE (by exact (decide_eq_false (same_noV c1)).symm))
  refine VC.skip (VC.seq (VC.seq (VC.text ?_)))
  refine VO.c (.assign rfl) ?_
  refine VO.go (VC.block ?_)
  refine VC.keep [(0, .v y60 a), (1, .v y60 b), (5, I ((0 : Nat) : Int))] ⟨rfl, rfl, rfl, trivial⟩ ?_
  refine VC.loop (I := fun kk ff ss => ∃ (j : Nat), kk = a.length - j ∧ ff = [(0, .v y60 a), (1, .v y60 b), (5, I ((j : Nat) : Int))] ∧ ss = [] ∧ (j ≤ a.length) ∧ (a.length = b.length) ∧ (∀ k (h : k < a.length) (h2 : k < b.length), k < j → a[k] = b[k])) ?_ _ _ _ ⟨0, rfl, rfl, rfl, Nat.zero_le _, (by omega), (by exact fun k _ _ h => absurd h (by omega))⟩
  rintro kk ff ss ⟨j, hk0, rfl, rfl, hj, hl, hi⟩
  refine VC.seq (VC.seq (VC.text ?_))
  refine VO.c (.move rfl) ?_
  refine VO.c (.move rfl) ?_
  refine VO.r (.len el60) ?_
  refine VO.c (.lss) ?_
  refine VO.go ?_
  refine VC.condD rfl (fun c4 => ?_) (fun c4 => ?_)
  · refine VC.skip (VC.seq (VC.block (VC.seq (VC.drawn ?_))))
    refine VD.c (.move rfl) ?_
    refine VD.c (.move rfl) ?_
    refine VD.c (.ix (j := j) rfl rfl el60 (by omega)) ?_
    refine VD.r [] (.ld vt99) (.inl rfl) ?_
    refine VD.c (.move rfl) ?_
    refine VD.c (.move rfl) ?_
    refine VD.nw [] ?_
    refine VD.c (.ix (j := j) rfl rfl el60 (by omega)) ?_
    refine VD.r [] (.ld vt99) (.inl rfl) ?_
    refine VD.c (.eneq eq99) ?_
    refine VD.go ?_
    refine VC.condD rfl (fun c6 => ?_) (fun c6 => ?_)
    · refine VC.seq (VC.text ?_)
      refine VO.c (.assign rfl) ?_
      refine VO.go ?_
      refine VC.ret ?_
      exact VEnd.one rfl evT (pvE (by exact (decide_eq_false (fun h => c6 (List.getElem_of_eq h _))).symm))
    refine VC.skip (VC.text ?_)
    refine VO.c (.move rfl) ?_
    refine VO.c (.add rfl rfl (by omega)) ?_
    refine VO.c (.assign rfl) ?_
    refine VO.nil ?_
    refine ⟨_, [(0, .v y60 a), (1, .v y60 b), (5, I (((j + 1) : Nat) : Int))], ?_, ⟨rfl, rfl, rfl, trivial⟩, (j + 1), rfl, rfl, rfl, (by omega), (by omega), (by exact same_goV hi c6)⟩
    omega
  refine VC.exit (VC.seq (VC.text ?_))
  refine VO.c (.assign rfl) ?_
  refine VO.go ?_
  refine VC.ret ?_
  exact VEnd.one rfl evT (pvE (by exact (decide_eq_true (List.ext_getElem hl (fun k h h2 => hi k h h2 (by omega)))).symm))
end Go.Proofs
namespace Go.Proofs
open Go.Fs
set_option linter.unusedVariables false
set_option maxHeartbeats 2000000
theorem bt96 : BldT Tryz.prog 96 y96 [(0, 1), (1, 1)] := bldT_of zt96 rfl (by kernel_rfl)
theorem bt109 : BldT Tryz.prog 109 y109 [(0, 1), (1, 1), (2, 1)] := bldT_of zt109 rfl (by kernel_rfl)
def sameC (a b : Cse) : Bool := decide (a.1 = b.1) && (decide (a.2.1 = b.2.1) && decide (a.2.2 = b.2.2))
theorem sameC_t {a b : Cse} (h : a = b) : sameC a b = true := by
  subst h
  unfold sameC
  rw [decide_eq_true rfl, decide_eq_true rfl, decide_eq_true rfl] <;> rfl
theorem sameC_eq {a b : Cse} (h : sameC a b = true) : a = b := by
  unfold sameC at h
  rw [Bool.and_eq_true, Bool.and_eq_true, decide_eq_true_eq, decide_eq_true_eq, decide_eq_true_eq] at h
  exact Prod.ext h.1 (Prod.ext h.2.1 h.2.2)
theorem sameC_f {a b : Cse} (h : ¬ a = b) : sameC a b = false := by
  cases hs : sameC a b with
  | false => rfl
  | true => exact absurd (sameC_eq hs) h
theorem bne_no {x y : Bool} (h : (x != y) = false) : x = y := by
  cases x <;> cases y <;> first | rfl | cases h
theorem bne_yes {x y : Bool} (h : (x != y) = true) : x ≠ y := fun e => by
  subst e
  cases x <;> cases h
theorem case_c1 {a b : Cse} (h : (a.1 = b.1 ∧ ¬ ((a.2.1.length : Nat) : Int) ≠ ((b.2.1.length : Nat) : Int)) ∧ ¬ ((a.2.2.length : Nat) : Int) ≠ ((b.2.2.length : Nat) : Int)) : a.1 = b.1 ∧ a.2.1.length = b.2.1.length ∧ a.2.2.length = b.2.2.length := ⟨h.1.1, by omega, by omega⟩
theorem case_n1 {a b : Cse} (h : (¬ a.1 = b.1 ∨ ((a.2.1.length : Nat) : Int) ≠ ((b.2.1.length : Nat) : Int)) ∨ ((a.2.2.length : Nat) : Int) ≠ ((b.2.2.length : Nat) : Int)) : ¬ a = b := fun e => by
  subst e
  rcases h with (h | h) | h <;> exact h rfl
theorem evid_ne {a b : Cse} {j : Nat} {ha : j < a.2.1.length} {hb : j < b.2.1.length} (h : a.2.1[j].1 ≠ b.2.1[j].1 ∨ a.2.1[j].2 ≠ b.2.1[j].2) : ¬ a = b := fun e => by
  subst e
  rcases h with h | h <;> exact h rfl
theorem clm_ne {a b : Cse} {j : Nat} {ha : j < a.2.2.length} {hb : j < b.2.2.length} (h : a.2.2[j].1 ≠ b.2.2[j].1 ∨ a.2.2[j].2.1 ≠ b.2.2[j].2.1 ∨ a.2.2[j].2.2 ≠ b.2.2[j].2.2) : ¬ a = b := fun e => by
  subst e
  rcases h with h | h | h <;> exact h rfl
theorem evid_go {a b : List Evid} {j : Nat} {ha : j < a.length} {hb : j < b.length} (hi : ∀ k (h : k < a.length) (h2 : k < b.length), k < j → a[k] = b[k]) (e1 : ¬ a[j].1 ≠ b[j].1) (e2 : a[j].2 = b[j].2) : ∀ k (h : k < a.length) (h2 : k < b.length), k < j + 1 → a[k] = b[k] :=
  same_goV (ha := ha) (hb := hb) hi fun h => h (Prod.ext (Classical.not_not.1 e1) e2)
theorem clm_go {a b : List Clm} {j : Nat} {ha : j < a.length} {hb : j < b.length} (hi : ∀ k (h : k < a.length) (h2 : k < b.length), k < j → a[k] = b[k]) (e1 : ¬ a[j].1 ≠ b[j].1) (e2 : ¬ a[j].2.1 ≠ b[j].2.1) (e3 : a[j].2.2 = b[j].2.2) : ∀ k (h : k < a.length) (h2 : k < b.length), k < j + 1 → a[k] = b[k] :=
  same_goV (ha := ha) (hb := hb) hi fun h => h (Prod.ext (Classical.not_not.1 e1) (Prod.ext (Classical.not_not.1 e2) e3))
theorem case_yes {a b : Cse} (h1 : a.1 = b.1) (h2 : a.2.1.length = b.2.1.length) (h3 : a.2.2.length = b.2.2.length) (hi : ∀ k (h : k < a.2.1.length) (h2 : k < b.2.1.length), a.2.1[k] = b.2.1[k]) (hj : ∀ k (h : k < a.2.2.length) (h2 : k < b.2.2.length), a.2.2[k] = b.2.2[k]) : a = b :=
  Prod.ext h1 (Prod.ext (List.ext_getElem h2 hi) (List.ext_getElem h3 hj))
theorem rSameC_ok {a : (List (ByteArray × Int)) × (List (ByteArray × (List (ByteArray × Int)))) × (List (ByteArray × Bool × (List ByteArray)))} {b : (List (ByteArray × Int)) × (List (ByteArray × (List (ByteArray × Int)))) × (List (ByteArray × Bool × (List ByteArray)))} (ha : CseOk a) (hb : CseOk b) : VF Tryz.prog OA 56 [.v y64 a, .v y64 b] (B (sameC a b)) := by
  refine VF.enter Tryz.func56 rfl (fun _ _ => rfl) rfl ?_
  show VC _ _ _ _ _ [(0, .v y64 a), (1, .v y64 b)] [] _
  refine VC.seq (VC.text ?_)
  have hav := ha.v
  have hae := ha.e
  have hal := ha.l
  have hbv := hb.v
  have hbe := hb.e
  have hbl := hb.l
  refine VO.new (.box) ?_
  refine VO.new (.box) ?_
  refine VO.c (.assign rfl) ?_
  refine VO.go (VC.seq (VC.seq (VC.text ?_)))
  refine VO.c (.fa (.l .o)) ?_
  refine VO.r (.ld vt60) ?_
  refine VO.c (.fa (.l .o)) ?_
  refine VO.r (.ld vt60) ?_
  refine VO.call rfl rfl (VF.call (rSameV_ok (by first | assumption | omega | simp) (by first | assumption | omega | simp))) ?_
  refine VO.c (.not) ?_
  refine VO.c (.move rfl) ?_
  refine VO.cg (r := (!(decide (a.1 = b.1)))) (w := false) [] trivial (fun hgd => have g1_6 : (!(decide (a.1 = b.1))) = false := (by simpa using hgd); (.fa (.r (.l .o)))) ?_
  refine VO.rg (r := (!(decide (a.1 = b.1)))) (w := false) [(14, .p y61 a.2.1)] ⟨rfl, trivial⟩ (fun hgd => have g1_6 : (!(decide (a.1 = b.1))) = false := (by simpa using hgd); (.ld vt61)) ?_
  refine VO.rg (r := (!(decide (a.1 = b.1)))) (w := false) [(15, .v y61 a.2.1)] ⟨rfl, trivial⟩ (fun hgd => have g1_6 : (!(decide (a.1 = b.1))) = false := (by simpa using hgd); (.len el61)) ?_
  refine VO.cg (r := (!(decide (a.1 = b.1)))) (w := false) [] trivial (fun hgd => have g1_6 : (!(decide (a.1 = b.1))) = false := (by simpa using hgd); (.fa (.r (.l .o)))) ?_
  refine VO.rg (r := (!(decide (a.1 = b.1)))) (w := false) [(17, .p y61 b.2.1)] ⟨rfl, trivial⟩ (fun hgd => have g1_6 : (!(decide (a.1 = b.1))) = false := (by simpa using hgd); (.ld vt61)) ?_
  refine VO.rg (r := (!(decide (a.1 = b.1)))) (w := false) [(18, .v y61 b.2.1)] ⟨rfl, trivial⟩ (fun hgd => have g1_6 : (!(decide (a.1 = b.1))) = false := (by simpa using hgd); (.len el61)) ?_
  refine VO.cg (r := (!(decide (a.1 = b.1)))) (w := false) [(16, I ((a.2.1.length : Nat) : Int)), (19, I ((b.2.1.length : Nat) : Int))] ⟨rfl, rfl, trivial⟩ (fun hgd => have g1_6 : (!(decide (a.1 = b.1))) = false := (by simpa using hgd); (.neq)) ?_
  refine VO.c (.or) ?_
  refine VO.c (.move rfl) ?_
  refine VO.cg (r := ((!(decide (a.1 = b.1))) || (decide (((a.2.1.length : Nat) : Int) ≠ ((b.2.1.length : Nat) : Int))))) (w := false) [] trivial (fun hgd => have g1_15 : ((!(decide (a.1 = b.1))) || (decide (((a.2.1.length : Nat) : Int) ≠ ((b.2.1.length : Nat) : Int)))) = false := (by simpa using hgd); (.fa (.r (.r .o)))) ?_
  refine VO.rg (r := ((!(decide (a.1 = b.1))) || (decide (((a.2.1.length : Nat) : Int) ≠ ((b.2.1.length : Nat) : Int))))) (w := false) [(23, .p y62 a.2.2)] ⟨rfl, trivial⟩ (fun hgd => have g1_15 : ((!(decide (a.1 = b.1))) || (decide (((a.2.1.length : Nat) : Int) ≠ ((b.2.1.length : Nat) : Int)))) = false := (by simpa using hgd); (.ld vt62)) ?_
  refine VO.rg (r := ((!(decide (a.1 = b.1))) || (decide (((a.2.1.length : Nat) : Int) ≠ ((b.2.1.length : Nat) : Int))))) (w := false) [(24, .v y62 a.2.2)] ⟨rfl, trivial⟩ (fun hgd => have g1_15 : ((!(decide (a.1 = b.1))) || (decide (((a.2.1.length : Nat) : Int) ≠ ((b.2.1.length : Nat) : Int)))) = false := (by simpa using hgd); (.len el62)) ?_
  refine VO.cg (r := ((!(decide (a.1 = b.1))) || (decide (((a.2.1.length : Nat) : Int) ≠ ((b.2.1.length : Nat) : Int))))) (w := false) [] trivial (fun hgd => have g1_15 : ((!(decide (a.1 = b.1))) || (decide (((a.2.1.length : Nat) : Int) ≠ ((b.2.1.length : Nat) : Int)))) = false := (by simpa using hgd); (.fa (.r (.r .o)))) ?_
  refine VO.rg (r := ((!(decide (a.1 = b.1))) || (decide (((a.2.1.length : Nat) : Int) ≠ ((b.2.1.length : Nat) : Int))))) (w := false) [(26, .p y62 b.2.2)] ⟨rfl, trivial⟩ (fun hgd => have g1_15 : ((!(decide (a.1 = b.1))) || (decide (((a.2.1.length : Nat) : Int) ≠ ((b.2.1.length : Nat) : Int)))) = false := (by simpa using hgd); (.ld vt62)) ?_
  refine VO.rg (r := ((!(decide (a.1 = b.1))) || (decide (((a.2.1.length : Nat) : Int) ≠ ((b.2.1.length : Nat) : Int))))) (w := false) [(27, .v y62 b.2.2)] ⟨rfl, trivial⟩ (fun hgd => have g1_15 : ((!(decide (a.1 = b.1))) || (decide (((a.2.1.length : Nat) : Int) ≠ ((b.2.1.length : Nat) : Int)))) = false := (by simpa using hgd); (.len el62)) ?_
  refine VO.cg (r := ((!(decide (a.1 = b.1))) || (decide (((a.2.1.length : Nat) : Int) ≠ ((b.2.1.length : Nat) : Int))))) (w := false) [(25, I ((a.2.2.length : Nat) : Int)), (28, I ((b.2.2.length : Nat) : Int))] ⟨rfl, rfl, trivial⟩ (fun hgd => have g1_15 : ((!(decide (a.1 = b.1))) || (decide (((a.2.1.length : Nat) : Int) ≠ ((b.2.1.length : Nat) : Int)))) = false := (by simpa using hgd); (.neq)) ?_
  refine VO.c (.or) ?_
  refine VO.go ?_
  refine VC.condB rfl (fun c1 => ?_) (fun c1 => ?_)
  · try simp only [Bool.and_eq_true, Bool.or_eq_true, Bool.and_eq_false_iff, Bool.or_eq_false_iff, Bool.not_eq_true', Bool.not_eq_false', decide_eq_true_eq, decide_eq_false_iff_not] at c1
    refine VC.seq (VC.text ?_)
    refine VO.c (.assign rfl) ?_
    refine VO.go ?_
    refine VC.ret ?_
    exact VEnd.one rfl evT (pvE (by exact (sameC_f (case_n1 c1)).symm))
  try simp only [Bool.and_eq_true, Bool.or_eq_true, Bool.and_eq_false_iff, Bool.or_eq_false_iff, Bool.not_eq_true', Bool.not_eq_false', decide_eq_true_eq, decide_eq_false_iff_not] at c1
  refine VC.skip (VC.seq (VC.seq (VC.text ?_)))
  refine VO.c (.assign rfl) ?_
  refine VO.go (VC.block ?_)
  refine VC.keep [(2, .p y64 a), (3, .p y64 b), (5, I ((0 : Nat) : Int))] ⟨rfl, rfl, rfl, trivial⟩ ?_
  refine VC.loop (I := fun kk ff ss => ∃ (j : Nat), kk = a.2.1.length - j ∧ ff = [(2, .p y64 a), (3, .p y64 b), (5, I ((j : Nat) : Int))] ∧ ss = [] ∧ (j ≤ a.2.1.length) ∧ (a.1 = b.1 ∧ a.2.1.length = b.2.1.length ∧ a.2.2.length = b.2.2.length) ∧ (∀ k (h : k < a.2.1.length) (h2 : k < b.2.1.length), k < j → a.2.1[k] = b.2.1[k])) ?_ _ _ _ ⟨0, rfl, rfl, rfl, Nat.zero_le _, (by exact case_c1 c1), (by exact fun k _ _ h => absurd h (by omega))⟩
  rintro kk ff ss ⟨j, hk0, rfl, rfl, hj, hl, hi⟩
  refine VC.seq (VC.seq (VC.text ?_))
  refine VO.c (.move rfl) ?_
  refine VO.c (.fa (.r (.l .o))) ?_
  refine VO.r (.ld vt61) ?_
  refine VO.r (.len el61) ?_
  refine VO.c (.lss) ?_
  refine VO.go ?_
  refine VC.condD rfl (fun c4 => ?_) (fun c4 => ?_)
  · have hwa := ha.w _ (List.getElem_mem (show j < a.2.1.length by omega))
    have hwb := hb.w _ (List.getElem_mem (show j < b.2.1.length by omega))
    refine VC.skip (VC.seq (VC.block (VC.seq (VC.drawn ?_))))
    refine VD.c (.fa (.r (.l .o))) ?_
    refine VD.r [] (.ld vt61) (.inl rfl) ?_
    refine VD.c (.move rfl) ?_
    refine VD.c (.ix (j := j) rfl rfl el61 (by omega)) ?_
    refine VD.c (.fa (.l .o)) ?_
    refine VD.r [] (.ld vt9) (.inl rfl) ?_
    refine VD.nw [] ?_
    refine VD.c (.fa (.r (.l .o))) ?_
    refine VD.r [] (.ld vt61) (.inl rfl) ?_
    refine VD.c (.move rfl) ?_
    refine VD.c (.ix (j := j) rfl rfl el61 (by omega)) ?_
    refine VD.c (.fa (.l .o)) ?_
    refine VD.r [] (.ld vt9) (.inl rfl) ?_
    refine VD.c (.sneq) ?_
    refine VD.nw [] ?_
    refine VD.c (.move rfl) ?_
    refine VD.splitD (x := 51) rfl (fun g6_13 => ?_) (fun g6_13 => ?_)
    · refine VD.skip ?_
      refine VD.skip ?_
      refine VD.skip ?_
      refine VD.skip ?_
      refine VD.skip ?_
      refine VD.nw [] ?_
      refine VD.skip ?_
      refine VD.skip ?_
      refine VD.skip ?_
      refine VD.skip ?_
      refine VD.skip ?_
      refine VD.skip ?_
      refine VD.skip ?_
      refine VD.nw [] ?_
      refine VD.skip ?_
      refine VD.skip ?_
      refine VD.c (.pickT rfl rfl) ?_
      refine VD.go ?_
      refine VC.condT rfl ?_
      refine VC.seq ?_
      refine VC.keep [(2, .p y64 a), (3, .p y64 b), (5, I ((j : Nat) : Int))] ⟨rfl, rfl, rfl, trivial⟩ ?_
      refine VC.text ?_
      refine VO.c (.assign rfl) ?_
      refine VO.go ?_
      refine VC.ret ?_
      exact VEnd.one rfl evT (pvE (by first | exact (sameC_f (evid_ne (.inl g6_13))).symm | exact (sameC_f (evid_ne (.inr c6))).symm))
    refine VD.c (.fa (.r (.l .o))) ?_
    refine VD.r [] (.ld vt61) (.inl rfl) ?_
    refine VD.c (.move rfl) ?_
    refine VD.c (.ix (j := j) rfl rfl el61 (by omega)) ?_
    refine VD.c (.fa (.r .o)) ?_
    refine VD.nw [] ?_
    refine VD.r [] (.ld vt60) (.inl rfl) ?_
    refine VD.c (.fa (.r (.l .o))) ?_
    refine VD.r [] (.ld vt61) (.inl rfl) ?_
    refine VD.c (.move rfl) ?_
    refine VD.c (.ix (j := j) rfl rfl el61 (by omega)) ?_
    refine VD.c (.fa (.r .o)) ?_
    refine VD.r [] (.ld vt60) (.inl rfl) ?_
    refine VD.nw [] ?_
    refine VD.call rfl rfl (VF.call (rSameV_ok (by first | assumption | omega | simp) (by first | assumption | omega | simp))) ?_
    refine VD.c (.not) ?_
    refine VD.c (.pickF rfl rfl) ?_
    refine VD.go ?_
    refine VC.condB rfl (fun c6 => ?_) (fun c6 => ?_)
    · try simp only [Bool.and_eq_true, Bool.or_eq_true, Bool.and_eq_false_iff, Bool.or_eq_false_iff, Bool.not_eq_true', Bool.not_eq_false', decide_eq_true_eq, decide_eq_false_iff_not] at c6
      refine VC.seq ?_
      refine VC.keep [(2, .p y64 a), (3, .p y64 b), (5, I ((j : Nat) : Int))] ⟨rfl, rfl, rfl, trivial⟩ ?_
      refine VC.text ?_
      refine VO.c (.assign rfl) ?_
      refine VO.go ?_
      refine VC.ret ?_
      exact VEnd.one rfl evT (pvE (by first | exact (sameC_f (evid_ne (.inl g6_13))).symm | exact (sameC_f (evid_ne (.inr c6))).symm))
    try simp only [Bool.and_eq_true, Bool.or_eq_true, Bool.and_eq_false_iff, Bool.or_eq_false_iff, Bool.not_eq_true', Bool.not_eq_false', decide_eq_true_eq, decide_eq_false_iff_not] at c6
    refine VC.skip ?_
    refine VC.keep [(2, .p y64 a), (3, .p y64 b), (5, I ((j : Nat) : Int))] ⟨rfl, rfl, rfl, trivial⟩ ?_
    refine VC.text ?_
    refine VO.c (.move rfl) ?_
    refine VO.c (.add rfl rfl (by omega)) ?_
    refine VO.c (.assign rfl) ?_
    refine VO.nil ?_
    refine ⟨_, [(2, .p y64 a), (3, .p y64 b), (5, I (((j + 1) : Nat) : Int))], ?_, ⟨rfl, rfl, rfl, trivial⟩, (j + 1), rfl, rfl, rfl, (by omega), (by exact hl), (by exact evid_go hi g6_13 c6)⟩
    omega
  refine VC.exit (VC.seq (VC.seq (VC.text ?_)))
  refine VO.c (.assign rfl) ?_
  refine VO.go (VC.block ?_)
  refine VC.keep [(2, .p y64 a), (3, .p y64 b), (6, I ((0 : Nat) : Int))] ⟨rfl, rfl, rfl, trivial⟩ ?_
  refine VC.loop (I := fun kk ff ss => ∃ (m : Nat), kk = a.2.2.length - m ∧ ff = [(2, .p y64 a), (3, .p y64 b), (6, I ((m : Nat) : Int))] ∧ ss = [] ∧ (m ≤ a.2.2.length) ∧ (∀ k (h : k < a.2.2.length) (h2 : k < b.2.2.length), k < m → a.2.2[k] = b.2.2[k])) ?_ _ _ _ ⟨0, rfl, rfl, rfl, Nat.zero_le _, (by exact fun k _ _ h => absurd h (by omega))⟩
  rintro kk ff ss ⟨m, hk2, rfl, rfl, hm, hn⟩
  refine VC.seq (VC.seq (VC.text ?_))
  refine VO.c (.move rfl) ?_
  refine VO.c (.fa (.r (.r .o))) ?_
  refine VO.r (.ld vt62) ?_
  refine VO.r (.len el62) ?_
  refine VO.c (.lss) ?_
  refine VO.go ?_
  refine VC.condD rfl (fun c9 => ?_) (fun c9 => ?_)
  · have hua := ha.u _ (List.getElem_mem (show m < a.2.2.length by omega))
    have hub := hb.u _ (List.getElem_mem (show m < b.2.2.length by omega))
    refine VC.skip (VC.seq (VC.block (VC.seq (VC.drawn ?_))))
    refine VD.c (.fa (.r (.r .o))) ?_
    refine VD.r [] (.ld vt62) (.inl rfl) ?_
    refine VD.c (.move rfl) ?_
    refine VD.c (.ix (j := m) rfl rfl el62 (by omega)) ?_
    refine VD.c (.fa (.l .o)) ?_
    refine VD.r [] (.ld vt9) (.inl rfl) ?_
    refine VD.nw [] ?_
    refine VD.c (.fa (.r (.r .o))) ?_
    refine VD.r [] (.ld vt62) (.inl rfl) ?_
    refine VD.c (.move rfl) ?_
    refine VD.c (.ix (j := m) rfl rfl el62 (by omega)) ?_
    refine VD.c (.fa (.l .o)) ?_
    refine VD.r [] (.ld vt9) (.inl rfl) ?_
    refine VD.c (.sneq) ?_
    refine VD.nw [] ?_
    refine VD.c (.move rfl) ?_
    refine VD.splitD (x := 87) rfl (fun g11_13 => ?_) (fun g11_13 => ?_)
    · refine VD.skip ?_
      refine VD.skip ?_
      refine VD.skip ?_
      refine VD.skip ?_
      refine VD.skip ?_
      refine VD.nw [] ?_
      refine VD.skip ?_
      refine VD.skip ?_
      refine VD.skip ?_
      refine VD.skip ?_
      refine VD.skip ?_
      refine VD.skip ?_
      refine VD.skip ?_
      refine VD.nw [] ?_
      refine VD.skip ?_
      refine VD.c (.pickT rfl rfl) ?_
      refine VD.c (.move rfl) ?_
      refine VD.skip ?_
      refine VD.skip ?_
      refine VD.skip ?_
      refine VD.skip ?_
      refine VD.nw [] ?_
      refine VD.skip ?_
      refine VD.skip ?_
      refine VD.skip ?_
      refine VD.skip ?_
      refine VD.skip ?_
      refine VD.skip ?_
      refine VD.skip ?_
      refine VD.nw [] ?_
      refine VD.skip ?_
      refine VD.skip ?_
      refine VD.skip ?_
      refine VD.c (.pickT rfl rfl) ?_
      refine VD.go ?_
      refine VC.condT rfl ?_
      refine VC.seq ?_
      refine VC.keep [(2, .p y64 a), (3, .p y64 b), (6, I ((m : Nat) : Int))] ⟨rfl, rfl, rfl, trivial⟩ ?_
      refine VC.text ?_
      refine VO.c (.assign rfl) ?_
      refine VO.go ?_
      refine VC.ret ?_
      exact VEnd.one rfl evT (pvE (by first | exact (sameC_f (clm_ne (.inl g11_13))).symm | exact (sameC_f (clm_ne (.inr (.inl (bne_yes g11_28))))).symm | exact (sameC_f (clm_ne (.inr (.inr c11)))).symm))
    refine VD.c (.fa (.r (.r .o))) ?_
    refine VD.r [] (.ld vt62) (.inl rfl) ?_
    refine VD.c (.move rfl) ?_
    refine VD.c (.ix (j := m) rfl rfl el62 (by omega)) ?_
    refine VD.c (.fa (.r (.l .o))) ?_
    refine VD.nw [] ?_
    refine VD.r [] (.ld vt4) (.inl rfl) ?_
    refine VD.c (.fa (.r (.r .o))) ?_
    refine VD.r [] (.ld vt62) (.inl rfl) ?_
    refine VD.c (.move rfl) ?_
    refine VD.c (.ix (j := m) rfl rfl el62 (by omega)) ?_
    refine VD.c (.fa (.r (.l .o))) ?_
    refine VD.r [] (.ld vt4) (.inl rfl) ?_
    refine VD.nw [] ?_
    refine VD.c (.bneq) ?_
    refine VD.c (.pickF rfl rfl) ?_
    refine VD.c (.move rfl) ?_
    refine VD.splitB (x := 102) rfl (fun g11_28 => ?_) (fun g11_28 => ?_)
    · try simp only [Bool.and_eq_true, Bool.or_eq_true, Bool.and_eq_false_iff, Bool.or_eq_false_iff, Bool.not_eq_true', Bool.not_eq_false', decide_eq_true_eq, decide_eq_false_iff_not] at g11_28
      refine VD.skip ?_
      refine VD.skip ?_
      refine VD.skip ?_
      refine VD.nw [] ?_
      refine VD.skip ?_
      refine VD.skip ?_
      refine VD.skip ?_
      refine VD.skip ?_
      refine VD.skip ?_
      refine VD.skip ?_
      refine VD.skip ?_
      refine VD.nw [] ?_
      refine VD.skip ?_
      refine VD.skip ?_
      refine VD.skip ?_
      refine VD.skip ?_
      refine VD.c (.pickT rfl rfl) ?_
      refine VD.go ?_
      refine VC.condT rfl ?_
      refine VC.seq ?_
      refine VC.keep [(2, .p y64 a), (3, .p y64 b), (6, I ((m : Nat) : Int))] ⟨rfl, rfl, rfl, trivial⟩ ?_
      refine VC.text ?_
      refine VO.c (.assign rfl) ?_
      refine VO.go ?_
      refine VC.ret ?_
      exact VEnd.one rfl evT (pvE (by first | exact (sameC_f (clm_ne (.inl g11_13))).symm | exact (sameC_f (clm_ne (.inr (.inl (bne_yes g11_28))))).symm | exact (sameC_f (clm_ne (.inr (.inr c11)))).symm))
    try simp only [Bool.and_eq_true, Bool.or_eq_true, Bool.and_eq_false_iff, Bool.or_eq_false_iff, Bool.not_eq_true', Bool.not_eq_false', decide_eq_true_eq, decide_eq_false_iff_not] at g11_28
    refine VD.c (.fa (.r (.r .o))) ?_
    refine VD.r [] (.ld vt62) (.inl rfl) ?_
    refine VD.c (.move rfl) ?_
    refine VD.nw [] ?_
    refine VD.c (.ix (j := m) rfl rfl el62 (by omega)) ?_
    refine VD.c (.fa (.r (.r .o))) ?_
    refine VD.r [] (.ld vt27) (.inl rfl) ?_
    refine VD.c (.fa (.r (.r .o))) ?_
    refine VD.r [] (.ld vt62) (.inl rfl) ?_
    refine VD.c (.move rfl) ?_
    refine VD.c (.ix (j := m) rfl rfl el62 (by omega)) ?_
    refine VD.nw [] ?_
    refine VD.c (.fa (.r (.r .o))) ?_
    refine VD.r [] (.ld vt27) (.inl rfl) ?_
    refine VD.call rfl rfl (VF.call (rSame_ok (by first | assumption | omega | simp) (by first | assumption | omega | simp))) ?_
    refine VD.c (.not) ?_
    refine VD.c (.pickF rfl rfl) ?_
    refine VD.go ?_
    refine VC.condB rfl (fun c11 => ?_) (fun c11 => ?_)
    · try simp only [Bool.and_eq_true, Bool.or_eq_true, Bool.and_eq_false_iff, Bool.or_eq_false_iff, Bool.not_eq_true', Bool.not_eq_false', decide_eq_true_eq, decide_eq_false_iff_not] at c11
      refine VC.seq ?_
      refine VC.keep [(2, .p y64 a), (3, .p y64 b), (6, I ((m : Nat) : Int))] ⟨rfl, rfl, rfl, trivial⟩ ?_
      refine VC.text ?_
      refine VO.c (.assign rfl) ?_
      refine VO.go ?_
      refine VC.ret ?_
      exact VEnd.one rfl evT (pvE (by first | exact (sameC_f (clm_ne (.inl g11_13))).symm | exact (sameC_f (clm_ne (.inr (.inl (bne_yes g11_28))))).symm | exact (sameC_f (clm_ne (.inr (.inr c11)))).symm))
    try simp only [Bool.and_eq_true, Bool.or_eq_true, Bool.and_eq_false_iff, Bool.or_eq_false_iff, Bool.not_eq_true', Bool.not_eq_false', decide_eq_true_eq, decide_eq_false_iff_not] at c11
    refine VC.skip ?_
    refine VC.keep [(2, .p y64 a), (3, .p y64 b), (6, I ((m : Nat) : Int))] ⟨rfl, rfl, rfl, trivial⟩ ?_
    refine VC.text ?_
    refine VO.c (.move rfl) ?_
    refine VO.c (.add rfl rfl (by omega)) ?_
    refine VO.c (.assign rfl) ?_
    refine VO.nil ?_
    refine ⟨_, [(2, .p y64 a), (3, .p y64 b), (6, I (((m + 1) : Nat) : Int))], ?_, ⟨rfl, rfl, rfl, trivial⟩, (m + 1), rfl, rfl, rfl, (by omega), (by exact clm_go hn g11_13 (fun h => h (bne_no g11_28)) c11)⟩
    omega
  refine VC.exit (VC.seq (VC.text ?_))
  refine VO.c (.assign rfl) ?_
  refine VO.go ?_
  refine VC.ret ?_
  exact VEnd.one rfl evT (pvE (by exact (sameC_t (case_yes hl.1 hl.2.1 hl.2.2 (fun k h h2 => hi k h h2 (by omega)) (fun k h h2 => hn k h h2 (by omega)))).symm))
theorem lTold_ok {c : (List (ByteArray × Int)) × (List (ByteArray × (List (ByteArray × Int)))) × (List (ByteArray × Bool × (List ByteArray)))} (hc : CseOk c) : VF Tryz.prog OA 57 [.v y72 c] (.v y64 c) := by
  refine VF.enter Tryz.func57 rfl (fun _ _ => rfl) rfl ?_
  show VC _ _ _ _ _ [(0, .v y72 c)] [] _
  refine VC.seq (VC.text ?_)
  have hcv := hc.v
  have hce := hc.e
  have hcl := hc.l
  refine VO.new (.box) ?_
  refine VO.cell (.allocR (zs := [nilV, nilV, nilV]) zt64) ?_
  intro ww1
  refine VO.go (VC.seq (VC.text ?_))
  refine VO.cell (.allocR (zs := [nilV, nilV, nilV]) zt64) ?_
  intro ww2
  refine VO.go (VC.seq (VC.seq (VC.text ?_)))
  refine VO.c (.fa (.l .o)) ?_
  refine VO.r (.ld vt68) ?_
  refine VO.r (.len el68) ?_
  refine VO.c (.move rfl) ?_
  refine VO.go (VC.block ?_)
  refine VC.cell0 99 y99 ?_
  refine VC.keep [(1, .p y72 c), (2, .raw ww1), (3, .raw ww2), (14, .v y68 c.1), (15, I ((c.1.length : Nat) : Int)), (16, I ((0 : Nat) : Int))] ⟨rfl, rfl, rfl, rfl, rfl, rfl, trivial⟩ ?_
  refine VC.loop (I := fun kk ff ss => ∃ (i : Nat) (w0 : Value), kk = c.1.length - i ∧ ff = [(1, .p y72 c), (2, .raw ww1), (3, .raw ww2), (14, .v y68 c.1), (15, I ((c.1.length : Nat) : Int)), (16, I ((i : Nat) : Int))] ∧ ss = [(w0, .row 99 y99 (c.1.take i)), (ww2, .var [.raw w0, nilV, nilV]), (ww1, .var [nilV, nilV, nilV])] ∧ (i ≤ c.1.length)) ?_ _ _ _ ⟨0, (.slice none 0 0), rfl, rfl, rfl, Nat.zero_le _⟩
  rintro kk ff ss ⟨i, w0, hk0, rfl, rfl, hi⟩
  refine VC.seq (VC.text ?_)
  refine VO.c (.lss) ?_
  refine VO.go (VC.seq ?_)
  refine VC.condD rfl (fun c3 => ?_) (fun c3 => ?_)
  · refine VC.skip (VC.seq (VC.block (VC.seq (VC.text ?_))))
    refine VO.c (.ix (j := i) rfl rfl el68 (by omega)) ?_
    refine VO.r (.ld vt153) ?_
    refine VO.cell (.alloc zt153) ?_
    intro ww3
    refine VO.setV (cs' := [St ((c.1[i]).1), I ((c.1[i]).2)]) vt153 .v ?_
    refine VO.shut [(5, .p y153 (c.1[i]))] (.cons rfl (.var m0 .refl) .nil) ?_
    refine VO.go (VC.text ?_)
    refine VO.c (.faO (k := 0) m1) ?_
    refine VO.r (.ldF (k := 0) m1 vt60) ?_
    refine VO.r (.ld vt153) ?_
    refine VO.new (.lit [c.1[i]] el60) ?_
    refine VO.app rfl rfl el60 el60 (by simp; omega) ?_
    intro ww4
    refine VO.c (.faO (k := 0) m1) ?_
    refine VO.perm swap1 ?_
    refine VO.one m1 fun ho5 => ?_
    refine VO.setF (cs' := [.raw ww4, nilV, nilV]) 0 vt60 (.raw rfl (agg_one ho5) ho5) ?_
    refine VO.nil (VC.text ?_)
    refine VO.c (.add rfl rfl (by omega)) ?_
    refine VO.c (.move rfl) ?_
    refine VO.perm swap2 ?_
    refine VO.perm swap1 ?_
    refine VO.perm swap2 ?_
    refine VO.nil ?_
    refine ⟨_, [(1, .p y72 c), (2, .raw ww1), (3, .raw ww2), (14, .v y68 c.1), (15, I ((c.1.length : Nat) : Int)), (16, I (((i + 1) : Nat) : Int))], ?_, ⟨rfl, rfl, rfl, rfl, rfl, rfl, trivial⟩, (i + 1), ww4, rfl, rfl, (by rw [List.take_succ_eq_append_getElem (by omega)] <;> rfl), (by omega)⟩
    omega
  refine VC.exit (VC.seq (VC.seq (VC.text ?_)))
  refine VO.c (.fa (.r (.l .o))) ?_
  refine VO.r (.ld vt69) ?_
  refine VO.r (.len el69) ?_
  refine VO.c (.move rfl) ?_
  refine VO.go (VC.block ?_)
  refine VC.cell0 96 y96 ?_
  refine VC.keep [(1, .p y72 c), (2, .raw ww1), (3, .raw ww2), (28, .v y69 c.2.1), (29, I ((c.2.1.length : Nat) : Int)), (30, I ((0 : Nat) : Int))] ⟨rfl, rfl, rfl, rfl, rfl, rfl, trivial⟩ ?_
  refine VC.loop (I := fun kk ff ss => ∃ (j : Nat) (w1 : Value), kk = c.2.1.length - j ∧ ff = [(1, .p y72 c), (2, .raw ww1), (3, .raw ww2), (28, .v y69 c.2.1), (29, I ((c.2.1.length : Nat) : Int)), (30, I ((j : Nat) : Int))] ∧ ss = [(w1, .row 96 y96 (c.2.1.take j)), (w0, .row 99 y99 (c.1.take i)), (ww2, .var [.raw w0, .raw w1, nilV]), (ww1, .var [nilV, nilV, nilV])] ∧ (j ≤ c.2.1.length)) ?_ _ _ _ ⟨0, (.slice none 0 0), rfl, rfl, rfl, Nat.zero_le _⟩
  rintro kk ff ss ⟨j, w1, hk2, rfl, rfl, hj⟩
  refine VC.seq (VC.text ?_)
  refine VO.c (.lss) ?_
  refine VO.go (VC.seq ?_)
  refine VC.condD rfl (fun c8 => ?_) (fun c8 => ?_)
  · have hwl := hc.w _ (List.getElem_mem (show j < c.2.1.length by omega))
    refine VC.skip (VC.seq (VC.block (VC.seq (VC.text ?_))))
    refine VO.c (.ix (j := j) rfl rfl el69 (by omega)) ?_
    refine VO.r (.ld vt155) ?_
    refine VO.cell (.alloc zt155) ?_
    intro ww6
    refine VO.setV (cs' := [St ((c.2.1[j]).1), .v y68 ((c.2.1[j]).2)]) vt155 .v ?_
    refine VO.shut [(7, .p y155 (c.2.1[j]))] (.cons rfl (.var m0 .refl) .nil) ?_
    refine VO.go (VC.seq (VC.text ?_))
    refine VO.c (.fa (.l .o)) ?_
    refine VO.r (.ld vt9) ?_
    refine VO.c (.buildA (cs := [St ((c.2.1[j]).1), nilV]) bt96 rfl) ?_
    refine VO.cell (.alloc zt96) ?_
    intro ww7
    refine VO.setV (cs' := [St ((c.2.1[j]).1), nilV]) vt96 (.aggs rfl rfl) ?_
    refine VO.go (VC.seq (VC.seq (VC.text ?_)))
    refine VO.c (.fa (.r .o)) ?_
    refine VO.r (.ld vt68) ?_
    refine VO.r (.len el68) ?_
    refine VO.c (.move rfl) ?_
    refine VO.go (VC.block ?_)
    refine VC.cell0 99 y99 ?_
    refine VC.keep [(1, .p y72 c), (2, .raw ww1), (3, .raw ww2), (8, .raw ww7), (28, .v y69 c.2.1), (29, I ((c.2.1.length : Nat) : Int)), (30, I ((j : Nat) : Int)), (38, .v y68 ((c.2.1[j]).2)), (39, I ((((c.2.1[j]).2).length : Nat) : Int)), (40, I ((0 : Nat) : Int))] ⟨rfl, rfl, rfl, rfl, rfl, rfl, rfl, rfl, rfl, rfl, trivial⟩ ?_
    refine VC.loop (I := fun kk ff ss => ∃ (k : Nat) (w2 : Value), kk = (c.2.1[j]).2.length - k ∧ ff = [(1, .p y72 c), (2, .raw ww1), (3, .raw ww2), (8, .raw ww7), (28, .v y69 c.2.1), (29, I ((c.2.1.length : Nat) : Int)), (30, I ((j : Nat) : Int)), (38, .v y68 ((c.2.1[j]).2)), (39, I ((((c.2.1[j]).2).length : Nat) : Int)), (40, I ((k : Nat) : Int))] ∧ ss = [(w2, .row 99 y99 ((c.2.1[j]).2.take k)), (ww7, .var [St ((c.2.1[j]).1), .raw w2]), (w1, .row 96 y96 (c.2.1.take j)), (w0, .row 99 y99 (c.1.take i)), (ww2, .var [.raw w0, .raw w1, nilV]), (ww1, .var [nilV, nilV, nilV])] ∧ (k ≤ (c.2.1[j]).2.length)) ?_ _ _ _ ⟨0, (.slice none 0 0), rfl, rfl, rfl, (by omega)⟩
    rintro kk ff ss ⟨k, w2, hk4, rfl, rfl, hk⟩
    refine VC.seq (VC.text ?_)
    refine VO.c (.lss) ?_
    refine VO.go (VC.seq ?_)
    refine VC.condD rfl (fun c12 => ?_) (fun c12 => ?_)
    · refine VC.skip (VC.seq (VC.block (VC.seq (VC.text ?_))))
      refine VO.c (.ix (j := k) rfl rfl el68 (by omega)) ?_
      refine VO.r (.ld vt153) ?_
      refine VO.cell (.alloc zt153) ?_
      intro ww8
      refine VO.setV (cs' := [St ((((c.2.1[j]).2)[k]).1), I ((((c.2.1[j]).2)[k]).2)]) vt153 .v ?_
      refine VO.shut [(10, .p y153 (((c.2.1[j]).2)[k]))] (.cons rfl (.var m0 .refl) .nil) ?_
      refine VO.go (VC.text ?_)
      refine VO.c (.faO (k := 1) m1) ?_
      refine VO.r (.ldF (k := 1) m1 vt60) ?_
      refine VO.r (.ld vt153) ?_
      refine VO.new (.lit [((c.2.1[j]).2)[k]] el60) ?_
      refine VO.app rfl rfl el60 el60 (by simp; omega) ?_
      intro ww9
      refine VO.c (.faO (k := 1) m1) ?_
      refine VO.perm swap1 ?_
      refine VO.one m1 fun ho10 => ?_
      refine VO.setF (cs' := [St ((c.2.1[j]).1), .raw ww9]) 1 vt60 (.raw rfl (agg_one ho10) ho10) ?_
      refine VO.nil (VC.text ?_)
      refine VO.c (.add rfl rfl (by omega)) ?_
      refine VO.c (.move rfl) ?_
      refine VO.perm swap5 ?_
      refine VO.perm swap5 ?_
      refine VO.perm swap5 ?_
      refine VO.perm swap5 ?_
      refine VO.perm swap4 ?_
      refine VO.perm swap5 ?_
      refine VO.nil ?_
      refine ⟨_, [(1, .p y72 c), (2, .raw ww1), (3, .raw ww2), (8, .raw ww7), (28, .v y69 c.2.1), (29, I ((c.2.1.length : Nat) : Int)), (30, I ((j : Nat) : Int)), (38, .v y68 ((c.2.1[j]).2)), (39, I ((((c.2.1[j]).2).length : Nat) : Int)), (40, I (((k + 1) : Nat) : Int))], ?_, ⟨rfl, rfl, rfl, rfl, rfl, rfl, rfl, rfl, rfl, rfl, trivial⟩, (k + 1), ww9, rfl, rfl, (by rw [List.take_succ_eq_append_getElem (by omega)] <;> rfl), (by omega)⟩
      omega
    refine VC.exit ?_
    refine VC.perm swap1 ?_
    refine VC.perm swap1 ?_
    refine VC.shutL [(w2, .row 99 y99 ((c.2.1[j]).2.take k)), (ww7, .var [St ((c.2.1[j]).1), .raw w2])] [(8, .p y96 ((c.2.1[j]).1, ((c.2.1[j]).2.take k)))] rfl (.cons rfl (.var m1 (.cons .same (.cons (.row m0) .nil))) .nil) ?_
    refine VC.text ?_
    refine VO.c (.faO (k := 1) m2) ?_
    refine VO.r (.ldF (k := 1) m2 vt61) ?_
    refine VO.r (.ld vt96) ?_
    refine VO.new (.lit [((c.2.1[j]).1, ((c.2.1[j]).2.take k))] el61) ?_
    refine VO.app rfl rfl el61 el61 (by simp; omega) ?_
    intro ww11
    refine VO.c (.faO (k := 1) m2) ?_
    refine VO.perm swap2 ?_
    refine VO.one m1 fun ho12 => ?_
    refine VO.setF (cs' := [.raw w0, .raw ww11, nilV]) 1 vt61 (.raw rfl (agg_one ho12) ho12) ?_
    refine VO.nil (VC.text ?_)
    refine VO.c (.add rfl rfl (by omega)) ?_
    refine VO.c (.move rfl) ?_
    refine VO.perm swap3 ?_
    refine VO.perm swap1 ?_
    refine VO.perm swap3 ?_
    refine VO.perm swap3 ?_
    refine VO.nil ?_
    refine ⟨_, [(1, .p y72 c), (2, .raw ww1), (3, .raw ww2), (28, .v y69 c.2.1), (29, I ((c.2.1.length : Nat) : Int)), (30, I (((j + 1) : Nat) : Int))], ?_, ⟨rfl, rfl, rfl, rfl, rfl, rfl, trivial⟩, (j + 1), ww11, rfl, rfl, (by rw [List.take_succ_eq_append_getElem (by omega), List.take_of_length_le (i := k) (by omega)] <;> rfl), (by omega)⟩
    omega
  refine VC.exit (VC.seq (VC.seq (VC.text ?_)))
  refine VO.c (.fa (.r (.r .o))) ?_
  refine VO.r (.ld vt70) ?_
  refine VO.r (.len el70) ?_
  refine VO.c (.move rfl) ?_
  refine VO.go (VC.block ?_)
  refine VC.cell0 109 y109 ?_
  refine VC.keep [(2, .raw ww1), (3, .raw ww2), (59, .v y70 c.2.2), (60, I ((c.2.2.length : Nat) : Int)), (61, I ((0 : Nat) : Int))] ⟨rfl, rfl, rfl, rfl, rfl, trivial⟩ ?_
  refine VC.loop (I := fun kk ff ss => ∃ (m : Nat) (w3 : Value), kk = c.2.2.length - m ∧ ff = [(2, .raw ww1), (3, .raw ww2), (59, .v y70 c.2.2), (60, I ((c.2.2.length : Nat) : Int)), (61, I ((m : Nat) : Int))] ∧ ss = [(w3, .row 109 y109 (c.2.2.take m)), (w1, .row 96 y96 (c.2.1.take j)), (w0, .row 99 y99 (c.1.take i)), (ww2, .var [.raw w0, .raw w1, .raw w3]), (ww1, .var [nilV, nilV, nilV])] ∧ (m ≤ c.2.2.length)) ?_ _ _ _ ⟨0, (.slice none 0 0), rfl, rfl, rfl, Nat.zero_le _⟩
  rintro kk ff ss ⟨m, w3, hk6, rfl, rfl, hm⟩
  refine VC.seq (VC.text ?_)
  refine VO.c (.lss) ?_
  refine VO.go (VC.seq ?_)
  refine VC.condD rfl (fun c19 => ?_) (fun c19 => ?_)
  · refine VC.skip (VC.seq (VC.block (VC.seq (VC.text ?_))))
    refine VO.c (.ix (j := m) rfl rfl el70 (by omega)) ?_
    refine VO.r (.ld vt156) ?_
    refine VO.cell (.alloc zt156) ?_
    intro ww13
    refine VO.setV (cs' := [St ((c.2.2[m]).1), B ((c.2.2[m]).2.1), .v (.sl .str) ((c.2.2[m]).2.2)]) vt156 .v ?_
    refine VO.shut [(12, .p y156 (c.2.2[m]))] (.cons rfl (.var m0 .refl) .nil) ?_
    refine VO.go (VC.drawn ?_)
    refine VD.co (.faO (k := 2) m3) ?_
    refine VD.r [(w3, .row 109 y109 (c.2.2.take m)), (w1, .row 96 y96 (c.2.1.take j)), (w0, .row 99 y99 (c.1.take i)), (ww2, .var [.raw w0, .raw w1, .raw w3]), (ww1, .var [nilV, nilV, nilV])] (.ldF (k := 2) m3 vt62) (.inr ⟨rfl, rfl⟩) ?_
    refine VD.c (.fa (.l .o)) ?_
    refine VD.r [] (.ld vt9) (.inl rfl) ?_
    refine VD.c (.fa (.r (.l .o))) ?_
    refine VD.r [] (.ld vt4) (.inl rfl) ?_
    refine VD.nw [] ?_
    refine VD.c (.fa (.r (.r .o))) ?_
    refine VD.r [] (.ld vt27) (.inl rfl) ?_
    refine VD.call rfl rfl (VF.call (lWords_ok (by have := hc.u _ (List.getElem_mem (show m < c.2.2.length by omega)); omega))) ?_
    refine VD.c (.build ((c.2.2[m]).1, (c.2.2[m]).2.1, ((c.2.2[m]).2.2)) bt109) ?_
    refine VD.new (.lit [((c.2.2[m]).1, (c.2.2[m]).2.1, ((c.2.2[m]).2.2))] el62) ?_
    refine VD.mk (MakeV.app el62 el62 rfl rfl (by simp; omega)) ?_
    rintro _ _ tl14 ⟨ww14, rfl, rfl⟩
    refine VD.co (.faO (k := 2) m3) ?_
    refine VD.perm swap3 ?_
    refine VD.one m1 fun ho15 => ?_
    refine VD.mk0 (MakeV.setF (k := 2) vt62 (.raw rfl (agg_one ho15) ho15) (Nat.le_of_ble_eq_true rfl) (.inl rfl) rfl rfl) ?_
    rintro _ _ tl16 ⟨rfl, rfl⟩
    refine VD.nil ?_
    refine VC.text ?_
    refine VO.c (.add rfl rfl (by omega)) ?_
    refine VO.c (.move rfl) ?_
    refine VO.perm swap4 ?_
    refine VO.perm swap1 ?_
    refine VO.perm swap4 ?_
    refine VO.perm swap4 ?_
    refine VO.perm swap4 ?_
    refine VO.nil ?_
    refine ⟨_, [(2, .raw ww1), (3, .raw ww2), (59, .v y70 c.2.2), (60, I ((c.2.2.length : Nat) : Int)), (61, I (((m + 1) : Nat) : Int))], ?_, ⟨rfl, rfl, rfl, rfl, rfl, trivial⟩, (m + 1), ww14, rfl, rfl, (by rw [List.take_succ_eq_append_getElem (by omega)] <;> rfl), (by omega)⟩
    omega
  refine VC.exit (VC.seq ?_)
  refine VC.perm swap3 ?_
  refine VC.perm swap1 ?_
  refine VC.perm swap2 ?_
  refine VC.perm swap3 ?_
  refine VC.shutL [(w0, .row 99 y99 (c.1.take i)), (w1, .row 96 y96 (c.2.1.take j)), (w3, .row 109 y109 (c.2.2.take m)), (ww2, .var [.raw w0, .raw w1, .raw w3])] [(3, .p y64 ((c.1.take i), (c.2.1.take j), (c.2.2.take m)))] rfl (.cons rfl (.var m3 (.cons (.row m0) (.cons (.row m1) (.cons (.row m2) .nil)))) .nil) ?_
  refine VC.text ?_
  refine VO.r (.ld vt64) ?_
  refine VO.setV (cs' := [.v y60 (c.1.take i), .v y61 (c.2.1.take j), .v y62 (c.2.2.take m)]) vt64 .v ?_
  refine VO.go ?_
  refine VC.ret ?_
  exact VEnd.one rfl (.cell (x := ((c.1.take i), (c.2.1.take j), (c.2.2.take m))) rfl m0 vt64 .refl) (pvE (by rw [List.take_of_length_le (by omega), List.take_of_length_le (by omega), List.take_of_length_le (by omega)]))
end Go.Proofs
namespace Go.Proofs
open Go.Fs
set_option linter.unusedVariables false
set_option maxHeartbeats 4000000

end Go.Proofs
namespace Go.Proofs
open Go.Fs
set_option linter.unusedVariables false
set_option maxHeartbeats 4000000

theorem sFreshV_ok {c : Cse} (hc : CseOk c) (hz : caseE c = 0) : VF Tryz.prog OA 37 [.v y72 c] (.tup [.v (.sl .str) (validR c), I 0]) := by
  have h := sFresh_ok hc
  rwa [if_pos hz, validE_R hz, hz] at h
theorem sOpenV_ok {c : Cse} (hc : CseOk c) (hz : caseE c = 0) : VF Tryz.prog OA 40 [.v y72 c] (.tup [.v (.sl .str) (opnR c c.2.2.length), I 0]) := by
  have h := sOpenT_ok hc
  rwa [if_pos hz, openE_R hz, hz] at h
theorem sRenewV_ok {c : Cse} {s : ByteArray} (hc : CseOk c) (hz : caseE c = 0) (he : 0 ≤ evidE c.2.1 s) : VF Tryz.prog OA 50 [.v y72 c, St s] (.tup [.v y72 (rnwC c s), I 0]) := by
  have h := sRenew_ok (s := s) hc
  rwa [if_pos (rnw_zero hz he), rnw_zero hz he] at h
theorem sChangeV_ok {c : Cse} {s : ByteArray} {n : Int} (hc : CseOk c) (hg : chgE c s n = 0) : VF Tryz.prog OA 48 [.v y72 c, St s, I n] (.tup [.v y72 (chgC c s n), I 0]) := by
  have h := sChange_ok (s := s) (n := n) hc
  rwa [if_pos hg, hg] at h
theorem sHoldsV_ok {c : Cse} {s : ByteArray} (hc : CseOk c) (hr : rTwo c s = 0) : VF Tryz.prog OA 39 [.v y72 c, St s] (.tup [B (byR c (validR c) s), I 0]) := by
  have h := sHolds_ok (s := s) hc
  rwa [two_same, if_pos hr, holds_R (rTwo_ok hr).1, hr] at h
def lackL (c : Cse) (s : ByteArray) : List ByteArray := if lackE c s = 0 then leanF c s (validE c) (staleE c).length (staleE c) else []
theorem lackL_R {c : Cse} {s : ByteArray} (h : lackE c s = 0) : rTwo c s = 0 ∧ byR c (validR c) s = false ∧ LackP c s (lackL c s) := by
  have hr : rTwo c s = 0 := Decidable.byContradiction fun h2 => h2 (by rw [← lack_1 h2]; exact h)
  obtain ⟨hz, hn⟩ := rTwo_ok hr
  have hb : byR c (validR c) s = false := by
    rw [lack_0 hr] at h
    cases hb : byR c (validR c) s with
    | false => rfl
    | true => rw [hb] at h; cases h
  refine ⟨hr, hb, ?_⟩
  unfold lackL
  rw [if_pos h, validE_R hz]
  exact lackP hz hn
theorem lackE_bad {c : Cse} {s : ByteArray} (h : lackE c s ≠ 0) (h7 : ¬ lackE c s = 7) : lackE c s = rTwo c s := by
  by_cases hr : rTwo c s = 0
  · rw [lack_0 hr] at h h7
    cases hb : byR c (validR c) s with
    | false => rw [hb] at h; exact absurd rfl h
    | true => rw [hb] at h7; exact absurd rfl h7
  exact lack_1 hr
def skipL (l : List ByteArray) (k : Nat) : Nat → List ByteArray
  | 0 => []
  | i + 1 => if i + 1 = k then skipL l k i else skipL l k i ++ [l.getD i ByteArray.empty]
theorem skip_mem {l : List ByteArray} {k : Nat} {w : ByteArray} : ∀ i, i ≤ l.length → (w ∈ skipL l k i ↔ ∃ j, ∃ (h : j < l.length), j < i ∧ j + 1 ≠ k ∧ l[j] = w)
  | 0, _ => ⟨fun h => (by cases h), fun ⟨j, _, h, _⟩ => (by omega)⟩
  | i + 1, hi => by
    have ih := skip_mem (l := l) (k := k) (w := w) i (by omega)
    show w ∈ (if i + 1 = k then skipL l k i else skipL l k i ++ [l.getD i ByteArray.empty]) ↔ _
    split
    · rename_i he
      rw [ih]
      constructor
      · rintro ⟨j, h1, h2, h3, h4⟩; exact ⟨j, h1, by omega, h3, h4⟩
      rintro ⟨j, h1, h2, h3, h4⟩; exact ⟨j, h1, by omega, h3, h4⟩
    rename_i he
    rw [List.mem_append, ih, List.mem_singleton, getD_at (show i < l.length by omega)]
    constructor
    · rintro (⟨j, h1, h2, h3, h4⟩ | h)
      · exact ⟨j, h1, by omega, h3, h4⟩
      exact ⟨i, by omega, by omega, he, h.symm⟩
    rintro ⟨j, h1, h2, h3, h4⟩
    by_cases hj : j = i
    · subst hj; exact .inr h4.symm
    exact .inl ⟨j, h1, by omega, h3, h4⟩
def rnwK (c : Cse) (l : List ByteArray) (k i : Nat) : Cse := rnwL c (skipL l k i)
theorem rnwK_eq {c : Cse} {l : List ByteArray} {k i : Nat} (h : i + 1 = k) : rnwK c l k (i + 1) = rnwK c l k i := by
  unfold rnwK
  show rnwL c (if i + 1 = k then skipL l k i else _) = _
  rw [if_pos h]
theorem rnwK_ne {c : Cse} {l : List ByteArray} {k i : Nat} (h : ¬ i + 1 = k) (hi : i < l.length) : rnwK c l k (i + 1) = rnwC (rnwK c l k i) l[i] := by
  unfold rnwK rnwL
  show List.foldl rnwC c (if i + 1 = k then skipL l k i else skipL l k i ++ [l.getD i ByteArray.empty]) = _
  rw [if_neg h, List.foldl_append, getD_at hi] <;> rfl
theorem rnwK_ok {c : Cse} {l : List ByteArray} {k : Nat} (hz : caseE c = 0) (hc : CseOk c) (hl : ∀ w ∈ l, ∃ x ∈ c.2.1, x.1 = w) : ∀ i, i ≤ l.length → RnwL c (skipL l k i) (rnwK c l k i)
  | 0, _ => rnwL_nil hz hc
  | i + 1, hi => by
    have ih := rnwK_ok (k := k) hz hc hl i (by omega)
    by_cases he : i + 1 = k
    · rw [rnwK_eq he]
      have : skipL l k (i + 1) = skipL l k i := by show (if i + 1 = k then _ else _) = _; rw [if_pos he]
      rw [this]; exact ih
    have h2 := rnwL_step ih (hl l[i] (List.getElem_mem (by omega)))
    rw [rnwK_ne he (by omega)]
    have : skipL l k (i + 1) = skipL l k i ++ [l[i]] := by show (if i + 1 = k then _ else _) = _; rw [if_neg he, getD_at (by omega)]
    rw [this]; exact h2
theorem nodup_inj {α : Type} {l : List α} (hn : l.Nodup) {i j : Nat} {hi : i < l.length} {hj : j < l.length} (h : l[i] = l[j]) : i = j := by
  have hp := List.pairwise_iff_getElem.1 hn
  rcases Nat.lt_trichotomy i j with h1 | h1 | h1
  · exact absurd h (hp i j hi hj h1)
  · exact h1
  exact absurd h.symm (hp j i hj hi h1)
theorem rnwK_by {c : Cse} {s : ByteArray} {l : List ByteArray} {k : Nat} (hz : caseE c = 0) (hc : CseOk c) (h : LackP c s l) (hk : k ≤ l.length) : byR (rnwK c l k l.length) (validR (rnwK c l k l.length)) s = decide (k = 0) := by
  have hr := rnwK_ok (k := k) hz hc (fun w hw => (h.sub w hw).1) l.length (Nat.le_refl _)
  rw [rnwL_by hr]
  by_cases hk0 : k = 0
  · rw [decide_eq_true hk0]
    refine by_mono (fun w hw => ?_) h.by1
    rcases List.mem_append.1 hw with hw | hw
    · refine List.mem_append_left _ ((skip_mem _ (Nat.le_refl _)).2 ?_)
      obtain ⟨j, hj, rfl⟩ := List.getElem_of_mem hw
      exact ⟨j, hj, hj, by omega, rfl⟩
    exact List.mem_append_right _ hw
  rw [decide_eq_false hk0]
  have hm := h.min l[k - 1] (List.getElem_mem (by omega))
  cases hb : byR c (skipL l k l.length ++ validR c) s with
  | false => rfl
  | true =>
    have := by_mono (l' := lackW l l[k - 1] ++ validR c) (fun w hw => by
      rcases List.mem_append.1 hw with hw | hw
      · refine List.mem_append_left _ ?_
        obtain ⟨j, h1, h2, h3, rfl⟩ := (skip_mem _ (Nat.le_refl _)).1 hw
        rw [lackW_drop h.nd (show k - 1 < l.length by omega), drop_mem h.nd (by omega)]
        exact ⟨List.getElem_mem h1, fun e => by
          have := nodup_inj h.nd e
          omega⟩
      exact List.mem_append_right _ hw) hb
    rw [hm] at this; cases this
theorem claim_rTwo {c y : Cse} {s : ByteArray} (hr : rTwo c s = 0) (hz : caseE y = 0) (hcl : y.2.2 = c.2.2) : rTwo y s = 0 := by
  have hn := (rTwo_ok hr).2
  unfold rTwo
  rw [if_neg (fun h => h hz), hcl, if_neg (by omega)]
theorem chg_zero {c : Cse} {s : ByteArray} {n : Int} (hz : caseE c = 0) (ht : 0 ≤ thingE c.1 s) (h0 : 0 ≤ n) (h1 : n ≤ 999) : chgE c s n = 0 := by
  unfold chgE
  rw [hz, decide_eq_false (by omega), show rangeE n 0 999 = 0 by unfold rangeE; rw [if_neg (by omega)]]
  rfl
theorem or_out {a b c d e : Prop} (ha : ¬ a) (hb : ¬ b) (hc : ¬ c) (hd : ¬ d) (he : ¬ e) (h : (((a ∨ b) ∨ c) ∨ d) ∨ e) : False := by
  rcases h with (((h | h) | h) | h) | h
  · exact ha h
  · exact hb h
  · exact hc h
  · exact hd h
  exact he h
theorem law7_ok {c : (List (ByteArray × Int)) × (List (ByteArray × (List (ByteArray × Int)))) × (List (ByteArray × Bool × (List ByteArray)))} {s : ByteArray} {t : ByteArray} : VF Tryz.prog OA 9 [.v y64 c, St s, St t] (B true) := by
  refine VF.enter Tryz.func9 rfl (fun _ _ => rfl) rfl ?_
  show VC _ _ _ _ _ [(0, .v y64 c), (1, St s), (2, St t)] [] _
  refine VC.seq (VC.text ?_)
  refine VO.new (.box) ?_
  refine VO.c (.assign rfl) ?_
  refine VO.go (VC.seq (VC.seq (VC.text ?_)))
  refine VO.r (.ld vt64) ?_
  refine VO.call rfl rfl (VF.call (rShortC_ok )) ?_
  refine VO.c (.not) ?_
  refine VO.c (.move rfl) ?_
  refine VO.cg (r := (!(shortC c))) (w := false) [] trivial (fun hgd => have g1_3 : (!(shortC c)) = false := (by simpa using hgd); (.move rfl)) ?_
  refine VO.rg (r := (!(shortC c))) (w := false) [(41, St s)] ⟨rfl, trivial⟩ (fun hgd => have g1_3 : (!(shortC c)) = false := (by simpa using hgd); (.lenS)) ?_
  refine VO.cg (r := (!(shortC c))) (w := false) [(42, I ((s.size : Nat) : Int))] ⟨rfl, trivial⟩ (fun hgd => have g1_3 : (!(shortC c)) = false := (by simpa using hgd); (.gtr)) ?_
  refine VO.c (.or) ?_
  refine VO.c (.move rfl) ?_
  refine VO.cg (r := ((!(shortC c)) || (decide ((60 : Int) < ((s.size : Nat) : Int))))) (w := false) [] trivial (fun hgd => have g1_8 : ((!(shortC c)) || (decide ((60 : Int) < ((s.size : Nat) : Int)))) = false := (by simpa using hgd); (.move rfl)) ?_
  refine VO.rg (r := ((!(shortC c)) || (decide ((60 : Int) < ((s.size : Nat) : Int))))) (w := false) [(46, St t)] ⟨rfl, trivial⟩ (fun hgd => have g1_8 : ((!(shortC c)) || (decide ((60 : Int) < ((s.size : Nat) : Int)))) = false := (by simpa using hgd); (.lenS)) ?_
  refine VO.cg (r := ((!(shortC c)) || (decide ((60 : Int) < ((s.size : Nat) : Int))))) (w := false) [(47, I ((t.size : Nat) : Int))] ⟨rfl, trivial⟩ (fun hgd => have g1_8 : ((!(shortC c)) || (decide ((60 : Int) < ((s.size : Nat) : Int)))) = false := (by simpa using hgd); (.gtr)) ?_
  refine VO.c (.or) ?_
  refine VO.c (.move rfl) ?_
  refine VO.rg (r := (((!(shortC c)) || (decide ((60 : Int) < ((s.size : Nat) : Int)))) || (decide ((60 : Int) < ((t.size : Nat) : Int))))) (w := false) [] trivial (fun hgd => have g1_13 : (((!(shortC c)) || (decide ((60 : Int) < ((s.size : Nat) : Int)))) || (decide ((60 : Int) < ((t.size : Nat) : Int)))) = false := (by simpa using hgd); (.ld vt64)) ?_
  refine VO.callg (r0 := (((!(shortC c)) || (decide ((60 : Int) < ((s.size : Nat) : Int)))) || (decide ((60 : Int) < ((t.size : Nat) : Int))))) (w := false) [(51, .v y64 c)] ⟨rfl, trivial⟩ rfl rfl .same .refl rfl (fun hgd => have g1_13 : (((!(shortC c)) || (decide ((60 : Int) < ((s.size : Nat) : Int)))) || (decide ((60 : Int) < ((t.size : Nat) : Int)))) = false := (by simpa using hgd); VF.call (rCase_ok (shortC_ok (by cases hsc : shortC c with | true => rfl | false => rw [hsc] at g1_13; cases g1_13)))) ?_
  refine VO.cg (r := (((!(shortC c)) || (decide ((60 : Int) < ((s.size : Nat) : Int)))) || (decide ((60 : Int) < ((t.size : Nat) : Int))))) (w := false) [(52, I (caseE c))] ⟨rfl, trivial⟩ (fun hgd => have g1_13 : (((!(shortC c)) || (decide ((60 : Int) < ((s.size : Nat) : Int)))) || (decide ((60 : Int) < ((t.size : Nat) : Int)))) = false := (by simpa using hgd); (.neq)) ?_
  refine VO.c (.or) ?_
  refine VO.go ?_
  refine VC.condB rfl (fun c1 => ?_) (fun c1 => ?_)
  · try simp only [Bool.and_eq_true, Bool.or_eq_true, Bool.and_eq_false_iff, Bool.or_eq_false_iff, Bool.not_eq_true', Bool.not_eq_false', decide_eq_true_eq, decide_eq_false_iff_not] at c1
    refine VC.seq (VC.text ?_)
    refine VO.call rfl rfl (VF.call (awakeC_ok )) ?_
    refine VO.c (.assign rfl) ?_
    refine VO.go ?_
    refine VC.ret ?_
    exact VEnd.one rfl evT (pvE (by rfl))
  try simp only [Bool.and_eq_true, Bool.or_eq_true, Bool.and_eq_false_iff, Bool.or_eq_false_iff, Bool.not_eq_true', Bool.not_eq_false', decide_eq_true_eq, decide_eq_false_iff_not] at c1
  have hc := shortC_ok c1.1.1.1
  have hcv := hc.v
  have hz : caseE c = 0 := Classical.not_not.1 c1.2
  have hcl := hc.l
  have hce := hc.e
  have hvl := validR_len (c := c)
  have hor := opnR_len (c := c) (i := c.2.2.length)
  refine VC.skip (VC.seq (VC.text ?_))
  refine VO.r (.ld vt64) ?_
  refine VO.call rfl rfl (VF.call (lGiven_ok (by first | assumption | omega | simp))) ?_
  refine VO.call rfl rfl (VF.call (sFreshV_ok (by first | assumption | omega | simp) (by first | assumption | omega | simp))) ?_
  refine VO.c (.move rfl) ?_
  refine VO.c (.extract) ?_
  refine VO.c (.extract) ?_
  refine VO.c (.assign rfl) ?_
  refine VO.c (.assign rfl) ?_
  refine VO.go (VC.seq (VC.seq (VC.text ?_)))
  refine VO.c (.move rfl) ?_
  refine VO.c (.neq) ?_
  refine VO.go ?_
  refine VC.condD rfl (fun c4 => ?_) (fun c4 => ?_)
  · exact absurd rfl c4
  refine VC.skip (VC.seq (VC.seq (VC.text ?_)))
  refine VO.c (.fa (.r (.l .o))) ?_
  refine VO.r (.ld vt61) ?_
  refine VO.r (.len el61) ?_
  refine VO.c (.move rfl) ?_
  refine VO.go (VC.block ?_)
  refine VC.keep [(1, St s), (2, St t), (3, .p y64 c), (7, .v (.sl .str) (validR c)), (65, .v y61 c.2.1), (66, I ((c.2.1.length : Nat) : Int)), (67, I ((0 : Nat) : Int))] ⟨rfl, rfl, rfl, rfl, rfl, rfl, rfl, trivial⟩ ?_
  refine VC.loop (I := fun kk ff ss => ∃ (j : Nat), kk = c.2.1.length - j ∧ ff = [(1, St s), (2, St t), (3, .p y64 c), (7, .v (.sl .str) (validR c)), (65, .v y61 c.2.1), (66, I ((c.2.1.length : Nat) : Int)), (67, I ((j : Nat) : Int))] ∧ ss = [] ∧ (j ≤ c.2.1.length)) ?_ _ _ _ ⟨0, rfl, rfl, rfl, Nat.zero_le _⟩
  rintro kk ff ss ⟨j, hk0, rfl, rfl, hj⟩
  refine VC.seq (VC.text ?_)
  refine VO.c (.lss) ?_
  refine VO.go (VC.seq ?_)
  refine VC.condD rfl (fun c7 => ?_) (fun c7 => ?_)
  · have hjl : j < c.2.1.length := by omega
    have he : 0 ≤ evidE c.2.1 c.2.1[j].1 := evid_in.2 ⟨_, List.getElem_mem hjl, rfl⟩
    have hy := rnw_ok hc he
    have hyz := rnw_case hz he
    have hvy := validR_len (c := rnwC c c.2.1[j].1)
    have hly := rnw_len (c := c) (s := c.2.1[j].1)
    have hoy := opnR_len (c := rnwC c c.2.1[j].1) (i := (rnwC c c.2.1[j].1).2.2.length)
    have hyh : hasB (validR (rnwC c c.2.1[j].1)) c.2.1[j].1 = true := has_in.2 ((rnw_validR hz he).2 (.inr rfl))
    have hmr := rnw_more hz he
    have hoy2 : (rnwC c c.2.1[j].1).2.2.length = c.2.2.length := rfl
    refine VC.skip (VC.seq (VC.block (VC.seq (VC.text ?_))))
    refine VO.c (.ix (j := j) rfl rfl el61 (by omega)) ?_
    refine VO.r (.ld vt96) ?_
    refine VO.cell (.alloc zt96) ?_
    intro ww1
    refine VO.setV (cs' := [St ((c.2.1[j]).1), .v y60 ((c.2.1[j]).2)]) vt96 .v ?_
    refine VO.shut [(10, .p y96 (c.2.1[j]))] (.cons rfl (.var m0 .refl) .nil) ?_
    refine VO.go (VC.seq (VC.drawn ?_))
    refine VD.r [] (.ld vt64) (.inl rfl) ?_
    refine VD.call rfl rfl (VF.call (lGiven_ok (by first | assumption | omega | simp))) ?_
    refine VD.c (.fa (.l .o)) ?_
    refine VD.r [] (.ld vt9) (.inl rfl) ?_
    refine VD.callO rfl rfl (VF.call (sRenewV_ok (by first | assumption | omega | simp) (by first | assumption | omega | simp) (by first | assumption | omega | simp))) ?_
    refine VD.c (.move rfl) ?_
    refine VD.nw [71, 76, 73] ?_
    refine VD.c (.extract) ?_
    refine VD.c (.extract) ?_
    refine VD.cell (.alloc zt72) ?_
    intro ww2
    refine VD.mk0 (MakeV.setF (k := 0) vt72 .v (Nat.le_of_ble_eq_true rfl) (.inr ⟨rfl, rfl⟩) rfl rfl) ?_
    rintro _ _ tl3 ⟨rfl, rfl⟩
    refine VD.c (.assign rfl) ?_
    refine VD.go (VC.seq (VC.seq ?_))
    refine VC.shutL [(ww2, .var [.v y68 ((rnwC c ((c.2.1[j]).1)).1), .v y69 ((rnwC c ((c.2.1[j]).1)).2.1), .v y70 ((rnwC c ((c.2.1[j]).1)).2.2)])] [(11, .p y72 (rnwC c c.2.1[j].1))] rfl (.cons rfl (.var m0 .refl) .nil) ?_
    refine VC.text ?_
    refine VO.c (.move rfl) ?_
    refine VO.c (.neq) ?_
    refine VO.c (.move rfl) ?_
    refine VO.splitD (x := 81) rfl (fun g10_2 => ?_) (fun g10_2 => ?_)
    · exact absurd rfl g10_2
    refine VO.r (.ld vt72) ?_
    refine VO.call rfl rfl (VF.call (lTold_ok (by first | assumption | omega | simp))) ?_
    refine VO.call rfl rfl (VF.call (rCase_ok (by first | assumption | omega | simp))) ?_
    refine VO.c (.neq) ?_
    refine VO.c (.pickF rfl rfl) ?_
    refine VO.go ?_
    refine VC.condD rfl (fun c10 => ?_) (fun c10 => ?_)
    · exact absurd hyz c10
    refine VC.skip (VC.seq (VC.text ?_))
    refine VO.r (.ld vt72) ?_
    refine VO.call rfl rfl (VF.call (lTold_ok (by first | assumption | omega | simp))) ?_
    refine VO.call rfl rfl (VF.call (lGiven_ok (by first | assumption | omega | simp))) ?_
    refine VO.call rfl rfl (VF.call (sFreshV_ok (by first | assumption | omega | simp) (by first | assumption | omega | simp))) ?_
    refine VO.c (.move rfl) ?_
    refine VO.c (.extract) ?_
    refine VO.c (.extract) ?_
    refine VO.c (.assign rfl) ?_
    refine VO.c (.assign rfl) ?_
    refine VO.go (VC.seq ?_)
    refine VC.keep [(1, St s), (2, St t), (3, .p y64 c), (7, .v (.sl .str) (validR c)), (10, .p y96 (c.2.1[j])), (11, .p y72 (rnwC c c.2.1[j].1)), (13, .v (.sl .str) (validR (rnwC c c.2.1[j].1))), (14, I 0), (65, .v y61 c.2.1), (66, I ((c.2.1.length : Nat) : Int)), (67, I ((j : Nat) : Int))] ⟨rfl, rfl, rfl, rfl, rfl, rfl, rfl, rfl, rfl, rfl, rfl, trivial⟩ ?_
    refine VC.text ?_
    refine VO.r (.ld vt72) ?_
    refine VO.call rfl rfl (VF.call (lTold_ok (by first | assumption | omega | simp))) ?_
    refine VO.call rfl rfl (VF.call (lGiven_ok (by first | assumption | omega | simp))) ?_
    refine VO.call rfl rfl (VF.call (sOpenV_ok (by first | assumption | omega | simp) (by first | assumption | omega | simp))) ?_
    refine VO.c (.move rfl) ?_
    refine VO.c (.extract) ?_
    refine VO.c (.extract) ?_
    refine VO.c (.assign rfl) ?_
    refine VO.c (.assign rfl) ?_
    refine VO.go (VC.seq (VC.text ?_))
    refine VO.r (.ld vt64) ?_
    refine VO.call rfl rfl (VF.call (lGiven_ok (by first | assumption | omega | simp))) ?_
    refine VO.call rfl rfl (VF.call (sOpenV_ok (by first | assumption | omega | simp) (by first | assumption | omega | simp))) ?_
    refine VO.c (.move rfl) ?_
    refine VO.c (.extract) ?_
    refine VO.c (.extract) ?_
    refine VO.c (.assign rfl) ?_
    refine VO.c (.assign rfl) ?_
    refine VO.go (VC.seq (VC.seq (VC.text ?_)))
    refine VO.c (.move rfl) ?_
    refine VO.c (.neq) ?_
    refine VO.c (.move rfl) ?_
    refine VO.cg (r := decide (0 ≠ (0 : Int))) (w := false) [] trivial (fun hgd => have g15_2 : ¬ (0 ≠ (0 : Int)) := (by simpa using hgd); (.move rfl)) ?_
    refine VO.cg (r := decide (0 ≠ (0 : Int))) (w := false) [(110, I 0)] ⟨rfl, trivial⟩ (fun hgd => have g15_2 : ¬ (0 ≠ (0 : Int)) := (by simpa using hgd); (.neq)) ?_
    refine VO.c (.or) ?_
    refine VO.c (.move rfl) ?_
    refine VO.cg (r := ((decide (0 ≠ (0 : Int))) || (decide (0 ≠ (0 : Int))))) (w := false) [] trivial (fun hgd => have g15_6 : ((decide (0 ≠ (0 : Int))) || (decide (0 ≠ (0 : Int)))) = false := (by simpa using hgd); (.move rfl)) ?_
    refine VO.cg (r := ((decide (0 ≠ (0 : Int))) || (decide (0 ≠ (0 : Int))))) (w := false) [(114, I 0)] ⟨rfl, trivial⟩ (fun hgd => have g15_6 : ((decide (0 ≠ (0 : Int))) || (decide (0 ≠ (0 : Int)))) = false := (by simpa using hgd); (.neq)) ?_
    refine VO.c (.or) ?_
    refine VO.c (.move rfl) ?_
    refine VO.cg (r := (((decide (0 ≠ (0 : Int))) || (decide (0 ≠ (0 : Int)))) || (decide (0 ≠ (0 : Int))))) (w := false) [] trivial (fun hgd => have g15_10 : (((decide (0 ≠ (0 : Int))) || (decide (0 ≠ (0 : Int)))) || (decide (0 ≠ (0 : Int)))) = false := (by simpa using hgd); (.move rfl)) ?_
    refine VO.cg (r := (((decide (0 ≠ (0 : Int))) || (decide (0 ≠ (0 : Int)))) || (decide (0 ≠ (0 : Int))))) (w := false) [] trivial (fun hgd => have g15_10 : (((decide (0 ≠ (0 : Int))) || (decide (0 ≠ (0 : Int)))) || (decide (0 ≠ (0 : Int)))) = false := (by simpa using hgd); (.fa (.l .o))) ?_
    refine VO.rg (r := (((decide (0 ≠ (0 : Int))) || (decide (0 ≠ (0 : Int)))) || (decide (0 ≠ (0 : Int))))) (w := false) [(119, .p .str ((c.2.1[j]).1))] ⟨rfl, trivial⟩ (fun hgd => have g15_10 : (((decide (0 ≠ (0 : Int))) || (decide (0 ≠ (0 : Int)))) || (decide (0 ≠ (0 : Int)))) = false := (by simpa using hgd); (.ld vt9)) ?_
    refine VO.callg (r0 := (((decide (0 ≠ (0 : Int))) || (decide (0 ≠ (0 : Int)))) || (decide (0 ≠ (0 : Int))))) (w := false) [(118, .v (.sl .str) (validR (rnwC c c.2.1[j].1))), (120, St ((c.2.1[j]).1))] ⟨rfl, rfl, trivial⟩ rfl rfl .same .refl rfl (fun hgd => have g15_10 : (((decide (0 ≠ (0 : Int))) || (decide (0 ≠ (0 : Int)))) || (decide (0 ≠ (0 : Int)))) = false := (by simpa using hgd); VF.call (rHas_ok (by first | assumption | omega | simp))) ?_
    refine VO.cg (r := (((decide (0 ≠ (0 : Int))) || (decide (0 ≠ (0 : Int)))) || (decide (0 ≠ (0 : Int))))) (w := false) [(121, B (hasB (validR (rnwC c c.2.1[j].1)) ((c.2.1[j]).1)))] ⟨rfl, trivial⟩ (fun hgd => have g15_10 : (((decide (0 ≠ (0 : Int))) || (decide (0 ≠ (0 : Int)))) || (decide (0 ≠ (0 : Int)))) = false := (by simpa using hgd); (.not)) ?_
    refine VO.c (.or) ?_
    refine VO.c (.move rfl) ?_
    refine VO.cg (r := ((((decide (0 ≠ (0 : Int))) || (decide (0 ≠ (0 : Int)))) || (decide (0 ≠ (0 : Int)))) || (!(hasB (validR (rnwC c c.2.1[j].1)) ((c.2.1[j]).1))))) (w := false) [] trivial (fun hgd => have g15_17 : ((((decide (0 ≠ (0 : Int))) || (decide (0 ≠ (0 : Int)))) || (decide (0 ≠ (0 : Int)))) || (!(hasB (validR (rnwC c c.2.1[j].1)) ((c.2.1[j]).1)))) = false := (by simpa using hgd); (.move rfl)) ?_
    refine VO.rg (r := ((((decide (0 ≠ (0 : Int))) || (decide (0 ≠ (0 : Int)))) || (decide (0 ≠ (0 : Int)))) || (!(hasB (validR (rnwC c c.2.1[j].1)) ((c.2.1[j]).1))))) (w := false) [(125, .v (.sl .str) (validR (rnwC c c.2.1[j].1)))] ⟨rfl, trivial⟩ (fun hgd => have g15_17 : ((((decide (0 ≠ (0 : Int))) || (decide (0 ≠ (0 : Int)))) || (decide (0 ≠ (0 : Int)))) || (!(hasB (validR (rnwC c c.2.1[j].1)) ((c.2.1[j]).1)))) = false := (by simpa using hgd); (.len el27)) ?_
    refine VO.cg (r := ((((decide (0 ≠ (0 : Int))) || (decide (0 ≠ (0 : Int)))) || (decide (0 ≠ (0 : Int)))) || (!(hasB (validR (rnwC c c.2.1[j].1)) ((c.2.1[j]).1))))) (w := false) [] trivial (fun hgd => have g15_17 : ((((decide (0 ≠ (0 : Int))) || (decide (0 ≠ (0 : Int)))) || (decide (0 ≠ (0 : Int)))) || (!(hasB (validR (rnwC c c.2.1[j].1)) ((c.2.1[j]).1)))) = false := (by simpa using hgd); (.move rfl)) ?_
    refine VO.rg (r := ((((decide (0 ≠ (0 : Int))) || (decide (0 ≠ (0 : Int)))) || (decide (0 ≠ (0 : Int)))) || (!(hasB (validR (rnwC c c.2.1[j].1)) ((c.2.1[j]).1))))) (w := false) [(127, .v (.sl .str) (validR c))] ⟨rfl, trivial⟩ (fun hgd => have g15_17 : ((((decide (0 ≠ (0 : Int))) || (decide (0 ≠ (0 : Int)))) || (decide (0 ≠ (0 : Int)))) || (!(hasB (validR (rnwC c c.2.1[j].1)) ((c.2.1[j]).1)))) = false := (by simpa using hgd); (.len el27)) ?_
    refine VO.cg (r := ((((decide (0 ≠ (0 : Int))) || (decide (0 ≠ (0 : Int)))) || (decide (0 ≠ (0 : Int)))) || (!(hasB (validR (rnwC c c.2.1[j].1)) ((c.2.1[j]).1))))) (w := false) [(126, I (((validR (rnwC c c.2.1[j].1)).length : Nat) : Int)), (128, I (((validR c).length : Nat) : Int))] ⟨rfl, rfl, trivial⟩ (fun hgd => have g15_17 : ((((decide (0 ≠ (0 : Int))) || (decide (0 ≠ (0 : Int)))) || (decide (0 ≠ (0 : Int)))) || (!(hasB (validR (rnwC c c.2.1[j].1)) ((c.2.1[j]).1)))) = false := (by simpa using hgd); (.lss)) ?_
    refine VO.c (.or) ?_
    refine VO.go ?_
    refine VC.condB rfl (fun c15 => ?_) (fun c15 => ?_)
    · try simp only [Bool.and_eq_true, Bool.or_eq_true, Bool.and_eq_false_iff, Bool.or_eq_false_iff, Bool.not_eq_true', Bool.not_eq_false', decide_eq_true_eq, decide_eq_false_iff_not] at c15
      exact (or_out (fun h => h rfl) (fun h => h rfl) (fun h => h rfl) (by rw [hyh]; decide) (by omega) c15).elim
    try simp only [Bool.and_eq_true, Bool.or_eq_true, Bool.and_eq_false_iff, Bool.or_eq_false_iff, Bool.not_eq_true', Bool.not_eq_false', decide_eq_true_eq, decide_eq_false_iff_not] at c15
    refine VC.skip (VC.seq (VC.text ?_))
    refine VO.c (.move rfl) ?_
    refine VO.r (.len el27) ?_
    refine VO.c (.move rfl) ?_
    refine VO.go (VC.block ?_)
    refine VC.keep [(1, St s), (2, St t), (3, .p y64 c), (7, .v (.sl .str) (validR c)), (17, .v (.sl .str) (opnR c c.2.2.length)), (65, .v y61 c.2.1), (66, I ((c.2.1.length : Nat) : Int)), (67, I ((j : Nat) : Int)), (131, .v (.sl .str) (opnR (rnwC c c.2.1[j].1) (rnwC c c.2.1[j].1).2.2.length)), (132, I (((opnR (rnwC c c.2.1[j].1) (rnwC c c.2.1[j].1).2.2.length).length : Nat) : Int)), (133, I ((0 : Nat) : Int))] ⟨rfl, rfl, rfl, rfl, rfl, rfl, rfl, rfl, rfl, rfl, rfl, trivial⟩ ?_
    refine VC.loop (I := fun kk ff ss => ∃ (m : Nat), kk = (opnR (rnwC c c.2.1[j].1) (rnwC c c.2.1[j].1).2.2.length).length - m ∧ ff = [(1, St s), (2, St t), (3, .p y64 c), (7, .v (.sl .str) (validR c)), (17, .v (.sl .str) (opnR c c.2.2.length)), (65, .v y61 c.2.1), (66, I ((c.2.1.length : Nat) : Int)), (67, I ((j : Nat) : Int)), (131, .v (.sl .str) (opnR (rnwC c c.2.1[j].1) (rnwC c c.2.1[j].1).2.2.length)), (132, I (((opnR (rnwC c c.2.1[j].1) (rnwC c c.2.1[j].1).2.2.length).length : Nat) : Int)), (133, I ((m : Nat) : Int))] ∧ ss = [] ∧ (m ≤ (opnR (rnwC c c.2.1[j].1) (rnwC c c.2.1[j].1).2.2.length).length)) ?_ _ _ _ ⟨0, rfl, rfl, rfl, (by omega)⟩
    rintro kk ff ss ⟨m, hk2, rfl, rfl, hm⟩
    refine VC.seq (VC.text ?_)
    refine VO.c (.lss) ?_
    refine VO.go (VC.seq ?_)
    refine VC.condD rfl (fun c18 => ?_) (fun c18 => ?_)
    · refine VC.skip (VC.seq (VC.block (VC.seq (VC.text ?_))))
      refine VO.c (.ix (j := m) rfl rfl el27 (by omega)) ?_
      refine VO.r (.ld vt9) ?_
      refine VO.c (.assign rfl) ?_
      refine VO.go (VC.seq (VC.text ?_))
      refine VO.c (.move rfl) ?_
      refine VO.c (.move rfl) ?_
      refine VO.call rfl rfl (VF.call (rHas_ok (by first | assumption | omega | simp))) ?_
      refine VO.c (.not) ?_
      refine VO.go ?_
      refine VC.condB rfl (fun c20 => ?_) (fun c20 => ?_)
      · try simp only [Bool.and_eq_true, Bool.or_eq_true, Bool.and_eq_false_iff, Bool.or_eq_false_iff, Bool.not_eq_true', Bool.not_eq_false', decide_eq_true_eq, decide_eq_false_iff_not] at c20
        exact absurd (has_in.2 (rnw_open hz he (List.getElem_mem _))) (by rw [c20]; decide)
      try simp only [Bool.and_eq_true, Bool.or_eq_true, Bool.and_eq_false_iff, Bool.or_eq_false_iff, Bool.not_eq_true', Bool.not_eq_false', decide_eq_true_eq, decide_eq_false_iff_not] at c20
      refine VC.skip (VC.text ?_)
      refine VO.c (.add rfl rfl (by omega)) ?_
      refine VO.c (.move rfl) ?_
      refine VO.nil ?_
      refine ⟨_, [(1, St s), (2, St t), (3, .p y64 c), (7, .v (.sl .str) (validR c)), (17, .v (.sl .str) (opnR c c.2.2.length)), (65, .v y61 c.2.1), (66, I ((c.2.1.length : Nat) : Int)), (67, I ((j : Nat) : Int)), (131, .v (.sl .str) (opnR (rnwC c c.2.1[j].1) (rnwC c c.2.1[j].1).2.2.length)), (132, I (((opnR (rnwC c c.2.1[j].1) (rnwC c c.2.1[j].1).2.2.length).length : Nat) : Int)), (133, I (((m + 1) : Nat) : Int))], ?_, ⟨rfl, rfl, rfl, rfl, rfl, rfl, rfl, rfl, rfl, rfl, rfl, trivial⟩, (m + 1), rfl, rfl, rfl, (by omega)⟩
      omega
    refine VC.exit (VC.text ?_)
    refine VO.c (.add rfl rfl (by omega)) ?_
    refine VO.c (.move rfl) ?_
    refine VO.nil ?_
    refine ⟨_, [(1, St s), (2, St t), (3, .p y64 c), (7, .v (.sl .str) (validR c)), (65, .v y61 c.2.1), (66, I ((c.2.1.length : Nat) : Int)), (67, I (((j + 1) : Nat) : Int))], ?_, ⟨rfl, rfl, rfl, rfl, rfl, rfl, rfl, trivial⟩, (j + 1), rfl, rfl, rfl, (by omega)⟩
    omega
  refine VC.exit (VC.seq (VC.seq (VC.text ?_)))
  refine VO.c (.fa (.l .o)) ?_
  refine VO.r (.ld vt60) ?_
  refine VO.r (.len el60) ?_
  refine VO.c (.move rfl) ?_
  refine VO.go (VC.block ?_)
  refine VC.keep [(1, St s), (2, St t), (3, .p y64 c), (7, .v (.sl .str) (validR c)), (144, .v y60 c.1), (145, I ((c.1.length : Nat) : Int)), (146, I ((0 : Nat) : Int))] ⟨rfl, rfl, rfl, rfl, rfl, rfl, rfl, trivial⟩ ?_
  refine VC.loop (I := fun kk ff ss => ∃ (i : Nat), kk = c.1.length - i ∧ ff = [(1, St s), (2, St t), (3, .p y64 c), (7, .v (.sl .str) (validR c)), (144, .v y60 c.1), (145, I ((c.1.length : Nat) : Int)), (146, I ((i : Nat) : Int))] ∧ ss = [] ∧ (i ≤ c.1.length)) ?_ _ _ _ ⟨0, rfl, rfl, rfl, Nat.zero_le _⟩
  rintro kk ff ss ⟨i, hk4, rfl, rfl, hi⟩
  refine VC.seq (VC.text ?_)
  refine VO.c (.lss) ?_
  refine VO.go (VC.seq ?_)
  refine VC.condD rfl (fun c25 => ?_) (fun c25 => ?_)
  · refine VC.skip (VC.seq (VC.block (VC.seq (VC.text ?_))))
    refine VO.c (.ix (j := i) rfl rfl el60 (by omega)) ?_
    refine VO.r (.ld vt99) ?_
    refine VO.cell (.alloc zt99) ?_
    intro ww4
    refine VO.setV (cs' := [St ((c.1[i]).1), I ((c.1[i]).2)]) vt99 .v ?_
    refine VO.shut [(22, .p y99 (c.1[i]))] (.cons rfl (.var m0 .refl) .nil) ?_
    refine VO.go (VC.seq (VC.seq (VC.text ?_)))
    refine VO.c (.fa (.l .o)) ?_
    refine VO.r (.ld vt9) ?_
    refine VO.c (.move rfl) ?_
    refine VO.c (.sneq) ?_
    refine VO.go ?_
    refine VC.condD rfl (fun c27 => ?_) (fun c27 => ?_)
    · refine VC.exit (VC.text ?_)
      refine VO.c (.add rfl rfl (by omega)) ?_
      refine VO.c (.move rfl) ?_
      refine VO.nil ?_
      refine ⟨_, [(1, St s), (2, St t), (3, .p y64 c), (7, .v (.sl .str) (validR c)), (144, .v y60 c.1), (145, I ((c.1.length : Nat) : Int)), (146, I (((i + 1) : Nat) : Int))], ?_, ⟨rfl, rfl, rfl, rfl, rfl, rfl, rfl, trivial⟩, (i + 1), rfl, rfl, rfl, (by omega)⟩
      omega
    have hil : i < c.1.length := by omega
    have hct : c.1[i].1 = t := Classical.not_not.1 c27
    have hnum := vers_num (case_known hz).1 hil
    have hft := vers_first (case_known hz).1 hil
    have ht0 : 0 ≤ thingE c.1 t := by rw [← hct, hft]; omega
    have hg1 : chgE c t (999 - c.1[i].2) = 0 := chg_zero hz ht0 (by omega) (by omega)
    have hq1 := chg_ok (s := t) (n := 999 - c.1[i].2) hc
    have hg2 : chgE (chgC c t (999 - c.1[i].2)) t c.1[i].2 = 0 := chg_zero (chg_case hg1) (by rw [chg_thing ht0]; exact ht0) hnum.1 hnum.2
    have hq2 := chg_ok (s := t) (n := c.1[i].2) hq1
    have hbk : chgC (chgC c t (999 - c.1[i].2)) t c.1[i].2 = c := chg_back (case_known hz).1 hil hct rfl
    refine VC.skip (VC.seq (VC.drawn ?_))
    refine VD.r [] (.ld vt64) (.inl rfl) ?_
    refine VD.call rfl rfl (VF.call (lGiven_ok (by first | assumption | omega | simp))) ?_
    refine VD.c (.move rfl) ?_
    refine VD.c (.fa (.r .o)) ?_
    refine VD.r [] (.ld vt3) (.inl rfl) ?_
    refine VD.c (.sub rfl rfl (by omega)) ?_
    refine VD.nw [156] ?_
    refine VD.callO rfl rfl (VF.call (sChangeV_ok (by first | assumption | omega | simp) (by first | assumption | omega | simp))) ?_
    refine VD.c (.move rfl) ?_
    refine VD.c (.extract) ?_
    refine VD.c (.extract) ?_
    refine VD.cell (.alloc zt72) ?_
    intro ww5
    refine VD.mk0 (MakeV.setF (k := 0) vt72 .v (Nat.le_of_ble_eq_true rfl) (.inr ⟨rfl, rfl⟩) rfl rfl) ?_
    rintro _ _ tl6 ⟨rfl, rfl⟩
    refine VD.c (.assign rfl) ?_
    refine VD.go (VC.seq ?_)
    refine VC.shutL [(ww5, .var [.v y68 ((chgC c t ((999 : Int) - (c.1[i]).2)).1), .v y69 ((chgC c t ((999 : Int) - (c.1[i]).2)).2.1), .v y70 ((chgC c t ((999 : Int) - (c.1[i]).2)).2.2)])] [(23, .p y72 (chgC c t (999 - c.1[i].2)))] rfl (.cons rfl (.var m0 .refl) .nil) ?_
    refine VC.drawn ?_
    refine VD.r [] (.ld vt72) (.inl rfl) ?_
    refine VD.call rfl rfl (VF.call (lTold_ok (by first | assumption | omega | simp))) ?_
    refine VD.callO rfl rfl (VF.call (lGiven_ok (by first | assumption | omega | simp))) ?_
    refine VD.c (.move rfl) ?_
    refine VD.c (.fa (.r .o)) ?_
    refine VD.r [] (.ld vt3) (.inl rfl) ?_
    refine VD.nw [167, 166] ?_
    refine VD.callO rfl rfl (VF.call (sChangeV_ok (by first | assumption | omega | simp) (by first | assumption | omega | simp))) ?_
    refine VD.c (.move rfl) ?_
    refine VD.c (.extract) ?_
    refine VD.c (.extract) ?_
    refine VD.cell (.alloc zt72) ?_
    intro ww7
    refine VD.mk0 (MakeV.setF (k := 0) vt72 .v (Nat.le_of_ble_eq_true rfl) (.inr ⟨rfl, rfl⟩) rfl rfl) ?_
    rintro _ _ tl8 ⟨rfl, rfl⟩
    refine VD.c (.assign rfl) ?_
    refine VD.go (VC.seq ?_)
    refine VC.shutL [(ww7, .var [.v y68 ((chgC (chgC c t (999 - c.1[i].2)) t ((c.1[i]).2)).1), .v y69 ((chgC (chgC c t (999 - c.1[i].2)) t ((c.1[i]).2)).2.1), .v y70 ((chgC (chgC c t (999 - c.1[i].2)) t ((c.1[i]).2)).2.2)])] [(25, .p y72 (chgC (chgC c t (999 - c.1[i].2)) t c.1[i].2))] rfl (.cons rfl (.var m0 .refl) .nil) ?_
    refine VC.keep [(1, St s), (2, St t), (3, .p y64 c), (7, .v (.sl .str) (validR c)), (24, I 0), (25, .p y72 (chgC (chgC c t (999 - c.1[i].2)) t c.1[i].2)), (26, I 0), (144, .v y60 c.1), (145, I ((c.1.length : Nat) : Int)), (146, I ((i : Nat) : Int))] ⟨rfl, rfl, rfl, rfl, rfl, rfl, rfl, rfl, rfl, rfl, trivial⟩ ?_
    refine VC.drawn ?_
    refine VD.c (.move rfl) ?_
    refine VD.c (.neq) ?_
    refine VD.c (.move rfl) ?_
    refine VD.splitD (x := 176) rfl (fun g30_2 => ?_) (fun g30_2 => ?_)
    · exact absurd rfl g30_2
    refine VD.c (.move rfl) ?_
    refine VD.c (.neq) ?_
    refine VD.nw [] ?_
    refine VD.c (.pickF rfl rfl) ?_
    refine VD.c (.move rfl) ?_
    refine VD.splitD (x := 180) rfl (fun g30_6 => ?_) (fun g30_6 => ?_)
    · exact absurd rfl g30_6
    refine VD.r [] (.ld vt72) (.inl rfl) ?_
    refine VD.call rfl rfl (VF.call (lTold_ok (by first | assumption | omega | simp))) ?_
    refine VD.r [] (.ld vt64) (.inl rfl) ?_
    refine VD.callO rfl rfl (VF.call (rSameC_ok (by first | assumption | omega | simp) (by first | assumption | omega | simp))) ?_
    refine VD.nw [182] ?_
    refine VD.c (.not) ?_
    refine VD.c (.pickF rfl rfl) ?_
    refine VD.go ?_
    refine VC.condB rfl (fun c30 => ?_) (fun c30 => ?_)
    · try simp only [Bool.and_eq_true, Bool.or_eq_true, Bool.and_eq_false_iff, Bool.or_eq_false_iff, Bool.not_eq_true', Bool.not_eq_false', decide_eq_true_eq, decide_eq_false_iff_not] at c30
      exact absurd (sameC_t hbk) (by rw [c30]; decide)
    try simp only [Bool.and_eq_true, Bool.or_eq_true, Bool.and_eq_false_iff, Bool.or_eq_false_iff, Bool.not_eq_true', Bool.not_eq_false', decide_eq_true_eq, decide_eq_false_iff_not] at c30
    refine VC.skip (VC.text ?_)
    refine VO.c (.add rfl rfl (by omega)) ?_
    refine VO.c (.move rfl) ?_
    refine VO.nil ?_
    refine ⟨_, [(1, St s), (2, St t), (3, .p y64 c), (7, .v (.sl .str) (validR c)), (144, .v y60 c.1), (145, I ((c.1.length : Nat) : Int)), (146, I (((i + 1) : Nat) : Int))], ?_, ⟨rfl, rfl, rfl, rfl, rfl, rfl, rfl, trivial⟩, (i + 1), rfl, rfl, rfl, (by omega)⟩
    omega
  refine VC.exit (VC.seq (VC.text ?_))
  refine VO.r (.ld vt64) ?_
  refine VO.call rfl rfl (VF.call (lGiven_ok (by first | assumption | omega | simp))) ?_
  refine VO.c (.move rfl) ?_
  refine VO.call rfl rfl (VF.call (sLacks_ok (by first | assumption | omega | simp))) ?_
  refine VO.c (.move rfl) ?_
  refine VO.c (.extract) ?_
  refine VO.c (.extract) ?_
  refine VO.c (.assign rfl) ?_
  refine VO.c (.assign rfl) ?_
  refine VO.go (VC.seq (VC.seq (VC.text ?_)))
  refine VO.c (.move rfl) ?_
  refine VO.c (.neq) ?_
  refine VO.go ?_
  refine VC.condD rfl (fun c34 => ?_) (fun c34 => ?_)
  · refine VC.seq (VC.text ?_)
    refine VO.c (.move rfl) ?_
    refine VO.c (.eql) ?_
    refine VO.c (.move rfl) ?_
    refine VO.cg (r := decide (lackE c s = (7 : Int))) (w := false) [] trivial (fun hgd => have g35_2 : ¬ (lackE c s = (7 : Int)) := (by simpa using hgd); (.move rfl)) ?_
    refine VO.rg (r := decide (lackE c s = (7 : Int))) (w := false) [] trivial (fun hgd => have g35_2 : ¬ (lackE c s = (7 : Int)) := (by simpa using hgd); (.ld vt64)) ?_
    refine VO.cg (r := decide (lackE c s = (7 : Int))) (w := false) [] trivial (fun hgd => have g35_2 : ¬ (lackE c s = (7 : Int)) := (by simpa using hgd); (.move rfl)) ?_
    refine VO.callg (r0 := decide (lackE c s = (7 : Int))) (w := false) [(201, .v y64 c), (202, St s)] ⟨rfl, rfl, trivial⟩ rfl rfl .same .refl rfl (fun hgd => have g35_2 : ¬ (lackE c s = (7 : Int)) := (by simpa using hgd); VF.call (rCheckClaim_ok (by first | assumption | omega | simp))) ?_
    refine VO.cg (r := decide (lackE c s = (7 : Int))) (w := false) [(200, I (lackE c s)), (203, I (rTwo c s))] ⟨rfl, rfl, trivial⟩ (fun hgd => have g35_2 : ¬ (lackE c s = (7 : Int)) := (by simpa using hgd); (.eql)) ?_
    refine VO.c (.or) ?_
    refine VO.c (.move rfl) ?_
    refine VO.callg (r0 := ((decide (lackE c s = (7 : Int))) || (decide (lackE c s = rTwo c s)))) (w := true) [] trivial rfl rfl .same .refl rfl (fun hgd => have g35_9 : ((decide (lackE c s = (7 : Int))) || (decide (lackE c s = rTwo c s))) = true := (by simpa using hgd); VF.call (awakeC_ok )) ?_
    refine VO.c (.and) ?_
    refine VO.c (.assign rfl) ?_
    refine VO.go ?_
    refine VC.ret ?_
    exact VEnd.one rfl evT (pvE (by rcases Decidable.em (lackE c s = 7) with h7 | h7 <;> first | (rw [decide_eq_true h7]; rfl) | (rw [decide_eq_true (lackE_bad c34 h7), Bool.or_true]; rfl)))
  have hL0 : lackE c s = 0 := Classical.not_not.1 c34
  obtain ⟨hr, hb, hL⟩ := lackL_R hL0
  have hLn := lack_ne hL hb
  have hLl := hL.len
  have hLp : 0 < (lackL c s).length := List.length_pos_iff.2 hLn
  refine VC.skip (VC.seq (VC.seq (VC.text ?_)))
  refine VO.c (.move rfl) ?_
  refine VO.r (.len el27) ?_
  refine VO.c (.eql) ?_
  refine VO.c (.move rfl) ?_
  refine VO.cg (r := decide ((((lackL c s).length : Nat) : Int) = (0 : Int))) (w := false) [] trivial (fun hgd => have g36_3 : ¬ ((((lackL c s).length : Nat) : Int) = (0 : Int)) := (by simpa using hgd); (.move rfl)) ?_
  refine VO.rg (r := decide ((((lackL c s).length : Nat) : Int) = (0 : Int))) (w := false) [(213, .v (.sl .str) (lackL c s))] ⟨rfl, trivial⟩ (fun hgd => have g36_3 : ¬ ((((lackL c s).length : Nat) : Int) = (0 : Int)) := (by simpa using hgd); (.len el27)) ?_
  refine VO.cg (r := decide ((((lackL c s).length : Nat) : Int) = (0 : Int))) (w := false) [] trivial (fun hgd => have g36_3 : ¬ ((((lackL c s).length : Nat) : Int) = (0 : Int)) := (by simpa using hgd); (.fa (.r (.l .o)))) ?_
  refine VO.rg (r := decide ((((lackL c s).length : Nat) : Int) = (0 : Int))) (w := false) [(215, .p y61 c.2.1)] ⟨rfl, trivial⟩ (fun hgd => have g36_3 : ¬ ((((lackL c s).length : Nat) : Int) = (0 : Int)) := (by simpa using hgd); (.ld vt61)) ?_
  refine VO.rg (r := decide ((((lackL c s).length : Nat) : Int) = (0 : Int))) (w := false) [(216, .v y61 c.2.1)] ⟨rfl, trivial⟩ (fun hgd => have g36_3 : ¬ ((((lackL c s).length : Nat) : Int) = (0 : Int)) := (by simpa using hgd); (.len el61)) ?_
  refine VO.cg (r := decide ((((lackL c s).length : Nat) : Int) = (0 : Int))) (w := false) [(214, I (((lackL c s).length : Nat) : Int)), (217, I ((c.2.1.length : Nat) : Int))] ⟨rfl, rfl, trivial⟩ (fun hgd => have g36_3 : ¬ ((((lackL c s).length : Nat) : Int) = (0 : Int)) := (by simpa using hgd); (.gtr)) ?_
  refine VO.c (.or) ?_
  refine VO.go ?_
  refine VC.condB rfl (fun c36 => ?_) (fun c36 => ?_)
  · try simp only [Bool.and_eq_true, Bool.or_eq_true, Bool.and_eq_false_iff, Bool.or_eq_false_iff, Bool.not_eq_true', Bool.not_eq_false', decide_eq_true_eq, decide_eq_false_iff_not] at c36
    exact c36.elim (fun (h : (((lackL c s).length : Nat) : Int) = 0) => absurd hLp (by omega)) (fun (h : ((c.2.1.length : Nat) : Int) < (((lackL c s).length : Nat) : Int)) => absurd hLl (by omega))
  try simp only [Bool.and_eq_true, Bool.or_eq_true, Bool.and_eq_false_iff, Bool.or_eq_false_iff, Bool.not_eq_true', Bool.not_eq_false', decide_eq_true_eq, decide_eq_false_iff_not] at c36
  refine VC.skip (VC.seq (VC.seq (VC.text ?_)))
  refine VO.c (.assign rfl) ?_
  refine VO.go (VC.block ?_)
  refine VC.keep [(1, St s), (3, .p y64 c), (7, .v (.sl .str) (validR c)), (27, .v (.sl .str) (lackL c s)), (29, I (((0 : Nat) : Int) - 1))] ⟨rfl, rfl, rfl, rfl, slI rfl (by rfl), trivial⟩ ?_
  refine VC.loop (I := fun kk ff ss => ∃ (k : Nat), kk = (lackL c s).length + 1 - k ∧ ff = [(1, St s), (3, .p y64 c), (7, .v (.sl .str) (validR c)), (27, .v (.sl .str) (lackL c s)), (29, I (((k : Nat) : Int) - 1))] ∧ ss = [] ∧ (k ≤ (lackL c s).length + 1)) ?_ _ _ _ ⟨0, rfl, rfl, rfl, (by omega)⟩
  rintro kk ff ss ⟨k, hk6, rfl, rfl, hk⟩
  refine VC.seq (VC.seq (VC.text ?_))
  refine VO.c (.move rfl) ?_
  refine VO.c (.move rfl) ?_
  refine VO.r (.len el27) ?_
  refine VO.c (.lss) ?_
  refine VO.go ?_
  refine VC.condD rfl (fun c39 => ?_) (fun c39 => ?_)
  · have hkl : k ≤ (lackL c s).length := by omega
    refine VC.skip (VC.seq (VC.block (VC.seq (VC.text ?_))))
    refine VO.r (.ld vt64) ?_
    refine VO.call rfl rfl (VF.call (lGiven_ok (by first | assumption | omega | simp))) ?_
    refine VO.cell (.alloc zt72) ?_
    intro ww9
    refine VO.setV (cs' := [.v y68 c.1, .v y69 c.2.1, .v y70 c.2.2]) vt72 .v ?_
    refine VO.go (VC.seq (VC.seq (VC.text ?_)))
    refine VO.c (.move rfl) ?_
    refine VO.r (.len el27) ?_
    refine VO.c (.move rfl) ?_
    refine VO.go (VC.block ?_)
    refine VC.keep [(1, St s), (3, .p y64 c), (7, .v (.sl .str) (validR c)), (27, .v (.sl .str) (lackL c s)), (29, I (((k : Nat) : Int) - 1)), (30, .raw ww9), (228, .v (.sl .str) (lackL c s)), (229, I (((lackL c s).length : Nat) : Int)), (230, I ((0 : Nat) : Int))] ⟨rfl, rfl, rfl, rfl, rfl, rfl, rfl, rfl, rfl, trivial⟩ ?_
    refine VC.loop (I := fun kk ff ss => ∃ (p : Nat), kk = (lackL c s).length - p ∧ ff = [(1, St s), (3, .p y64 c), (7, .v (.sl .str) (validR c)), (27, .v (.sl .str) (lackL c s)), (29, I (((k : Nat) : Int) - 1)), (30, .raw ww9), (228, .v (.sl .str) (lackL c s)), (229, I (((lackL c s).length : Nat) : Int)), (230, I ((p : Nat) : Int))] ∧ ss = [(ww9, .var [.v y68 ((rnwK c (lackL c s) k p).1), .v y69 ((rnwK c (lackL c s) k p).2.1), .v y70 ((rnwK c (lackL c s) k p).2.2)])] ∧ (p ≤ (lackL c s).length)) ?_ _ _ _ ⟨0, rfl, rfl, rfl, (by omega)⟩
    rintro kk ff ss ⟨p, hk8, rfl, rfl, hp⟩
    refine VC.seq (VC.text ?_)
    refine VO.c (.lss) ?_
    refine VO.go (VC.seq ?_)
    refine VC.condD rfl (fun c43 => ?_) (fun c43 => ?_)
    · have hpl : p < (lackL c s).length := by omega
      have hR := rnwK_ok (k := k) hz hc (fun w hw => (hL.sub w hw).1) p (by omega)
      have hRo := hR.ok
      have hRz := hR.z
      have hRe : 0 ≤ evidE (rnwK c (lackL c s) k p).2.1 (lackL c s)[p] := rnwL_has hR (hL.sub _ (List.getElem_mem hpl)).1
      refine VC.skip (VC.seq (VC.block (VC.seq (VC.text ?_))))
      refine VO.c (.move rfl) ?_
      refine VO.c (.ix (j := p) rfl rfl el27 (by omega)) ?_
      refine VO.r (.ld vt9) ?_
      refine VO.c (.assign rfl) ?_
      refine VO.c (.assign rfl) ?_
      refine VO.go (VC.seq (VC.seq (VC.text ?_)))
      refine VO.c (.move rfl) ?_
      refine VO.c (.move rfl) ?_
      refine VO.c (.eql) ?_
      refine VO.go ?_
      refine VC.condD rfl (fun c45 => ?_) (fun c45 => ?_)
      · refine VC.exit (VC.text ?_)
        refine VO.c (.add rfl rfl (by omega)) ?_
        refine VO.c (.move rfl) ?_
        refine VO.nil ?_
        refine ⟨_, [(1, St s), (3, .p y64 c), (7, .v (.sl .str) (validR c)), (27, .v (.sl .str) (lackL c s)), (29, I (((k : Nat) : Int) - 1)), (30, .raw ww9), (228, .v (.sl .str) (lackL c s)), (229, I (((lackL c s).length : Nat) : Int)), (230, I (((p + 1) : Nat) : Int))], ?_, ⟨rfl, rfl, rfl, rfl, rfl, rfl, rfl, rfl, rfl, trivial⟩, (p + 1), rfl, rfl, (by first | (rw [rnwK_eq (show p + 1 = k by omega)]) | (rw [rnwK_ne (show ¬ p + 1 = k by omega) (by omega)] <;> rfl)), (by omega)⟩
        omega
      refine VC.skip (VC.seq (VC.text ?_))
      refine VO.r (.ldA (dx := (((rnwK c (lackL c s) k p).1), ((rnwK c (lackL c s) k p).2.1), ((rnwK c (lackL c s) k p).2.2))) m0 vt72) ?_
      refine VO.call rfl rfl (VF.call (lTold_ok (by first | assumption | omega | simp))) ?_
      refine VO.call rfl rfl (VF.call (lGiven_ok (by first | assumption | omega | simp))) ?_
      refine VO.c (.move rfl) ?_
      refine VO.call rfl rfl (VF.call (sRenewV_ok (by first | assumption | omega | simp) (by first | assumption | omega | simp) (by first | assumption | omega | simp))) ?_
      refine VO.c (.move rfl) ?_
      refine VO.c (.extract) ?_
      refine VO.c (.extract) ?_
      refine VO.cell (.alloc zt72) ?_
      intro ww10
      refine VO.setV (cs' := [.v y68 ((rnwC (((rnwK c (lackL c s) k p).1), ((rnwK c (lackL c s) k p).2.1), ((rnwK c (lackL c s) k p).2.2)) ((lackL c s)[p])).1), .v y69 ((rnwC (((rnwK c (lackL c s) k p).1), ((rnwK c (lackL c s) k p).2.1), ((rnwK c (lackL c s) k p).2.2)) ((lackL c s)[p])).2.1), .v y70 ((rnwC (((rnwK c (lackL c s) k p).1), ((rnwK c (lackL c s) k p).2.1), ((rnwK c (lackL c s) k p).2.2)) ((lackL c s)[p])).2.2)]) vt72 .v ?_
      refine VO.shut [(33, .p y72 (rnwC (((rnwK c (lackL c s) k p).1), ((rnwK c (lackL c s) k p).2.1), ((rnwK c (lackL c s) k p).2.2)) ((lackL c s)[p])))] (.cons rfl (.var m0 .refl) .nil) ?_
      refine VO.c (.assign rfl) ?_
      refine VO.go (VC.seq (VC.seq (VC.text ?_)))
      refine VO.c (.move rfl) ?_
      refine VO.c (.neq) ?_
      refine VO.c (.move rfl) ?_
      refine VO.cg (r := decide (0 ≠ (0 : Int))) (w := false) [] trivial (fun hgd => have g47_2 : ¬ (0 ≠ (0 : Int)) := (by simpa using hgd); (.move rfl)) ?_
      refine VO.cg (r := decide (0 ≠ (0 : Int))) (w := false) [] trivial (fun hgd => have g47_2 : ¬ (0 ≠ (0 : Int)) := (by simpa using hgd); (.move rfl)) ?_
      refine VO.callg (r0 := decide (0 ≠ (0 : Int))) (w := false) [(249, .v (.sl .str) (validR c)), (250, St ((lackL c s)[p]))] ⟨rfl, rfl, trivial⟩ rfl rfl .same .refl rfl (fun hgd => have g47_2 : ¬ (0 ≠ (0 : Int)) := (by simpa using hgd); VF.call (rHas_ok (by first | assumption | omega | simp))) ?_
      refine VO.c (.or) ?_
      refine VO.go ?_
      refine VC.condB rfl (fun c47 => ?_) (fun c47 => ?_)
      · try simp only [Bool.and_eq_true, Bool.or_eq_true, Bool.and_eq_false_iff, Bool.or_eq_false_iff, Bool.not_eq_true', Bool.not_eq_false', decide_eq_true_eq, decide_eq_false_iff_not] at c47
        exact c47.elim (fun h => absurd rfl h) (fun h => absurd (has_in.1 h) (hL.sub _ (List.getElem_mem hpl)).2)
      try simp only [Bool.and_eq_true, Bool.or_eq_true, Bool.and_eq_false_iff, Bool.or_eq_false_iff, Bool.not_eq_true', Bool.not_eq_false', decide_eq_true_eq, decide_eq_false_iff_not] at c47
      refine VC.skip (VC.text ?_)
      refine VO.r (.ld vt72) ?_
      refine VO.setV (cs' := [.v y68 ((rnwC (((rnwK c (lackL c s) k p).1), ((rnwK c (lackL c s) k p).2.1), ((rnwK c (lackL c s) k p).2.2)) ((lackL c s)[p])).1), .v y69 ((rnwC (((rnwK c (lackL c s) k p).1), ((rnwK c (lackL c s) k p).2.1), ((rnwK c (lackL c s) k p).2.2)) ((lackL c s)[p])).2.1), .v y70 ((rnwC (((rnwK c (lackL c s) k p).1), ((rnwK c (lackL c s) k p).2.1), ((rnwK c (lackL c s) k p).2.2)) ((lackL c s)[p])).2.2)]) vt72 .v ?_
      refine VO.nil (VC.text ?_)
      refine VO.c (.add rfl rfl (by omega)) ?_
      refine VO.c (.move rfl) ?_
      refine VO.nil ?_
      refine ⟨_, [(1, St s), (3, .p y64 c), (7, .v (.sl .str) (validR c)), (27, .v (.sl .str) (lackL c s)), (29, I (((k : Nat) : Int) - 1)), (30, .raw ww9), (228, .v (.sl .str) (lackL c s)), (229, I (((lackL c s).length : Nat) : Int)), (230, I (((p + 1) : Nat) : Int))], ?_, ⟨rfl, rfl, rfl, rfl, rfl, rfl, rfl, rfl, rfl, trivial⟩, (p + 1), rfl, rfl, (by first | (rw [rnwK_eq (show p + 1 = k by omega)]) | (rw [rnwK_ne (show ¬ p + 1 = k by omega) (by omega)] <;> rfl)), (by omega)⟩
      omega
    have hpe : p = (lackL c s).length := by omega
    have hR := rnwK_ok (k := k) hz hc (fun w hw => (hL.sub w hw).1) p hp
    have hRo := hR.ok
    have hRz := hR.z
    have hRr := claim_rTwo hr hRz hR.cl
    have hRb : byR (rnwK c (lackL c s) k p) (validR (rnwK c (lackL c s) k p)) s = decide (k = 0) := by rw [hpe]; exact rnwK_by hz hc hL hkl
    have hRd : decide ((((k : Nat) : Int) - 1) < (0 : Int)) = decide (k = 0) := by rw [Bool.eq_iff_iff, decide_eq_true_eq, decide_eq_true_eq]; omega
    refine VC.exit (VC.seq ?_)
    refine VC.shutL [(ww9, .var [.v y68 ((rnwK c (lackL c s) k p).1), .v y69 ((rnwK c (lackL c s) k p).2.1), .v y70 ((rnwK c (lackL c s) k p).2.2)])] [(30, .p y72 (rnwK c (lackL c s) k p))] rfl (.cons rfl (.var m0 .refl) .nil) ?_
    refine VC.text ?_
    refine VO.r (.ld vt72) ?_
    refine VO.call rfl rfl (VF.call (lTold_ok (by first | assumption | omega | simp))) ?_
    refine VO.call rfl rfl (VF.call (lGiven_ok (by first | assumption | omega | simp))) ?_
    refine VO.c (.move rfl) ?_
    refine VO.call rfl rfl (VF.call (sHoldsV_ok (by first | assumption | omega | simp) (by first | assumption | omega | simp))) ?_
    refine VO.c (.move rfl) ?_
    refine VO.c (.extract) ?_
    refine VO.c (.extract) ?_
    refine VO.c (.assign rfl) ?_
    refine VO.c (.assign rfl) ?_
    refine VO.go (VC.seq (VC.text ?_))
    refine VO.c (.move rfl) ?_
    refine VO.c (.neq) ?_
    refine VO.c (.move rfl) ?_
    refine VO.cg (r := decide (0 ≠ (0 : Int))) (w := false) [] trivial (fun hgd => have g52_2 : ¬ (0 ≠ (0 : Int)) := (by simpa using hgd); (.move rfl)) ?_
    refine VO.cg (r := decide (0 ≠ (0 : Int))) (w := false) [] trivial (fun hgd => have g52_2 : ¬ (0 ≠ (0 : Int)) := (by simpa using hgd); (.move rfl)) ?_
    refine VO.cg (r := decide (0 ≠ (0 : Int))) (w := false) [(267, I (((k : Nat) : Int) - 1))] ⟨rfl, trivial⟩ (fun hgd => have g52_2 : ¬ (0 ≠ (0 : Int)) := (by simpa using hgd); (.lss)) ?_
    refine VO.cg (r := decide (0 ≠ (0 : Int))) (w := false) [(266, B (byR (rnwK c (lackL c s) k p) (validR (rnwK c (lackL c s) k p)) s)), (268, D ((((k : Nat) : Int) - 1) < (0 : Int)))] ⟨rfl, rfl, trivial⟩ (fun hgd => have g52_2 : ¬ (0 ≠ (0 : Int)) := (by simpa using hgd); (.bneq)) ?_
    refine VO.c (.or) ?_
    refine VO.go ?_
    refine VC.condB rfl (fun c52 => ?_) (fun c52 => ?_)
    · try simp only [Bool.and_eq_true, Bool.or_eq_true, Bool.and_eq_false_iff, Bool.or_eq_false_iff, Bool.not_eq_true', Bool.not_eq_false', decide_eq_true_eq, decide_eq_false_iff_not] at c52
      exact c52.elim (fun h => absurd rfl h) (fun h => absurd (hRb.trans hRd.symm) (bne_yes h))
    try simp only [Bool.and_eq_true, Bool.or_eq_true, Bool.and_eq_false_iff, Bool.or_eq_false_iff, Bool.not_eq_true', Bool.not_eq_false', decide_eq_true_eq, decide_eq_false_iff_not] at c52
    refine VC.skip (VC.text ?_)
    refine VO.c (.move rfl) ?_
    refine VO.c (.add rfl rfl (by omega)) ?_
    refine VO.c (.assign rfl) ?_
    refine VO.nil ?_
    refine ⟨_, [(1, St s), (3, .p y64 c), (7, .v (.sl .str) (validR c)), (27, .v (.sl .str) (lackL c s)), (29, I ((((k + 1) : Nat) : Int) - 1))], ?_, ⟨rfl, rfl, rfl, rfl, slI rfl (by omega), trivial⟩, (k + 1), rfl, rfl, rfl, (by omega)⟩
    omega
  refine VC.exit (VC.seq (VC.text ?_))
  refine VO.call rfl rfl (VF.call (awakeC_ok )) ?_
  refine VO.c (.assign rfl) ?_
  refine VO.go ?_
  refine VC.ret ?_
  exact VEnd.one rfl evT (pvE (by rfl))
end Go.Proofs
namespace Go.Fs
open Go.RowKit (Below)
variable {P : Program}
def orcB (fi fj fc : FuncId) (T : TypeId) : FuncId → List Value → Heap → Option (Value × Heap) := fun f xs h =>
  bif Nat.beq f fc then
    match xs with
    | [.pointer (some ⟨b, 0, none⟩)] =>
      match h.get b with
      | some (.row e [p, v] true false) =>
        bif Nat.beq e T then
          match p with
          | .pointer none => some (.tuple #[], h.set b (.row e [.pointer (some ⟨b, 0, none⟩), v] true false))
          | .pointer (some ⟨b', 0, none⟩) => bif Nat.beq b' b then some (.tuple #[], h) else none
          | _ => none
        else none
      | _ => none
    | _ => none
  else orcS fi fj f xs h
theorem orcB_sound {B : Nat} {w0 : World} {fi fj fc : FuncId} {T : TypeId} (hS : CallSound P B w0 (orcS fi fj)) (hc : Enters P fc)
    (hF : ∀ (b : Nat) (w : World), w.cell? ⟨b, 0, none⟩ = some (.pointer none) → w.shape? b = some (T, 2) → w.frozen? ⟨b, 0, none⟩ = false →
      Calls P fc #[.pointer (some ⟨b, 0, none⟩)] w fun e w' => e = .returned (.tuple #[]) ∧ w' = w.setCell ⟨b, 0, none⟩ (.pointer (some ⟨b, 0, none⟩)))
    (hU : ∀ (b : Nat) (w : World), w.cell? ⟨b, 0, none⟩ = some (.pointer (some ⟨b, 0, none⟩)) → Calls P fc #[.pointer (some ⟨b, 0, none⟩)] w fun e w' => e = .returned (.tuple #[]) ∧ w' = w) :
    CallSound P B w0 (orcB fi fj fc T) := by
  intro f xs h v h' hf
  unfold orcB at hf
  cases hb : Nat.beq f fc with
  | false =>
    rw [hb] at hf
    exact hS f xs h v h' hf
  | true =>
    have := nbeq hb
    subst this
    rw [hb] at hf
    simp only [cond_true] at hf
    split at hf
    · rename_i b
      split at hf
      · rename_i e p u hg
        obtain ⟨he, hf2⟩ := bif_some hf
        obtain rfl := nbeq he
        refine ⟨hc, fun ρ S w args' hr ha nn => ?_⟩
        obtain ⟨hsb, cur, k1, k2, k3, k4, k5, k6, k7⟩ := hr.objs b _ hg
        have hcl : cur.length = 2 := (k6 rfl).symm
        match cur, hcl with
        | [p', u'], _ =>
        have hp : VR ρ S p p' := k7 0 (by simp)
        have hu : VR ρ S u u' := k7 1 (by simp)
        have hat : (ρ b).at 0 = ⟨(ρ b).block, 0, none⟩ := by unfold Loc.at; rw [k2]
        have harg : args' = [.pointer (some ⟨(ρ b).block, 0, none⟩)] := by
          have h1 := ha.1
          match args', h1 with
          | [a], _ =>
            have h2 : VR ρ S (.pointer (some ⟨b, 0, none⟩)) a := ha.2 0 (by simp)
            rw [h2.ptr_inv.2, hat]
        subst harg
        have hcell : w.cell? ⟨(ρ b).block, 0, none⟩ = some p' := by simp [World.cell?, k1]
        split at hf2
        · simp only [Option.some.injEq, Prod.mk.injEq] at hf2
          obtain ⟨rfl, rfl⟩ := hf2
          obtain rfl := hp.eq_of_af0 rfl
          have hC : CallsIn Fence.wide nn P f #[.pointer (some ⟨(ρ b).block, 0, none⟩)] w _ := callsIn_wide.2 (hF (ρ b).block w hcell (by simp [World.shape?, k1]) (by simp [World.frozen?, k1]))
          refine hC.mono fun e2 w' hret => ?_
          obtain ⟨rfl, rfl⟩ := hret
          refine ⟨ρ, Moved.set hr hg rfl rfl rfl rfl rfl (by simp [World.setCell]) (fun k hk => ?_) ?_, VR.tuple' LR.nil⟩
          · simp only [World.setCell, Array.getElem?_modify]
            rw [if_neg (fun e0 => hk e0.symm)]
          refine ⟨[.pointer (some ⟨(ρ b).block, 0, none⟩), u'], ?_, k2, k3, k4, Nat.le_refl _, fun _ => rfl, fun i hi => ?_⟩
          · simp only [World.setCell, Array.getElem?_modify, if_pos rfl, k1]
            simp
          match i, hi with
          | 0, _ => show VR ρ S (.pointer (some ⟨b, 0, none⟩)) (.pointer (some ⟨(ρ b).block, 0, none⟩)); rw [← hat]; exact .ptr b 0 hsb
          | 1, _ => exact hu
        · rename_i b'
          obtain ⟨hbb, hf3⟩ := bif_some hf2
          obtain rfl := nbeq hbb
          simp only [Option.some.injEq, Prod.mk.injEq] at hf3
          obtain ⟨rfl, rfl⟩ := hf3
          have hp2 := hp.ptr_inv.2
          rw [hat] at hp2
          subst hp2
          have hC : CallsIn Fence.wide nn P f #[.pointer (some ⟨(ρ b').block, 0, none⟩)] w _ := callsIn_wide.2 (hU (ρ b').block w hcell)
          refine hC.mono fun e2 w' hret => ?_
          obtain ⟨rfl, rfl⟩ := hret
          exact ⟨ρ, Moved.same hr, VR.tuple' LR.nil⟩
        cases hf2
      cases hf
    cases hf
end Go.Fs
namespace Go.Fs
open Go.RowKit (Below)
variable {P : Program} {B : Nat} {w0 : World}

def fsStepX (P : Program) (orc : FuncId → List Value → Heap → Option (Value × Heap)) (rec : Rec) : Rec := fun rnd c fr h =>
  match c with
  | .region _ ops true => match drawnX P { next := h.next, low := h.next, objs := h.objs } (fsOp P (callOf P orc rec) (fsYield rec)) ops fr.n ⟨fr.t, { next := h.next, low := h.next, objs := h.objs }, [], [], 0, false⟩ with
    | some s => some (.normal, { t := s.t, n := fr.n, marks := fr.marks }, { next := s.h.next, low := min h.low s.h.low, objs := s.h.objs })
    | none => none
  | c => fsStep P orc rec rnd c fr h
def fsCodeX (P : Program) (orc : FuncId → List Value → Heap → Option (Value × Heap)) : Nat → Rec
  | 0 => fun _ _ _ _ => none
  | n + 1 => fsStepX P orc (fsCodeX P orc n)

theorem HR.low {ρ : Ren} {S : Nat → Prop} {h : Heap} {w : World} (hr : HR P ρ S B w0 h w) (l : Nat) : HR P ρ S B w0 { next := h.next, low := l, objs := h.objs } w :=
  { objs := hr.objs, inj := hr.inj, base := hr.base, ro := hr.ro, ids := hr.ids, pos := hr.pos, below := hr.below, size := hr.size }
theorem Moved.lowered {ρ ρ' : Ren} {S : Nat → Prop} {h h' : Heap} {w w' : World} {l : Nat} (m : Moved P B w0 ρ ρ' S { next := h.next, low := l, objs := h.objs } h' w w') :
    Moved P B w0 ρ ρ' S h { next := h'.next, low := min h.low h'.low, objs := h'.objs } w w' where
  agree := m.agree
  next := m.next
  hr := m.hr.low _
  frame := ⟨m.frame.os, m.frame.tape, m.frame.output, m.frame.size, m.frame.block⟩
  low := Nat.min_le_left _ _
  keep := fun i hi hl => m.keep i hi (Nat.lt_of_lt_of_le hl (Nat.min_le_right _ _))
  old := m.old
  fresh := fun i o ho hi => by
    obtain ⟨h1, h2⟩ := m.fresh i o ho hi
    refine ⟨h1, ?_⟩
    rcases h2 with h2 | ⟨j, oj, h3, h4, h5, h6, h7⟩
    · exact .inl h2
    exact .inr ⟨j, oj, h3, h4, h5, Nat.le_trans (Nat.min_le_right _ _) h6, h7⟩
theorem stepX_sound (hP : ProgOk P) {orc : FuncId → List Value → Heap → Option (Value × Heap)} (horc : CallSound P B w0 orc) {m : Nat} {rec : Rec} (hrec : SoundR P B w0 m rec) : SoundR P B w0 (m + 1) (fsStepX P orc rec) := by
  have hcs : CallSnd P B w0 (callOf P orc rec) := call_sound hP horc hrec
  have hys : YieldSound P B w0 (fsYield rec) := yield_sound hrec
  have hold := step_sound hP horc hrec
  intro rnd c fr h e fr' h' hok hf
  cases c with
  | region id ops draw =>
    cases draw with
    | false => exact hold rnd _ fr h e fr' h' hok hf
    | true =>
      intro ρ S w a nn Q hr ht hm hs k
      simp only [fsStepX] at hf
      split at hf
      · rename_i s hrun
        simp only [Option.some.injEq, Prod.mk.injEq] at hf
        obtain ⟨rfl, rfl, rfl⟩ := hf
        refine wpIn_region_draw fun t => ?_
        rw [hP.mixed]
        exact drawn_wpX (h0 := { next := h.next, low := h.next, objs := h.objs }) (call := callOf P orc rec) (yield := fsYield rec) hcs hys hok hrun ((hr.drew _).low _) ht (fun ρ1 w1 a1 m1 ht1 hd1 => k _ _ _ ⟨(Moved.ofDrew m1).lowered, ht1, by rw [hd1]; exact hm.mono fun b hb => ⟨.inl hb, m1.agree b hb⟩⟩) t
      cases hf
  | _ => exact hold rnd _ fr h e fr' h' hok hf

theorem codeX_sound (hP : ProgOk P) {orc : FuncId → List Value → Heap → Option (Value × Heap)} (horc : CallSound P B w0 orc) : ∀ m, SoundR P B w0 m (fsCodeX P orc m)
  | 0 => fun rnd c fr h e fr' h' _ hf => by cases hf
  | m + 1 => stepX_sound hP horc (codeX_sound hP horc m)
theorem fsX_calls (hP : ProgOk P) {orc : FuncId → List Value → Heap → Option (Value × Heap)} (horc : CallSound P B w0 orc) (m : Nat) : CallSound P B w0 (fsEnter P (fsCodeX P orc m)) := enter_sound hP (codeX_sound hP horc m)
theorem fsX_closed (hP : ProgOk P) {w : World} {orc : FuncId → List Value → Heap → Option (Value × Heap)} (horc : CallSound P w.heap.size w orc) {m : Nat} {f : FuncId} {args : List Value} {v : Value} (ha : args.all af = true)
    (hf : (fsEnter P (fsCodeX P orc m) f args ⟨1, 1, []⟩).map (·.1) = some v) (hv : af v = true) :
    Calls P f args.toArray w fun | .returned v', w' => v' = v ∧ Below w.heap.size w w' | _, _ => False := by
  obtain ⟨⟨v0, h0⟩, h1, h2⟩ := Option.map_eq_some_iff.1 hf
  simp only at h2
  subst h2
  have hr : HR P (fun _ => ⟨0, 0, 0, 0⟩) (fun _ => False) w.heap.size w ⟨1, 1, []⟩ w :=
    { objs := fun i o hi => (by cases hi), inj := fun i j oi oj hi => (by cases hi), base := fun i o hi => (by cases hi), ro := fun i o hi => (by cases hi), ids := fun b hb => hb.elim, pos := by decide,
      below := Below.refl _ _, size := Nat.le_refl _ }
  have hc := ((fsX_calls hP horc m) f args _ _ _ h1).2 _ _ w args hr ⟨rfl, fun i hi => .of_af (List.all_eq_true.1 ha _ (mem_getD hi))⟩ 0
  refine Calls.mono (callsIn_wide.1 hc) fun e w' he => ?_
  cases e with
  | returned v' =>
    obtain ⟨ρ', m1, hv1⟩ := he
    exact ⟨hv1.eq_of_af hv, m1.hr.below⟩
  | panicked c => exact he.elim
  | outgrown => exact he.elim
theorem awakeX_calls (hP : ProgOk P) {B : Nat} {w0 : World} {O : FuncId → List Value → Heap → Option (Value × Heap)} {fa : FuncId} (hS : ∀ w, Below B w0 w → CallSound P w.heap.size w O) {m : Nat}
    (hrun : (fsEnter P (fsCodeX P O m) fa [] ⟨1, 1, []⟩).map (·.1) = some (.bool true)) (w : World) (hw : Below B w0 w) :
    Calls P fa #[] w fun | .returned v', w' => v' = .bool true ∧ Below w.heap.size w w' | _, _ => False :=
  fsX_closed hP (hS w hw) (args := []) rfl hrun rfl
end Go.Fs
namespace Go.Fs
variable {P : Program} {orc : FuncId → List Value → Heap → Option (Value × Heap)}
def runPre (P : Program) (orc : FuncId → List Value → Heap → Option (Value × Heap)) : Nat → Nat → Code → Fr → Heap → Option (Nat × Code × Fr × Heap)
  | 0, n, c, fr, h => some (n, c, fr, h)
  | k + 1, n, c, fr, h => match n, c with
    | n + 1, .seq a b => match fsCodeX P orc n none a fr h with
      | some (.normal, fr1, h1) => runPre P orc k n b fr1 h1
      | _ => none
    | _, _ => none
theorem run_via : ∀ {k n : Nat} {c : Code} {fr : Fr} {h : Heap} {n' : Nat} {c' : Code} {fr' : Fr} {h' : Heap}, runPre P orc k n c fr h = some (n', c', fr', h') → fsCodeX P orc n none c fr h = fsCodeX P orc n' none c' fr' h'
  | 0, n, c, fr, h, n', c', fr', h', hr => by
    simp only [runPre, Option.some.injEq, Prod.mk.injEq] at hr
    obtain ⟨rfl, rfl, rfl, rfl⟩ := hr
    rfl
  | k + 1, n, c, fr, h, n', c', fr', h', hr => by
    simp only [runPre] at hr
    split at hr
    · rename_i n a b
      split at hr
      · rename_i fr1 h1 ha
        rw [← run_via hr]
        show fsStep P orc (fsCodeX P orc n) none (.seq a b) fr h = _
        simp only [fsStep, ha]
      cases hr
    cases hr
def endV (P : Program) (fn : Func) (h : Heap) (x : Ex × Fr × Heap) : Option Value :=
  bif x.1.goes then
    match dropMarks x.2.1.marks x.2.2 with
    | some h2 => (fsResults P x.2.1.t h2 fn.results.toList).map tupled
    | none => none
  else none
theorem enter_map {rec : Rec} {f : FuncId} {args : List Value} {h : Heap} {fn : Func} {c : Code} (hf : P.funcs[f]? = some fn) (hc : fn.body = some c) (hn : (Nat.blt 4000 fn.ntmps || Nat.blt fn.ntmps args.length) = false) :
    (fsEnter P rec f args h).map (·.1) = (rec none c ⟨fillTr .leaf 0 args, fn.ntmps, []⟩ { next := h.next, low := h.next, objs := h.objs }).bind (endV P fn h) := by
  unfold fsEnter fsEnterK endV
  simp only [hf, hc, hn, cond_false]
  cases rec none c ⟨fillTr .leaf 0 args, fn.ntmps, []⟩ { next := h.next, low := h.next, objs := h.objs } with
  | none => rfl
  | some x =>
    obtain ⟨e, fr, h1⟩ := x
    simp only [Option.bind_some]
    cases e.goes with
    | false => rfl
    | true =>
      simp only [cond_true]
      cases dropMarks fr.marks h1 with
      | none => rfl
      | some h2 =>
        simp only
        cases fsResults P fr.t h2 fn.results.toList with
        | none => rfl
        | some vs =>
          simp only [Option.map_some]
          generalize (!false && (af (tupled vs) && Nat.ble h.next h2.low)) = q
          cases q <;> rfl
def sufx : Nat → Code → Code
  | 0, c => c
  | k + 1, .seq _ b => sufx k b
  | _ + 1, c => c
def rfOf : Code → Option (Array Tmp × Code × Code)
  | .rangeFunc _ ps a b => some (ps, a, b)
  | .seq a b => (rfOf a).or (rfOf b)
  | .cond _ a b => (rfOf a).or (rfOf b)
  | .block _ b => rfOf b
  | .loop b => rfOf b
  | .scope b => rfOf b
  | _ => none
def rfIn (fn : Func) : Array Tmp × Code × Code := (fn.body.bind rfOf).getD (#[], .skip, .skip)
end Go.Fs
