/- Parts of the proof: an evaluator of the model, what it is sound for, and contracts of functions. No condition. -/
import Derived.Test.YtligdjefbiebjaaGreatDoorP6
import Derived.Test.YtligdjefbiebjaaGreatDoorP5
set_option linter.all false
namespace Go.Proofs
open Go.Fs
set_option linter.unusedVariables false
set_option maxHeartbeats 2000000

theorem holds_R {c : Cse} {s : ByteArray} (h : caseE c = 0) : holdsE c s = byR c (validR c) s := by
  show inM (byM c (validE c)) s = inM (byM c (validR c)) s
  rw [validE_R h]
theorem held_0 {c : Cse} {s : ByteArray} (h : rTwo c s = 0) : heldE c s = if byR c (validR c) s = true then 0 else 35 := by
  unfold heldE
  rw [two_same, firstE_two, if_pos h, if_pos h, holds_R (rTwo_ok h).1]
  cases byR c (validR c) s <;> rfl
theorem lack_0 {c : Cse} {s : ByteArray} (h : rTwo c s = 0) : lackE c s = if byR c (validR c) s = true then 7 else 0 := by
  unfold lackE
  rw [two_same, firstE_two, if_pos h, if_pos h, holds_R (rTwo_ok h).1]
  cases byR c (validR c) s <;> rfl
def supA (c : Cse) (s : ByteArray) : List ByteArray := if heldE c s = 0 then leanF c s [] (validE c).length (validE c) else []
def supB (c : Cse) (s : ByteArray) : List ByteArray := if byR c (validR c) s = true then leanF c s [] (validR c).length (validR c) else []
def nedA (c : Cse) (s : ByteArray) : List ByteArray := if heldE c s = 0 then (validE c).filter (needB c s (validE c)) else []
def nedB (c : Cse) (s : ByteArray) : List ByteArray := if byR c (validR c) s = true then (validR c).filter (needB c s (validR c)) else []
def lakA (c : Cse) (s : ByteArray) : List ByteArray := if lackE c s = 0 then leanF c s (validE c) (staleE c).length (staleE c) else []
def lakB (c : Cse) (s : ByteArray) : List ByteArray := if byR c (validR c) s = true then [] else leanF c s (validR c) (staleE c).length (staleE c)
theorem sup_AB {c : Cse} {s : ByteArray} (h : rTwo c s = 0) : supA c s = supB c s ∧ nedA c s = nedB c s ∧ lakA c s = lakB c s := by
  unfold supA supB nedA nedB lakA lakB
  rw [held_0 h, lack_0 h, validE_R (rTwo_ok h).1]
  cases byR c (validR c) s <;> exact ⟨rfl, rfl, rfl⟩
end Go.Proofs
namespace Go.Proofs
open Go.Fs
theorem firstR_all {f : Nat → Int} {n : Nat} : ∀ (d i : Nat), n - i = d → (∀ k, i ≤ k → k < n → f k = 0) → firstR f i n = 0
  | 0, i, hd, _ => firstR_end (by omega)
  | d + 1, i, hd, h => by
    rw [firstR_step (by omega), if_pos (h i (Nat.le_refl _) (by omega))]
    exact firstR_all d (i + 1) (by omega) fun k h1 h2 => h k (by omega) h2
theorem firstE_of0 {l : List Int} (h : ∀ x ∈ l, x = 0) : firstE l = 0 := by
  induction l with
  | nil => rfl
  | cons x l ih => show (if x = 0 then firstE l else x) = 0; rw [if_pos (h x List.mem_cons_self)]; exact ih fun y hy => h y (List.mem_cons_of_mem _ hy)
structure CaseP (c : Cse) : Prop where
  v : versE c.1 = 0
  e : (c.2.1.length : Int) ≤ 64
  ev : ∀ i, i < c.2.1.length → evAt c i = 0
  l : (c.2.2.length : Int) ≤ 64
  cl : ∀ i, i < c.2.2.length → clAt c i = 0
theorem caseP {c : Cse} (h : caseE c = 0) : CaseP c := by
  have hv : versE c.1 = 0 := (case_known h).1
  unfold caseE at h
  rw [if_neg (fun h2 : versE c.1 ≠ 0 => h2 hv)] at h
  by_cases h4 : 64 < (c.2.1.length : Int)
  · rw [if_pos h4] at h; cases h
  rw [if_neg h4] at h
  by_cases h5 : firstR (evAt c) 0 c.2.1.length ≠ 0
  · rw [if_pos h5] at h; exact absurd h h5
  rw [if_neg h5] at h
  by_cases h6 : 64 < (c.2.2.length : Int)
  · rw [if_pos h6] at h; cases h
  rw [if_neg h6] at h
  exact ⟨hv, by omega, fun i hi => firstR_zero _ 0 rfl (Decidable.not_not.1 h5) i (Nat.zero_le _) hi, by omega, fun i hi => firstR_zero _ 0 rfl h i (Nat.zero_le _) hi⟩
theorem CaseP.case {c : Cse} (h : CaseP c) : caseE c = 0 := by
  have h5 : firstR (evAt c) 0 c.2.1.length = 0 := firstR_all _ 0 rfl fun k _ hk => h.ev k hk
  unfold caseE
  rw [if_neg (fun h2 : versE c.1 ≠ 0 => h2 h.v), if_neg (by have := h.e; omega), if_neg (fun h2 => h2 h5), if_neg (by have := h.l; omega)]
  exact firstR_all _ 0 rfl fun k _ hk => h.cl k hk
theorem vers_at {l : List Vers} (h : versE l = 0) : ∀ i, i < l.length → verAt l i = 0 := fun i hi => by
  unfold versE at h
  by_cases hl : 64 < (l.length : Int)
  · rw [if_pos hl] at h; cases h
  rw [if_neg hl] at h; exact firstR_zero _ 0 rfl h i (Nat.zero_le _) hi
theorem vers_len {l : List Vers} (h : versE l = 0) : (l.length : Int) ≤ 64 := by
  unfold versE at h
  by_cases hl : 64 < (l.length : Int)
  · rw [if_pos hl] at h; cases h
  omega
theorem vers_num {l : List Vers} (h : versE l = 0) {i : Nat} (hi : i < l.length) : 0 ≤ l[i].2 ∧ l[i].2 ≤ 999 := by
  have h1 := vers_at h i hi
  unfold verAt at h1
  rw [vAt_eq hi] at h1
  have h2 := firstE_mem0 h1 (rangeE l[i].2 0 999) (by simp)
  unfold rangeE at h2
  split at h2
  · cases h2
  omega
theorem idxG_map {α β : Type} {F : β → Bool} {g : α → β} : ∀ {l : List α} {k : Int}, idxG (fun x => F (g x)) l k = idxG F (l.map g) k
  | [], _ => rfl
  | x :: l, k => by
    show (if F (g x) = true then k else idxG (fun x => F (g x)) l (k + 1)) = (if F (g x) = true then k else idxG F (l.map g) (k + 1))
    rw [idxG_map]
theorem thing_names {l m : List Vers} {s : ByteArray} (h : l.map (·.1) = m.map (·.1)) : thingE l s = thingE m s := by
  unfold thingE
  rw [idxG_map (F := fun x => decide (x = s)) (g := fun v : Vers => v.1), idxG_map (F := fun x => decide (x = s)) (g := fun v : Vers => v.1), h]
theorem evid_names {l m : List Evid} {s : ByteArray} (h : l.map (·.1) = m.map (·.1)) : evidE l s = evidE m s := by
  unfold evidE
  rw [idxG_map (F := fun x => decide (x = s)) (g := fun v : Evid => v.1), idxG_map (F := fun x => decide (x = s)) (g := fun v : Evid => v.1), h]
theorem setN_names {l : List Vers} {i : Nat} {n : Int} (hi : i < l.length) : (setN l i n).map (·.1) = l.map (·.1) := by
  unfold setN
  rw [List.getD_eq_getElem?_getD, List.getElem?_eq_getElem hi]
  refine List.ext_getElem (by simp) fun j h1 h2 => ?_
  rw [List.getElem_map, List.getElem_map, List.getElem_set]
  split
  · rename_i he; subst he; rfl
  rfl
theorem setN_len {l : List Vers} {i : Nat} {n : Int} : (setN l i n).length = l.length := by unfold setN; rw [List.length_set]
theorem setN_at {l : List Vers} {i j : Nat} {n : Int} (hj : j < l.length) : (setN l i n)[j]'(by rw [setN_len]; exact hj) = (l[j].1, if i = j then n else l[j].2) := by
  unfold setN
  rw [List.getElem_set]
  split
  · rename_i he; subst he; rw [getD_at hj]
  rfl
theorem take_names {α : Type} {l m : List (ByteArray × α)} (h : l.map (·.1) = m.map (·.1)) (k : Nat) : (l.take k).map (·.1) = (m.take k).map (·.1) := by
  rw [List.map_take, List.map_take, h]
theorem setN_vers {l : List Vers} {i : Nat} {n : Int} (h : versE l = 0) (hi : i < l.length) (h0 : 0 ≤ n) (h1 : n ≤ 999) : versE (setN l i n) = 0 := by
  unfold versE
  rw [setN_len, if_neg (by have := vers_len h; omega)]
  refine firstR_all _ 0 rfl fun k _ hk => ?_
  have h2 := vers_at h k hk
  unfold verAt at h2 ⊢
  rw [vAt_eq hk] at h2
  rw [vAt_eq (by rw [setN_len]; exact hk), setN_at hk, thing_names (take_names (setN_names hi) k)]
  refine firstE_of0 fun x hx => ?_
  simp only [List.mem_cons, List.not_mem_nil, or_false] at hx
  rcases hx with rfl | rfl | rfl
  · exact firstE_mem0 h2 _ (by simp)
  · show rangeE (if i = k then n else l[k].2) 0 999 = 0
    split
    · unfold rangeE; rw [if_neg (by omega)]
    exact firstE_mem0 h2 _ (by simp)
  exact firstE_mem0 h2 _ (by simp)
theorem chg_parts {c : Cse} {s : ByteArray} {n : Int} (h : chgE c s n = 0) : caseE c = 0 ∧ 0 ≤ thingE c.1 s ∧ 0 ≤ n ∧ n ≤ 999 := by
  obtain ⟨h1, h2, h3⟩ := fst3 h
  have h4 := of_decide_eq_false (when_no (by decide) h2)
  refine ⟨h1, by omega, ?_⟩
  unfold rangeE at h3
  split at h3
  · cases h3
  omega
theorem chg_names {c : Cse} {s : ByteArray} {n : Int} (h : 0 ≤ thingE c.1 s) : (chgC c s n).1.map (·.1) = c.1.map (·.1) := setN_names (thing_get h).1
theorem chg_thing {c : Cse} {s t : ByteArray} {n : Int} (h : 0 ≤ thingE c.1 s) : thingE (chgC c s n).1 t = thingE c.1 t := thing_names (chg_names h)
theorem chg_case {c : Cse} {s : ByteArray} {n : Int} (h : chgE c s n = 0) : caseE (chgC c s n) = 0 := by
  obtain ⟨h1, h2, h3, h4⟩ := chg_parts h
  have hp := caseP h1
  refine CaseP.case ⟨setN_vers hp.v (thing_get h2).1 h3 h4, hp.e, fun i hi => ?_, hp.l, hp.cl⟩
  have hk : knowsV (chgC c s n) = knowsV c := funext fun t => by unfold knowsV; rw [chg_thing h2]
  have := hp.ev i hi
  unfold evAt at this ⊢
  rw [hk]
  exact this
theorem chg_ok {c : Cse} {s : ByteArray} {n : Int} (hc : CseOk c) : CseOk (chgC c s n) := ⟨by show (setN _ _ _).length < _; rw [setN_len]; exact hc.v, hc.e, hc.l, hc.w, hc.u⟩
theorem chg_now {c : Cse} {s t : ByteArray} {n : Int} (h : 0 ≤ thingE c.1 s) (hk : 0 ≤ thingE c.1 t) (hv : versE c.1 = 0) : nowE (chgC c s n).1 t = if t = s then n else nowE c.1 t := by
  obtain ⟨h1, h2⟩ := thing_get hk
  obtain ⟨h3, h4⟩ := thing_get h
  unfold nowE
  rw [chg_thing h, vAt_eq h1]
  show (vAt (setN c.1 (thingE c.1 s).toNat n) (thingE c.1 t).toNat).2 = _
  rw [vAt_eq (by rw [setN_len]; exact h1), setN_at h1]
  show (if (thingE c.1 s).toNat = (thingE c.1 t).toNat then n else c.1[(thingE c.1 t).toNat].2) = _
  by_cases he : t = s
  · subst he; rw [if_pos rfl, if_pos rfl]
  rw [if_neg he, if_neg]
  intro e
  refine he ?_
  rw [← h2, ← h4]
  simp only [e]
theorem has_in {l : List ByteArray} {s : ByteArray} : hasB l s = true ↔ s ∈ l := by
  unfold hasB
  rw [List.any_eq_true]
  constructor
  · rintro ⟨x, hx, he⟩; rw [← of_decide_eq_true he]; exact hx
  exact fun h => ⟨s, h, decide_eq_true rfl⟩
theorem used_le {m : BMap} {x : Clm} : usedN m x ≤ x.2.2.length := List.length_filter_le _ _
theorem filter_mono {α : Type} {p q : α → Bool} : ∀ {l : List α}, (∀ x ∈ l, p x = true → q x = true) → (l.filter p).length ≤ (l.filter q).length
  | [], _ => Nat.le_refl _
  | x :: l, h => by
    have ih := filter_mono (p := p) (q := q) (l := l) fun y hy => h y (List.mem_cons_of_mem _ hy)
    by_cases hp : p x = true
    · rw [List.filter_cons_of_pos hp, List.filter_cons_of_pos (h x List.mem_cons_self hp)]
      simp only [List.length_cons]; omega
    rw [List.filter_cons_of_neg hp]
    by_cases hq : q x = true
    · rw [List.filter_cons_of_pos hq]; simp only [List.length_cons]; omega
    rw [List.filter_cons_of_neg hq]; exact ih
theorem holds_mono {m m' : BMap} {x : Clm} (h : ∀ s, inM m s = true → inM m' s = true) (hx : holdsX m x = true) : holdsX m' x = true := by
  have h1 : usedN m x ≤ usedN m' x := filter_mono fun s _ => h s
  have h2 := used_le (m := m') (x := x)
  unfold holdsX at hx ⊢
  rw [Bool.or_eq_true, Bool.and_eq_true, decide_eq_true_eq, decide_eq_true_eq] at hx ⊢
  rcases hx with hx | ⟨hx, hy⟩
  · left; omega
  right; exact ⟨hx, by omega⟩
theorem clM_mono {c : Cse} {l l' : List ByteArray} (h : ∀ s ∈ l, s ∈ l') : ∀ i, i ≤ c.2.2.length → ∀ s, inM (clM c l i) s = true → inM (clM c l' i) s = true
  | 0, _, s, hs => by
    have hs : inM (evM l l.length) s = true := hs
    show inM (evM l' l'.length) s = true
    rw [inM_ev _ (Nat.le_refl _), List.take_length, has_in] at hs ⊢
    exact h s hs
  | i + 1, hi, s, hs => by
    have ih := clM_mono (c := c) h i (by omega)
    rw [clM_succ (by omega), inM_set] at hs ⊢
    split at hs
    · rename_i he; rw [if_pos he]; exact holds_mono ih hs
    rename_i he; rw [if_neg he]; exact ih s hs
theorem by_mono {c : Cse} {l l' : List ByteArray} {s : ByteArray} (h : ∀ s ∈ l, s ∈ l') (hs : byR c l s = true) : byR c l' s = true := clM_mono h _ (Nat.le_refl _) s hs
theorem by_set {c : Cse} {l l' : List ByteArray} {s : ByteArray} (h : ∀ s, s ∈ l ↔ s ∈ l') : byR c l s = byR c l' s := by
  rw [Bool.eq_iff_iff]
  exact ⟨by_mono fun s => (h s).1, by_mono fun s => (h s).2⟩
theorem claim_uses {c : Cse} (h : CaseP c) {j : Nat} (hj : j < c.2.2.length) : 0 < (c.2.2[j]).2.2.length := by
  have h1 := h.cl j hj
  unfold clAt at h1
  rw [cAt_eq hj] at h1
  have h2 := firstE_mem0 h1 (usesE (knownC c j) c.2.2[j].2.2) (by simp)
  unfold usesE at h2
  refine Nat.pos_of_ne_zero fun h3 => ?_
  rw [h3] at h2
  cases h2
theorem by_all {c : Cse} (h : CaseP c) {l : List ByteArray} (hl : ∀ x ∈ c.2.1, x.1 ∈ l) : ∀ n j (hj : j < c.2.2.length), j < n → byR c l c.2.2[j].1 = true
  | 0, _, _, h0 => by omega
  | n + 1, j, hj, h0 => by
    have hk := case_claims h.case
    rw [byR_at hk hj]
    unfold holdsX usedN
    rw [List.filter_eq_self.2 fun u hu => ?_, decide_eq_true rfl, Bool.true_or]
    rw [use_eq hk hj hu]
    by_cases he : 0 ≤ evidE c.2.1 u
    · obtain ⟨x, hx, hxu⟩ := evid_in.1 he
      rw [decide_eq_true he, has_in.2 (hxu ▸ hl x hx)]; rfl
    obtain ⟨h1, h2⟩ := use_before hk hj hu (by omega)
    obtain ⟨h3, h4⟩ := claim_ix h1
    have := by_all h hl n _ h3 (by omega)
    rw [h4] at this
    rw [this, decide_eq_true (show evidE c.2.1 u < 0 by omega)]; simp
theorem by_none {c : Cse} (h : CaseP c) : ∀ n j (hj : j < c.2.2.length), j < n → byR c [] c.2.2[j].1 = false
  | 0, _, _, h0 => by omega
  | n + 1, j, hj, h0 => by
    have hk := case_claims h.case
    have hu0 := claim_uses h hj
    have hz : usedN (clM c [] j) c.2.2[j] = 0 := by
      unfold usedN
      rw [List.length_eq_zero_iff, List.filter_eq_nil_iff]
      intro u hu
      rw [use_eq hk hj hu]
      by_cases he : 0 ≤ evidE c.2.1 u
      · rw [decide_eq_false (show ¬ evidE c.2.1 u < 0 by omega)]; simp [hasB]
      obtain ⟨h1, h2⟩ := use_before hk hj hu (by omega)
      obtain ⟨h3, h4⟩ := claim_ix h1
      have := by_none h n _ h3 (by omega)
      rw [h4] at this
      rw [this, decide_eq_false he]; simp
    rw [byR_at hk hj]
    unfold holdsX
    rw [hz, decide_eq_false (by omega), decide_eq_false (by omega)]; simp
theorem drop_mem {l : List ByteArray} (hn : l.Nodup) {i : Nat} (hi : i < l.length) {w : ByteArray} : w ∈ dropI l i ↔ w ∈ l ∧ w ≠ l[i] := by
  rw [← lackW_drop hn hi]
  unfold lackW
  rw [List.mem_filter]
  simp
theorem drop_nodup {l : List ByteArray} (hn : l.Nodup) {i : Nat} : (dropI l i).Nodup := by
  refine hn.sublist ?_
  unfold dropI
  have : l = l.take i ++ l.drop i := (List.take_append_drop i l).symm
  conv => rhs; rw [this]
  exact List.Sublist.append (List.Sublist.refl _) (List.drop_sublist_drop_left l (Nat.le_succ i))
theorem drop_sub {l : List ByteArray} {i : Nat} : List.Sublist (dropI l i) l := by
  unfold dropI
  have : l = l.take i ++ l.drop i := (List.take_append_drop i l).symm
  conv => rhs; rw [this]
  exact List.Sublist.append (List.Sublist.refl _) (List.drop_sublist_drop_left l (Nat.le_succ i))
theorem lean_ok {c : Cse} {s : ByteArray} {o : List ByteArray} : ∀ (i : Nat) {out : List ByteArray}, i ≤ out.length → out.Nodup → byR c (out ++ o) s = true →
    (∀ w ∈ out, w ∉ out.take i → byR c (lackW out w ++ o) s = false) →
    byR c (leanF c s o i out ++ o) s = true ∧ (leanF c s o i out).Nodup ∧ List.Sublist (leanF c s o i out) out ∧ ∀ w ∈ leanF c s o i out, byR c (lackW (leanF c s o i out) w ++ o) s = false
  | 0, out, _, hn, hb, hm => ⟨hb, hn, List.Sublist.refl _, fun w hw => hm w hw (by simp)⟩
  | i + 1, out, hi, hn, hb, hm => by
    have hi' : i < out.length := by omega
    show byR c (leanF c s o i (leanS c s o out i) ++ o) s = true ∧ (leanF c s o i (leanS c s o out i)).Nodup ∧ List.Sublist (leanF c s o i (leanS c s o out i)) out ∧ ∀ w ∈ leanF c s o i (leanS c s o out i), byR c (lackW (leanF c s o i (leanS c s o out i)) w ++ o) s = false
    cases hd : byR c (dropI out i ++ o) s with
    | true =>
      rw [leanS_t hd]
      have ht : (dropI out i).take i = out.take i := by
        unfold dropI
        rw [List.take_append_of_le_length (by rw [List.length_take]; omega), List.take_take, Nat.min_self]
      obtain ⟨h1, h2, h3, h4⟩ := lean_ok i (out := dropI out i) (by rw [dropI_len hi']; omega) (drop_nodup hn) hd fun w hw hwt => by
        obtain ⟨h5, h6⟩ := (drop_mem hn hi').1 hw
        rw [ht] at hwt
        have h7 := hm w h5 (by
          rw [List.take_succ_eq_append_getElem hi', List.mem_append, List.mem_singleton]
          exact fun h => h.elim hwt h6)
        cases hq : byR c (lackW (dropI out i) w ++ o) s with
        | false => rfl
        | true =>
          have := by_mono (l' := lackW out w ++ o) (fun x hx => by
            rcases List.mem_append.1 hx with hx | hx
            · refine List.mem_append_left _ ?_
              unfold lackW at hx ⊢
              rw [List.mem_filter] at hx ⊢
              exact ⟨((drop_mem hn hi').1 hx.1).1, hx.2⟩
            exact List.mem_append_right _ hx) hq
          rw [h7] at this; cases this
      exact ⟨h1, h2, h3.trans drop_sub, h4⟩
    | false =>
      rw [leanS_f hd]
      refine lean_ok i (by omega) hn hb fun w hw hwt => ?_
      by_cases he : w = out[i]
      · subst he; rw [lackW_drop hn hi']; exact hd
      refine hm w hw ?_
      rw [List.take_succ_eq_append_getElem hi', List.mem_append, List.mem_singleton]
      exact fun h => h.elim hwt he
end Go.Proofs
namespace Go.Proofs
open Go.Fs
theorem now_name {c : Cse} {v : Vers} (hk : 0 ≤ thingE c.1 v.1) : (nowV c v).1 = v.1 := by
  obtain ⟨h1, h2⟩ := thing_get hk
  unfold nowV
  rw [vAt_eq h1, h2]
theorem now_num {c : Cse} {v : Vers} (hv : versE c.1 = 0) (hk : 0 ≤ thingE c.1 v.1) : rangeE (nowV c v).2 0 999 = 0 := by
  obtain ⟨h1, h2⟩ := thing_get hk
  have h3 := vers_num hv h1
  unfold nowV rangeE
  rw [vAt_eq h1, if_neg (by omega)]
theorem now_names {c : Cse} : ∀ {w : List Vers}, (∀ v ∈ w, 0 ≤ thingE c.1 v.1) → (w.map (nowV c)).map (·.1) = w.map (·.1)
  | [], _ => rfl
  | v :: w, h => by
    rw [List.map_cons, List.map_cons, List.map_cons, now_name (h v List.mem_cons_self), now_names fun x hx => h x (List.mem_cons_of_mem _ hx)]
structure RnwP (c : Cse) (s : ByteArray) (i : Nat) : Prop where
  hi : i < c.2.1.length
  at' : evidE c.2.1 s = (i : Nat)
  nm : (c.2.1[i]).1 = s
theorem rnwP {c : Cse} {s : ByteArray} (h : 0 ≤ evidE c.2.1 s) : RnwP c s (evidE c.2.1 s).toNat := by
  obtain ⟨h1, h2⟩ := idxG_get (F := fun v : Evid => decide (v.1 = s)) h
  exact ⟨h1, by show _ = (((idxG _ c.2.1 0).toNat : Nat) : Int); unfold evidE at h ⊢; omega, of_decide_eq_true h2⟩
theorem rnw_ev {c : Cse} {s : ByteArray} {i : Nat} (h : RnwP c s i) : rnwC c s = (c.1, c.2.1.set i ((c.2.1[i]'h.hi).1, (c.2.1[i]'h.hi).2.map (nowV c)), c.2.2) := by
  unfold rnwC
  rw [h.at', Int.toNat_natCast, eAt_eq h.hi]
theorem rnw_len {c : Cse} {s : ByteArray} : (rnwC c s).2.1.length = c.2.1.length := by
  unfold rnwC
  show (List.set _ _ _).length = _
  rw [List.length_set]
theorem rnw_at {c : Cse} {s : ByteArray} {i j : Nat} (h : RnwP c s i) (hj : j < c.2.1.length) : (rnwC c s).2.1[j]'(by rw [rnw_len]; exact hj) = if i = j then (c.2.1[j].1, c.2.1[j].2.map (nowV c)) else c.2.1[j] := by
  have e : (rnwC c s).2.1 = c.2.1.set i ((c.2.1[i]'h.hi).1, (c.2.1[i]'h.hi).2.map (nowV c)) := by rw [rnw_ev h]
  simp only [e, List.getElem_set]
  split
  · rename_i he; subst he; rfl
  · rfl
theorem rnw_name {c : Cse} {s : ByteArray} {i j : Nat} (h : RnwP c s i) (hj : j < c.2.1.length) : ((rnwC c s).2.1[j]'(by rw [rnw_len]; exact hj)).1 = c.2.1[j].1 := by
  rw [rnw_at h hj]
  split <;> rfl
theorem rnw_names {c : Cse} {s : ByteArray} (h : 0 ≤ evidE c.2.1 s) : (rnwC c s).2.1.map (·.1) = c.2.1.map (·.1) := by
  have hr := rnwP h
  refine List.ext_getElem (by rw [List.length_map, List.length_map, rnw_len]) fun j h1 h2 => ?_
  rw [List.length_map] at h2
  rw [List.getElem_map, List.getElem_map, rnw_name hr h2]
theorem with_zero {K : ByteArray → Bool} {l m : List Vers} (hn : m.map (·.1) = l.map (·.1)) (hr : ∀ v ∈ m, rangeE v.2 0 999 = 0) (h : withE K l = 0) : withE K m = 0 := by
  have hlen : m.length = l.length := by have := congrArg List.length hn; rwa [List.length_map, List.length_map] at this
  unfold withE at h ⊢
  rw [hlen]
  by_cases h1 : 16 < (l.length : Int)
  · rw [if_pos h1] at h; cases h
  · rw [if_neg h1] at h ⊢
    refine firstR_all _ 0 rfl fun k _ hk => ?_
    have h2 := firstR_zero _ 0 rfl h k (Nat.zero_le _) hk
    have hk2 : k < m.length := by omega
    have en : m[k].1 = l[k].1 := by
      have := List.getElem_of_eq hn (i := k) (by rw [List.length_map]; exact hk2)
      rwa [List.getElem_map, List.getElem_map] at this
    unfold withAt at h2 ⊢
    rw [vAt_eq hk] at h2
    rw [vAt_eq hk2, en, thing_names (take_names hn k)]
    refine firstE_of0 fun x hx => ?_
    simp only [List.mem_cons, List.not_mem_nil, or_false] at hx
    rcases hx with rfl | rfl | rfl
    · exact firstE_mem0 h2 _ (by simp)
    · exact hr _ (List.getElem_mem hk2)
    · exact firstE_mem0 h2 _ (by simp)
theorem rnw_case {c : Cse} {s : ByteArray} (hz : caseE c = 0) (h : 0 ≤ evidE c.2.1 s) : caseE (rnwC c s) = 0 := by
  have hp := caseP hz
  have hr := rnwP h
  have hK := (case_known hz).2
  refine CaseP.case ⟨hp.v, by rw [rnw_len]; exact hp.e, fun j hj => ?_, hp.l, fun j hj => ?_⟩
  · have hj' : j < c.2.1.length := by rw [rnw_len] at hj; exact hj
    have h1 := hp.ev j hj'
    have h2 : withE (knowsV c) c.2.1[j].2 = 0 := by
      unfold evAt at h1
      rw [eAt_eq hj'] at h1
      exact firstE_mem0 h1 _ (by simp)
    unfold evAt at h1 ⊢
    rw [eAt_eq hj'] at h1
    rw [eAt_eq hj, rnw_name hr hj', evid_names (take_names (rnw_names h) j)]
    refine firstE_of0 fun x hx => ?_
    simp only [List.mem_cons, List.not_mem_nil, or_false] at hx
    rcases hx with rfl | rfl | rfl
    · exact firstE_mem0 h1 _ (by simp)
    · exact firstE_mem0 h1 _ (by simp)
    · show withE (knowsV c) _ = 0
      rw [rnw_at hr hj']
      split
      · refine with_zero (now_names (hK _ (List.getElem_mem hj'))) (fun v hv => ?_) h2
        obtain ⟨u, hu, rfl⟩ := List.mem_map.1 hv
        exact now_num hp.v (hK _ (List.getElem_mem hj') u hu)
      · exact h2
  · have h1 := hp.cl j hj
    have hkn : knownC (rnwC c s) j = knownC c j := funext fun t => by
      unfold knownC
      rw [evid_names (rnw_names h)]
      rfl
    unfold clAt at h1 ⊢
    rw [hkn]
    exact h1
theorem rnw_ok {c : Cse} {s : ByteArray} (hc : CseOk c) (h : 0 ≤ evidE c.2.1 s) : CseOk (rnwC c s) := ⟨hc.v, by rw [rnw_len]; exact hc.e, hc.l, fun x hx => by
  obtain ⟨j, hj, rfl⟩ := List.getElem_of_mem hx
  have hj' : j < c.2.1.length := by rw [rnw_len] at hj; exact hj
  rw [rnw_at (rnwP h) hj']
  split
  · show (List.map _ _).length < _
    rw [List.length_map]
    exact hc.w _ (List.getElem_mem hj')
  · exact hc.w _ (List.getElem_mem hj'), hc.u⟩
theorem rnw_zero {c : Cse} {s : ByteArray} (h : caseE c = 0) (h2 : 0 ≤ evidE c.2.1 s) : rnwE c s = 0 := by
  unfold rnwE
  rw [if_neg (fun h3 => h3 h), if_neg (by omega)]
/-- What is valid when a piece was renewed. -/
theorem rnw_valid {c : Cse} {s : ByteArray} {i j : Nat} (hz : caseE c = 0) (h : RnwP c s i) (hj : j < c.2.1.length) : validB (rnwC c s) ((rnwC c s).2.1[j]'(by rw [rnw_len]; exact hj)) = if i = j then true else validB c c.2.1[j] := by
  have hK := (case_known hz).2
  rw [rnw_at h hj]
  split
  · show List.all _ _ = true
    rw [List.all_eq_true]
    intro v hv
    obtain ⟨u, hu, rfl⟩ := List.mem_map.1 hv
    refine decide_eq_true ?_
    show nowE c.1 (nowV c u).1 = (nowV c u).2
    rw [now_name (hK _ (List.getElem_mem hj) u hu)]
    rfl
  · rfl
theorem validR_mem {c : Cse} {w : ByteArray} : w ∈ validR c ↔ ∃ x ∈ c.2.1, x.1 = w ∧ validB c x = true := by
  unfold validR
  rw [List.mem_map]
  constructor
  · rintro ⟨x, hx, rfl⟩
    rw [List.mem_filter] at hx
    exact ⟨x, hx.1, rfl, hx.2⟩
  · rintro ⟨x, hx, rfl, hv⟩
    exact ⟨x, List.mem_filter.2 ⟨hx, hv⟩, rfl⟩
theorem rnw_validR {c : Cse} {s w : ByteArray} (hz : caseE c = 0) (h : 0 ≤ evidE c.2.1 s) : w ∈ validR (rnwC c s) ↔ w ∈ validR c ∨ w = s := by
  have hr := rnwP h
  rw [validR_mem, validR_mem]
  constructor
  · rintro ⟨x, hx, rfl, hv⟩
    obtain ⟨j, hj, rfl⟩ := List.getElem_of_mem hx
    have hj' : j < c.2.1.length := by rw [rnw_len] at hj; exact hj
    rw [rnw_name hr hj']
    rw [rnw_valid hz hr hj'] at hv
    by_cases he : (evidE c.2.1 s).toNat = j
    · right; have := hr.nm; simpa [he] using this
    · rw [if_neg he] at hv
      left; exact ⟨_, List.getElem_mem hj', rfl, hv⟩
  · rintro (⟨x, hx, rfl, hv⟩ | rfl)
    · obtain ⟨j, hj, rfl⟩ := List.getElem_of_mem hx
      refine ⟨_, List.getElem_mem (by rw [rnw_len]; exact hj), rnw_name hr hj, ?_⟩
      rw [rnw_valid hz hr hj]
      split
      · rfl
      · exact hv
    · refine ⟨_, List.getElem_mem (by rw [rnw_len]; exact hr.hi), by rw [rnw_name hr hr.hi]; exact hr.nm, ?_⟩
      rw [rnw_valid hz hr hr.hi, if_pos rfl]
theorem nodup_le : ∀ {l m : List ByteArray}, l.Nodup → (∀ x ∈ l, x ∈ m) → l.length ≤ m.length
  | [], _, _, _ => Nat.zero_le _
  | x :: l, m, hn, h => by
    obtain ⟨h1, h2⟩ := List.nodup_cons.1 hn
    have hx := h x List.mem_cons_self
    have h3 := nodup_le (m := lackW m x) h2 fun y hy => List.mem_filter.2 ⟨h y (List.mem_cons_of_mem _ hy), by
      have : ¬ y = x := fun e => h1 (by rw [← e]; exact hy)
      simp [this]⟩
    have h4 : (lackW m x).length < m.length := List.length_filter_lt_length_iff_exists.2 ⟨x, hx, by simp⟩
    simp only [List.length_cons]
    omega
theorem rnw_more {c : Cse} {s : ByteArray} (hz : caseE c = 0) (h : 0 ≤ evidE c.2.1 s) : (validR c).length ≤ (validR (rnwC c s)).length := nodup_le (validR_nodup hz) fun _ hx => (rnw_validR hz h).2 (.inl hx)
theorem rnw_by {c : Cse} {s t : ByteArray} {l : List ByteArray} : byR (rnwC c s) l t = byR c l t := rfl
theorem opnR_mem {c : Cse} {t : ByteArray} : t ∈ opnR c c.2.2.length ↔ (∃ x ∈ c.2.2, x.1 = t) ∧ byR c (validR c) t = false := by
  unfold opnR
  rw [List.take_length, List.mem_map]
  constructor
  · rintro ⟨x, hx, rfl⟩
    rw [List.mem_filter] at hx
    exact ⟨⟨x, hx.1, rfl⟩, by simpa using hx.2⟩
  · rintro ⟨⟨x, hx, rfl⟩, h⟩
    exact ⟨x, List.mem_filter.2 ⟨hx, by simp [h]⟩, rfl⟩
theorem rnw_open {c : Cse} {s t : ByteArray} (hz : caseE c = 0) (h : 0 ≤ evidE c.2.1 s) (ht : t ∈ opnR (rnwC c s) (rnwC c s).2.2.length) : t ∈ opnR c c.2.2.length := by
  rw [opnR_mem] at ht ⊢
  refine ⟨ht.1, ?_⟩
  cases hb : byR c (validR c) t with
  | false => rfl
  | true =>
    have := by_mono (c := c) (l' := validR (rnwC c s)) (fun x hx => (rnw_validR hz h).2 (.inl hx)) hb
    have h2 := ht.2
    rw [rnw_by, this] at h2
    cases h2
/-! ## What an open claim lacks -/
structure LackP (c : Cse) (s : ByteArray) (l : List ByteArray) : Prop where
  by1 : byR c (l ++ validR c) s = true
  nd : l.Nodup
  sub : ∀ w ∈ l, (∃ x ∈ c.2.1, x.1 = w) ∧ w ∉ validR c
  min : ∀ w ∈ l, byR c (lackW l w ++ validR c) s = false
  len : l.length ≤ c.2.1.length
theorem stale_mem {c : Cse} {w : ByteArray} (hz : caseE c = 0) : w ∈ staleE c ↔ (∃ x ∈ c.2.1, x.1 = w) ∧ w ∉ validR c := by
  rw [staleE_R hz, List.mem_map]
  constructor
  · rintro ⟨x, hx, rfl⟩
    rw [List.mem_filter] at hx
    refine ⟨⟨x, hx.1, rfl⟩, fun h => ?_⟩
    have := hx.2
    rw [has_in.2 h] at this
    cases this
  · rintro ⟨⟨x, hx, rfl⟩, h⟩
    refine ⟨x, List.mem_filter.2 ⟨hx, ?_⟩, rfl⟩
    cases hb : hasB (validR c) x.1 with
    | false => rfl
    | true => exact absurd (has_in.1 hb) h
theorem stale_nodup {c : Cse} (hz : caseE c = 0) : (staleE c).Nodup := by
  rw [staleE_R hz]
  exact (ev_nodup hz).sublist (List.Sublist.map _ List.filter_sublist)
theorem lackP {c : Cse} {s : ByteArray} (hz : caseE c = 0) (hs : 0 ≤ claimE c.2.2 s) : LackP c s (leanF c s (validR c) (staleE c).length (staleE c)) := by
  have hb : byR c (staleE c ++ validR c) s = true := by
    obtain ⟨h1, h2⟩ := claim_ix hs
    rw [← h2]
    refine by_all (caseP hz) (fun x hx => ?_) _ _ h1 (Nat.lt_succ_self _)
    by_cases hv : x.1 ∈ validR c
    · exact List.mem_append_right _ hv
    · exact List.mem_append_left _ ((stale_mem hz).2 ⟨⟨x, hx, rfl⟩, hv⟩)
  obtain ⟨h1, h2, h3, h4⟩ := lean_ok (c := c) (s := s) (o := validR c) (staleE c).length (Nat.le_refl _) (stale_nodup hz) hb fun w hw hwt => absurd hw (by rwa [List.take_length] at hwt)
  exact ⟨h1, h2, fun w hw => (stale_mem hz).1 (h3.subset hw), h4, Nat.le_trans h3.length_le staleE_len⟩
theorem lack_ne {c : Cse} {s : ByteArray} {l : List ByteArray} (h : LackP c s l) (hb : byR c (validR c) s = false) : l ≠ [] := fun e => by
  have := h.by1
  rw [e, List.nil_append, hb] at this
  cases this
/-- The case with the pieces l renewed. -/
def rnwL (c : Cse) (l : List ByteArray) : Cse := l.foldl rnwC c
structure RnwL (c : Cse) (l : List ByteArray) (y : Cse) : Prop where
  z : caseE y = 0
  ok : CseOk y
  nm : y.2.1.map (·.1) = c.2.1.map (·.1)
  cl : y.2.2 = c.2.2
  v : ∀ w, w ∈ validR y ↔ w ∈ validR c ∨ w ∈ l
theorem rnwL_nil {c : Cse} (hz : caseE c = 0) (hc : CseOk c) : RnwL c [] c := ⟨hz, hc, rfl, rfl, fun w => by simp⟩
theorem rnwL_has {c y : Cse} {l : List ByteArray} {w : ByteArray} (h : RnwL c l y) (hw : ∃ x ∈ c.2.1, x.1 = w) : 0 ≤ evidE y.2.1 w := by
  rw [evid_names h.nm]
  exact evid_in.2 hw
theorem rnwL_step {c y : Cse} {l : List ByteArray} {w : ByteArray} (h : RnwL c l y) (hw : ∃ x ∈ c.2.1, x.1 = w) : RnwL c (l ++ [w]) (rnwC y w) := by
  have h0 := rnwL_has h hw
  refine ⟨rnw_case h.z h0, rnw_ok h.ok h0, (rnw_names h0).trans h.nm, h.cl, fun u => ?_⟩
  rw [rnw_validR h.z h0, h.v, List.mem_append, List.mem_singleton, or_assoc]
theorem by_cl {c y : Cse} {l : List ByteArray} {s : ByteArray} (h : y.2.2 = c.2.2) : byR y l s = byR c l s := by
  unfold byR byM clM
  rw [h]
theorem rnwL_by {c y : Cse} {l : List ByteArray} {s : ByteArray} (h : RnwL c l y) : byR y (validR y) s = byR c (l ++ validR c) s := by
  rw [by_cl h.cl]
  exact by_set fun w => by rw [h.v, List.mem_append]; exact or_comm
end Go.Proofs
namespace Go.Proofs
open Go.Fs
theorem ev_first {c : Cse} (h : caseE c = 0) {i : Nat} (hi : i < c.2.1.length) : evidE c.2.1 c.2.1[i].1 = (i : Int) := by
  have h4 := case_ev h i hi
  have h5 : ¬ evidE c.2.1 c.2.1[i].1 < (i : Int) := fun h6 => h4 ((evid_lt hi).1 h6)
  have h6 := (idxG_le (F := fun v : Evid => decide (v.1 = c.2.1[i].1)) hi (decide_eq_true rfl)).1
  unfold evidE at h5 ⊢
  omega
theorem chk_sub {c : Cse} (h : caseE c = 0) : ∀ (m : List Evid) (i : Nat) (l : List ByteArray) (k : Int), c.2.1.drop i = m → List.Sublist l (m.map (·.1)) → k < (i : Int) → chkO c k l = 0
  | [], i, l, k, hd, hs, hk => by
    have : l = [] := List.sublist_nil.1 hs
    subst this; rfl
  | x :: m, i, l, k, hd, hs, hk => by
    have hi : i < c.2.1.length := by
      have := congrArg List.length hd
      rw [List.length_drop] at this
      simp only [List.length_cons] at this
      omega
    have hd2 := List.drop_eq_getElem_cons hi
    rw [hd] at hd2
    obtain ⟨e1, e2⟩ := List.cons.inj hd2
    rw [List.map_cons] at hs
    cases hs with
    | cons _ hs => exact chk_sub h m (i + 1) l k e2.symm hs (by omega)
    | cons_cons _ hs =>
      rename_i l'
      have e3 : evidE c.2.1 x.1 = (i : Int) := by rw [e1]; exact ev_first h hi
      show (if evidE c.2.1 x.1 < 0 then 10 else if evidE c.2.1 x.1 ≤ k then 11 else chkO c (evidE c.2.1 x.1) l') = 0
      rw [e3, if_neg (by omega), if_neg (by omega)]
      exact chk_sub h m (i + 1) l' _ e2.symm hs (by omega)
theorem chk_names {c : Cse} (h : caseE c = 0) {l : List ByteArray} (hs : List.Sublist l (c.2.1.map (·.1))) : chkO c (-1) l = 0 := chk_sub h c.2.1 0 l (-1) List.drop_zero hs (by omega)
theorem validR_sub {c : Cse} : List.Sublist (validR c) (c.2.1.map (·.1)) := List.Sublist.map _ List.filter_sublist
/-! ## The support -/
def supL (c : Cse) (s : ByteArray) : List ByteArray := leanF c s [] (validR c).length (validR c)
structure SupP (c : Cse) (s : ByteArray) (l : List ByteArray) : Prop where
  by1 : byR c l s = true
  nd : l.Nodup
  sub : List.Sublist l (validR c)
  min : ∀ w ∈ l, byR c (lackW l w) s = false
theorem supP {c : Cse} {s : ByteArray} (hz : caseE c = 0) (hb : byR c (validR c) s = true) : SupP c s (supL c s) := by
  obtain ⟨h1, h2, h3, h4⟩ := lean_ok (c := c) (s := s) (o := []) (validR c).length (Nat.le_refl _) (validR_nodup hz) (by rw [List.append_nil]; exact hb) fun w hw hwt => absurd hw (by rwa [List.take_length] at hwt)
  refine ⟨by rwa [List.append_nil] at h1, h2, h3, fun w hw => ?_⟩
  have := h4 w hw
  rwa [List.append_nil] at this
theorem sup_ne {c : Cse} {s : ByteArray} {l : List ByteArray} (hz : caseE c = 0) (hs : 0 ≤ claimE c.2.2 s) (h : SupP c s l) : l ≠ [] := fun e => by
  obtain ⟨h1, h2⟩ := claim_ix hs
  have h3 := by_none (caseP hz) _ _ h1 (Nat.lt_succ_self _)
  rw [h2] at h3
  have := h.by1
  rw [e, h3] at this
  cases this
theorem supp_len {c : Cse} {s : ByteArray} {l : List ByteArray} (h : SupP c s l) : l.length ≤ c.2.1.length := Nat.le_trans h.sub.length_le (by have := validR_len (c := c); omega)
theorem supE_0 {c : Cse} {s : ByteArray} {l : List ByteArray} (hr : rTwo c s = 0) (ho : chkO c (-1) l = 0) : supE c s l = whenE ((List.range l.length).any (badR c s l) || !byR c l s) 22 := by
  rw [sup_same]
  exact sup_0 (fun h => h hr) ho
theorem sup_yes {c : Cse} {s : ByteArray} {l : List ByteArray} (hr : rTwo c s = 0) (h : SupP c s l) : supE c s l = 0 := by
  have hz := (rTwo_ok hr).1
  rw [supE_0 hr (chk_names hz (h.sub.trans validR_sub)), h.by1]
  have : (List.range l.length).any (badR c s l) = false := by
    rw [List.any_eq_false]
    intro i hi
    have hi := List.mem_range.1 hi
    rw [badR_at hi, has_in.2 (h.sub.subset (List.getElem_mem hi)), ← lackW_drop h.nd hi, h.min _ (List.getElem_mem hi)]
    decide
  rw [this]; rfl
theorem sup_less {c : Cse} {s : ByteArray} {l : List ByteArray} (hr : rTwo c s = 0) (h : SupP c s l) (hl : l ≠ []) : supE c s (l.drop 1) = 22 := by
  have hz := (rTwo_ok hr).1
  have h0 : 0 < l.length := by cases l with | nil => exact absurd rfl hl | cons => simp
  have e : l.drop 1 = lackW l l[0] := by rw [lackW_drop h.nd h0]; simp [dropI]
  rw [supE_0 hr (chk_names hz (((List.drop_sublist 1 l).trans h.sub).trans validR_sub)), e, h.min _ (List.getElem_mem h0)]
  simp [whenE]
theorem sup_needs {c : Cse} {s w : ByteArray} {l : List ByteArray} (h : SupP c s l) (hw : w ∈ (validR c).filter (needB c s (validR c))) : w ∈ l := by
  rw [List.mem_filter] at hw
  refine Classical.byContradiction fun hn => ?_
  have h1 : byR c (lackW (validR c) w) s = true := by_mono (fun x hx => by
    unfold lackW
    rw [List.mem_filter]
    refine ⟨h.sub.subset hx, ?_⟩
    have : ¬ x = w := fun e => hn (e ▸ hx)
    simp [this]) h.by1
  have h2 := hw.2
  unfold needB at h2
  have h1 : inM (byM c (lackW (validR c) w)) s = true := h1
  rw [h1] at h2
  cases h2
/-! ## A support with a piece more -/
def moreF (c : Cse) (l m : List ByteArray) (y : Evid) : List ByteArray := if (hasB l y.1 || (decide ((m.length : Int) = (l.length : Int)) && hasB (validR c) y.1)) = true then m ++ [y.1] else m
def moreL (c : Cse) (l : List ByteArray) (j : Nat) : List ByteArray := (c.2.1.take j).foldl (moreF c l) []
theorem moreL_succ {c : Cse} {l : List ByteArray} {j : Nat} (h : j < c.2.1.length) : moreL c l (j + 1) = moreF c l (moreL c l j) c.2.1[j] := by
  unfold moreL
  rw [List.take_succ_eq_append_getElem h, List.foldl_append]; rfl
theorem more_ok {c : Cse} {s : ByteArray} {l : List ByteArray} (h : SupP c s l) : ∀ j, j ≤ c.2.1.length → List.Sublist (moreL c l j) ((c.2.1.take j).map (·.1)) ∧ (∀ w ∈ moreL c l j, w ∈ validR c) ∧ (∀ y ∈ c.2.1.take j, y.1 ∈ l → y.1 ∈ moreL c l j)
  | 0, _ => ⟨List.Sublist.refl _, ⟨fun w (hw : w ∈ ([] : List ByteArray)) => (by cases hw), fun y (hy : y ∈ ([] : List Evid)) => (by cases hy)⟩⟩
  | j + 1, hj => by
    obtain ⟨h1, h2, h3⟩ := more_ok h j (by omega)
    have ej := List.take_succ_eq_append_getElem (l := c.2.1) (i := j) (by omega)
    rw [moreL_succ (by omega), ej, List.map_append]
    unfold moreF
    split
    · rename_i hc
      refine ⟨h1.append (List.Sublist.refl _), fun w hw => ?_, fun y hy hl => ?_⟩
      · rcases List.mem_append.1 hw with hw | hw
        · exact h2 w hw
        · rw [List.mem_singleton.1 hw]
          rw [Bool.or_eq_true, Bool.and_eq_true] at hc
          rcases hc with hc | hc
          · exact h.sub.subset (has_in.1 hc)
          · exact has_in.1 hc.2
      · rcases List.mem_append.1 hy with hy | hy
        · exact List.mem_append_left _ (h3 y hy hl)
        · rw [List.mem_singleton.1 hy]; exact List.mem_append_right _ List.mem_cons_self
    · rename_i hc
      refine ⟨h1.trans (List.sublist_append_left _ _), h2, fun y hy hl => ?_⟩
      rcases List.mem_append.1 hy with hy | hy
      · exact h3 y hy hl
      · rw [List.mem_singleton.1 hy] at hl ⊢
        exact absurd (by rw [has_in.2 hl]; rfl) hc
theorem more_len {c : Cse} {l : List ByteArray} : ∀ j, j ≤ c.2.1.length → (moreL c l j).length ≤ j
  | 0, _ => Nat.le_refl _
  | j + 1, hj => by
    have := more_len (c := c) (l := l) j (by omega)
    rw [moreL_succ (by omega)]
    unfold moreF
    split
    · rw [List.length_append]; simp only [List.length_cons, List.length_nil]; omega
    · omega
theorem sup_more {c : Cse} {s : ByteArray} {l : List ByteArray} (hr : rTwo c s = 0) (h : SupP c s l) (hm : l.length < (moreL c l c.2.1.length).length) : supE c s (moreL c l c.2.1.length) = 22 := by
  have hz := (rTwo_ok hr).1
  obtain ⟨h1, h2, h3⟩ := more_ok h c.2.1.length (Nat.le_refl _)
  rw [List.take_length] at h1 h3
  have hn : (moreL c l c.2.1.length).Nodup := (ev_nodup hz).sublist h1
  have hsub : ∀ w ∈ l, w ∈ moreL c l c.2.1.length := fun w hw => by
    obtain ⟨x, hx, rfl, _⟩ := validR_mem.1 (h.sub.subset hw)
    exact h3 x hx hw
  obtain ⟨w, hw, hwl⟩ : ∃ w ∈ moreL c l c.2.1.length, w ∉ l := Classical.byContradiction fun hno => by
    have := nodup_le hn (m := l) fun x hx => Classical.byContradiction fun h4 => hno ⟨x, hx, h4⟩
    omega
  obtain ⟨i, hi, rfl⟩ := List.getElem_of_mem hw
  rw [supE_0 hr (chk_names hz h1)]
  have : badR c s (moreL c l c.2.1.length) i = true := by
    rw [badR_at hi, ← lackW_drop hn hi, by_mono (fun x hx => by
      unfold lackW
      rw [List.mem_filter]
      refine ⟨hsub x hx, ?_⟩
      have : ¬ x = (moreL c l c.2.1.length)[i] := fun e => hwl (e ▸ hx)
      simp [this]) h.by1, Bool.or_true]
  rw [List.any_eq_true.2 ⟨i, List.mem_range.2 hi, this⟩]
  rfl
/-! ## A change that touches no support -/
def touchW (s : ByteArray) (w : List Vers) : Bool := w.any fun v => decide (v.1 = s)
def touchE (c : Cse) (l : List ByteArray) (s : ByteArray) (j : Nat) : Bool := (c.2.1.take j).any fun y => hasB l y.1 && touchW s y.2
theorem touch_succ {c : Cse} {l : List ByteArray} {s : ByteArray} {j : Nat} (h : j < c.2.1.length) : touchE c l s (j + 1) = (touchE c l s j || (hasB l c.2.1[j].1 && touchW s c.2.1[j].2)) := by
  unfold touchE
  rw [List.take_succ_eq_append_getElem h, List.any_append]
  simp
theorem touch_no {c : Cse} {s t : ByteArray} {n : Int} {l : List ByteArray} (hg : chgE c t n = 0) (h : SupP c s l) (ht : touchE c l t c.2.1.length = false) : byR (chgC c t n) (validR (chgC c t n)) s = true := by
  obtain ⟨hz, h2, _⟩ := chg_parts hg
  have hv := (case_known hz).1
  have hK := (case_known hz).2
  refine by_mono (c := c) (fun w hw => ?_) h.by1
  obtain ⟨x, hx, rfl, hb⟩ := validR_mem.1 (h.sub.subset hw)
  refine validR_mem.2 ⟨x, hx, rfl, ?_⟩
  unfold validB at hb ⊢
  rw [List.all_eq_true] at hb ⊢
  intro v hvx
  have hne : ¬ v.1 = t := fun e => by
    unfold touchE at ht
    rw [List.take_length, List.any_eq_false] at ht
    refine ht x hx ?_
    rw [has_in.2 hw, Bool.true_and]
    exact List.any_eq_true.2 ⟨v, hvx, decide_eq_true e⟩
  rw [chg_now h2 (hK x hx v hvx) hv, if_neg hne]
  exact hb v hvx
/-! ## Reopened -/
def reopE (c : Cse) (t : ByteArray) (n : Int) : List ByteArray := (openE (chgC c t n)).filter fun s => !hasB (openE c) s
theorem reop_len {c : Cse} {t : ByteArray} {n : Int} : (reopE c t n).length ≤ c.2.2.length := Nat.le_trans (List.length_filter_le _ _) (opnE_len (c := chgC c t n) (i := c.2.2.length))
theorem openE_mem {c : Cse} {t : ByteArray} (hz : caseE c = 0) : t ∈ openE c ↔ (∃ x ∈ c.2.2, x.1 = t) ∧ byR c (validR c) t = false := by rw [openE_R hz]; exact opnR_mem
theorem reop_mem {c : Cse} {t s : ByteArray} {n : Int} (hg : chgE c t n = 0) : s ∈ reopE c t n ↔ (∃ x ∈ c.2.2, x.1 = s) ∧ byR c (validR c) s = true ∧ byR (chgC c t n) (validR (chgC c t n)) s = false := by
  obtain ⟨hz, _⟩ := chg_parts hg
  unfold reopE
  rw [List.mem_filter, openE_mem (chg_case hg)]
  constructor
  · rintro ⟨⟨h1, h2⟩, h3⟩
    refine ⟨h1, ?_, h2⟩
    cases hb : byR c (validR c) s with
    | true => rfl
    | false =>
      rw [has_in.2 ((openE_mem hz).2 ⟨h1, hb⟩)] at h3
      cases h3
  · rintro ⟨h1, h2, h3⟩
    refine ⟨⟨h1, h3⟩, ?_⟩
    cases hb : hasB (openE c) s with
    | false => rfl
    | true => have := ((openE_mem hz).1 (has_in.1 hb)).2; rw [h2] at this; cases this
/-- The reference's way: claim by claim. -/
def reopR (c : Cse) (t : ByteArray) (n : Int) (i : Nat) : List ByteArray := ((c.2.2.take i).filter fun x => byR c (validR c) x.1 && !byR (chgC c t n) (validR (chgC c t n)) x.1).map (·.1)
theorem reop_R {c : Cse} {t : ByteArray} {n : Int} (hg : chgE c t n = 0) : reopE c t n = reopR c t n c.2.2.length := by
  obtain ⟨hz, _⟩ := chg_parts hg
  unfold reopE reopR
  rw [openE_R (chg_case hg)]
  unfold opnR
  show List.filter _ (List.map _ (List.filter _ (c.2.2.take c.2.2.length))) = _
  rw [List.filter_map, List.filter_filter]
  congr 1
  refine List.filter_congr fun x hx => ?_
  have hx : x ∈ c.2.2 := List.mem_of_mem_take hx
  show (!hasB (openE c) x.1 && !byR (chgC c t n) (validR (chgC c t n)) x.1) = _
  congr 1
  cases hb : byR c (validR c) x.1 with
  | true =>
    cases ho : hasB (openE c) x.1 with
    | false => rfl
    | true => have := ((openE_mem hz).1 (has_in.1 ho)).2; rw [hb] at this; cases this
  | false => rw [has_in.2 ((openE_mem hz).2 ⟨⟨x, hx, rfl⟩, hb⟩)]; rfl
theorem reopR_len {c : Cse} {t : ByteArray} {n : Int} {i : Nat} : (reopR c t n i).length ≤ i := by
  unfold reopR
  rw [List.length_map]
  refine Nat.le_trans (List.length_filter_le _ _) ?_
  rw [List.length_take]; omega
theorem reopR_t {c : Cse} {t : ByteArray} {n : Int} {i : Nat} (h : i < c.2.2.length) (h1 : byR c (validR c) c.2.2[i].1 = true) (h2 : byR (chgC c t n) (validR (chgC c t n)) c.2.2[i].1 = false) : reopR c t n (i + 1) = reopR c t n i ++ [c.2.2[i].1] := by
  unfold reopR
  rw [List.take_succ_eq_append_getElem h, List.filter_append, List.map_append]
  simp [h1, h2]
theorem reopR_f {c : Cse} {t : ByteArray} {n : Int} {i : Nat} (h : i < c.2.2.length) (h1 : (byR c (validR c) c.2.2[i].1 && !byR (chgC c t n) (validR (chgC c t n)) c.2.2[i].1) = false) : reopR c t n (i + 1) = reopR c t n i := by
  unfold reopR
  rw [List.take_succ_eq_append_getElem h, List.filter_append, List.map_append]
  simp only [List.filter_cons, h1, List.filter_nil, List.map_nil, List.append_nil]
  simp
/-! ## What a claim's uses say -/
def restB (c : Cse) (u : ByteArray) : Bool := hasB (validR c) u || (decide (rTwo c u = 0) && byR c (validR c) u)
theorem rest_use {c : Cse} (hz : caseE c = 0) {j : Nat} (hj : j < c.2.2.length) {u : ByteArray} (hu : u ∈ c.2.2[j].2.2) : restB c u = inM (clM c (validR c) j) u := by
  have hk := case_claims hz
  rw [use_eq hk hj hu]
  unfold restB
  by_cases he : 0 ≤ evidE c.2.1 u
  · rw [decide_eq_true he, decide_eq_false (show ¬ evidE c.2.1 u < 0 by omega)]
    have : ¬ rTwo c u = 0 := fun h => by
      obtain ⟨_, h2⟩ := rTwo_ok h
      obtain ⟨h3, h4⟩ := claim_ix h2
      have := (known_no (hk.new _ h3)).1
      rw [h4] at this
      exact this he
    rw [decide_eq_false this]; simp
  · have hn : hasB (validR c) u = false := by
      cases hb : hasB (validR c) u with
      | false => rfl
      | true =>
        obtain ⟨x, hx, hxu, _⟩ := validR_mem.1 (has_in.1 hb)
        exact absurd (evid_in.2 ⟨x, hx, hxu⟩) he
    have hr : rTwo c u = 0 := by
      unfold rTwo
      rw [if_neg (fun h => h hz), if_neg (by have := (use_before hk hj hu (by omega)).1; omega)]
    rw [hn, decide_eq_true hr, decide_eq_false he, decide_eq_true (show evidE c.2.1 u < 0 by omega)]; simp
theorem rTwo_of {c : Cse} (hz : caseE c = 0) {j : Nat} (hj : j < c.2.2.length) : rTwo c c.2.2[j].1 = 0 := by
  unfold rTwo
  rw [if_neg (fun h => h hz), if_neg (by have := claim_has (c := c) hj; omega)]
end Go.Proofs
namespace Go.Proofs
open Go.Fs
set_option linter.unusedVariables false
set_option maxHeartbeats 2000000
theorem zt64 : ZerT Tryz.prog 64 y64 := zerT_of (z := .agg #[.slice none 0 0, .slice none 0 0, .slice none 0 0]) (by kernel_rfl) rfl rfl
theorem sReopened1_ok {s : ByteArray} {l : List ByteArray} (hl : l.length < 1000000) : VF Tryz.prog OA 121 [St s, .p (.sl .str) l] (B (!hasB l s)) := by
  refine VF.enter Tryz.func121 rfl (fun _ _ => rfl) rfl ?_
  show VC _ _ _ _ _ [(0, St s), (1, .p (.sl .str) l)] [] _
  refine VC.seq (VC.text ?_)
  refine VO.c (.assign rfl) ?_
  refine VO.go (VC.seq (VC.text ?_))
  refine VO.r (.ld vt27) ?_
  refine VO.c (.move rfl) ?_
  refine VO.call rfl rfl (VF.call (zContains_ok (by first | assumption | omega | simp))) ?_
  refine VO.c (.not) ?_
  refine VO.c (.assign rfl) ?_
  refine VO.go ?_
  refine VC.ret ?_
  exact VEnd.one rfl evT (pvE (by rfl))
theorem sReopened_ok {c : (List (ByteArray × Int)) × (List (ByteArray × (List (ByteArray × Int)))) × (List (ByteArray × Bool × (List ByteArray)))} {s : ByteArray} {n : Int} (hc : CseOk c) : VF Tryz.prog OA 49 [.v y72 c, St s, I n] (.tup [.v (.sl .str) (if chgE c s n = 0 then reopE c s n else []), I (chgE c s n)]) := by
  refine VF.enter Tryz.func49 rfl (fun _ _ => rfl) rfl ?_
  show VC _ _ _ _ _ [(0, .v y72 c), (1, St s), (2, I n)] [] _
  refine VC.seq (VC.text ?_)
  have hcl := hc.l
  have hol := opnE_len (c := c) (i := c.2.2.length)
  refine VO.new (.box) ?_
  refine VO.c (.assign rfl) ?_
  refine VO.c (.assign rfl) ?_
  refine VO.go (VC.seq (VC.text ?_))
  refine VO.r (.ld vt72) ?_
  refine VO.c (.move rfl) ?_
  refine VO.c (.move rfl) ?_
  refine VO.call rfl rfl (VF.call (sChange_ok (by first | assumption | omega | simp))) ?_
  refine VO.c (.move rfl) ?_
  refine VO.c (.extract) ?_
  refine VO.c (.extract) ?_
  refine VO.cell (.alloc zt72) ?_
  intro ww1
  refine VO.setV (cs' := [.v y68 ((if chgE c s n = 0 then chgC c s n else ([], [], [])).1), .v y69 ((if chgE c s n = 0 then chgC c s n else ([], [], [])).2.1), .v y70 ((if chgE c s n = 0 then chgC c s n else ([], [], [])).2.2)]) vt72 .v ?_
  refine VO.shut [(8, .p y72 (if chgE c s n = 0 then chgC c s n else ([], [], [])))] (.cons rfl (.var m0 .refl) .nil) ?_
  refine VO.c (.assign rfl) ?_
  refine VO.go (VC.seq (VC.seq (VC.text ?_)))
  refine VO.c (.move rfl) ?_
  refine VO.c (.neq) ?_
  refine VO.go ?_
  refine VC.condD rfl (fun c2 => ?_) (fun c2 => ?_)
  · refine VC.seq (VC.text ?_)
    refine VO.c (.move rfl) ?_
    refine VO.c (.assign rfl) ?_
    refine VO.c (.assign rfl) ?_
    refine VO.go ?_
    refine VC.ret ?_
    exact VEnd.two rfl (evC .nil) evT (pvE (by rw [if_neg c2])) (pvI (by rfl))
  have hg : chgE c s n = 0 := Decidable.not_not.1 c2
  have hnx : (if chgE c s n = 0 then chgC c s n else ([], [], [])) = chgC c s n := if_pos hg
  have hoa := opnE_len (c := chgC c s n) (i := c.2.2.length)
  have hoc := chg_ok (s := s) (n := n) hc
  refine VC.skip (VC.seq (VC.text ?_))
  refine VO.r (.ld vt72) ?_
  refine VO.call rfl rfl (VF.call (sOpenM_ok (by first | assumption | omega | simp))) ?_
  refine VO.cell (.alloc zt27DB) ?_
  intro ww2
  refine VO.setV (cs' := [.v (.sl .str) (openE c)]) vt27 .v ?_
  refine VO.shut [(10, .p (.sl .str) (openE c))] (.cons rfl (.var m0 .refl) .nil) ?_
  refine VO.go (VC.seq (VC.text ?_))
  refine VO.r (.ld vt72) ?_
  refine VO.call rfl rfl (VF.call (sOpenM_ok (by rw [hnx]; exact hoc))) ?_
  refine VO.c (.func) ?_
  refine VO.call rfl rfl (VF.call (sKeptS_ok (F := fun x => !hasB (openE c) x) (by rw [hnx]; exact Nat.lt_of_le_of_lt hoa (by omega)) (fun _ _ => VF.clo (sReopened1_ok (Nat.lt_of_le_of_lt hol (by omega)))))) ?_
  refine VO.c (.assign rfl) ?_
  refine VO.c (.assign rfl) ?_
  refine VO.go ?_
  refine VC.ret ?_
  exact VEnd.two rfl evT evT (pvE (by rw [hnx, if_pos hg]; rfl)) (pvI (by exact hg.symm))
def rThE (c : Cse) (s : ByteArray) (n : Int) : Int := if caseE c ≠ 0 then caseE c else if thingE c.1 s < 0 then 10 else rangeE n 0 999
theorem rCheckThing_ok {c : (List (ByteArray × Int)) × (List (ByteArray × (List (ByteArray × Int)))) × (List (ByteArray × Bool × (List ByteArray)))} {s : ByteArray} {n : Int} (hc : CseOk c) : VF Tryz.prog OA 51 [.v y64 c, St s, I n] (I (rThE c s n)) := by
  refine VF.enter Tryz.func51 rfl (fun _ _ => rfl) rfl ?_
  show VC _ _ _ _ _ [(0, .v y64 c), (1, St s), (2, I n)] [] _
  refine VC.seq (VC.text ?_)
  have hcv := hc.v
  refine VO.new (.box) ?_
  refine VO.c (.assign rfl) ?_
  refine VO.go (VC.seq (VC.seq (VC.text ?_)))
  refine VO.r (.ld vt64) ?_
  refine VO.call rfl rfl (VF.call (rCase_ok (by first | assumption | omega | simp))) ?_
  refine VO.c (.assign rfl) ?_
  refine VO.go (VC.seq (VC.text ?_))
  refine VO.c (.move rfl) ?_
  refine VO.c (.neq) ?_
  refine VO.go ?_
  refine VC.condD rfl (fun c2 => ?_) (fun c2 => ?_)
  · refine VC.seq (VC.text ?_)
    refine VO.c (.move rfl) ?_
    refine VO.c (.assign rfl) ?_
    refine VO.go ?_
    refine VC.ret ?_
    exact VEnd.one rfl evT (pvI (by first | rw [rThE, if_pos c2] | rw [rThE, if_neg c2, if_pos c4] | rw [rThE, if_neg c2, if_neg c4]))
  refine VC.skip (VC.seq (VC.seq (VC.text ?_)))
  refine VO.c (.fa (.l .o)) ?_
  refine VO.r (.ld vt60) ?_
  refine VO.c (.move rfl) ?_
  refine VO.call rfl rfl (VF.call (rThing_ok (by first | assumption | omega | simp))) ?_
  refine VO.c (.lss) ?_
  refine VO.go ?_
  refine VC.condD rfl (fun c4 => ?_) (fun c4 => ?_)
  · refine VC.seq (VC.text ?_)
    refine VO.c (.assign rfl) ?_
    refine VO.go ?_
    refine VC.ret ?_
    exact VEnd.one rfl evT (pvI (by first | rw [rThE, if_pos c2] | rw [rThE, if_neg c2, if_pos c4] | rw [rThE, if_neg c2, if_neg c4]))
  refine VC.skip (VC.seq (VC.text ?_))
  refine VO.c (.move rfl) ?_
  refine VO.call rfl rfl (VF.call (rCheckRange_ok )) ?_
  refine VO.c (.assign rfl) ?_
  refine VO.go ?_
  refine VC.ret ?_
  exact VEnd.one rfl evT (pvI (by first | rw [rThE, if_pos c2] | rw [rThE, if_neg c2, if_pos c4] | rw [rThE, if_neg c2, if_neg c4]))
theorem chg_same {c : Cse} {s : ByteArray} {n : Int} : chgE c s n = rThE c s n := by
  unfold chgE rThE
  by_cases h : caseE c = 0
  · rw [if_neg (fun h2 => h2 h), h]
    show firstE [whenE _ 10, rangeE n 0 999] = _
    by_cases h2 : thingE c.1 s < 0
    · rw [decide_eq_true h2, if_pos h2] <;> rfl
    rw [decide_eq_false h2, if_neg h2]
    show firstE [rangeE n 0 999] = _
    rw [firstE_one]
  rw [if_pos h]; show (if caseE c = 0 then _ else caseE c) = _; rw [if_neg h]
end Go.Proofs
namespace Go.Proofs
open Go.Fs
set_option linter.unusedVariables false
set_option maxHeartbeats 2000000
theorem bt96 : BldT Tryz.prog 96 y96 [(0, 1), (1, 1)] := bldT_of zt96 rfl (by kernel_rfl)
theorem bt109 : BldT Tryz.prog 109 y109 [(0, 1), (1, 1), (2, 1)] := bldT_of zt109 rfl (by kernel_rfl)
theorem lTold_ok {c : (List (ByteArray × Int)) × (List (ByteArray × (List (ByteArray × Int)))) × (List (ByteArray × Bool × (List ByteArray)))} (hc : CseOk c) : VF Tryz.prog OA 57 [.v y72 c] (.v y64 c) := by
  refine VF.enter Tryz.func57 rfl (fun _ _ => rfl) rfl ?_
  show VC _ _ _ _ _ [(0, .v y72 c)] [] _
  refine VC.seq (VC.text ?_)
  have hcv := hc.v
  have hce := hc.e
  have hcl := hc.l
  refine VO.new (.box) ?_
  refine VO.cell (.allocR (zs := [nilV, nilV, nilV]) zt64) ?_
  intro ww1
  refine VO.go (VC.seq (VC.text ?_))
  refine VO.cell (.allocR (zs := [nilV, nilV, nilV]) zt64) ?_
  intro ww2
  refine VO.go (VC.seq (VC.seq (VC.text ?_)))
  refine VO.c (.fa (.l .o)) ?_
  refine VO.r (.ld vt68) ?_
  refine VO.r (.len el68) ?_
  refine VO.c (.move rfl) ?_
  refine VO.go (VC.block ?_)
  refine VC.cell0 99 y99 ?_
  refine VC.keep [(1, .p y72 c), (2, .raw ww1), (3, .raw ww2), (14, .v y68 c.1), (15, I ((c.1.length : Nat) : Int)), (16, I ((0 : Nat) : Int))] ⟨rfl, rfl, rfl, rfl, rfl, rfl, trivial⟩ ?_
  refine VC.loop (I := fun kk ff ss => ∃ (i : Nat) (w0 : Value), kk = c.1.length - i ∧ ff = [(1, .p y72 c), (2, .raw ww1), (3, .raw ww2), (14, .v y68 c.1), (15, I ((c.1.length : Nat) : Int)), (16, I ((i : Nat) : Int))] ∧ ss = [(w0, .row 99 y99 (c.1.take i)), (ww2, .var [.raw w0, nilV, nilV]), (ww1, .var [nilV, nilV, nilV])] ∧ (i ≤ c.1.length)) ?_ _ _ _ ⟨0, (.slice none 0 0), rfl, rfl, rfl, Nat.zero_le _⟩
  rintro kk ff ss ⟨i, w0, hk0, rfl, rfl, hi⟩
  refine VC.seq (VC.text ?_)
  refine VO.c (.lss) ?_
  refine VO.go (VC.seq ?_)
  refine VC.condD rfl (fun c3 => ?_) (fun c3 => ?_)
  · refine VC.skip (VC.seq (VC.block (VC.seq (VC.text ?_))))
    refine VO.c (.ix (j := i) rfl rfl el68 (by omega)) ?_
    refine VO.r (.ld vt153) ?_
    refine VO.cell (.alloc zt153) ?_
    intro ww3
    refine VO.setV (cs' := [St ((c.1[i]).1), I ((c.1[i]).2)]) vt153 .v ?_
    refine VO.shut [(5, .p y153 (c.1[i]))] (.cons rfl (.var m0 .refl) .nil) ?_
    refine VO.go (VC.text ?_)
    refine VO.c (.faO (k := 0) m1) ?_
    refine VO.r (.ldF (k := 0) m1 vt60) ?_
    refine VO.r (.ld vt153) ?_
    refine VO.new (.lit [c.1[i]] el60) ?_
    refine VO.app rfl rfl el60 el60 (by simp; omega) ?_
    intro ww4
    refine VO.c (.faO (k := 0) m1) ?_
    refine VO.perm swap1 ?_
    refine VO.one m1 fun ho5 => ?_
    refine VO.setF (cs' := [.raw ww4, nilV, nilV]) 0 vt60 (.raw rfl (agg_one ho5) ho5) ?_
    refine VO.nil (VC.text ?_)
    refine VO.c (.add rfl rfl (by omega)) ?_
    refine VO.c (.move rfl) ?_
    refine VO.perm swap2 ?_
    refine VO.perm swap1 ?_
    refine VO.perm swap2 ?_
    refine VO.nil ?_
    refine ⟨_, [(1, .p y72 c), (2, .raw ww1), (3, .raw ww2), (14, .v y68 c.1), (15, I ((c.1.length : Nat) : Int)), (16, I (((i + 1) : Nat) : Int))], ?_, ⟨rfl, rfl, rfl, rfl, rfl, rfl, trivial⟩, (i + 1), ww4, rfl, rfl, (by rw [List.take_succ_eq_append_getElem (by omega)] <;> rfl), (by omega)⟩
    omega
  refine VC.exit (VC.seq (VC.seq (VC.text ?_)))
  refine VO.c (.fa (.r (.l .o))) ?_
  refine VO.r (.ld vt69) ?_
  refine VO.r (.len el69) ?_
  refine VO.c (.move rfl) ?_
  refine VO.go (VC.block ?_)
  refine VC.cell0 96 y96 ?_
  refine VC.keep [(1, .p y72 c), (2, .raw ww1), (3, .raw ww2), (28, .v y69 c.2.1), (29, I ((c.2.1.length : Nat) : Int)), (30, I ((0 : Nat) : Int))] ⟨rfl, rfl, rfl, rfl, rfl, rfl, trivial⟩ ?_
  refine VC.loop (I := fun kk ff ss => ∃ (j : Nat) (w1 : Value), kk = c.2.1.length - j ∧ ff = [(1, .p y72 c), (2, .raw ww1), (3, .raw ww2), (28, .v y69 c.2.1), (29, I ((c.2.1.length : Nat) : Int)), (30, I ((j : Nat) : Int))] ∧ ss = [(w1, .row 96 y96 (c.2.1.take j)), (w0, .row 99 y99 (c.1.take i)), (ww2, .var [.raw w0, .raw w1, nilV]), (ww1, .var [nilV, nilV, nilV])] ∧ (j ≤ c.2.1.length)) ?_ _ _ _ ⟨0, (.slice none 0 0), rfl, rfl, rfl, Nat.zero_le _⟩
  rintro kk ff ss ⟨j, w1, hk2, rfl, rfl, hj⟩
  refine VC.seq (VC.text ?_)
  refine VO.c (.lss) ?_
  refine VO.go (VC.seq ?_)
  refine VC.condD rfl (fun c8 => ?_) (fun c8 => ?_)
  · have hwl := hc.w _ (List.getElem_mem (show j < c.2.1.length by omega))
    refine VC.skip (VC.seq (VC.block (VC.seq (VC.text ?_))))
    refine VO.c (.ix (j := j) rfl rfl el69 (by omega)) ?_
    refine VO.r (.ld vt155) ?_
    refine VO.cell (.alloc zt155) ?_
    intro ww6
    refine VO.setV (cs' := [St ((c.2.1[j]).1), .v y68 ((c.2.1[j]).2)]) vt155 .v ?_
    refine VO.shut [(7, .p y155 (c.2.1[j]))] (.cons rfl (.var m0 .refl) .nil) ?_
    refine VO.go (VC.seq (VC.text ?_))
    refine VO.c (.fa (.l .o)) ?_
    refine VO.r (.ld vt9) ?_
    refine VO.c (.buildA (cs := [St ((c.2.1[j]).1), nilV]) bt96 rfl) ?_
    refine VO.cell (.alloc zt96) ?_
    intro ww7
    refine VO.setV (cs' := [St ((c.2.1[j]).1), nilV]) vt96 (.aggs rfl rfl) ?_
    refine VO.go (VC.seq (VC.seq (VC.text ?_)))
    refine VO.c (.fa (.r .o)) ?_
    refine VO.r (.ld vt68) ?_
    refine VO.r (.len el68) ?_
    refine VO.c (.move rfl) ?_
    refine VO.go (VC.block ?_)
    refine VC.cell0 99 y99 ?_
    refine VC.keep [(1, .p y72 c), (2, .raw ww1), (3, .raw ww2), (8, .raw ww7), (28, .v y69 c.2.1), (29, I ((c.2.1.length : Nat) : Int)), (30, I ((j : Nat) : Int)), (38, .v y68 ((c.2.1[j]).2)), (39, I ((((c.2.1[j]).2).length : Nat) : Int)), (40, I ((0 : Nat) : Int))] ⟨rfl, rfl, rfl, rfl, rfl, rfl, rfl, rfl, rfl, rfl, trivial⟩ ?_
    refine VC.loop (I := fun kk ff ss => ∃ (k : Nat) (w2 : Value), kk = (c.2.1[j]).2.length - k ∧ ff = [(1, .p y72 c), (2, .raw ww1), (3, .raw ww2), (8, .raw ww7), (28, .v y69 c.2.1), (29, I ((c.2.1.length : Nat) : Int)), (30, I ((j : Nat) : Int)), (38, .v y68 ((c.2.1[j]).2)), (39, I ((((c.2.1[j]).2).length : Nat) : Int)), (40, I ((k : Nat) : Int))] ∧ ss = [(w2, .row 99 y99 ((c.2.1[j]).2.take k)), (ww7, .var [St ((c.2.1[j]).1), .raw w2]), (w1, .row 96 y96 (c.2.1.take j)), (w0, .row 99 y99 (c.1.take i)), (ww2, .var [.raw w0, .raw w1, nilV]), (ww1, .var [nilV, nilV, nilV])] ∧ (k ≤ (c.2.1[j]).2.length)) ?_ _ _ _ ⟨0, (.slice none 0 0), rfl, rfl, rfl, (by omega)⟩
    rintro kk ff ss ⟨k, w2, hk4, rfl, rfl, hk⟩
    refine VC.seq (VC.text ?_)
    refine VO.c (.lss) ?_
    refine VO.go (VC.seq ?_)
    refine VC.condD rfl (fun c12 => ?_) (fun c12 => ?_)
    · refine VC.skip (VC.seq (VC.block (VC.seq (VC.text ?_))))
      refine VO.c (.ix (j := k) rfl rfl el68 (by omega)) ?_
      refine VO.r (.ld vt153) ?_
      refine VO.cell (.alloc zt153) ?_
      intro ww8
      refine VO.setV (cs' := [St ((((c.2.1[j]).2)[k]).1), I ((((c.2.1[j]).2)[k]).2)]) vt153 .v ?_
      refine VO.shut [(10, .p y153 (((c.2.1[j]).2)[k]))] (.cons rfl (.var m0 .refl) .nil) ?_
      refine VO.go (VC.text ?_)
      refine VO.c (.faO (k := 1) m1) ?_
      refine VO.r (.ldF (k := 1) m1 vt60) ?_
      refine VO.r (.ld vt153) ?_
      refine VO.new (.lit [((c.2.1[j]).2)[k]] el60) ?_
      refine VO.app rfl rfl el60 el60 (by simp; omega) ?_
      intro ww9
      refine VO.c (.faO (k := 1) m1) ?_
      refine VO.perm swap1 ?_
      refine VO.one m1 fun ho10 => ?_
      refine VO.setF (cs' := [St ((c.2.1[j]).1), .raw ww9]) 1 vt60 (.raw rfl (agg_one ho10) ho10) ?_
      refine VO.nil (VC.text ?_)
      refine VO.c (.add rfl rfl (by omega)) ?_
      refine VO.c (.move rfl) ?_
      refine VO.perm swap5 ?_
      refine VO.perm swap5 ?_
      refine VO.perm swap5 ?_
      refine VO.perm swap5 ?_
      refine VO.perm swap4 ?_
      refine VO.perm swap5 ?_
      refine VO.nil ?_
      refine ⟨_, [(1, .p y72 c), (2, .raw ww1), (3, .raw ww2), (8, .raw ww7), (28, .v y69 c.2.1), (29, I ((c.2.1.length : Nat) : Int)), (30, I ((j : Nat) : Int)), (38, .v y68 ((c.2.1[j]).2)), (39, I ((((c.2.1[j]).2).length : Nat) : Int)), (40, I (((k + 1) : Nat) : Int))], ?_, ⟨rfl, rfl, rfl, rfl, rfl, rfl, rfl, rfl, rfl, rfl, trivial⟩, (k + 1), ww9, rfl, rfl, (by rw [List.take_succ_eq_append_getElem (by omega)] <;> rfl), (by omega)⟩
      omega
    refine VC.exit ?_
    refine VC.perm swap1 ?_
    refine VC.perm swap1 ?_
    refine VC.shutL [(w2, .row 99 y99 ((c.2.1[j]).2.take k)), (ww7, .var [St ((c.2.1[j]).1), .raw w2])] [(8, .p y96 ((c.2.1[j]).1, ((c.2.1[j]).2.take k)))] rfl (.cons rfl (.var m1 (.cons .same (.cons (.row m0) .nil))) .nil) ?_
    refine VC.text ?_
    refine VO.c (.faO (k := 1) m2) ?_
    refine VO.r (.ldF (k := 1) m2 vt61) ?_
    refine VO.r (.ld vt96) ?_
    refine VO.new (.lit [((c.2.1[j]).1, ((c.2.1[j]).2.take k))] el61) ?_
    refine VO.app rfl rfl el61 el61 (by simp; omega) ?_
    intro ww11
    refine VO.c (.faO (k := 1) m2) ?_
    refine VO.perm swap2 ?_
    refine VO.one m1 fun ho12 => ?_
    refine VO.setF (cs' := [.raw w0, .raw ww11, nilV]) 1 vt61 (.raw rfl (agg_one ho12) ho12) ?_
    refine VO.nil (VC.text ?_)
    refine VO.c (.add rfl rfl (by omega)) ?_
    refine VO.c (.move rfl) ?_
    refine VO.perm swap3 ?_
    refine VO.perm swap1 ?_
    refine VO.perm swap3 ?_
    refine VO.perm swap3 ?_
    refine VO.nil ?_
    refine ⟨_, [(1, .p y72 c), (2, .raw ww1), (3, .raw ww2), (28, .v y69 c.2.1), (29, I ((c.2.1.length : Nat) : Int)), (30, I (((j + 1) : Nat) : Int))], ?_, ⟨rfl, rfl, rfl, rfl, rfl, rfl, trivial⟩, (j + 1), ww11, rfl, rfl, (by rw [List.take_succ_eq_append_getElem (by omega), List.take_of_length_le (i := k) (by omega)] <;> rfl), (by omega)⟩
    omega
  refine VC.exit (VC.seq (VC.seq (VC.text ?_)))
  refine VO.c (.fa (.r (.r .o))) ?_
  refine VO.r (.ld vt70) ?_
  refine VO.r (.len el70) ?_
  refine VO.c (.move rfl) ?_
  refine VO.go (VC.block ?_)
  refine VC.cell0 109 y109 ?_
  refine VC.keep [(2, .raw ww1), (3, .raw ww2), (59, .v y70 c.2.2), (60, I ((c.2.2.length : Nat) : Int)), (61, I ((0 : Nat) : Int))] ⟨rfl, rfl, rfl, rfl, rfl, trivial⟩ ?_
  refine VC.loop (I := fun kk ff ss => ∃ (m : Nat) (w3 : Value), kk = c.2.2.length - m ∧ ff = [(2, .raw ww1), (3, .raw ww2), (59, .v y70 c.2.2), (60, I ((c.2.2.length : Nat) : Int)), (61, I ((m : Nat) : Int))] ∧ ss = [(w3, .row 109 y109 (c.2.2.take m)), (w1, .row 96 y96 (c.2.1.take j)), (w0, .row 99 y99 (c.1.take i)), (ww2, .var [.raw w0, .raw w1, .raw w3]), (ww1, .var [nilV, nilV, nilV])] ∧ (m ≤ c.2.2.length)) ?_ _ _ _ ⟨0, (.slice none 0 0), rfl, rfl, rfl, Nat.zero_le _⟩
  rintro kk ff ss ⟨m, w3, hk6, rfl, rfl, hm⟩
  refine VC.seq (VC.text ?_)
  refine VO.c (.lss) ?_
  refine VO.go (VC.seq ?_)
  refine VC.condD rfl (fun c19 => ?_) (fun c19 => ?_)
  · refine VC.skip (VC.seq (VC.block (VC.seq (VC.text ?_))))
    refine VO.c (.ix (j := m) rfl rfl el70 (by omega)) ?_
    refine VO.r (.ld vt156) ?_
    refine VO.cell (.alloc zt156) ?_
    intro ww13
    refine VO.setV (cs' := [St ((c.2.2[m]).1), B ((c.2.2[m]).2.1), .v (.sl .str) ((c.2.2[m]).2.2)]) vt156 .v ?_
    refine VO.shut [(12, .p y156 (c.2.2[m]))] (.cons rfl (.var m0 .refl) .nil) ?_
    refine VO.go (VC.drawn ?_)
    refine VD.co (.faO (k := 2) m3) ?_
    refine VD.r [(w3, .row 109 y109 (c.2.2.take m)), (w1, .row 96 y96 (c.2.1.take j)), (w0, .row 99 y99 (c.1.take i)), (ww2, .var [.raw w0, .raw w1, .raw w3]), (ww1, .var [nilV, nilV, nilV])] (.ldF (k := 2) m3 vt62) (.inr ⟨rfl, rfl⟩) ?_
    refine VD.c (.fa (.l .o)) ?_
    refine VD.r [] (.ld vt9) (.inl rfl) ?_
    refine VD.c (.fa (.r (.l .o))) ?_
    refine VD.r [] (.ld vt4) (.inl rfl) ?_
    refine VD.nw [] ?_
    refine VD.c (.fa (.r (.r .o))) ?_
    refine VD.r [] (.ld vt27) (.inl rfl) ?_
    refine VD.call rfl rfl (VF.call (lWords_ok (by have := hc.u _ (List.getElem_mem (show m < c.2.2.length by omega)); omega))) ?_
    refine VD.c (.build ((c.2.2[m]).1, (c.2.2[m]).2.1, ((c.2.2[m]).2.2)) bt109) ?_
    refine VD.new (.lit [((c.2.2[m]).1, (c.2.2[m]).2.1, ((c.2.2[m]).2.2))] el62) ?_
    refine VD.mk (MakeV.app el62 el62 rfl rfl (by simp; omega)) ?_
    rintro _ _ tl14 ⟨ww14, rfl, rfl⟩
    refine VD.co (.faO (k := 2) m3) ?_
    refine VD.perm swap3 ?_
    refine VD.one m1 fun ho15 => ?_
    refine VD.mk0 (MakeV.setF (k := 2) vt62 (.raw rfl (agg_one ho15) ho15) (Nat.le_of_ble_eq_true rfl) (.inl rfl) rfl rfl) ?_
    rintro _ _ tl16 ⟨rfl, rfl⟩
    refine VD.nil ?_
    refine VC.text ?_
    refine VO.c (.add rfl rfl (by omega)) ?_
    refine VO.c (.move rfl) ?_
    refine VO.perm swap4 ?_
    refine VO.perm swap1 ?_
    refine VO.perm swap4 ?_
    refine VO.perm swap4 ?_
    refine VO.perm swap4 ?_
    refine VO.nil ?_
    refine ⟨_, [(2, .raw ww1), (3, .raw ww2), (59, .v y70 c.2.2), (60, I ((c.2.2.length : Nat) : Int)), (61, I (((m + 1) : Nat) : Int))], ?_, ⟨rfl, rfl, rfl, rfl, rfl, trivial⟩, (m + 1), ww14, rfl, rfl, (by rw [List.take_succ_eq_append_getElem (by omega)] <;> rfl), (by omega)⟩
    omega
  refine VC.exit (VC.seq ?_)
  refine VC.perm swap3 ?_
  refine VC.perm swap1 ?_
  refine VC.perm swap2 ?_
  refine VC.perm swap3 ?_
  refine VC.shutL [(w0, .row 99 y99 (c.1.take i)), (w1, .row 96 y96 (c.2.1.take j)), (w3, .row 109 y109 (c.2.2.take m)), (ww2, .var [.raw w0, .raw w1, .raw w3])] [(3, .p y64 ((c.1.take i), (c.2.1.take j), (c.2.2.take m)))] rfl (.cons rfl (.var m3 (.cons (.row m0) (.cons (.row m1) (.cons (.row m2) .nil)))) .nil) ?_
  refine VC.text ?_
  refine VO.r (.ld vt64) ?_
  refine VO.setV (cs' := [.v y60 (c.1.take i), .v y61 (c.2.1.take j), .v y62 (c.2.2.take m)]) vt64 .v ?_
  refine VO.go ?_
  refine VC.ret ?_
  exact VEnd.one rfl (.cell (x := ((c.1.take i), (c.2.1.take j), (c.2.2.take m))) rfl m0 vt64 .refl) (pvE (by rw [List.take_of_length_le (by omega), List.take_of_length_le (by omega), List.take_of_length_le (by omega)]))
end Go.Proofs
namespace Go.Proofs
open Go.Fs
set_option linter.unusedVariables false
set_option maxHeartbeats 4000000

theorem nul_ok : CseOk ([], [], []) := ⟨by decide, by decide, by decide, fun x hx => (by cases hx), fun x hx => (by cases hx)⟩
theorem chgI_ok {c : Cse} {s : ByteArray} {n : Int} (hc : CseOk c) : CseOk (if chgE c s n = 0 then chgC c s n else ([], [], [])) := by
  split
  · exact chg_ok hc
  exact nul_ok
theorem chgI_len {c : Cse} {s : ByteArray} {n : Int} (hc : CseOk c) : (if chgE c s n = 0 then reopE c s n else []).length < 1000000 := by
  split
  · exact Nat.lt_of_le_of_lt reop_len (by have := hc.l; omega)
  decide
end Go.Proofs
namespace Go.Proofs
open Go.Fs
set_option linter.unusedVariables false
set_option maxHeartbeats 4000000

theorem sFreshV_ok {c : Cse} (hc : CseOk c) (hz : caseE c = 0) : VF Tryz.prog OA 37 [.v y72 c] (.tup [.v (.sl .str) (validR c), I 0]) := by
  have h := sFresh_ok hc
  rwa [if_pos hz, validE_R hz, hz] at h
theorem sOpenV_ok {c : Cse} (hc : CseOk c) (hz : caseE c = 0) : VF Tryz.prog OA 40 [.v y72 c] (.tup [.v (.sl .str) (opnR c c.2.2.length), I 0]) := by
  have h := sOpenT_ok hc
  rwa [if_pos hz, openE_R hz, hz] at h
theorem claim_rTwo {c y : Cse} {s : ByteArray} (hr : rTwo c s = 0) (hz : caseE y = 0) (hcl : y.2.2 = c.2.2) : rTwo y s = 0 := by
  have hn := (rTwo_ok hr).2
  unfold rTwo
  rw [if_neg (fun h => h hz), hcl, if_neg (by omega)]
end Go.Proofs
namespace Go.Proofs
open Go.Fs
set_option linter.unusedVariables false
set_option maxHeartbeats 4000000
theorem bt64 : BldT Tryz.prog 64 y64 [(0, 1), (1, 1), (2, 1)] := bldT_of zt64 rfl (by kernel_rfl)
def chgI (c : Cse) (s : ByteArray) (n : Int) : Cse := if chgE c s n = 0 then chgC c s n else ([], [], [])
def reoI (c : Cse) (s : ByteArray) (n : Int) : List ByteArray := if chgE c s n = 0 then reopE c s n else []
def heldB (c : Cse) (s : ByteArray) : Bool := decide (rTwo c s = 0) && byR c (validR c) s
def hldE (c : Cse) (s : ByteArray) : Int := if byR c (validR c) s = true then 0 else 35
def supI (c : Cse) (s : ByteArray) : List ByteArray := if byR c (validR c) s = true then supL c s else []
def nedI (c : Cse) (s : ByteArray) : List ByteArray := if byR c (validR c) s = true then (validR c).filter (needB c s (validR c)) else []
theorem sReopI_ok {c : Cse} {s : ByteArray} {n : Int} (hc : CseOk c) : VF Tryz.prog OA 49 [.v y72 c, St s, I n] (.tup [.v (.sl .str) (reoI c s n), I (chgE c s n)]) := sReopened_ok hc
theorem sChangeI_ok {c : Cse} {s : ByteArray} {n : Int} (hc : CseOk c) : VF Tryz.prog OA 48 [.v y72 c, St s, I n] (.tup [.v y72 (chgI c s n), I (chgE c s n)]) := sChange_ok hc
theorem sHoldsR_ok {c : Cse} {s : ByteArray} (hc : CseOk c) (hz : caseE c = 0) : VF Tryz.prog OA 39 [.v y72 c, St s] (.tup [B (heldB c s), I (rTwo c s)]) := by
  have h := sHolds_ok (s := s) hc
  rw [two_same, holds_R hz] at h
  unfold heldB
  by_cases hr : rTwo c s = 0
  · rw [if_pos hr] at h
    rw [decide_eq_true hr, Bool.true_and]; exact h
  rw [if_neg hr] at h
  rw [decide_eq_false hr, Bool.false_and]; exact h
theorem sSupportR_ok {c : Cse} {s : ByteArray} (hc : CseOk c) (hr : rTwo c s = 0) : VF Tryz.prog OA 60 [.v y72 c, St s] (.tup [.v (.sl .str) (supI c s), I (hldE c s)]) := by
  have h := sSupport_ok (s := s) hc
  have e1 : (if heldE c s = 0 then leanF c s [] (validE c).length (validE c) else []) = supI c s := (sup_AB hr).1
  have e2 : heldE c s = hldE c s := held_0 hr
  rw [e1, e2] at h; exact h
theorem sNeededR_ok {c : Cse} {s : ByteArray} (hc : CseOk c) (hr : rTwo c s = 0) : VF Tryz.prog OA 61 [.v y72 c, St s] (.tup [.v (.sl .str) (nedI c s), I (hldE c s)]) := by
  have h := sNeeded_ok (s := s) hc
  have e1 : (if heldE c s = 0 then (validE c).filter (needB c s (validE c)) else []) = nedI c s := (sup_AB hr).2.1
  have e2 : heldE c s = hldE c s := held_0 hr
  rw [e1, e2] at h; exact h
theorem restU_t1 {c : Cse} (hz : caseE c = 0) {j : Nat} (hj : j < c.2.2.length) {u : ByteArray} (hu : u ∈ c.2.2[j].2.2) (h : hasB (validR c) u = true) : inM (clM c (validR c) j) u = true := by
  rw [← rest_use hz hj hu]; unfold restB; rw [h] <;> rfl
theorem restU_t2 {c : Cse} (hz : caseE c = 0) {j : Nat} (hj : j < c.2.2.length) {u : ByteArray} (hu : u ∈ c.2.2[j].2.2) (h : heldB c u = true) : inM (clM c (validR c) j) u = true := by
  rw [← rest_use hz hj hu]; unfold restB; unfold heldB at h; rw [h, Bool.or_true]
theorem restU_f {c : Cse} (hz : caseE c = 0) {j : Nat} (hj : j < c.2.2.length) {u : ByteArray} (hu : u ∈ c.2.2[j].2.2) (h : hasB (validR c) u = false) (h2 : ¬ rTwo c u = 0 ∨ heldB c u = false) : inM (clM c (validR c) j) u = false := by
  rw [← rest_use hz hj hu]; unfold restB; rw [h, Bool.false_or]
  rcases h2 with h2 | h2
  · rw [decide_eq_false h2] <;> rfl
  exact h2
theorem held_by {c : Cse} {s : ByteArray} (hr : rTwo c s = 0) : heldB c s = byR c (validR c) s := by unfold heldB; rw [decide_eq_true hr, Bool.true_and]
theorem held_sup {c : Cse} {s : ByteArray} (hr : rTwo c s = 0) (h : heldB c s = true) : hldE c s = 0 ∧ SupP c s (supI c s) ∧ nedI c s = (validR c).filter (needB c s (validR c)) := by
  rw [held_by hr] at h
  unfold hldE supI nedI
  rw [if_pos h, if_pos h, if_pos h]
  exact ⟨rfl, supP (rTwo_ok hr).1 h, rfl⟩
theorem held_not {c : Cse} {s : ByteArray} (hr : rTwo c s = 0) (h : heldB c s = false) : hldE c s = 35 := by
  rw [held_by hr] at h
  unfold hldE
  rw [if_neg (by rw [h]; decide)]
theorem open_held {c : Cse} {j : Nat} (hz : caseE c = 0) (hj : j < c.2.2.length) : hasB (opnR c c.2.2.length) c.2.2[j].1 = !heldB c c.2.2[j].1 := by
  rw [held_by (rTwo_of hz hj)]
  cases hb : byR c (validR c) c.2.2[j].1 with
  | false => exact has_in.2 (opnR_mem.2 ⟨⟨_, List.getElem_mem hj, rfl⟩, hb⟩)
  | true =>
    cases ho : hasB (opnR c c.2.2.length) c.2.2[j].1 with
    | false => rfl
    | true => have := (opnR_mem.1 (has_in.1 ho)).2; rw [hb] at this; cases this
theorem reo_not {c : Cse} {t : ByteArray} {n : Int} {j : Nat} (hz : caseE c = 0) (hj : j < c.2.2.length) (h : heldB c c.2.2[j].1 = false) : hasB (reoI c t n) c.2.2[j].1 = false := by
  rw [held_by (rTwo_of hz hj)] at h
  cases ho : hasB (reoI c t n) c.2.2[j].1 with
  | false => rfl
  | true =>
    have hm := has_in.1 ho
    unfold reoI at hm
    by_cases hg : chgE c t n = 0
    · rw [if_pos hg] at hm
      have := ((reop_mem hg).1 hm).2.1
      rw [h] at this; cases this
    rw [if_neg hg] at hm; cases hm
theorem chgI_0 {c : Cse} {t : ByteArray} {n : Int} (h : chgE c t n = 0) : chgI c t n = chgC c t n := if_pos h
theorem reo_now {c : Cse} {t : ByteArray} {n : Int} {j : Nat} (hg : chgE c t n = 0) (hj : j < c.2.2.length) (h : heldB c c.2.2[j].1 = true) : rTwo (chgI c t n) c.2.2[j].1 = 0 ∧ hasB (reoI c t n) c.2.2[j].1 = !heldB (chgI c t n) c.2.2[j].1 := by
  obtain ⟨hz, _⟩ := chg_parts hg
  have hr := rTwo_of hz hj
  have hr2 : rTwo (chgC c t n) c.2.2[j].1 = 0 := claim_rTwo hr (chg_case hg) rfl
  rw [chgI_0 hg]
  refine ⟨hr2, ?_⟩
  rw [held_by hr] at h
  rw [held_by hr2]
  have e : reoI c t n = reopE c t n := if_pos hg
  rw [e]
  cases hb : byR (chgC c t n) (validR (chgC c t n)) c.2.2[j].1 with
  | false => exact has_in.2 ((reop_mem hg).2 ⟨⟨_, List.getElem_mem hj, rfl⟩, h, hb⟩)
  | true =>
    cases ho : hasB (reopE c t n) c.2.2[j].1 with
    | false => rfl
    | true => have := ((reop_mem hg).1 (has_in.1 ho)).2.2; rw [hb] at this; cases this
theorem touch_held {c : Cse} {t : ByteArray} {n : Int} {j : Nat} (hg : chgE c t n = 0) (hj : j < c.2.2.length) (h : heldB c c.2.2[j].1 = true) (ht : touchE c (supI c c.2.2[j].1) t c.2.1.length = false) : heldB (chgI c t n) c.2.2[j].1 = true := by
  obtain ⟨hz, _⟩ := chg_parts hg
  have hr2 : rTwo (chgC c t n) c.2.2[j].1 = 0 := claim_rTwo (rTwo_of hz hj) (chg_case hg) rfl
  rw [chgI_0 hg, held_by hr2]
  exact touch_no hg (held_sup (rTwo_of hz hj) h).2.1 ht
theorem held_end {c : Cse} {j i : Nat} (hz : caseE c = 0) (hj : j < c.2.2.length) (hi : (c.2.2[j]).2.2.length ≤ i) :
    heldB c c.2.2[j].1 = (decide (((cntU (clM c (validR c) j) c.2.2[j] i : Nat) : Int) = ((c.2.2[j]).2.2.length : Nat)) || ((c.2.2[j]).2.1 && decide (0 < ((cntU (clM c (validR c) j) c.2.2[j] i : Nat) : Int)))) := by
  rw [held_by (rTwo_of hz hj)]
  exact byR_end (case_claims hz) hj rfl hi
theorem rests_7 {c : Cse} {t : ByteArray} {n : Int} (h : ((0 ≠ (0 : Int) ∨ 0 ≠ (0 : Int)) ∨ chgE c t n ≠ chgE c t n) ∨ chgE c t n ≠ rThE c t n) : False := by
  rcases h with ((h | h) | h) | h
  · exact h rfl
  · exact h rfl
  · exact h rfl
  exact h chg_same
theorem touchW_succ {s : ByteArray} {l : List Vers} {i : Nat} (h : i < l.length) : touchW s (l.take (i + 1)) = (touchW s (l.take i) || decide (l[i].1 = s)) := by
  unfold touchW
  rw [List.take_succ_eq_append_getElem h, List.any_append]
  simp
theorem moreF_a {c : Cse} {l m : List ByteArray} {y : Evid} (h : hasB l y.1 = true) : moreF c l m y = m ++ [y.1] := if_pos (by rw [h]; rfl)
theorem moreF_b {c : Cse} {l m : List ByteArray} {y : Evid} (h : ((m.length : Nat) : Int) = ((l.length : Nat) : Int) ∧ hasB (validR c) y.1 = true) : moreF c l m y = m ++ [y.1] := if_pos (by rw [decide_eq_true h.1, h.2, Bool.and_true, Bool.or_true])
theorem moreF_c {c : Cse} {l m : List ByteArray} {y : Evid} (h : hasB l y.1 = false) (h2 : ¬ ((m.length : Nat) : Int) = ((l.length : Nat) : Int) ∨ hasB (validR c) y.1 = false) : moreF c l m y = m := if_neg (by
  rw [h]
  rcases h2 with h2 | h2
  · rw [decide_eq_false h2, Bool.false_and]; decide
  rw [h2, Bool.and_false]; decide)
theorem reo_beq {a b : Bool} {p : Prop} (h : a = !b) (g : (a == b) = true) : p := by subst h; cases b <;> cases g
theorem law9_ok {c : (List (ByteArray × Int)) × (List (ByteArray × (List (ByteArray × Int)))) × (List (ByteArray × Bool × (List ByteArray)))} {t : ByteArray} {n : Int} : VF Tryz.prog OA 11 [.v y64 c, St t, I n] (B true) := by
  refine VF.enter Tryz.func11 rfl (fun _ _ => rfl) rfl ?_
  show VC _ _ _ _ _ [(0, .v y64 c), (1, St t), (2, I n)] [] _
  refine VC.seq (VC.text ?_)
  refine VO.new (.box) ?_
  refine VO.c (.assign rfl) ?_
  refine VO.go (VC.seq (VC.seq (VC.text ?_)))
  refine VO.r (.ld vt64) ?_
  refine VO.call rfl rfl (VF.call (rShortC_ok )) ?_
  refine VO.c (.not) ?_
  refine VO.c (.move rfl) ?_
  refine VO.cg (r := (!(shortC c))) (w := false) [] trivial (fun hgd => have g1_3 : (!(shortC c)) = false := (by simpa using hgd); (.move rfl)) ?_
  refine VO.rg (r := (!(shortC c))) (w := false) [(43, St t)] ⟨rfl, trivial⟩ (fun hgd => have g1_3 : (!(shortC c)) = false := (by simpa using hgd); (.lenS)) ?_
  refine VO.cg (r := (!(shortC c))) (w := false) [(44, I ((t.size : Nat) : Int))] ⟨rfl, trivial⟩ (fun hgd => have g1_3 : (!(shortC c)) = false := (by simpa using hgd); (.gtr)) ?_
  refine VO.c (.or) ?_
  refine VO.c (.move rfl) ?_
  refine VO.rg (r := ((!(shortC c)) || (decide ((60 : Int) < ((t.size : Nat) : Int))))) (w := false) [] trivial (fun hgd => have g1_8 : ((!(shortC c)) || (decide ((60 : Int) < ((t.size : Nat) : Int)))) = false := (by simpa using hgd); (.ld vt64)) ?_
  refine VO.callg (r0 := ((!(shortC c)) || (decide ((60 : Int) < ((t.size : Nat) : Int))))) (w := false) [(48, .v y64 c)] ⟨rfl, trivial⟩ rfl rfl .same .refl rfl (fun hgd => have g1_8 : ((!(shortC c)) || (decide ((60 : Int) < ((t.size : Nat) : Int)))) = false := (by simpa using hgd); VF.call (rCase_ok (shortC_ok (by cases hsc : shortC c with | true => rfl | false => rw [hsc] at g1_8; cases g1_8)))) ?_
  refine VO.cg (r := ((!(shortC c)) || (decide ((60 : Int) < ((t.size : Nat) : Int))))) (w := false) [(49, I (caseE c))] ⟨rfl, trivial⟩ (fun hgd => have g1_8 : ((!(shortC c)) || (decide ((60 : Int) < ((t.size : Nat) : Int)))) = false := (by simpa using hgd); (.neq)) ?_
  refine VO.c (.or) ?_
  refine VO.go ?_
  refine VC.condB rfl (fun c1 => ?_) (fun c1 => ?_)
  · try simp only [Bool.and_eq_true, Bool.or_eq_true, Bool.and_eq_false_iff, Bool.or_eq_false_iff, Bool.not_eq_true', Bool.not_eq_false', decide_eq_true_eq, decide_eq_false_iff_not] at c1
    refine VC.seq (VC.text ?_)
    refine VO.call rfl rfl (VF.call (awakeC_ok )) ?_
    refine VO.c (.assign rfl) ?_
    refine VO.go ?_
    refine VC.ret ?_
    exact VEnd.one rfl evT (pvE (by rfl))
  try simp only [Bool.and_eq_true, Bool.or_eq_true, Bool.and_eq_false_iff, Bool.or_eq_false_iff, Bool.not_eq_true', Bool.not_eq_false', decide_eq_true_eq, decide_eq_false_iff_not] at c1
  have hc := shortC_ok c1.1.1
  have hcv := hc.v
  have hz : caseE c = 0 := Classical.not_not.1 c1.2
  have hcl := hc.l
  have hce := hc.e
  have hvl := validR_len (c := c)
  have hor := opnR_len (c := c) (i := c.2.2.length)
  have hci : CseOk (chgI c t n) := chgI_ok hc
  have hrl : (reoI c t n).length < 1000000 := chgI_len hc
  refine VC.skip (VC.seq (VC.text ?_))
  refine VO.r (.ld vt64) ?_
  refine VO.call rfl rfl (VF.call (lGiven_ok (by first | assumption | omega | simp))) ?_
  refine VO.call rfl rfl (VF.call (sFreshV_ok (by first | assumption | omega | simp) (by first | assumption | omega | simp))) ?_
  refine VO.c (.move rfl) ?_
  refine VO.c (.extract) ?_
  refine VO.c (.extract) ?_
  refine VO.c (.assign rfl) ?_
  refine VO.c (.assign rfl) ?_
  refine VO.go (VC.seq (VC.text ?_))
  refine VO.r (.ld vt64) ?_
  refine VO.call rfl rfl (VF.call (lGiven_ok (by first | assumption | omega | simp))) ?_
  refine VO.call rfl rfl (VF.call (sOpenV_ok (by first | assumption | omega | simp) (by first | assumption | omega | simp))) ?_
  refine VO.c (.move rfl) ?_
  refine VO.c (.extract) ?_
  refine VO.c (.extract) ?_
  refine VO.c (.assign rfl) ?_
  refine VO.c (.assign rfl) ?_
  refine VO.go (VC.seq (VC.text ?_))
  refine VO.r (.ld vt64) ?_
  refine VO.call rfl rfl (VF.call (lGiven_ok (by first | assumption | omega | simp))) ?_
  refine VO.c (.move rfl) ?_
  refine VO.c (.move rfl) ?_
  refine VO.call rfl rfl (VF.call (sReopI_ok (by first | assumption | omega | simp))) ?_
  refine VO.c (.move rfl) ?_
  refine VO.c (.extract) ?_
  refine VO.c (.extract) ?_
  refine VO.c (.assign rfl) ?_
  refine VO.c (.assign rfl) ?_
  refine VO.go (VC.seq ?_)
  refine VC.keep [(1, St t), (2, I n), (3, .p y64 c), (7, .v (.sl .str) (validR c)), (8, I 0), (9, .v (.sl .str) (opnR c c.2.2.length)), (10, I 0), (11, .v (.sl .str) (reoI c t n)), (12, I (chgE c t n))] ⟨rfl, rfl, rfl, rfl, rfl, rfl, rfl, rfl, rfl, trivial⟩ ?_
  refine VC.text ?_
  refine VO.r (.ld vt64) ?_
  refine VO.call rfl rfl (VF.call (lGiven_ok (by first | assumption | omega | simp))) ?_
  refine VO.c (.move rfl) ?_
  refine VO.c (.move rfl) ?_
  refine VO.call rfl rfl (VF.call (sChangeI_ok (by first | assumption | omega | simp))) ?_
  refine VO.c (.move rfl) ?_
  refine VO.c (.extract) ?_
  refine VO.c (.extract) ?_
  refine VO.cell (.alloc zt72) ?_
  intro ww1
  refine VO.setV (cs' := [.v y68 ((chgI c t n).1), .v y69 ((chgI c t n).2.1), .v y70 ((chgI c t n).2.2)]) vt72 .v ?_
  refine VO.shut [(13, .p y72 (chgI c t n))] (.cons rfl (.var m0 .refl) .nil) ?_
  refine VO.c (.assign rfl) ?_
  refine VO.go (VC.seq (VC.seq (VC.text ?_)))
  refine VO.c (.move rfl) ?_
  refine VO.c (.neq) ?_
  refine VO.c (.move rfl) ?_
  refine VO.cg (r := decide (0 ≠ (0 : Int))) (w := false) [] trivial (fun hgd => have g7_2 : ¬ (0 ≠ (0 : Int)) := (by simpa using hgd); (.move rfl)) ?_
  refine VO.cg (r := decide (0 ≠ (0 : Int))) (w := false) [(84, I 0)] ⟨rfl, trivial⟩ (fun hgd => have g7_2 : ¬ (0 ≠ (0 : Int)) := (by simpa using hgd); (.neq)) ?_
  refine VO.c (.or) ?_
  refine VO.c (.move rfl) ?_
  refine VO.cg (r := ((decide (0 ≠ (0 : Int))) || (decide (0 ≠ (0 : Int))))) (w := false) [] trivial (fun hgd => have g7_6 : ((decide (0 ≠ (0 : Int))) || (decide (0 ≠ (0 : Int)))) = false := (by simpa using hgd); (.move rfl)) ?_
  refine VO.cg (r := ((decide (0 ≠ (0 : Int))) || (decide (0 ≠ (0 : Int))))) (w := false) [] trivial (fun hgd => have g7_6 : ((decide (0 ≠ (0 : Int))) || (decide (0 ≠ (0 : Int)))) = false := (by simpa using hgd); (.move rfl)) ?_
  refine VO.cg (r := ((decide (0 ≠ (0 : Int))) || (decide (0 ≠ (0 : Int))))) (w := false) [(88, I (chgE c t n)), (89, I (chgE c t n))] ⟨rfl, rfl, trivial⟩ (fun hgd => have g7_6 : ((decide (0 ≠ (0 : Int))) || (decide (0 ≠ (0 : Int)))) = false := (by simpa using hgd); (.neq)) ?_
  refine VO.c (.or) ?_
  refine VO.c (.move rfl) ?_
  refine VO.cg (r := (((decide (0 ≠ (0 : Int))) || (decide (0 ≠ (0 : Int)))) || (decide (chgE c t n ≠ chgE c t n)))) (w := false) [] trivial (fun hgd => have g7_11 : (((decide (0 ≠ (0 : Int))) || (decide (0 ≠ (0 : Int)))) || (decide (chgE c t n ≠ chgE c t n))) = false := (by simpa using hgd); (.move rfl)) ?_
  refine VO.rg (r := (((decide (0 ≠ (0 : Int))) || (decide (0 ≠ (0 : Int)))) || (decide (chgE c t n ≠ chgE c t n)))) (w := false) [] trivial (fun hgd => have g7_11 : (((decide (0 ≠ (0 : Int))) || (decide (0 ≠ (0 : Int)))) || (decide (chgE c t n ≠ chgE c t n))) = false := (by simpa using hgd); (.ld vt64)) ?_
  refine VO.cg (r := (((decide (0 ≠ (0 : Int))) || (decide (0 ≠ (0 : Int)))) || (decide (chgE c t n ≠ chgE c t n)))) (w := false) [] trivial (fun hgd => have g7_11 : (((decide (0 ≠ (0 : Int))) || (decide (0 ≠ (0 : Int)))) || (decide (chgE c t n ≠ chgE c t n))) = false := (by simpa using hgd); (.move rfl)) ?_
  refine VO.cg (r := (((decide (0 ≠ (0 : Int))) || (decide (0 ≠ (0 : Int)))) || (decide (chgE c t n ≠ chgE c t n)))) (w := false) [] trivial (fun hgd => have g7_11 : (((decide (0 ≠ (0 : Int))) || (decide (0 ≠ (0 : Int)))) || (decide (chgE c t n ≠ chgE c t n))) = false := (by simpa using hgd); (.move rfl)) ?_
  refine VO.callg (r0 := (((decide (0 ≠ (0 : Int))) || (decide (0 ≠ (0 : Int)))) || (decide (chgE c t n ≠ chgE c t n)))) (w := false) [(94, .v y64 c), (95, St t), (96, I n)] ⟨rfl, rfl, rfl, trivial⟩ rfl rfl .same .refl rfl (fun hgd => have g7_11 : (((decide (0 ≠ (0 : Int))) || (decide (0 ≠ (0 : Int)))) || (decide (chgE c t n ≠ chgE c t n))) = false := (by simpa using hgd); VF.call (rCheckThing_ok (by first | assumption | omega | simp))) ?_
  refine VO.cg (r := (((decide (0 ≠ (0 : Int))) || (decide (0 ≠ (0 : Int)))) || (decide (chgE c t n ≠ chgE c t n)))) (w := false) [(93, I (chgE c t n)), (97, I (rThE c t n))] ⟨rfl, rfl, trivial⟩ (fun hgd => have g7_11 : (((decide (0 ≠ (0 : Int))) || (decide (0 ≠ (0 : Int)))) || (decide (chgE c t n ≠ chgE c t n))) = false := (by simpa using hgd); (.neq)) ?_
  refine VO.c (.or) ?_
  refine VO.go ?_
  refine VC.condB rfl (fun c7 => ?_) (fun c7 => ?_)
  · try simp only [Bool.and_eq_true, Bool.or_eq_true, Bool.and_eq_false_iff, Bool.or_eq_false_iff, Bool.not_eq_true', Bool.not_eq_false', decide_eq_true_eq, decide_eq_false_iff_not] at c7
    exact (rests_7 c7).elim
  try simp only [Bool.and_eq_true, Bool.or_eq_true, Bool.and_eq_false_iff, Bool.or_eq_false_iff, Bool.not_eq_true', Bool.not_eq_false', decide_eq_true_eq, decide_eq_false_iff_not] at c7
  refine VC.skip (VC.seq (VC.text ?_))
  refine VO.c (.build ([], [], []) bt64) ?_
  refine VO.cell (.alloc zt64) ?_
  intro ww2
  refine VO.setV (cs' := [.v y60 [], .v y61 [], .v y62 []]) vt64 .v ?_
  refine VO.go (VC.seq (VC.seq (VC.text ?_)))
  refine VO.c (.move rfl) ?_
  refine VO.c (.eql) ?_
  refine VO.go ?_
  refine VC.join [(1, St t), (3, .p y64 c), (7, .v (.sl .str) (validR c)), (9, .v (.sl .str) (opnR c c.2.2.length)), (11, .v (.sl .str) (reoI c t n)), (12, I (chgE c t n)), (15, .raw ww2)] [(ww2, .var [.v y60 ((chgI c t n).1), .v y61 ((chgI c t n).2.1), .v y62 ((chgI c t n).2.2)])] ?_ ?_
  refine VC.condD rfl (fun c10 => ?_) (fun c10 => ?_)
  · have hcz : caseE (chgI c t n) = 0 := by rw [chgI_0 c10]; exact chg_case c10
    refine VC.seq (VC.text ?_)
    refine VO.r (.ld vt72) ?_
    refine VO.call rfl rfl (VF.call (lTold_ok (by first | assumption | omega | simp))) ?_
    refine VO.setV (cs' := [.v y60 ((chgI c t n).1), .v y61 ((chgI c t n).2.1), .v y62 ((chgI c t n).2.2)]) vt64 .v ?_
    refine VO.go (VC.seq (VC.text ?_))
    refine VO.r (.ldA (dx := (chgI c t n)) m0 vt64) ?_
    refine VO.call rfl rfl (VF.call (rCase_ok (by first | assumption | omega | simp))) ?_
    refine VO.c (.neq) ?_
    refine VO.go ?_
    refine VC.condD rfl (fun c12 => ?_) (fun c12 => ?_)
    · exact absurd hcz c12
    refine VC.skip ?_
    exact ⟨⟨rfl, rfl, rfl, rfl, rfl, rfl, rfl, trivial⟩, (by first | rfl | rw [show chgI c t n = ([], [], []) from if_neg c10])⟩
  · refine VC.skip ?_
    exact ⟨⟨rfl, rfl, rfl, rfl, rfl, rfl, rfl, trivial⟩, (by first | rfl | rw [show chgI c t n = ([], [], []) from if_neg c10])⟩
  refine VC.seq (VC.seq ?_)
  refine VC.shutL [(ww2, .var [.v y60 ((chgI c t n).1), .v y61 ((chgI c t n).2.1), .v y62 ((chgI c t n).2.2)])] [(15, .p y64 (chgI c t n))] rfl (.cons rfl (.var m0 .refl) .nil) ?_
  refine VC.text ?_
  refine VO.c (.fa (.r (.r .o))) ?_
  refine VO.r (.ld vt62) ?_
  refine VO.r (.len el62) ?_
  refine VO.c (.move rfl) ?_
  refine VO.go (VC.block ?_)
  refine VC.keep [(1, St t), (3, .p y64 c), (7, .v (.sl .str) (validR c)), (9, .v (.sl .str) (opnR c c.2.2.length)), (11, .v (.sl .str) (reoI c t n)), (12, I (chgE c t n)), (15, .p y64 (chgI c t n)), (109, .v y62 c.2.2), (110, I ((c.2.2.length : Nat) : Int)), (111, I ((0 : Nat) : Int))] ⟨rfl, rfl, rfl, rfl, rfl, rfl, rfl, rfl, rfl, rfl, trivial⟩ ?_
  refine VC.loop (I := fun kk ff ss => ∃ (j : Nat), kk = c.2.2.length - j ∧ ff = [(1, St t), (3, .p y64 c), (7, .v (.sl .str) (validR c)), (9, .v (.sl .str) (opnR c c.2.2.length)), (11, .v (.sl .str) (reoI c t n)), (12, I (chgE c t n)), (15, .p y64 (chgI c t n)), (109, .v y62 c.2.2), (110, I ((c.2.2.length : Nat) : Int)), (111, I ((j : Nat) : Int))] ∧ ss = [] ∧ (j ≤ c.2.2.length)) ?_ _ _ _ ⟨0, rfl, rfl, rfl, Nat.zero_le _⟩
  rintro kk ff ss ⟨j, hk0, rfl, rfl, hj⟩
  refine VC.seq (VC.text ?_)
  refine VO.c (.lss) ?_
  refine VO.go (VC.seq ?_)
  refine VC.condD rfl (fun c15 => ?_) (fun c15 => ?_)
  · have hjl : j < c.2.2.length := by omega
    have hr := rTwo_of hz hjl
    have hul := hc.u _ (List.getElem_mem hjl)
    refine VC.skip (VC.seq (VC.block (VC.seq (VC.text ?_))))
    refine VO.c (.ix (j := j) rfl rfl el62 (by omega)) ?_
    refine VO.r (.ld vt109) ?_
    refine VO.cell (.alloc zt109) ?_
    intro ww3
    refine VO.setV (cs' := [St ((c.2.2[j]).1), B ((c.2.2[j]).2.1), .v (.sl .str) ((c.2.2[j]).2.2)]) vt109 .v ?_
    refine VO.shut [(17, .p y109 (c.2.2[j]))] (.cons rfl (.var m0 .refl) .nil) ?_
    refine VO.go (VC.seq (VC.text ?_))
    refine VO.c (.assign rfl) ?_
    refine VO.go (VC.seq (VC.seq (VC.text ?_)))
    refine VO.c (.fa (.r (.r .o))) ?_
    refine VO.r (.ld vt27) ?_
    refine VO.r (.len el27) ?_
    refine VO.c (.move rfl) ?_
    refine VO.go (VC.block ?_)
    refine VC.keep [(1, St t), (3, .p y64 c), (7, .v (.sl .str) (validR c)), (9, .v (.sl .str) (opnR c c.2.2.length)), (11, .v (.sl .str) (reoI c t n)), (12, I (chgE c t n)), (15, .p y64 (chgI c t n)), (17, .p y109 (c.2.2[j])), (18, I ((cntU (clM c (validR c) j) c.2.2[j] 0 : Nat) : Int)), (109, .v y62 c.2.2), (110, I ((c.2.2.length : Nat) : Int)), (111, I ((j : Nat) : Int)), (116, .v (.sl .str) ((c.2.2[j]).2.2)), (117, I ((((c.2.2[j]).2.2).length : Nat) : Int)), (118, I ((0 : Nat) : Int))] ⟨rfl, rfl, rfl, rfl, rfl, rfl, rfl, rfl, rfl, rfl, rfl, rfl, rfl, rfl, rfl, trivial⟩ ?_
    refine VC.loop (I := fun kk ff ss => ∃ (i : Nat), kk = (c.2.2[j]).2.2.length - i ∧ ff = [(1, St t), (3, .p y64 c), (7, .v (.sl .str) (validR c)), (9, .v (.sl .str) (opnR c c.2.2.length)), (11, .v (.sl .str) (reoI c t n)), (12, I (chgE c t n)), (15, .p y64 (chgI c t n)), (17, .p y109 (c.2.2[j])), (18, I ((cntU (clM c (validR c) j) c.2.2[j] i : Nat) : Int)), (109, .v y62 c.2.2), (110, I ((c.2.2.length : Nat) : Int)), (111, I ((j : Nat) : Int)), (116, .v (.sl .str) ((c.2.2[j]).2.2)), (117, I ((((c.2.2[j]).2.2).length : Nat) : Int)), (118, I ((i : Nat) : Int))] ∧ ss = [] ∧ (i ≤ (c.2.2[j]).2.2.length)) ?_ _ _ _ ⟨0, rfl, rfl, rfl, (by omega)⟩
    rintro kk ff ss ⟨i, hk2, rfl, rfl, hi⟩
    have hcu := cntU_le (m := clM c (validR c) j) (x := c.2.2[j]) (i := i)
    refine VC.seq (VC.text ?_)
    refine VO.c (.lss) ?_
    refine VO.go (VC.seq ?_)
    refine VC.condD rfl (fun c19 => ?_) (fun c19 => ?_)
    · refine VC.skip (VC.seq (VC.block (VC.seq (VC.text ?_))))
      refine VO.c (.ix (j := i) rfl rfl el27 (by omega)) ?_
      refine VO.r (.ld vt9) ?_
      refine VO.c (.assign rfl) ?_
      refine VO.go (VC.seq (VC.seq (VC.text ?_)))
      refine VO.c (.move rfl) ?_
      refine VO.c (.move rfl) ?_
      refine VO.call rfl rfl (VF.call (rHas_ok (by first | assumption | omega | simp))) ?_
      refine VO.go ?_
      refine VC.condB rfl (fun c21 => ?_) (fun c21 => ?_)
      · refine VC.seq (VC.text ?_)
        refine VO.c (.move rfl) ?_
        refine VO.c (.add rfl rfl (by omega)) ?_
        refine VO.c (.assign rfl) ?_
        refine VO.go (VC.exit (VC.text ?_))
        refine VO.c (.add rfl rfl (by omega)) ?_
        refine VO.c (.move rfl) ?_
        refine VO.nil ?_
        refine ⟨_, [(1, St t), (3, .p y64 c), (7, .v (.sl .str) (validR c)), (9, .v (.sl .str) (opnR c c.2.2.length)), (11, .v (.sl .str) (reoI c t n)), (12, I (chgE c t n)), (15, .p y64 (chgI c t n)), (17, .p y109 (c.2.2[j])), (18, I ((cntU (clM c (validR c) j) c.2.2[j] (i + 1) : Nat) : Int)), (109, .v y62 c.2.2), (110, I ((c.2.2.length : Nat) : Int)), (111, I ((j : Nat) : Int)), (116, .v (.sl .str) ((c.2.2[j]).2.2)), (117, I ((((c.2.2[j]).2.2).length : Nat) : Int)), (118, I (((i + 1) : Nat) : Int))], ?_, ⟨rfl, rfl, rfl, rfl, rfl, rfl, rfl, rfl, slI rfl (by first | exact cntU_t (by omega) (restU_t1 hz hjl (List.getElem_mem _) c21) | exact cntU_t (by omega) (restU_t2 hz hjl (List.getElem_mem _) c24.2) | exact cntU_f (by omega) (restU_f hz hjl (List.getElem_mem _) c21 c24)), rfl, rfl, rfl, rfl, rfl, rfl, trivial⟩, (i + 1), rfl, rfl, rfl, (by omega)⟩
        omega
      refine VC.skip (VC.seq (VC.text ?_))
      refine VO.r (.ld vt64) ?_
      refine VO.call rfl rfl (VF.call (lGiven_ok (by first | assumption | omega | simp))) ?_
      refine VO.c (.move rfl) ?_
      refine VO.call rfl rfl (VF.call (sHoldsR_ok (by first | assumption | omega | simp) (by first | assumption | omega | simp))) ?_
      refine VO.c (.move rfl) ?_
      refine VO.c (.extract) ?_
      refine VO.c (.extract) ?_
      refine VO.c (.assign rfl) ?_
      refine VO.c (.assign rfl) ?_
      refine VO.go (VC.seq (VC.text ?_))
      refine VO.c (.move rfl) ?_
      refine VO.c (.eql) ?_
      refine VO.c (.move rfl) ?_
      refine VO.cg (r := decide (rTwo c (((c.2.2[j]).2.2)[i]) = (0 : Int))) (w := true) [] trivial (fun hgd => have g24_2 : rTwo c (((c.2.2[j]).2.2)[i]) = (0 : Int) := (by simpa using hgd); (.move rfl)) ?_
      refine VO.c (.and) ?_
      refine VO.go ?_
      refine VC.condB rfl (fun c24 => ?_) (fun c24 => ?_)
      · try simp only [Bool.and_eq_true, Bool.or_eq_true, Bool.and_eq_false_iff, Bool.or_eq_false_iff, Bool.not_eq_true', Bool.not_eq_false', decide_eq_true_eq, decide_eq_false_iff_not] at c24
        refine VC.text ?_
        refine VO.c (.move rfl) ?_
        refine VO.c (.add rfl rfl (by omega)) ?_
        refine VO.c (.assign rfl) ?_
        refine VO.nil (VC.text ?_)
        refine VO.c (.add rfl rfl (by omega)) ?_
        refine VO.c (.move rfl) ?_
        refine VO.nil ?_
        refine ⟨_, [(1, St t), (3, .p y64 c), (7, .v (.sl .str) (validR c)), (9, .v (.sl .str) (opnR c c.2.2.length)), (11, .v (.sl .str) (reoI c t n)), (12, I (chgE c t n)), (15, .p y64 (chgI c t n)), (17, .p y109 (c.2.2[j])), (18, I ((cntU (clM c (validR c) j) c.2.2[j] (i + 1) : Nat) : Int)), (109, .v y62 c.2.2), (110, I ((c.2.2.length : Nat) : Int)), (111, I ((j : Nat) : Int)), (116, .v (.sl .str) ((c.2.2[j]).2.2)), (117, I ((((c.2.2[j]).2.2).length : Nat) : Int)), (118, I (((i + 1) : Nat) : Int))], ?_, ⟨rfl, rfl, rfl, rfl, rfl, rfl, rfl, rfl, slI rfl (by first | exact cntU_t (by omega) (restU_t1 hz hjl (List.getElem_mem _) c21) | exact cntU_t (by omega) (restU_t2 hz hjl (List.getElem_mem _) c24.2) | exact cntU_f (by omega) (restU_f hz hjl (List.getElem_mem _) c21 c24)), rfl, rfl, rfl, rfl, rfl, rfl, trivial⟩, (i + 1), rfl, rfl, rfl, (by omega)⟩
        omega
      try simp only [Bool.and_eq_true, Bool.or_eq_true, Bool.and_eq_false_iff, Bool.or_eq_false_iff, Bool.not_eq_true', Bool.not_eq_false', decide_eq_true_eq, decide_eq_false_iff_not] at c24
      refine VC.skip (VC.text ?_)
      refine VO.c (.add rfl rfl (by omega)) ?_
      refine VO.c (.move rfl) ?_
      refine VO.nil ?_
      refine ⟨_, [(1, St t), (3, .p y64 c), (7, .v (.sl .str) (validR c)), (9, .v (.sl .str) (opnR c c.2.2.length)), (11, .v (.sl .str) (reoI c t n)), (12, I (chgE c t n)), (15, .p y64 (chgI c t n)), (17, .p y109 (c.2.2[j])), (18, I ((cntU (clM c (validR c) j) c.2.2[j] (i + 1) : Nat) : Int)), (109, .v y62 c.2.2), (110, I ((c.2.2.length : Nat) : Int)), (111, I ((j : Nat) : Int)), (116, .v (.sl .str) ((c.2.2[j]).2.2)), (117, I ((((c.2.2[j]).2.2).length : Nat) : Int)), (118, I (((i + 1) : Nat) : Int))], ?_, ⟨rfl, rfl, rfl, rfl, rfl, rfl, rfl, rfl, slI rfl (by first | exact cntU_t (by omega) (restU_t1 hz hjl (List.getElem_mem _) c21) | exact cntU_t (by omega) (restU_t2 hz hjl (List.getElem_mem _) c24.2) | exact cntU_f (by omega) (restU_f hz hjl (List.getElem_mem _) c21 c24)), rfl, rfl, rfl, rfl, rfl, rfl, trivial⟩, (i + 1), rfl, rfl, rfl, (by omega)⟩
      omega
    refine VC.exit (VC.seq (VC.drawn ?_))
    refine VD.r [] (.ld vt64) (.inl rfl) ?_
    refine VD.call rfl rfl (VF.call (lGiven_ok (by first | assumption | omega | simp))) ?_
    refine VD.c (.fa (.l .o)) ?_
    refine VD.r [] (.ld vt9) (.inl rfl) ?_
    refine VD.callO rfl rfl (VF.call (sHoldsR_ok (by first | assumption | omega | simp) (by first | assumption | omega | simp))) ?_
    refine VD.c (.move rfl) ?_
    refine VD.nw [144] ?_
    refine VD.c (.extract) ?_
    refine VD.c (.extract) ?_
    refine VD.c (.assign rfl) ?_
    refine VD.c (.assign rfl) ?_
    refine VD.go (VC.seq (VC.seq ?_))
    refine VC.join [(1, St t), (3, .p y64 c), (7, .v (.sl .str) (validR c)), (9, .v (.sl .str) (opnR c c.2.2.length)), (11, .v (.sl .str) (reoI c t n)), (12, I (chgE c t n)), (15, .p y64 (chgI c t n)), (17, .p y109 (c.2.2[j])), (23, B (heldB c ((c.2.2[j]).1))), (109, .v y62 c.2.2), (110, I ((c.2.2.length : Nat) : Int)), (111, I ((j : Nat) : Int)), (176, B false)] [] ?_ ?_
    · skip
      refine VC.text ?_
      have hE := held_end (i := i) hz hjl (by omega)
      have hO := open_held hz hjl
      refine VO.c (.move rfl) ?_
      refine VO.c (.neq) ?_
      refine VO.c (.move rfl) ?_
      refine VO.splitD (x := 152) rfl (fun g28_2 => ?_) (fun g28_2 => ?_)
      · exact absurd hr g28_2
      refine VO.c (.move rfl) ?_
      refine VO.c (.move rfl) ?_
      refine VO.c (.fa (.r (.r .o))) ?_
      refine VO.r (.ld vt27) ?_
      refine VO.r (.len el27) ?_
      refine VO.c (.eql) ?_
      refine VO.c (.move rfl) ?_
      refine VO.splitD (x := 159) rfl (fun g28_9 => ?_) (fun g28_9 => ?_)
      · refine VO.skip ?_
        refine VO.skip ?_
        refine VO.skip ?_
        refine VO.skip ?_
        refine VO.skip ?_
        refine VO.skip ?_
        refine VO.c (.pickT rfl rfl) ?_
        refine VO.c (.bneq) ?_
        refine VO.c (.pickF rfl rfl) ?_
        refine VO.c (.move rfl) ?_
        refine VO.cg (r := ((heldB c ((c.2.2[j]).1)) != true)) (w := false) [] trivial (fun hgd => have g28_19 : ((heldB c ((c.2.2[j]).1)) != true) = false := (by simpa using hgd); (.move rfl)) ?_
        refine VO.cg (r := ((heldB c ((c.2.2[j]).1)) != true)) (w := false) [] trivial (fun hgd => have g28_19 : ((heldB c ((c.2.2[j]).1)) != true) = false := (by simpa using hgd); (.move rfl)) ?_
        refine VO.cg (r := ((heldB c ((c.2.2[j]).1)) != true)) (w := false) [] trivial (fun hgd => have g28_19 : ((heldB c ((c.2.2[j]).1)) != true) = false := (by simpa using hgd); (.fa (.l .o))) ?_
        refine VO.rg (r := ((heldB c ((c.2.2[j]).1)) != true)) (w := false) [(172, .p .str ((c.2.2[j]).1))] ⟨rfl, trivial⟩ (fun hgd => have g28_19 : ((heldB c ((c.2.2[j]).1)) != true) = false := (by simpa using hgd); (.ld vt9)) ?_
        refine VO.callg (r0 := ((heldB c ((c.2.2[j]).1)) != true)) (w := false) [(171, .v (.sl .str) (opnR c c.2.2.length)), (173, St ((c.2.2[j]).1))] ⟨rfl, rfl, trivial⟩ rfl rfl .same .refl rfl (fun hgd => have g28_19 : ((heldB c ((c.2.2[j]).1)) != true) = false := (by simpa using hgd); VF.call (rHas_ok (by first | assumption | omega | simp))) ?_
        refine VO.cg (r := ((heldB c ((c.2.2[j]).1)) != true)) (w := false) [(170, B (heldB c ((c.2.2[j]).1))), (174, B (hasB (opnR c c.2.2.length) ((c.2.2[j]).1)))] ⟨rfl, rfl, trivial⟩ (fun hgd => have g28_19 : ((heldB c ((c.2.2[j]).1)) != true) = false := (by simpa using hgd); (.beql)) ?_
        refine VO.c (.or) ?_
        refine VO.nil ?_
        exact ⟨⟨rfl, rfl, rfl, rfl, rfl, rfl, rfl, rfl, rfl, rfl, rfl, rfl, slE rfl (by first | (rw [hO, hE, decide_eq_true g28_9] <;> rfl) | (rw [hO, hE, decide_eq_false g28_9, Bool.false_or]; generalize ((c.2.2[j]).2.1 && decide ((0 : Int) < _)) = b; cases b <;> rfl)), trivial⟩, rfl⟩
      refine VO.c (.fa (.r (.l .o))) ?_
      refine VO.r (.ld vt4) ?_
      refine VO.c (.move rfl) ?_
      refine VO.cg (r := (c.2.2[j]).2.1) (w := true) [] trivial (fun hgd => have g28_12 : (c.2.2[j]).2.1 = true := (by simpa using hgd); (.move rfl)) ?_
      refine VO.cg (r := (c.2.2[j]).2.1) (w := true) [(163, I ((cntU (clM c (validR c) j) c.2.2[j] i : Nat) : Int))] ⟨rfl, trivial⟩ (fun hgd => have g28_12 : (c.2.2[j]).2.1 = true := (by simpa using hgd); (.gtr)) ?_
      refine VO.c (.and) ?_
      refine VO.c (.pickF rfl rfl) ?_
      refine VO.c (.bneq) ?_
      refine VO.c (.pickF rfl rfl) ?_
      refine VO.c (.move rfl) ?_
      refine VO.cg (r := ((heldB c ((c.2.2[j]).1)) != (((c.2.2[j]).2.1) && (decide ((0 : Int) < ((cntU (clM c (validR c) j) c.2.2[j] i : Nat) : Int)))))) (w := false) [] trivial (fun hgd => have g28_19 : ((heldB c ((c.2.2[j]).1)) != (((c.2.2[j]).2.1) && (decide ((0 : Int) < ((cntU (clM c (validR c) j) c.2.2[j] i : Nat) : Int))))) = false := (by simpa using hgd); (.move rfl)) ?_
      refine VO.cg (r := ((heldB c ((c.2.2[j]).1)) != (((c.2.2[j]).2.1) && (decide ((0 : Int) < ((cntU (clM c (validR c) j) c.2.2[j] i : Nat) : Int)))))) (w := false) [] trivial (fun hgd => have g28_19 : ((heldB c ((c.2.2[j]).1)) != (((c.2.2[j]).2.1) && (decide ((0 : Int) < ((cntU (clM c (validR c) j) c.2.2[j] i : Nat) : Int))))) = false := (by simpa using hgd); (.move rfl)) ?_
      refine VO.cg (r := ((heldB c ((c.2.2[j]).1)) != (((c.2.2[j]).2.1) && (decide ((0 : Int) < ((cntU (clM c (validR c) j) c.2.2[j] i : Nat) : Int)))))) (w := false) [] trivial (fun hgd => have g28_19 : ((heldB c ((c.2.2[j]).1)) != (((c.2.2[j]).2.1) && (decide ((0 : Int) < ((cntU (clM c (validR c) j) c.2.2[j] i : Nat) : Int))))) = false := (by simpa using hgd); (.fa (.l .o))) ?_
      refine VO.rg (r := ((heldB c ((c.2.2[j]).1)) != (((c.2.2[j]).2.1) && (decide ((0 : Int) < ((cntU (clM c (validR c) j) c.2.2[j] i : Nat) : Int)))))) (w := false) [(172, .p .str ((c.2.2[j]).1))] ⟨rfl, trivial⟩ (fun hgd => have g28_19 : ((heldB c ((c.2.2[j]).1)) != (((c.2.2[j]).2.1) && (decide ((0 : Int) < ((cntU (clM c (validR c) j) c.2.2[j] i : Nat) : Int))))) = false := (by simpa using hgd); (.ld vt9)) ?_
      refine VO.callg (r0 := ((heldB c ((c.2.2[j]).1)) != (((c.2.2[j]).2.1) && (decide ((0 : Int) < ((cntU (clM c (validR c) j) c.2.2[j] i : Nat) : Int)))))) (w := false) [(171, .v (.sl .str) (opnR c c.2.2.length)), (173, St ((c.2.2[j]).1))] ⟨rfl, rfl, trivial⟩ rfl rfl .same .refl rfl (fun hgd => have g28_19 : ((heldB c ((c.2.2[j]).1)) != (((c.2.2[j]).2.1) && (decide ((0 : Int) < ((cntU (clM c (validR c) j) c.2.2[j] i : Nat) : Int))))) = false := (by simpa using hgd); VF.call (rHas_ok (by first | assumption | omega | simp))) ?_
      refine VO.cg (r := ((heldB c ((c.2.2[j]).1)) != (((c.2.2[j]).2.1) && (decide ((0 : Int) < ((cntU (clM c (validR c) j) c.2.2[j] i : Nat) : Int)))))) (w := false) [(170, B (heldB c ((c.2.2[j]).1))), (174, B (hasB (opnR c c.2.2.length) ((c.2.2[j]).1)))] ⟨rfl, rfl, trivial⟩ (fun hgd => have g28_19 : ((heldB c ((c.2.2[j]).1)) != (((c.2.2[j]).2.1) && (decide ((0 : Int) < ((cntU (clM c (validR c) j) c.2.2[j] i : Nat) : Int))))) = false := (by simpa using hgd); (.beql)) ?_
      refine VO.c (.or) ?_
      refine VO.nil ?_
      exact ⟨⟨rfl, rfl, rfl, rfl, rfl, rfl, rfl, rfl, rfl, rfl, rfl, rfl, slE rfl (by first | (rw [hO, hE, decide_eq_true g28_9] <;> rfl) | (rw [hO, hE, decide_eq_false g28_9, Bool.false_or]; generalize ((c.2.2[j]).2.1 && decide ((0 : Int) < _)) = b; cases b <;> rfl)), trivial⟩, rfl⟩
    refine VC.condB rfl (fun c28 => ?_) (fun c28 => ?_)
    · exact absurd c28 (by decide)
    refine VC.skip (VC.seq (VC.drawn ?_))
    refine VD.r [] (.ld vt64) (.inl rfl) ?_
    refine VD.call rfl rfl (VF.call (lGiven_ok (by first | assumption | omega | simp))) ?_
    refine VD.c (.fa (.l .o)) ?_
    refine VD.r [] (.ld vt9) (.inl rfl) ?_
    refine VD.callO rfl rfl (VF.call (sSupportR_ok (by first | assumption | omega | simp) (by first | assumption | omega | simp))) ?_
    refine VD.c (.move rfl) ?_
    refine VD.nw [177, 182, 179] ?_
    refine VD.c (.extract) ?_
    refine VD.c (.extract) ?_
    refine VD.c (.assign rfl) ?_
    refine VD.c (.assign rfl) ?_
    refine VD.go (VC.seq (VC.drawn ?_))
    refine VD.r [] (.ld vt64) (.inl rfl) ?_
    refine VD.call rfl rfl (VF.call (lGiven_ok (by first | assumption | omega | simp))) ?_
    refine VD.c (.fa (.l .o)) ?_
    refine VD.r [] (.ld vt9) (.inl rfl) ?_
    refine VD.callO rfl rfl (VF.call (sNeededR_ok (by first | assumption | omega | simp) (by first | assumption | omega | simp))) ?_
    refine VD.c (.move rfl) ?_
    refine VD.nw [185, 190, 187] ?_
    refine VD.c (.extract) ?_
    refine VD.c (.extract) ?_
    refine VD.c (.assign rfl) ?_
    refine VD.c (.assign rfl) ?_
    refine VD.go (VC.seq (VC.seq ?_))
    refine VC.keep [(1, St t), (3, .p y64 c), (7, .v (.sl .str) (validR c)), (9, .v (.sl .str) (opnR c c.2.2.length)), (11, .v (.sl .str) (reoI c t n)), (12, I (chgE c t n)), (15, .p y64 (chgI c t n)), (17, .p y109 (c.2.2[j])), (23, B (heldB c ((c.2.2[j]).1))), (25, .v (.sl .str) (supI c ((c.2.2[j]).1))), (26, I (hldE c ((c.2.2[j]).1))), (27, .v (.sl .str) (nedI c ((c.2.2[j]).1))), (28, I (hldE c ((c.2.2[j]).1))), (109, .v y62 c.2.2), (110, I ((c.2.2.length : Nat) : Int)), (111, I ((j : Nat) : Int))] ⟨rfl, rfl, rfl, rfl, rfl, rfl, rfl, rfl, rfl, rfl, rfl, rfl, rfl, rfl, rfl, rfl, trivial⟩ ?_
    refine VC.text ?_
    refine VO.c (.move rfl) ?_
    refine VO.c (.not) ?_
    refine VO.go ?_
    refine VC.condB rfl (fun c32 => ?_) (fun c32 => ?_)
    · try simp only [Bool.and_eq_true, Bool.or_eq_true, Bool.and_eq_false_iff, Bool.or_eq_false_iff, Bool.not_eq_true', Bool.not_eq_false', decide_eq_true_eq, decide_eq_false_iff_not] at c32
      have h35 := held_not hr c32
      have hno := reo_not (t := t) (n := n) hz hjl c32
      refine VC.seq (VC.seq (VC.text ?_))
      refine VO.c (.move rfl) ?_
      refine VO.c (.neq) ?_
      refine VO.c (.move rfl) ?_
      refine VO.cg (r := decide (hldE c ((c.2.2[j]).1) ≠ (35 : Int))) (w := false) [] trivial (fun hgd => have g33_2 : ¬ (hldE c ((c.2.2[j]).1) ≠ (35 : Int)) := (by simpa using hgd); (.move rfl)) ?_
      refine VO.cg (r := decide (hldE c ((c.2.2[j]).1) ≠ (35 : Int))) (w := false) [(198, I (hldE c ((c.2.2[j]).1)))] ⟨rfl, trivial⟩ (fun hgd => have g33_2 : ¬ (hldE c ((c.2.2[j]).1) ≠ (35 : Int)) := (by simpa using hgd); (.neq)) ?_
      refine VO.c (.or) ?_
      refine VO.c (.move rfl) ?_
      refine VO.cg (r := ((decide (hldE c ((c.2.2[j]).1) ≠ (35 : Int))) || (decide (hldE c ((c.2.2[j]).1) ≠ (35 : Int))))) (w := false) [] trivial (fun hgd => have g33_6 : ((decide (hldE c ((c.2.2[j]).1) ≠ (35 : Int))) || (decide (hldE c ((c.2.2[j]).1) ≠ (35 : Int)))) = false := (by simpa using hgd); (.move rfl)) ?_
      refine VO.cg (r := ((decide (hldE c ((c.2.2[j]).1) ≠ (35 : Int))) || (decide (hldE c ((c.2.2[j]).1) ≠ (35 : Int))))) (w := false) [] trivial (fun hgd => have g33_6 : ((decide (hldE c ((c.2.2[j]).1) ≠ (35 : Int))) || (decide (hldE c ((c.2.2[j]).1) ≠ (35 : Int)))) = false := (by simpa using hgd); (.fa (.l .o))) ?_
      refine VO.rg (r := ((decide (hldE c ((c.2.2[j]).1) ≠ (35 : Int))) || (decide (hldE c ((c.2.2[j]).1) ≠ (35 : Int))))) (w := false) [(203, .p .str ((c.2.2[j]).1))] ⟨rfl, trivial⟩ (fun hgd => have g33_6 : ((decide (hldE c ((c.2.2[j]).1) ≠ (35 : Int))) || (decide (hldE c ((c.2.2[j]).1) ≠ (35 : Int)))) = false := (by simpa using hgd); (.ld vt9)) ?_
      refine VO.callg (r0 := ((decide (hldE c ((c.2.2[j]).1) ≠ (35 : Int))) || (decide (hldE c ((c.2.2[j]).1) ≠ (35 : Int))))) (w := false) [(202, .v (.sl .str) (reoI c t n)), (204, St ((c.2.2[j]).1))] ⟨rfl, rfl, trivial⟩ rfl rfl .same .refl rfl (fun hgd => have g33_6 : ((decide (hldE c ((c.2.2[j]).1) ≠ (35 : Int))) || (decide (hldE c ((c.2.2[j]).1) ≠ (35 : Int)))) = false := (by simpa using hgd); VF.call (rHas_ok (by first | assumption | omega | simp))) ?_
      refine VO.c (.or) ?_
      refine VO.go ?_
      refine VC.condB rfl (fun c33 => ?_) (fun c33 => ?_)
      · try simp only [Bool.and_eq_true, Bool.or_eq_true, Bool.and_eq_false_iff, Bool.or_eq_false_iff, Bool.not_eq_true', Bool.not_eq_false', decide_eq_true_eq, decide_eq_false_iff_not] at c33
        exact c33.elim (fun h => h.elim (fun h => absurd h35 h) (fun h => absurd h35 h)) (fun h => absurd (h.symm.trans hno) (by decide))
      try simp only [Bool.and_eq_true, Bool.or_eq_true, Bool.and_eq_false_iff, Bool.or_eq_false_iff, Bool.not_eq_true', Bool.not_eq_false', decide_eq_true_eq, decide_eq_false_iff_not] at c33
      refine VC.skip (VC.exit (VC.text ?_))
      refine VO.c (.add rfl rfl (by omega)) ?_
      refine VO.c (.move rfl) ?_
      refine VO.nil ?_
      refine ⟨_, [(1, St t), (3, .p y64 c), (7, .v (.sl .str) (validR c)), (9, .v (.sl .str) (opnR c c.2.2.length)), (11, .v (.sl .str) (reoI c t n)), (12, I (chgE c t n)), (15, .p y64 (chgI c t n)), (109, .v y62 c.2.2), (110, I ((c.2.2.length : Nat) : Int)), (111, I (((j + 1) : Nat) : Int))], ?_, ⟨rfl, rfl, rfl, rfl, rfl, rfl, rfl, rfl, rfl, rfl, trivial⟩, (j + 1), rfl, rfl, rfl, (by omega)⟩
      omega
    try simp only [Bool.and_eq_true, Bool.or_eq_true, Bool.and_eq_false_iff, Bool.or_eq_false_iff, Bool.not_eq_true', Bool.not_eq_false', decide_eq_true_eq, decide_eq_false_iff_not] at c32
    obtain ⟨hS0, hSP, hSN⟩ := held_sup hr c32
    have hSn := sup_ne hz (claim_has hjl) hSP
    have hSl := supp_len hSP
    have hSp : 0 < (supI c c.2.2[j].1).length := List.length_pos_iff.2 hSn
    have hSy := sup_yes hr hSP
    have hSx := sup_less hr hSP hSn
    have hSv : (supI c c.2.2[j].1).length < 100000 := by omega
    have hNl : (nedI c c.2.2[j].1).length ≤ (validR c).length := by rw [hSN]; exact List.length_filter_le _ _
    refine VC.skip (VC.seq (VC.seq (VC.drawn ?_)))
    refine VD.c (.move rfl) ?_
    refine VD.c (.neq) ?_
    refine VD.c (.move rfl) ?_
    refine VD.splitD (x := 209) rfl (fun g35_2 => ?_) (fun g35_2 => ?_)
    · exact absurd hS0 g35_2
    refine VD.c (.move rfl) ?_
    refine VD.c (.neq) ?_
    refine VD.nw [] ?_
    refine VD.c (.pickF rfl rfl) ?_
    refine VD.c (.move rfl) ?_
    refine VD.splitD (x := 213) rfl (fun g35_6 => ?_) (fun g35_6 => ?_)
    · exact absurd hS0 g35_6
    refine VD.c (.move rfl) ?_
    refine VD.r [] (.len el27) (.inl rfl) ?_
    refine VD.c (.eql) ?_
    refine VD.c (.pickF rfl rfl) ?_
    refine VD.nw [] ?_
    refine VD.c (.move rfl) ?_
    refine VD.splitD (x := 218) rfl (fun g35_11 => ?_) (fun g35_11 => ?_)
    · exact absurd hSp (by have h : (((supI c c.2.2[j].1).length : Nat) : Int) = 0 := g35_11; omega)
    refine VD.c (.move rfl) ?_
    refine VD.r [] (.len el27) (.inl rfl) ?_
    refine VD.c (.fa (.r (.l .o))) ?_
    refine VD.r [] (.ld vt61) (.inl rfl) ?_
    refine VD.r [] (.len el61) (.inl rfl) ?_
    refine VD.nw [] ?_
    refine VD.c (.gtr) ?_
    refine VD.c (.pickF rfl rfl) ?_
    refine VD.c (.move rfl) ?_
    refine VD.splitD (x := 226) rfl (fun g35_19 => ?_) (fun g35_19 => ?_)
    · exact absurd hSl (by have h : ((c.2.1.length : Nat) : Int) < (((supI c c.2.2[j].1).length : Nat) : Int) := g35_19; omega)
    refine VD.r [] (.ld vt64) (.inl rfl) ?_
    refine VD.call rfl rfl (VF.call (lGiven_ok (by first | assumption | omega | simp))) ?_
    refine VD.c (.fa (.l .o)) ?_
    refine VD.nw [228] ?_
    refine VD.r [] (.ld vt9) (.inl rfl) ?_
    refine VD.c (.move rfl) ?_
    refine VD.call rfl rfl (VF.call (lWords_ok (by first | assumption | omega | simp))) ?_
    refine VD.callO rfl rfl (VF.call (sCheckSupport_ok (by first | assumption | omega | simp) (by first | assumption | omega | simp))) ?_
    refine VD.c (.neq) ?_
    refine VD.c (.pickF rfl rfl) ?_
    refine VD.c (.move rfl) ?_
    refine VD.nw [232, 228] ?_
    refine VD.splitD (x := 236) rfl (fun g35_29 => ?_) (fun g35_29 => ?_)
    · exact absurd hSy g35_29
    refine VD.r [] (.ld vt64) (.inl rfl) ?_
    refine VD.call rfl rfl (VF.call (lGiven_ok (by first | assumption | omega | simp))) ?_
    refine VD.c (.fa (.l .o)) ?_
    refine VD.r [] (.ld vt9) (.inl rfl) ?_
    refine VD.c (.move rfl) ?_
    refine VD.r [] (.cutL rfl rfl el27 (by omega)) (.inl rfl) ?_
    refine VD.nw [238, 232, 228] ?_
    refine VD.call rfl rfl (VF.call (lWords_ok (by rw [List.length_drop]; omega))) ?_
    refine VD.callO rfl rfl (VF.call (sCheckSupport_ok hc (by rw [List.length_drop]; omega))) ?_
    refine VD.c (.neq) ?_
    refine VD.c (.pickF rfl rfl) ?_
    refine VD.go ?_
    refine VC.condD rfl (fun c35 => ?_) (fun c35 => ?_)
    · exact absurd hSx c35
    refine VC.skip (VC.seq (VC.seq ?_))
    refine VC.keep [(1, St t), (3, .p y64 c), (7, .v (.sl .str) (validR c)), (9, .v (.sl .str) (opnR c c.2.2.length)), (11, .v (.sl .str) (reoI c t n)), (12, I (chgE c t n)), (15, .p y64 (chgI c t n)), (17, .p y109 (c.2.2[j])), (25, .v (.sl .str) (supI c ((c.2.2[j]).1))), (27, .v (.sl .str) (nedI c ((c.2.2[j]).1))), (109, .v y62 c.2.2), (110, I ((c.2.2.length : Nat) : Int)), (111, I ((j : Nat) : Int))] ⟨rfl, rfl, rfl, rfl, rfl, rfl, rfl, rfl, rfl, rfl, rfl, rfl, rfl, trivial⟩ ?_
    refine VC.text ?_
    refine VO.c (.move rfl) ?_
    refine VO.r (.len el27) ?_
    refine VO.c (.move rfl) ?_
    refine VO.go (VC.block ?_)
    refine VC.keep [(1, St t), (3, .p y64 c), (7, .v (.sl .str) (validR c)), (9, .v (.sl .str) (opnR c c.2.2.length)), (11, .v (.sl .str) (reoI c t n)), (12, I (chgE c t n)), (15, .p y64 (chgI c t n)), (17, .p y109 (c.2.2[j])), (25, .v (.sl .str) (supI c ((c.2.2[j]).1))), (109, .v y62 c.2.2), (110, I ((c.2.2.length : Nat) : Int)), (111, I ((j : Nat) : Int)), (247, .v (.sl .str) (nedI c ((c.2.2[j]).1))), (248, I (((nedI c ((c.2.2[j]).1)).length : Nat) : Int)), (249, I ((0 : Nat) : Int))] ⟨rfl, rfl, rfl, rfl, rfl, rfl, rfl, rfl, rfl, rfl, rfl, rfl, rfl, rfl, rfl, trivial⟩ ?_
    refine VC.loop (I := fun kk ff ss => ∃ (m : Nat), kk = (nedI c c.2.2[j].1).length - m ∧ ff = [(1, St t), (3, .p y64 c), (7, .v (.sl .str) (validR c)), (9, .v (.sl .str) (opnR c c.2.2.length)), (11, .v (.sl .str) (reoI c t n)), (12, I (chgE c t n)), (15, .p y64 (chgI c t n)), (17, .p y109 (c.2.2[j])), (25, .v (.sl .str) (supI c ((c.2.2[j]).1))), (109, .v y62 c.2.2), (110, I ((c.2.2.length : Nat) : Int)), (111, I ((j : Nat) : Int)), (247, .v (.sl .str) (nedI c ((c.2.2[j]).1))), (248, I (((nedI c ((c.2.2[j]).1)).length : Nat) : Int)), (249, I ((m : Nat) : Int))] ∧ ss = [] ∧ (m ≤ (nedI c c.2.2[j].1).length)) ?_ _ _ _ ⟨0, rfl, rfl, rfl, (by omega)⟩
    rintro kk ff ss ⟨m, hk4, rfl, rfl, hm⟩
    refine VC.seq (VC.text ?_)
    refine VO.c (.lss) ?_
    refine VO.go (VC.seq ?_)
    refine VC.condD rfl (fun c38 => ?_) (fun c38 => ?_)
    · have hml : m < (nedI c c.2.2[j].1).length := by omega
      have hnm : (nedI c c.2.2[j].1)[m] ∈ (validR c).filter (needB c c.2.2[j].1 (validR c)) := by rw [← hSN]; exact List.getElem_mem hml
      refine VC.skip (VC.seq (VC.block (VC.seq (VC.text ?_))))
      refine VO.c (.ix (j := m) rfl rfl el27 (by omega)) ?_
      refine VO.r (.ld vt9) ?_
      refine VO.c (.assign rfl) ?_
      refine VO.go (VC.seq (VC.text ?_))
      refine VO.c (.move rfl) ?_
      refine VO.c (.move rfl) ?_
      refine VO.call rfl rfl (VF.call (rHas_ok (by first | assumption | omega | simp))) ?_
      refine VO.c (.not) ?_
      refine VO.go ?_
      refine VC.condB rfl (fun c40 => ?_) (fun c40 => ?_)
      · try simp only [Bool.and_eq_true, Bool.or_eq_true, Bool.and_eq_false_iff, Bool.or_eq_false_iff, Bool.not_eq_true', Bool.not_eq_false', decide_eq_true_eq, decide_eq_false_iff_not] at c40
        exact absurd (has_in.2 (sup_needs hSP hnm)) (by rw [c40]; decide)
      try simp only [Bool.and_eq_true, Bool.or_eq_true, Bool.and_eq_false_iff, Bool.or_eq_false_iff, Bool.not_eq_true', Bool.not_eq_false', decide_eq_true_eq, decide_eq_false_iff_not] at c40
      refine VC.skip (VC.text ?_)
      refine VO.c (.add rfl rfl (by omega)) ?_
      refine VO.c (.move rfl) ?_
      refine VO.nil ?_
      refine ⟨_, [(1, St t), (3, .p y64 c), (7, .v (.sl .str) (validR c)), (9, .v (.sl .str) (opnR c c.2.2.length)), (11, .v (.sl .str) (reoI c t n)), (12, I (chgE c t n)), (15, .p y64 (chgI c t n)), (17, .p y109 (c.2.2[j])), (25, .v (.sl .str) (supI c ((c.2.2[j]).1))), (109, .v y62 c.2.2), (110, I ((c.2.2.length : Nat) : Int)), (111, I ((j : Nat) : Int)), (247, .v (.sl .str) (nedI c ((c.2.2[j]).1))), (248, I (((nedI c ((c.2.2[j]).1)).length : Nat) : Int)), (249, I (((m + 1) : Nat) : Int))], ?_, ⟨rfl, rfl, rfl, rfl, rfl, rfl, rfl, rfl, rfl, rfl, rfl, rfl, rfl, rfl, rfl, trivial⟩, (m + 1), rfl, rfl, rfl, (by omega)⟩
      omega
    refine VC.exit (VC.seq (VC.text ?_))
    refine VO.c (.assign rfl) ?_
    refine VO.go (VC.seq (VC.text ?_))
    refine VO.c (.assign rfl) ?_
    refine VO.go (VC.seq (VC.seq (VC.text ?_)))
    refine VO.c (.fa (.r (.l .o))) ?_
    refine VO.r (.ld vt61) ?_
    refine VO.r (.len el61) ?_
    refine VO.c (.move rfl) ?_
    refine VO.go (VC.block ?_)
    refine VC.cell0 9 .str ?_
    refine VC.keep [(1, St t), (3, .p y64 c), (7, .v (.sl .str) (validR c)), (9, .v (.sl .str) (opnR c c.2.2.length)), (11, .v (.sl .str) (reoI c t n)), (12, I (chgE c t n)), (15, .p y64 (chgI c t n)), (17, .p y109 (c.2.2[j])), (25, .v (.sl .str) (supI c ((c.2.2[j]).1))), (31, B (touchE c (supI c c.2.2[j].1) t 0)), (32, .raw (.slice none 0 0)), (109, .v y62 c.2.2), (110, I ((c.2.2.length : Nat) : Int)), (111, I ((j : Nat) : Int)), (259, .v y61 c.2.1), (260, I ((c.2.1.length : Nat) : Int)), (261, I ((0 : Nat) : Int))] ⟨rfl, rfl, rfl, rfl, rfl, rfl, rfl, rfl, rfl, slE rfl (by rfl), rfl, rfl, rfl, rfl, rfl, rfl, rfl, trivial⟩ ?_
    refine VC.loop (I := fun kk ff ss => ∃ (e : Nat) (more : Value), kk = c.2.1.length - e ∧ ff = [(1, St t), (3, .p y64 c), (7, .v (.sl .str) (validR c)), (9, .v (.sl .str) (opnR c c.2.2.length)), (11, .v (.sl .str) (reoI c t n)), (12, I (chgE c t n)), (15, .p y64 (chgI c t n)), (17, .p y109 (c.2.2[j])), (25, .v (.sl .str) (supI c ((c.2.2[j]).1))), (31, B (touchE c (supI c c.2.2[j].1) t e)), (32, .raw more), (109, .v y62 c.2.2), (110, I ((c.2.2.length : Nat) : Int)), (111, I ((j : Nat) : Int)), (259, .v y61 c.2.1), (260, I ((c.2.1.length : Nat) : Int)), (261, I ((e : Nat) : Int))] ∧ ss = [(more, .row 9 .str (moreL c (supI c c.2.2[j].1) e))] ∧ (e ≤ c.2.1.length)) ?_ _ _ _ ⟨0, (.slice none 0 0), rfl, rfl, rfl, Nat.zero_le _⟩
    rintro kk ff ss ⟨e, more, hk6, rfl, rfl, he⟩
    refine VC.seq (VC.text ?_)
    refine VO.c (.lss) ?_
    refine VO.go (VC.seq ?_)
    refine VC.condD rfl (fun c46 => ?_) (fun c46 => ?_)
    · have hel : e < c.2.1.length := by omega
      have hwl := hc.w _ (List.getElem_mem hel)
      have hml := more_len (c := c) (l := supI c c.2.2[j].1) e (by omega)
      refine VC.skip (VC.seq (VC.block (VC.seq (VC.text ?_))))
      refine VO.c (.ix (j := e) rfl rfl el61 (by omega)) ?_
      refine VO.r (.ld vt96) ?_
      refine VO.cell (.alloc zt96) ?_
      intro ww4
      refine VO.setV (cs' := [St ((c.2.1[e]).1), .v y60 ((c.2.1[e]).2)]) vt96 .v ?_
      refine VO.shut [(34, .p y96 (c.2.1[e]))] (.cons rfl (.var m0 .refl) .nil) ?_
      refine VO.go (VC.seq (VC.seq (VC.text ?_)))
      refine VO.c (.move rfl) ?_
      refine VO.c (.fa (.l .o)) ?_
      refine VO.r (.ld vt9) ?_
      refine VO.call rfl rfl (VF.call (rHas_ok (by first | assumption | omega | simp))) ?_
      refine VO.go ?_
      refine VC.join [(1, St t), (3, .p y64 c), (7, .v (.sl .str) (validR c)), (9, .v (.sl .str) (opnR c c.2.2.length)), (11, .v (.sl .str) (reoI c t n)), (12, I (chgE c t n)), (15, .p y64 (chgI c t n)), (17, .p y109 (c.2.2[j])), (25, .v (.sl .str) (supI c ((c.2.2[j]).1))), (31, B (touchE c (supI c c.2.2[j].1) t (e + 1))), (32, .raw more), (34, .p y96 (c.2.1[e])), (109, .v y62 c.2.2), (110, I ((c.2.2.length : Nat) : Int)), (111, I ((j : Nat) : Int)), (259, .v y61 c.2.1), (260, I ((c.2.1.length : Nat) : Int)), (261, I ((e : Nat) : Int))] [(more, .row 9 .str (moreL c (supI c c.2.2[j].1) e))] ?_ ?_
      refine VC.condB rfl (fun c48 => ?_) (fun c48 => ?_)
      · refine VC.seq (VC.text ?_)
        refine VO.c (.fa (.r .o)) ?_
        refine VO.r (.ld vt60) ?_
        refine VO.r (.len el60) ?_
        refine VO.c (.move rfl) ?_
        refine VO.go (VC.block ?_)
        refine VC.keep [(1, St t), (3, .p y64 c), (7, .v (.sl .str) (validR c)), (9, .v (.sl .str) (opnR c c.2.2.length)), (11, .v (.sl .str) (reoI c t n)), (12, I (chgE c t n)), (15, .p y64 (chgI c t n)), (17, .p y109 (c.2.2[j])), (25, .v (.sl .str) (supI c ((c.2.2[j]).1))), (31, B (touchE c (supI c c.2.2[j].1) t e || touchW t ((c.2.1[e]).2.take 0))), (32, .raw more), (34, .p y96 (c.2.1[e])), (109, .v y62 c.2.2), (110, I ((c.2.2.length : Nat) : Int)), (111, I ((j : Nat) : Int)), (259, .v y61 c.2.1), (260, I ((c.2.1.length : Nat) : Int)), (261, I ((e : Nat) : Int)), (270, .v y60 ((c.2.1[e]).2)), (271, I ((((c.2.1[e]).2).length : Nat) : Int)), (272, I ((0 : Nat) : Int))] ⟨rfl, rfl, rfl, rfl, rfl, rfl, rfl, rfl, rfl, slE rfl (by exact (Bool.or_false _).symm), rfl, rfl, rfl, rfl, rfl, rfl, rfl, rfl, rfl, rfl, rfl, trivial⟩ ?_
        refine VC.loop (I := fun kk ff ss => ∃ (w : Nat), kk = (c.2.1[e]).2.length - w ∧ ff = [(1, St t), (3, .p y64 c), (7, .v (.sl .str) (validR c)), (9, .v (.sl .str) (opnR c c.2.2.length)), (11, .v (.sl .str) (reoI c t n)), (12, I (chgE c t n)), (15, .p y64 (chgI c t n)), (17, .p y109 (c.2.2[j])), (25, .v (.sl .str) (supI c ((c.2.2[j]).1))), (31, B (touchE c (supI c c.2.2[j].1) t e || touchW t ((c.2.1[e]).2.take w))), (32, .raw more), (34, .p y96 (c.2.1[e])), (109, .v y62 c.2.2), (110, I ((c.2.2.length : Nat) : Int)), (111, I ((j : Nat) : Int)), (259, .v y61 c.2.1), (260, I ((c.2.1.length : Nat) : Int)), (261, I ((e : Nat) : Int)), (270, .v y60 ((c.2.1[e]).2)), (271, I ((((c.2.1[e]).2).length : Nat) : Int)), (272, I ((w : Nat) : Int))] ∧ ss = [(more, .row 9 .str (moreL c (supI c c.2.2[j].1) e))] ∧ (w ≤ (c.2.1[e]).2.length)) ?_ _ _ _ ⟨0, rfl, rfl, rfl, (by omega)⟩
        rintro kk ff ss ⟨w, hk8, rfl, rfl, hw⟩
        refine VC.seq (VC.text ?_)
        refine VO.c (.lss) ?_
        refine VO.go (VC.seq ?_)
        refine VC.condD rfl (fun c50 => ?_) (fun c50 => ?_)
        · refine VC.skip (VC.seq (VC.block (VC.seq (VC.text ?_))))
          refine VO.c (.ix (j := w) rfl rfl el60 (by omega)) ?_
          refine VO.r (.ld vt99) ?_
          refine VO.cell (.alloc zt99) ?_
          intro ww5
          refine VO.setV (cs' := [St ((((c.2.1[e]).2)[w]).1), I ((((c.2.1[e]).2)[w]).2)]) vt99 .v ?_
          refine VO.shut [(36, .p y99 (((c.2.1[e]).2)[w]))] (.cons rfl (.var m0 .refl) .nil) ?_
          refine VO.go (VC.text ?_)
          refine VO.c (.move rfl) ?_
          refine VO.c (.move rfl) ?_
          refine VO.cg (r := (touchE c (supI c c.2.2[j].1) t e || touchW t ((c.2.1[e]).2.take w))) (w := false) [] trivial (fun hgd => have g52_1 : (touchE c (supI c c.2.2[j].1) t e || touchW t ((c.2.1[e]).2.take w)) = false := (by simpa using hgd); (.fa (.l .o))) ?_
          refine VO.rg (r := (touchE c (supI c c.2.2[j].1) t e || touchW t ((c.2.1[e]).2.take w))) (w := false) [(278, .p .str ((((c.2.1[e]).2)[w]).1))] ⟨rfl, trivial⟩ (fun hgd => have g52_1 : (touchE c (supI c c.2.2[j].1) t e || touchW t ((c.2.1[e]).2.take w)) = false := (by simpa using hgd); (.ld vt9)) ?_
          refine VO.cg (r := (touchE c (supI c c.2.2[j].1) t e || touchW t ((c.2.1[e]).2.take w))) (w := false) [] trivial (fun hgd => have g52_1 : (touchE c (supI c c.2.2[j].1) t e || touchW t ((c.2.1[e]).2.take w)) = false := (by simpa using hgd); (.move rfl)) ?_
          refine VO.cg (r := (touchE c (supI c c.2.2[j].1) t e || touchW t ((c.2.1[e]).2.take w))) (w := false) [(279, St ((((c.2.1[e]).2)[w]).1)), (280, St t)] ⟨rfl, rfl, trivial⟩ (fun hgd => have g52_1 : (touchE c (supI c c.2.2[j].1) t e || touchW t ((c.2.1[e]).2.take w)) = false := (by simpa using hgd); (.seql)) ?_
          refine VO.c (.or) ?_
          refine VO.c (.assign rfl) ?_
          refine VO.nil (VC.text ?_)
          refine VO.c (.add rfl rfl (by omega)) ?_
          refine VO.c (.move rfl) ?_
          refine VO.nil ?_
          refine ⟨_, [(1, St t), (3, .p y64 c), (7, .v (.sl .str) (validR c)), (9, .v (.sl .str) (opnR c c.2.2.length)), (11, .v (.sl .str) (reoI c t n)), (12, I (chgE c t n)), (15, .p y64 (chgI c t n)), (17, .p y109 (c.2.2[j])), (25, .v (.sl .str) (supI c ((c.2.2[j]).1))), (31, B (touchE c (supI c c.2.2[j].1) t e || touchW t ((c.2.1[e]).2.take (w + 1)))), (32, .raw more), (34, .p y96 (c.2.1[e])), (109, .v y62 c.2.2), (110, I ((c.2.2.length : Nat) : Int)), (111, I ((j : Nat) : Int)), (259, .v y61 c.2.1), (260, I ((c.2.1.length : Nat) : Int)), (261, I ((e : Nat) : Int)), (270, .v y60 ((c.2.1[e]).2)), (271, I ((((c.2.1[e]).2).length : Nat) : Int)), (272, I (((w + 1) : Nat) : Int))], ?_, ⟨rfl, rfl, rfl, rfl, rfl, rfl, rfl, rfl, rfl, slE rfl (by rw [touchW_succ (by omega), Bool.or_assoc]), rfl, rfl, rfl, rfl, rfl, rfl, rfl, rfl, rfl, rfl, rfl, trivial⟩, (w + 1), rfl, rfl, rfl, (by omega)⟩
          omega
        refine VC.exit ?_
        exact ⟨⟨rfl, rfl, rfl, rfl, rfl, rfl, rfl, rfl, rfl, slE rfl (by first | (rw [touch_succ hel, c48, List.take_of_length_le (by omega), Bool.true_and]) | (rw [touch_succ hel, c48, Bool.false_and, Bool.or_false])), rfl, rfl, rfl, rfl, rfl, rfl, rfl, rfl, trivial⟩, rfl⟩
      · refine VC.skip ?_
        exact ⟨⟨rfl, rfl, rfl, rfl, rfl, rfl, rfl, rfl, rfl, slE rfl (by first | (rw [touch_succ hel, c48, List.take_of_length_le (by omega), Bool.true_and]) | (rw [touch_succ hel, c48, Bool.false_and, Bool.or_false])), rfl, rfl, rfl, rfl, rfl, rfl, rfl, rfl, trivial⟩, rfl⟩
      refine VC.seq (VC.text ?_)
      refine VO.c (.move rfl) ?_
      refine VO.c (.fa (.l .o)) ?_
      refine VO.r (.ld vt9) ?_
      refine VO.call rfl rfl (VF.call (rHas_ok (by first | assumption | omega | simp))) ?_
      refine VO.c (.move rfl) ?_
      refine VO.splitB (x := 288) rfl (fun g54_4 => ?_) (fun g54_4 => ?_)
      · refine VO.skip ?_
        refine VO.skip ?_
        refine VO.skip ?_
        refine VO.skip ?_
        refine VO.skip ?_
        refine VO.skip ?_
        refine VO.skip ?_
        refine VO.skip ?_
        refine VO.skip ?_
        refine VO.skip ?_
        refine VO.skip ?_
        refine VO.c (.pickT rfl rfl) ?_
        refine VO.go ?_
        refine VC.condT rfl ?_
        refine VC.text ?_
        refine VO.c (.move rfl) ?_
        refine VO.c (.fa (.l .o)) ?_
        refine VO.r (.ld vt9) ?_
        refine VO.new (.lit [(c.2.1[e]).1] el27) ?_
        refine VO.app rfl rfl el27 el27 (by simp; omega) ?_
        intro ww6
        refine VO.c (.assign rfl) ?_
        refine VO.nil ?_
        refine VC.keep [(1, St t), (3, .p y64 c), (7, .v (.sl .str) (validR c)), (9, .v (.sl .str) (opnR c c.2.2.length)), (11, .v (.sl .str) (reoI c t n)), (12, I (chgE c t n)), (15, .p y64 (chgI c t n)), (17, .p y109 (c.2.2[j])), (25, .v (.sl .str) (supI c ((c.2.2[j]).1))), (31, B (touchE c (supI c c.2.2[j].1) t (e + 1))), (32, .raw ww6), (109, .v y62 c.2.2), (110, I ((c.2.2.length : Nat) : Int)), (111, I ((j : Nat) : Int)), (259, .v y61 c.2.1), (260, I ((c.2.1.length : Nat) : Int)), (261, I ((e : Nat) : Int))] ⟨rfl, rfl, rfl, rfl, rfl, rfl, rfl, rfl, rfl, rfl, rfl, rfl, rfl, rfl, rfl, rfl, rfl, trivial⟩ ?_
        refine VC.text ?_
        refine VO.c (.add rfl rfl (by omega)) ?_
        refine VO.c (.move rfl) ?_
        refine VO.nil ?_
        refine ⟨_, [(1, St t), (3, .p y64 c), (7, .v (.sl .str) (validR c)), (9, .v (.sl .str) (opnR c c.2.2.length)), (11, .v (.sl .str) (reoI c t n)), (12, I (chgE c t n)), (15, .p y64 (chgI c t n)), (17, .p y109 (c.2.2[j])), (25, .v (.sl .str) (supI c ((c.2.2[j]).1))), (31, B (touchE c (supI c c.2.2[j].1) t (e + 1))), (32, .raw ww6), (109, .v y62 c.2.2), (110, I ((c.2.2.length : Nat) : Int)), (111, I ((j : Nat) : Int)), (259, .v y61 c.2.1), (260, I ((c.2.1.length : Nat) : Int)), (261, I (((e + 1) : Nat) : Int))], ?_, ⟨rfl, rfl, rfl, rfl, rfl, rfl, rfl, rfl, rfl, slE rfl (by rfl), rfl, rfl, rfl, rfl, rfl, rfl, rfl, trivial⟩, (e + 1), ww6, rfl, rfl, (by first | rw [moreL_succ hel, moreF_a g54_4] | rw [moreL_succ hel, moreF_b c54] | rw [moreL_succ hel, moreF_c g54_4 c54]), (by omega)⟩
        omega
      refine VO.c (.move rfl) ?_
      refine VO.r (.lenO m0 el27) ?_
      refine VO.c (.move rfl) ?_
      refine VO.r (.len el27) ?_
      refine VO.c (.eql) ?_
      refine VO.c (.move rfl) ?_
      refine VO.cg (r := decide ((((moreL c (supI c c.2.2[j].1) e).length : Nat) : Int) = (((supI c ((c.2.2[j]).1)).length : Nat) : Int))) (w := true) [] trivial (fun hgd => have g54_10 : (((moreL c (supI c c.2.2[j].1) e).length : Nat) : Int) = (((supI c ((c.2.2[j]).1)).length : Nat) : Int) := (by simpa using hgd); (.move rfl)) ?_
      refine VO.cg (r := decide ((((moreL c (supI c c.2.2[j].1) e).length : Nat) : Int) = (((supI c ((c.2.2[j]).1)).length : Nat) : Int))) (w := true) [] trivial (fun hgd => have g54_10 : (((moreL c (supI c c.2.2[j].1) e).length : Nat) : Int) = (((supI c ((c.2.2[j]).1)).length : Nat) : Int) := (by simpa using hgd); (.fa (.l .o))) ?_
      refine VO.rg (r := decide ((((moreL c (supI c c.2.2[j].1) e).length : Nat) : Int) = (((supI c ((c.2.2[j]).1)).length : Nat) : Int))) (w := true) [(296, .p .str ((c.2.1[e]).1))] ⟨rfl, trivial⟩ (fun hgd => have g54_10 : (((moreL c (supI c c.2.2[j].1) e).length : Nat) : Int) = (((supI c ((c.2.2[j]).1)).length : Nat) : Int) := (by simpa using hgd); (.ld vt9)) ?_
      refine VO.callg (r0 := decide ((((moreL c (supI c c.2.2[j].1) e).length : Nat) : Int) = (((supI c ((c.2.2[j]).1)).length : Nat) : Int))) (w := true) [(295, .v (.sl .str) (validR c)), (297, St ((c.2.1[e]).1))] ⟨rfl, rfl, trivial⟩ rfl rfl .same .refl rfl (fun hgd => have g54_10 : (((moreL c (supI c c.2.2[j].1) e).length : Nat) : Int) = (((supI c ((c.2.2[j]).1)).length : Nat) : Int) := (by simpa using hgd); VF.call (rHas_ok (by first | assumption | omega | simp))) ?_
      refine VO.c (.and) ?_
      refine VO.c (.pickF rfl rfl) ?_
      refine VO.go ?_
      refine VC.condB rfl (fun c54 => ?_) (fun c54 => ?_)
      · try simp only [Bool.and_eq_true, Bool.or_eq_true, Bool.and_eq_false_iff, Bool.or_eq_false_iff, Bool.not_eq_true', Bool.not_eq_false', decide_eq_true_eq, decide_eq_false_iff_not] at c54
        refine VC.text ?_
        refine VO.c (.move rfl) ?_
        refine VO.c (.fa (.l .o)) ?_
        refine VO.r (.ld vt9) ?_
        refine VO.new (.lit [(c.2.1[e]).1] el27) ?_
        refine VO.app rfl rfl el27 el27 (by simp; omega) ?_
        intro ww7
        refine VO.c (.assign rfl) ?_
        refine VO.nil (VC.text ?_)
        refine VO.c (.add rfl rfl (by omega)) ?_
        refine VO.c (.move rfl) ?_
        refine VO.nil ?_
        refine ⟨_, [(1, St t), (3, .p y64 c), (7, .v (.sl .str) (validR c)), (9, .v (.sl .str) (opnR c c.2.2.length)), (11, .v (.sl .str) (reoI c t n)), (12, I (chgE c t n)), (15, .p y64 (chgI c t n)), (17, .p y109 (c.2.2[j])), (25, .v (.sl .str) (supI c ((c.2.2[j]).1))), (31, B (touchE c (supI c c.2.2[j].1) t (e + 1))), (32, .raw ww7), (109, .v y62 c.2.2), (110, I ((c.2.2.length : Nat) : Int)), (111, I ((j : Nat) : Int)), (259, .v y61 c.2.1), (260, I ((c.2.1.length : Nat) : Int)), (261, I (((e + 1) : Nat) : Int))], ?_, ⟨rfl, rfl, rfl, rfl, rfl, rfl, rfl, rfl, rfl, slE rfl (by rfl), rfl, rfl, rfl, rfl, rfl, rfl, rfl, trivial⟩, (e + 1), ww7, rfl, rfl, (by first | rw [moreL_succ hel, moreF_a g54_4] | rw [moreL_succ hel, moreF_b c54] | rw [moreL_succ hel, moreF_c g54_4 c54]), (by omega)⟩
        omega
      try simp only [Bool.and_eq_true, Bool.or_eq_true, Bool.and_eq_false_iff, Bool.or_eq_false_iff, Bool.not_eq_true', Bool.not_eq_false', decide_eq_true_eq, decide_eq_false_iff_not] at c54
      refine VC.skip (VC.text ?_)
      refine VO.c (.add rfl rfl (by omega)) ?_
      refine VO.c (.move rfl) ?_
      refine VO.nil ?_
      refine ⟨_, [(1, St t), (3, .p y64 c), (7, .v (.sl .str) (validR c)), (9, .v (.sl .str) (opnR c c.2.2.length)), (11, .v (.sl .str) (reoI c t n)), (12, I (chgE c t n)), (15, .p y64 (chgI c t n)), (17, .p y109 (c.2.2[j])), (25, .v (.sl .str) (supI c ((c.2.2[j]).1))), (31, B (touchE c (supI c c.2.2[j].1) t (e + 1))), (32, .raw more), (109, .v y62 c.2.2), (110, I ((c.2.2.length : Nat) : Int)), (111, I ((j : Nat) : Int)), (259, .v y61 c.2.1), (260, I ((c.2.1.length : Nat) : Int)), (261, I (((e + 1) : Nat) : Int))], ?_, ⟨rfl, rfl, rfl, rfl, rfl, rfl, rfl, rfl, rfl, slE rfl (by rfl), rfl, rfl, rfl, rfl, rfl, rfl, rfl, trivial⟩, (e + 1), more, rfl, rfl, (by first | rw [moreL_succ hel, moreF_a g54_4] | rw [moreL_succ hel, moreF_b c54] | rw [moreL_succ hel, moreF_c g54_4 c54]), (by omega)⟩
      omega
    have hee : e = c.2.1.length := by omega
    have hml := more_len (c := c) (l := supI c c.2.2[j].1) e (by omega)
    refine VC.exit (VC.seq (VC.seq ?_))
    refine VC.shutL [(more, .row 9 .str (moreL c (supI c c.2.2[j].1) e))] [(32, .v (.sl .str) (moreL c (supI c c.2.2[j].1) e))] rfl (.cons rfl (.row m0) .nil) ?_
    refine VC.drawn ?_
    refine VD.c (.move rfl) ?_
    refine VD.r [] (.len el27) (.inl rfl) ?_
    refine VD.c (.move rfl) ?_
    refine VD.r [] (.len el27) (.inl rfl) ?_
    refine VD.c (.gtr) ?_
    refine VD.c (.move rfl) ?_
    refine VD.nw [] ?_
    refine VD.splitD (x := 312) rfl (fun g57_5 => ?_) (fun g57_5 => ?_)
    · refine VD.r [] (.ld vt64) (.inl rfl) ?_
      refine VD.call rfl rfl (VF.call (lGiven_ok (by first | assumption | omega | simp))) ?_
      refine VD.c (.fa (.l .o)) ?_
      refine VD.r [] (.ld vt9) (.inl rfl) ?_
      refine VD.c (.move rfl) ?_
      refine VD.callO rfl rfl (VF.call (sCheckSupport_ok (by first | assumption | omega | simp) (by first | assumption | omega | simp))) ?_
      refine VD.nw [314] ?_
      refine VD.c (.neq) ?_
      refine VD.c (.pickT rfl rfl) ?_
      refine VD.go ?_
      refine VC.condD rfl (fun c57 => ?_) (fun c57 => ?_)
      · exact absurd (by rw [hee]; exact sup_more hr hSP (by rw [← hee]; omega)) c57
      refine VC.skip (VC.seq (VC.seq (VC.text ?_)))
      refine VO.c (.move rfl) ?_
      refine VO.c (.neq) ?_
      refine VO.go ?_
      refine VC.condD rfl (fun c59 => ?_) (fun c59 => ?_)
      · refine VC.exit (VC.text ?_)
        refine VO.c (.add rfl rfl (by omega)) ?_
        refine VO.c (.move rfl) ?_
        refine VO.nil ?_
        refine ⟨_, [(1, St t), (3, .p y64 c), (7, .v (.sl .str) (validR c)), (9, .v (.sl .str) (opnR c c.2.2.length)), (11, .v (.sl .str) (reoI c t n)), (12, I (chgE c t n)), (15, .p y64 (chgI c t n)), (109, .v y62 c.2.2), (110, I ((c.2.2.length : Nat) : Int)), (111, I (((j + 1) : Nat) : Int))], ?_, ⟨rfl, rfl, rfl, rfl, rfl, rfl, rfl, rfl, rfl, rfl, trivial⟩, (j + 1), rfl, rfl, rfl, (by omega)⟩
        omega
      have hg : chgE c t n = 0 := Classical.not_not.1 c59
      obtain ⟨hr2, hro⟩ := reo_now hg hjl c32
      have hcz : caseE (chgI c t n) = 0 := by rw [chgI_0 hg]; exact chg_case hg
      refine VC.skip (VC.seq (VC.drawn ?_))
      refine VD.r [] (.ld vt64) (.inl rfl) ?_
      refine VD.call rfl rfl (VF.call (lGiven_ok (by first | assumption | omega | simp))) ?_
      refine VD.c (.fa (.l .o)) ?_
      refine VD.r [] (.ld vt9) (.inl rfl) ?_
      refine VD.callO rfl rfl (VF.call (sHoldsR_ok (by first | assumption | omega | simp) (by first | assumption | omega | simp))) ?_
      refine VD.c (.move rfl) ?_
      refine VD.nw [325] ?_
      refine VD.c (.extract) ?_
      refine VD.c (.extract) ?_
      refine VD.c (.assign rfl) ?_
      refine VD.c (.assign rfl) ?_
      refine VD.go (VC.seq (VC.text ?_))
      refine VO.c (.move rfl) ?_
      refine VO.c (.neq) ?_
      refine VO.c (.move rfl) ?_
      refine VO.cg (r := decide (rTwo (chgI c t n) ((c.2.2[j]).1) ≠ (0 : Int))) (w := false) [] trivial (fun hgd => have g61_2 : ¬ (rTwo (chgI c t n) ((c.2.2[j]).1) ≠ (0 : Int)) := (by simpa using hgd); (.move rfl)) ?_
      refine VO.cg (r := decide (rTwo (chgI c t n) ((c.2.2[j]).1) ≠ (0 : Int))) (w := false) [] trivial (fun hgd => have g61_2 : ¬ (rTwo (chgI c t n) ((c.2.2[j]).1) ≠ (0 : Int)) := (by simpa using hgd); (.fa (.l .o))) ?_
      refine VO.rg (r := decide (rTwo (chgI c t n) ((c.2.2[j]).1) ≠ (0 : Int))) (w := false) [(335, .p .str ((c.2.2[j]).1))] ⟨rfl, trivial⟩ (fun hgd => have g61_2 : ¬ (rTwo (chgI c t n) ((c.2.2[j]).1) ≠ (0 : Int)) := (by simpa using hgd); (.ld vt9)) ?_
      refine VO.callg (r0 := decide (rTwo (chgI c t n) ((c.2.2[j]).1) ≠ (0 : Int))) (w := false) [(334, .v (.sl .str) (reoI c t n)), (336, St ((c.2.2[j]).1))] ⟨rfl, rfl, trivial⟩ rfl rfl .same .refl rfl (fun hgd => have g61_2 : ¬ (rTwo (chgI c t n) ((c.2.2[j]).1) ≠ (0 : Int)) := (by simpa using hgd); VF.call (rHas_ok (by first | assumption | omega | simp))) ?_
      refine VO.cg (r := decide (rTwo (chgI c t n) ((c.2.2[j]).1) ≠ (0 : Int))) (w := false) [] trivial (fun hgd => have g61_2 : ¬ (rTwo (chgI c t n) ((c.2.2[j]).1) ≠ (0 : Int)) := (by simpa using hgd); (.move rfl)) ?_
      refine VO.cg (r := decide (rTwo (chgI c t n) ((c.2.2[j]).1) ≠ (0 : Int))) (w := false) [(337, B (hasB (reoI c t n) ((c.2.2[j]).1))), (338, B (heldB (chgI c t n) ((c.2.2[j]).1)))] ⟨rfl, rfl, trivial⟩ (fun hgd => have g61_2 : ¬ (rTwo (chgI c t n) ((c.2.2[j]).1) ≠ (0 : Int)) := (by simpa using hgd); (.beql)) ?_
      refine VO.c (.or) ?_
      refine VO.c (.move rfl) ?_
      refine VO.splitB (x := 341) rfl (fun g61_10 => ?_) (fun g61_10 => ?_)
      · try simp only [Bool.and_eq_true, Bool.or_eq_true, Bool.and_eq_false_iff, Bool.or_eq_false_iff, Bool.not_eq_true', Bool.not_eq_false', decide_eq_true_eq, decide_eq_false_iff_not] at g61_10
        exact g61_10.elim (fun h => absurd hr2 h) (fun h => reo_beq hro h)
      try simp only [Bool.and_eq_true, Bool.or_eq_true, Bool.and_eq_false_iff, Bool.or_eq_false_iff, Bool.not_eq_true', Bool.not_eq_false', decide_eq_true_eq, decide_eq_false_iff_not] at g61_10
      refine VO.c (.move rfl) ?_
      refine VO.c (.not) ?_
      refine VO.c (.move rfl) ?_
      refine VO.cg (r := (!(heldB (chgI c t n) ((c.2.2[j]).1)))) (w := true) [] trivial (fun hgd => have g61_13 : (!(heldB (chgI c t n) ((c.2.2[j]).1))) = true := (by simpa using hgd); (.move rfl)) ?_
      refine VO.cg (r := (!(heldB (chgI c t n) ((c.2.2[j]).1)))) (w := true) [(345, B (touchE c (supI c c.2.2[j].1) t e))] ⟨rfl, trivial⟩ (fun hgd => have g61_13 : (!(heldB (chgI c t n) ((c.2.2[j]).1))) = true := (by simpa using hgd); (.not)) ?_
      refine VO.c (.and) ?_
      refine VO.c (.pickF rfl rfl) ?_
      refine VO.go ?_
      refine VC.condB rfl (fun c61 => ?_) (fun c61 => ?_)
      · try simp only [Bool.and_eq_true, Bool.or_eq_true, Bool.and_eq_false_iff, Bool.or_eq_false_iff, Bool.not_eq_true', Bool.not_eq_false', decide_eq_true_eq, decide_eq_false_iff_not] at c61
        exact absurd (touch_held hg hjl c32 (by rw [← hee]; exact c61.2)) (by rw [c61.1]; decide)
      try simp only [Bool.and_eq_true, Bool.or_eq_true, Bool.and_eq_false_iff, Bool.or_eq_false_iff, Bool.not_eq_true', Bool.not_eq_false', decide_eq_true_eq, decide_eq_false_iff_not] at c61
      refine VC.skip ?_
      refine VC.keep [(1, St t), (3, .p y64 c), (7, .v (.sl .str) (validR c)), (9, .v (.sl .str) (opnR c c.2.2.length)), (11, .v (.sl .str) (reoI c t n)), (12, I (chgE c t n)), (15, .p y64 (chgI c t n)), (109, .v y62 c.2.2), (110, I ((c.2.2.length : Nat) : Int)), (111, I ((j : Nat) : Int))] ⟨rfl, rfl, rfl, rfl, rfl, rfl, rfl, rfl, rfl, rfl, trivial⟩ ?_
      refine VC.text ?_
      refine VO.c (.add rfl rfl (by omega)) ?_
      refine VO.c (.move rfl) ?_
      refine VO.nil ?_
      refine ⟨_, [(1, St t), (3, .p y64 c), (7, .v (.sl .str) (validR c)), (9, .v (.sl .str) (opnR c c.2.2.length)), (11, .v (.sl .str) (reoI c t n)), (12, I (chgE c t n)), (15, .p y64 (chgI c t n)), (109, .v y62 c.2.2), (110, I ((c.2.2.length : Nat) : Int)), (111, I (((j + 1) : Nat) : Int))], ?_, ⟨rfl, rfl, rfl, rfl, rfl, rfl, rfl, rfl, rfl, rfl, trivial⟩, (j + 1), rfl, rfl, rfl, (by omega)⟩
      omega
    refine VD.skip ?_
    refine VD.skip ?_
    refine VD.skip ?_
    refine VD.skip ?_
    refine VD.skip ?_
    refine VD.skip ?_
    refine VD.nw [] ?_
    refine VD.skip ?_
    refine VD.c (.pickF rfl rfl) ?_
    refine VD.go ?_
    refine VC.condF rfl ?_
    refine VC.skip (VC.seq (VC.seq (VC.text ?_)))
    refine VO.c (.move rfl) ?_
    refine VO.c (.neq) ?_
    refine VO.go ?_
    refine VC.condD rfl (fun c59 => ?_) (fun c59 => ?_)
    · refine VC.exit (VC.text ?_)
      refine VO.c (.add rfl rfl (by omega)) ?_
      refine VO.c (.move rfl) ?_
      refine VO.nil ?_
      refine ⟨_, [(1, St t), (3, .p y64 c), (7, .v (.sl .str) (validR c)), (9, .v (.sl .str) (opnR c c.2.2.length)), (11, .v (.sl .str) (reoI c t n)), (12, I (chgE c t n)), (15, .p y64 (chgI c t n)), (109, .v y62 c.2.2), (110, I ((c.2.2.length : Nat) : Int)), (111, I (((j + 1) : Nat) : Int))], ?_, ⟨rfl, rfl, rfl, rfl, rfl, rfl, rfl, rfl, rfl, rfl, trivial⟩, (j + 1), rfl, rfl, rfl, (by omega)⟩
      omega
    have hg : chgE c t n = 0 := Classical.not_not.1 c59
    obtain ⟨hr2, hro⟩ := reo_now hg hjl c32
    have hcz : caseE (chgI c t n) = 0 := by rw [chgI_0 hg]; exact chg_case hg
    refine VC.skip (VC.seq (VC.drawn ?_))
    refine VD.r [] (.ld vt64) (.inl rfl) ?_
    refine VD.call rfl rfl (VF.call (lGiven_ok (by first | assumption | omega | simp))) ?_
    refine VD.c (.fa (.l .o)) ?_
    refine VD.r [] (.ld vt9) (.inl rfl) ?_
    refine VD.callO rfl rfl (VF.call (sHoldsR_ok (by first | assumption | omega | simp) (by first | assumption | omega | simp))) ?_
    refine VD.c (.move rfl) ?_
    refine VD.nw [325] ?_
    refine VD.c (.extract) ?_
    refine VD.c (.extract) ?_
    refine VD.c (.assign rfl) ?_
    refine VD.c (.assign rfl) ?_
    refine VD.go (VC.seq (VC.text ?_))
    refine VO.c (.move rfl) ?_
    refine VO.c (.neq) ?_
    refine VO.c (.move rfl) ?_
    refine VO.cg (r := decide (rTwo (chgI c t n) ((c.2.2[j]).1) ≠ (0 : Int))) (w := false) [] trivial (fun hgd => have g61_2 : ¬ (rTwo (chgI c t n) ((c.2.2[j]).1) ≠ (0 : Int)) := (by simpa using hgd); (.move rfl)) ?_
    refine VO.cg (r := decide (rTwo (chgI c t n) ((c.2.2[j]).1) ≠ (0 : Int))) (w := false) [] trivial (fun hgd => have g61_2 : ¬ (rTwo (chgI c t n) ((c.2.2[j]).1) ≠ (0 : Int)) := (by simpa using hgd); (.fa (.l .o))) ?_
    refine VO.rg (r := decide (rTwo (chgI c t n) ((c.2.2[j]).1) ≠ (0 : Int))) (w := false) [(335, .p .str ((c.2.2[j]).1))] ⟨rfl, trivial⟩ (fun hgd => have g61_2 : ¬ (rTwo (chgI c t n) ((c.2.2[j]).1) ≠ (0 : Int)) := (by simpa using hgd); (.ld vt9)) ?_
    refine VO.callg (r0 := decide (rTwo (chgI c t n) ((c.2.2[j]).1) ≠ (0 : Int))) (w := false) [(334, .v (.sl .str) (reoI c t n)), (336, St ((c.2.2[j]).1))] ⟨rfl, rfl, trivial⟩ rfl rfl .same .refl rfl (fun hgd => have g61_2 : ¬ (rTwo (chgI c t n) ((c.2.2[j]).1) ≠ (0 : Int)) := (by simpa using hgd); VF.call (rHas_ok (by first | assumption | omega | simp))) ?_
    refine VO.cg (r := decide (rTwo (chgI c t n) ((c.2.2[j]).1) ≠ (0 : Int))) (w := false) [] trivial (fun hgd => have g61_2 : ¬ (rTwo (chgI c t n) ((c.2.2[j]).1) ≠ (0 : Int)) := (by simpa using hgd); (.move rfl)) ?_
    refine VO.cg (r := decide (rTwo (chgI c t n) ((c.2.2[j]).1) ≠ (0 : Int))) (w := false) [(337, B (hasB (reoI c t n) ((c.2.2[j]).1))), (338, B (heldB (chgI c t n) ((c.2.2[j]).1)))] ⟨rfl, rfl, trivial⟩ (fun hgd => have g61_2 : ¬ (rTwo (chgI c t n) ((c.2.2[j]).1) ≠ (0 : Int)) := (by simpa using hgd); (.beql)) ?_
    refine VO.c (.or) ?_
    refine VO.c (.move rfl) ?_
    refine VO.splitB (x := 341) rfl (fun g61_10 => ?_) (fun g61_10 => ?_)
    · try simp only [Bool.and_eq_true, Bool.or_eq_true, Bool.and_eq_false_iff, Bool.or_eq_false_iff, Bool.not_eq_true', Bool.not_eq_false', decide_eq_true_eq, decide_eq_false_iff_not] at g61_10
      exact g61_10.elim (fun h => absurd hr2 h) (fun h => reo_beq hro h)
    try simp only [Bool.and_eq_true, Bool.or_eq_true, Bool.and_eq_false_iff, Bool.or_eq_false_iff, Bool.not_eq_true', Bool.not_eq_false', decide_eq_true_eq, decide_eq_false_iff_not] at g61_10
    refine VO.c (.move rfl) ?_
    refine VO.c (.not) ?_
    refine VO.c (.move rfl) ?_
    refine VO.cg (r := (!(heldB (chgI c t n) ((c.2.2[j]).1)))) (w := true) [] trivial (fun hgd => have g61_13 : (!(heldB (chgI c t n) ((c.2.2[j]).1))) = true := (by simpa using hgd); (.move rfl)) ?_
    refine VO.cg (r := (!(heldB (chgI c t n) ((c.2.2[j]).1)))) (w := true) [(345, B (touchE c (supI c c.2.2[j].1) t e))] ⟨rfl, trivial⟩ (fun hgd => have g61_13 : (!(heldB (chgI c t n) ((c.2.2[j]).1))) = true := (by simpa using hgd); (.not)) ?_
    refine VO.c (.and) ?_
    refine VO.c (.pickF rfl rfl) ?_
    refine VO.go ?_
    refine VC.condB rfl (fun c61 => ?_) (fun c61 => ?_)
    · try simp only [Bool.and_eq_true, Bool.or_eq_true, Bool.and_eq_false_iff, Bool.or_eq_false_iff, Bool.not_eq_true', Bool.not_eq_false', decide_eq_true_eq, decide_eq_false_iff_not] at c61
      exact absurd (touch_held hg hjl c32 (by rw [← hee]; exact c61.2)) (by rw [c61.1]; decide)
    try simp only [Bool.and_eq_true, Bool.or_eq_true, Bool.and_eq_false_iff, Bool.or_eq_false_iff, Bool.not_eq_true', Bool.not_eq_false', decide_eq_true_eq, decide_eq_false_iff_not] at c61
    refine VC.skip ?_
    refine VC.keep [(1, St t), (3, .p y64 c), (7, .v (.sl .str) (validR c)), (9, .v (.sl .str) (opnR c c.2.2.length)), (11, .v (.sl .str) (reoI c t n)), (12, I (chgE c t n)), (15, .p y64 (chgI c t n)), (109, .v y62 c.2.2), (110, I ((c.2.2.length : Nat) : Int)), (111, I ((j : Nat) : Int))] ⟨rfl, rfl, rfl, rfl, rfl, rfl, rfl, rfl, rfl, rfl, trivial⟩ ?_
    refine VC.text ?_
    refine VO.c (.add rfl rfl (by omega)) ?_
    refine VO.c (.move rfl) ?_
    refine VO.nil ?_
    refine ⟨_, [(1, St t), (3, .p y64 c), (7, .v (.sl .str) (validR c)), (9, .v (.sl .str) (opnR c c.2.2.length)), (11, .v (.sl .str) (reoI c t n)), (12, I (chgE c t n)), (15, .p y64 (chgI c t n)), (109, .v y62 c.2.2), (110, I ((c.2.2.length : Nat) : Int)), (111, I (((j + 1) : Nat) : Int))], ?_, ⟨rfl, rfl, rfl, rfl, rfl, rfl, rfl, rfl, rfl, rfl, trivial⟩, (j + 1), rfl, rfl, rfl, (by omega)⟩
    omega
  refine VC.exit (VC.seq (VC.text ?_))
  refine VO.call rfl rfl (VF.call (awakeC_ok )) ?_
  refine VO.c (.assign rfl) ?_
  refine VO.go ?_
  refine VC.ret ?_
  exact VEnd.one rfl evT (pvE (by rfl))
end Go.Proofs
namespace Go.Fs
open Go.RowKit (Below)
variable {P : Program}
def orcB (fi fj fc : FuncId) (T : TypeId) : FuncId → List Value → Heap → Option (Value × Heap) := fun f xs h =>
  bif Nat.beq f fc then
    match xs with
    | [.pointer (some ⟨b, 0, none⟩)] =>
      match h.get b with
      | some (.row e [p, v] true false) =>
        bif Nat.beq e T then
          match p with
          | .pointer none => some (.tuple #[], h.set b (.row e [.pointer (some ⟨b, 0, none⟩), v] true false))
          | .pointer (some ⟨b', 0, none⟩) => bif Nat.beq b' b then some (.tuple #[], h) else none
          | _ => none
        else none
      | _ => none
    | _ => none
  else orcS fi fj f xs h
theorem orcB_sound {B : Nat} {w0 : World} {fi fj fc : FuncId} {T : TypeId} (hS : CallSound P B w0 (orcS fi fj)) (hc : Enters P fc)
    (hF : ∀ (b : Nat) (w : World), w.cell? ⟨b, 0, none⟩ = some (.pointer none) → w.shape? b = some (T, 2) → w.frozen? ⟨b, 0, none⟩ = false →
      Calls P fc #[.pointer (some ⟨b, 0, none⟩)] w fun e w' => e = .returned (.tuple #[]) ∧ w' = w.setCell ⟨b, 0, none⟩ (.pointer (some ⟨b, 0, none⟩)))
    (hU : ∀ (b : Nat) (w : World), w.cell? ⟨b, 0, none⟩ = some (.pointer (some ⟨b, 0, none⟩)) → Calls P fc #[.pointer (some ⟨b, 0, none⟩)] w fun e w' => e = .returned (.tuple #[]) ∧ w' = w) :
    CallSound P B w0 (orcB fi fj fc T) := by
  intro f xs h v h' hf
  unfold orcB at hf
  cases hb : Nat.beq f fc with
  | false =>
    rw [hb] at hf
    exact hS f xs h v h' hf
  | true =>
    have := nbeq hb
    subst this
    rw [hb] at hf
    simp only [cond_true] at hf
    split at hf
    · rename_i b
      split at hf
      · rename_i e p u hg
        obtain ⟨he, hf2⟩ := bif_some hf
        obtain rfl := nbeq he
        refine ⟨hc, fun ρ S w args' hr ha nn => ?_⟩
        obtain ⟨hsb, cur, k1, k2, k3, k4, k5, k6, k7⟩ := hr.objs b _ hg
        have hcl : cur.length = 2 := (k6 rfl).symm
        match cur, hcl with
        | [p', u'], _ =>
        have hp : VR ρ S p p' := k7 0 (by simp)
        have hu : VR ρ S u u' := k7 1 (by simp)
        have hat : (ρ b).at 0 = ⟨(ρ b).block, 0, none⟩ := by unfold Loc.at; rw [k2]
        have harg : args' = [.pointer (some ⟨(ρ b).block, 0, none⟩)] := by
          have h1 := ha.1
          match args', h1 with
          | [a], _ =>
            have h2 : VR ρ S (.pointer (some ⟨b, 0, none⟩)) a := ha.2 0 (by simp)
            rw [h2.ptr_inv.2, hat]
        subst harg
        have hcell : w.cell? ⟨(ρ b).block, 0, none⟩ = some p' := by simp [World.cell?, k1]
        split at hf2
        · simp only [Option.some.injEq, Prod.mk.injEq] at hf2
          obtain ⟨rfl, rfl⟩ := hf2
          obtain rfl := hp.eq_of_af0 rfl
          have hC : CallsIn Fence.wide nn P f #[.pointer (some ⟨(ρ b).block, 0, none⟩)] w _ := callsIn_wide.2 (hF (ρ b).block w hcell (by simp [World.shape?, k1]) (by simp [World.frozen?, k1]))
          refine hC.mono fun e2 w' hret => ?_
          obtain ⟨rfl, rfl⟩ := hret
          refine ⟨ρ, Moved.set hr hg rfl rfl rfl rfl rfl (by simp [World.setCell]) (fun k hk => ?_) ?_, VR.tuple' LR.nil⟩
          · simp only [World.setCell, Array.getElem?_modify]
            rw [if_neg (fun e0 => hk e0.symm)]
          refine ⟨[.pointer (some ⟨(ρ b).block, 0, none⟩), u'], ?_, k2, k3, k4, Nat.le_refl _, fun _ => rfl, fun i hi => ?_⟩
          · simp only [World.setCell, Array.getElem?_modify, if_pos rfl, k1]
            simp
          match i, hi with
          | 0, _ => show VR ρ S (.pointer (some ⟨b, 0, none⟩)) (.pointer (some ⟨(ρ b).block, 0, none⟩)); rw [← hat]; exact .ptr b 0 hsb
          | 1, _ => exact hu
        · rename_i b'
          obtain ⟨hbb, hf3⟩ := bif_some hf2
          obtain rfl := nbeq hbb
          simp only [Option.some.injEq, Prod.mk.injEq] at hf3
          obtain ⟨rfl, rfl⟩ := hf3
          have hp2 := hp.ptr_inv.2
          rw [hat] at hp2
          subst hp2
          have hC : CallsIn Fence.wide nn P f #[.pointer (some ⟨(ρ b').block, 0, none⟩)] w _ := callsIn_wide.2 (hU (ρ b').block w hcell)
          refine hC.mono fun e2 w' hret => ?_
          obtain ⟨rfl, rfl⟩ := hret
          exact ⟨ρ, Moved.same hr, VR.tuple' LR.nil⟩
        cases hf2
      cases hf
    cases hf
end Go.Fs
namespace Go.Fs
open Go.RowKit (Below)
variable {P : Program} {B : Nat} {w0 : World}

def fsStepX (P : Program) (orc : FuncId → List Value → Heap → Option (Value × Heap)) (rec : Rec) : Rec := fun rnd c fr h =>
  match c with
  | .region _ ops true => match drawnX P { next := h.next, low := h.next, objs := h.objs } (fsOp P (callOf P orc rec) (fsYield rec)) ops fr.n ⟨fr.t, { next := h.next, low := h.next, objs := h.objs }, [], [], 0, false⟩ with
    | some s => some (.normal, { t := s.t, n := fr.n, marks := fr.marks }, { next := s.h.next, low := min h.low s.h.low, objs := s.h.objs })
    | none => none
  | c => fsStep P orc rec rnd c fr h
def fsCodeX (P : Program) (orc : FuncId → List Value → Heap → Option (Value × Heap)) : Nat → Rec
  | 0 => fun _ _ _ _ => none
  | n + 1 => fsStepX P orc (fsCodeX P orc n)

theorem HR.low {ρ : Ren} {S : Nat → Prop} {h : Heap} {w : World} (hr : HR P ρ S B w0 h w) (l : Nat) : HR P ρ S B w0 { next := h.next, low := l, objs := h.objs } w :=
  { objs := hr.objs, inj := hr.inj, base := hr.base, ro := hr.ro, ids := hr.ids, pos := hr.pos, below := hr.below, size := hr.size }
theorem Moved.lowered {ρ ρ' : Ren} {S : Nat → Prop} {h h' : Heap} {w w' : World} {l : Nat} (m : Moved P B w0 ρ ρ' S { next := h.next, low := l, objs := h.objs } h' w w') :
    Moved P B w0 ρ ρ' S h { next := h'.next, low := min h.low h'.low, objs := h'.objs } w w' where
  agree := m.agree
  next := m.next
  hr := m.hr.low _
  frame := ⟨m.frame.os, m.frame.tape, m.frame.output, m.frame.size, m.frame.block⟩
  low := Nat.min_le_left _ _
  keep := fun i hi hl => m.keep i hi (Nat.lt_of_lt_of_le hl (Nat.min_le_right _ _))
  old := m.old
  fresh := fun i o ho hi => by
    obtain ⟨h1, h2⟩ := m.fresh i o ho hi
    refine ⟨h1, ?_⟩
    rcases h2 with h2 | ⟨j, oj, h3, h4, h5, h6, h7⟩
    · exact .inl h2
    exact .inr ⟨j, oj, h3, h4, h5, Nat.le_trans (Nat.min_le_right _ _) h6, h7⟩
theorem stepX_sound (hP : ProgOk P) {orc : FuncId → List Value → Heap → Option (Value × Heap)} (horc : CallSound P B w0 orc) {m : Nat} {rec : Rec} (hrec : SoundR P B w0 m rec) : SoundR P B w0 (m + 1) (fsStepX P orc rec) := by
  have hcs : CallSnd P B w0 (callOf P orc rec) := call_sound hP horc hrec
  have hys : YieldSound P B w0 (fsYield rec) := yield_sound hrec
  have hold := step_sound hP horc hrec
  intro rnd c fr h e fr' h' hok hf
  cases c with
  | region id ops draw =>
    cases draw with
    | false => exact hold rnd _ fr h e fr' h' hok hf
    | true =>
      intro ρ S w a nn Q hr ht hm hs k
      simp only [fsStepX] at hf
      split at hf
      · rename_i s hrun
        simp only [Option.some.injEq, Prod.mk.injEq] at hf
        obtain ⟨rfl, rfl, rfl⟩ := hf
        refine wpIn_region_draw fun t => ?_
        rw [hP.mixed]
        exact drawn_wpX (h0 := { next := h.next, low := h.next, objs := h.objs }) (call := callOf P orc rec) (yield := fsYield rec) hcs hys hok hrun ((hr.drew _).low _) ht (fun ρ1 w1 a1 m1 ht1 hd1 => k _ _ _ ⟨(Moved.ofDrew m1).lowered, ht1, by rw [hd1]; exact hm.mono fun b hb => ⟨.inl hb, m1.agree b hb⟩⟩) t
      cases hf
  | _ => exact hold rnd _ fr h e fr' h' hok hf

theorem codeX_sound (hP : ProgOk P) {orc : FuncId → List Value → Heap → Option (Value × Heap)} (horc : CallSound P B w0 orc) : ∀ m, SoundR P B w0 m (fsCodeX P orc m)
  | 0 => fun rnd c fr h e fr' h' _ hf => by cases hf
  | m + 1 => stepX_sound hP horc (codeX_sound hP horc m)
theorem fsX_calls (hP : ProgOk P) {orc : FuncId → List Value → Heap → Option (Value × Heap)} (horc : CallSound P B w0 orc) (m : Nat) : CallSound P B w0 (fsEnter P (fsCodeX P orc m)) := enter_sound hP (codeX_sound hP horc m)
theorem fsX_closed (hP : ProgOk P) {w : World} {orc : FuncId → List Value → Heap → Option (Value × Heap)} (horc : CallSound P w.heap.size w orc) {m : Nat} {f : FuncId} {args : List Value} {v : Value} (ha : args.all af = true)
    (hf : (fsEnter P (fsCodeX P orc m) f args ⟨1, 1, []⟩).map (·.1) = some v) (hv : af v = true) :
    Calls P f args.toArray w fun | .returned v', w' => v' = v ∧ Below w.heap.size w w' | _, _ => False := by
  obtain ⟨⟨v0, h0⟩, h1, h2⟩ := Option.map_eq_some_iff.1 hf
  simp only at h2
  subst h2
  have hr : HR P (fun _ => ⟨0, 0, 0, 0⟩) (fun _ => False) w.heap.size w ⟨1, 1, []⟩ w :=
    { objs := fun i o hi => (by cases hi), inj := fun i j oi oj hi => (by cases hi), base := fun i o hi => (by cases hi), ro := fun i o hi => (by cases hi), ids := fun b hb => hb.elim, pos := by decide,
      below := Below.refl _ _, size := Nat.le_refl _ }
  have hc := ((fsX_calls hP horc m) f args _ _ _ h1).2 _ _ w args hr ⟨rfl, fun i hi => .of_af (List.all_eq_true.1 ha _ (mem_getD hi))⟩ 0
  refine Calls.mono (callsIn_wide.1 hc) fun e w' he => ?_
  cases e with
  | returned v' =>
    obtain ⟨ρ', m1, hv1⟩ := he
    exact ⟨hv1.eq_of_af hv, m1.hr.below⟩
  | panicked c => exact he.elim
  | outgrown => exact he.elim
theorem awakeX_calls (hP : ProgOk P) {B : Nat} {w0 : World} {O : FuncId → List Value → Heap → Option (Value × Heap)} {fa : FuncId} (hS : ∀ w, Below B w0 w → CallSound P w.heap.size w O) {m : Nat}
    (hrun : (fsEnter P (fsCodeX P O m) fa [] ⟨1, 1, []⟩).map (·.1) = some (.bool true)) (w : World) (hw : Below B w0 w) :
    Calls P fa #[] w fun | .returned v', w' => v' = .bool true ∧ Below w.heap.size w w' | _, _ => False :=
  fsX_closed hP (hS w hw) (args := []) rfl hrun rfl
end Go.Fs
namespace Go.Fs
variable {P : Program} {orc : FuncId → List Value → Heap → Option (Value × Heap)}
def runPre (P : Program) (orc : FuncId → List Value → Heap → Option (Value × Heap)) : Nat → Nat → Code → Fr → Heap → Option (Nat × Code × Fr × Heap)
  | 0, n, c, fr, h => some (n, c, fr, h)
  | k + 1, n, c, fr, h => match n, c with
    | n + 1, .seq a b => match fsCodeX P orc n none a fr h with
      | some (.normal, fr1, h1) => runPre P orc k n b fr1 h1
      | _ => none
    | _, _ => none
theorem run_via : ∀ {k n : Nat} {c : Code} {fr : Fr} {h : Heap} {n' : Nat} {c' : Code} {fr' : Fr} {h' : Heap}, runPre P orc k n c fr h = some (n', c', fr', h') → fsCodeX P orc n none c fr h = fsCodeX P orc n' none c' fr' h'
  | 0, n, c, fr, h, n', c', fr', h', hr => by
    simp only [runPre, Option.some.injEq, Prod.mk.injEq] at hr
    obtain ⟨rfl, rfl, rfl, rfl⟩ := hr
    rfl
  | k + 1, n, c, fr, h, n', c', fr', h', hr => by
    simp only [runPre] at hr
    split at hr
    · rename_i n a b
      split at hr
      · rename_i fr1 h1 ha
        rw [← run_via hr]
        show fsStep P orc (fsCodeX P orc n) none (.seq a b) fr h = _
        simp only [fsStep, ha]
      cases hr
    cases hr
def endV (P : Program) (fn : Func) (h : Heap) (x : Ex × Fr × Heap) : Option Value :=
  bif x.1.goes then
    match dropMarks x.2.1.marks x.2.2 with
    | some h2 => (fsResults P x.2.1.t h2 fn.results.toList).map tupled
    | none => none
  else none
theorem enter_map {rec : Rec} {f : FuncId} {args : List Value} {h : Heap} {fn : Func} {c : Code} (hf : P.funcs[f]? = some fn) (hc : fn.body = some c) (hn : (Nat.blt 4000 fn.ntmps || Nat.blt fn.ntmps args.length) = false) :
    (fsEnter P rec f args h).map (·.1) = (rec none c ⟨fillTr .leaf 0 args, fn.ntmps, []⟩ { next := h.next, low := h.next, objs := h.objs }).bind (endV P fn h) := by
  unfold fsEnter fsEnterK endV
  simp only [hf, hc, hn, cond_false]
  cases rec none c ⟨fillTr .leaf 0 args, fn.ntmps, []⟩ { next := h.next, low := h.next, objs := h.objs } with
  | none => rfl
  | some x =>
    obtain ⟨e, fr, h1⟩ := x
    simp only [Option.bind_some]
    cases e.goes with
    | false => rfl
    | true =>
      simp only [cond_true]
      cases dropMarks fr.marks h1 with
      | none => rfl
      | some h2 =>
        simp only
        cases fsResults P fr.t h2 fn.results.toList with
        | none => rfl
        | some vs =>
          simp only [Option.map_some]
          generalize (!false && (af (tupled vs) && Nat.ble h.next h2.low)) = q
          cases q <;> rfl
def sufx : Nat → Code → Code
  | 0, c => c
  | k + 1, .seq _ b => sufx k b
  | _ + 1, c => c
def rfOf : Code → Option (Array Tmp × Code × Code)
  | .rangeFunc _ ps a b => some (ps, a, b)
  | .seq a b => (rfOf a).or (rfOf b)
  | .cond _ a b => (rfOf a).or (rfOf b)
  | .block _ b => rfOf b
  | .loop b => rfOf b
  | .scope b => rfOf b
  | _ => none
def rfIn (fn : Func) : Array Tmp × Code × Code := (fn.body.bind rfOf).getD (#[], .skip, .skip)
end Go.Fs
