/- Parts of the proof: an evaluator of the model, what it is sound for, and contracts of functions. No condition. -/
import Derived.Test.YtlkhimnkbboedaaGreatDoorP7
import Derived.Test.YtlkhimnkbboedaaGreatDoorP5
import Derived.Test.YtlkhimnkbboedaaGreatDoorP4
import Derived.Sort.OwnSorted
import Derived.Test.YtlkhimnkbboedaaGreatDoorP6
import Derived.Test.YtlkhimnkbboedaaGreatDoorP3
import Derived.Test.YtlkhimnkbboedaaGreatDoorP2
import Derived.ChangeArms
import Derived.Carry
import Derived.RowKit
import Derived.OpenShut
set_option linter.all false
namespace Go.Proofs
open Go.Fs Ieee
theorem store_iff {d : Dom} {l : List Pc} : storeE d l = 0 ↔ domE d = 0 ∧ l.length ≤ 4096 ∧ (∀ p ∈ l, pcE d p = 0) ∧ StrS ltP (l.map (plE d)) := by
  constructor
  · intro h; exact ⟨(store_dom h).1, (store_dom h).2.1, store_pc h, store_str h⟩
  rintro ⟨h1, h2, h3, h4⟩
  have h0 : storeP d l = 0 := by
    unfold storeP; rw [firstE_zero]; intro e he; rcases List.mem_cons.1 he with rfl | he
    · exact h1
    obtain rfl := List.mem_singleton.1 he; exact whenE_f (by omega)
  unfold storeE; rw [if_pos h0, firstE_zero]; intro e he; obtain ⟨i, hi, rfl⟩ := List.mem_map.1 he; have hi' := List.mem_range.1 hi; unfold pieceE; rw [firstE_zero]; intro e he; rcases List.mem_cons.1 he with rfl | he
  · exact h3 _ (pcA_mem hi')
  obtain rfl := List.mem_singleton.1 he
  have hc : (decide (0 < i) && decide (0 ≤ cmpP (plE d (pcA l (i - 1))) (plE d (pcA l i)))) = false := by
    rw [Bool.eq_false_iff, ne_eq, Bool.and_eq_true, decide_eq_true_iff, decide_eq_true_iff]; rintro ⟨h5, h6⟩; have := List.pairwise_iff_getElem.1 h4 (i - 1) i (by rw [List.length_map]; omega) (by rw [List.length_map]; exact hi') (by omega); rw [List.getElem_map, List.getElem_map, pcA_eq (by omega), pcA_eq hi'] at this; unfold ltP at this; rw [decide_eq_true_iff] at this; omega
  rw [hc]; rfl
theorem store_sub {d : Dom} {l k : List Pc} (hs : storeE d l = 0) (h : k.Sublist l) : storeE d k = 0 := by
  obtain ⟨h1, h2, h3, h4⟩ := store_iff.1 hs; exact store_iff.2 ⟨h1, Nat.le_trans h.length_le h2, fun p hp => h3 p (h.subset hp), List.Pairwise.sublist (h.map _) h4⟩
def sel (l : List Pc) (S : List Nat) : List Pc := ((List.range l.length).filter fun i => decide (i ∈ S)).map (pcA l)
theorem map_pcA (l : List Pc) : (List.range l.length).map (pcA l) = l := List.ext_getElem (by simp) fun i h1 h2 => by
  rw [List.getElem_map, List.getElem_range, ← pcA_eq]
theorem sel_sub (l : List Pc) (S : List Nat) : (sel l S).Sublist l := by
  have := (List.filter_sublist (l := List.range l.length) (p := fun i => decide (i ∈ S))).map (pcA l)
  rwa [map_pcA] at this
theorem sel_all {l : List Pc} {S : List Nat} (h : ∀ i, i < l.length → i ∈ S) : sel l S = l := by
  unfold sel; rw [List.filter_eq_self.2 fun i hi => decide_eq_true (h i (List.mem_range.1 hi)), map_pcA]
theorem sel_nil {l : List Pc} : sel l [] = [] := by
  unfold sel; rw [List.filter_eq_nil_iff.2 fun i _ => by simp]; rfl
theorem sel_len {l : List Pc} {S : List Nat} (hn : S.Nodup) (h : ∀ i ∈ S, i < l.length) : (sel l S).length = S.length := by
  unfold sel; rw [List.length_map]; refine List.Perm.length_eq ((List.perm_ext_iff_of_nodup (List.Pairwise.filter _ List.nodup_range) hn).2 fun i => ?_); rw [List.mem_filter, List.mem_range, decide_eq_true_iff]; exact ⟨fun h => h.2, fun hi => ⟨h i hi, hi⟩⟩
theorem range_at {n i : Nat} (h : i < n) : ∃ r, List.range n = List.range i ++ i :: r ∧ ∀ j ∈ r, i < j := by
  refine ⟨(List.range (n - (i + 1))).map (i + 1 + ·), ?_, fun j hj => ?_⟩
  · have := List.range_add (n := i + 1) (m := n - (i + 1)); rw [show i + 1 + (n - (i + 1)) = n by omega, List.range_succ, List.append_assoc] at this; exact this
  obtain ⟨k, _, rfl⟩ := List.mem_map.1 hj; omega
theorem sel_at {l : List Pc} {S : List Nat} {i : Nat} (h : i < l.length) (hS : i ∉ S) : ∃ A B, sel l S = A ++ B ∧ sel l (i :: S) = A ++ pcA l i :: B ∧ (∀ p ∈ A, ∃ j, j < i ∧ p = pcA l j) ∧ ∀ p ∈ B, ∃ j, i < j ∧ j < l.length ∧ p = pcA l j := by
  obtain ⟨r, h1, h2⟩ := range_at h
  have hr : ∀ j ∈ r, j < l.length := fun j hj => by
    have : j ∈ List.range l.length := by rw [h1]; exact List.mem_append_right _ (List.mem_cons_of_mem _ hj)
    exact List.mem_range.1 this
  refine ⟨((List.range i).filter fun i => decide (i ∈ S)).map (pcA l), (r.filter fun i => decide (i ∈ S)).map (pcA l), ?_, ?_, ?_, ?_⟩
  · unfold sel; rw [h1, List.filter_append, List.filter_cons_of_neg (by simpa using hS), List.map_append]
  · unfold sel; rw [h1, List.filter_append, List.filter_cons_of_pos (by simp), List.map_append, List.map_cons]; congr 1
    · congr 1; refine List.filter_congr fun j hj => ?_; have := List.mem_range.1 hj; simp [show j ≠ i by omega]
    congr 2; refine List.filter_congr fun j hj => ?_; have := h2 j hj; simp [show j ≠ i by omega]
  · rintro p hp; obtain ⟨j, hj, rfl⟩ := List.mem_map.1 hp; exact ⟨j, List.mem_range.1 (List.mem_filter.1 hj).1, rfl⟩
  rintro p hp; obtain ⟨j, hj, rfl⟩ := List.mem_map.1 hp; have := (List.mem_filter.1 hj).1; exact ⟨j, h2 j this, hr j this, rfl⟩
section
variable {α : Type} {lt same : α → α → Bool}
theorem rm_ins {x : α} : ∀ {A B : List α}, (∀ a ∈ A, lt a x = true) → (∀ b ∈ B, lt x b = true ∧ lt b x = false) → rmE lt same (A ++ B) [x] = some (A ++ x :: B)
  | [], [], _, _ => by simp [rmE]
  | [], b :: B, _, hb => by
    obtain ⟨h1, h2⟩ := hb b List.mem_cons_self
    rw [List.nil_append, rmE, if_neg (by rw [h2]; exact Bool.false_ne_true), if_pos h1, rmE]; rfl
  | a :: A, B, ha, hb => by
    rw [List.cons_append, rmE, if_pos (ha a List.mem_cons_self), rm_ins (fun a h => ha a (List.mem_cons_of_mem _ h)) hb]; rfl
theorem rm_in {x : α} : ∀ {A B : List α}, (∀ a ∈ A, lt a x = true ∧ lt x a = false) → lt x x = false → same x x = true → rmE lt same [x] (A ++ x :: B) = some (A ++ x :: B)
  | [], B, _, h1, h2 => by
    rw [List.nil_append, rmE, if_neg (by rw [h1]; exact Bool.false_ne_true), if_neg (by rw [h1]; exact Bool.false_ne_true), if_pos h2, rmE]; rfl
  | a :: A, B, ha, h1, h2 => by
    obtain ⟨h3, h4⟩ := ha a List.mem_cons_self; rw [List.cons_append, rmE, if_neg (by rw [h4]; exact Bool.false_ne_true), if_pos h3, rm_in (fun a h => ha a (List.mem_cons_of_mem _ h)) h1 h2]; rfl
theorem rm_self : ∀ {A : List α}, (∀ a ∈ A, lt a a = false ∧ same a a = true) → rmE lt same A A = some A
  | [], _ => by rw [rmE]
  | a :: A, h => by
    obtain ⟨h1, h2⟩ := h a List.mem_cons_self; rw [rmE, if_neg (by rw [h1]; exact Bool.false_ne_true), if_neg (by rw [h1]; exact Bool.false_ne_true), if_pos h2, rm_self fun a ha => h a (List.mem_cons_of_mem _ ha)]; rfl
theorem rm_bad {x y : α} : ∀ {A B : List α}, (∀ a ∈ A, lt a y = true) → lt x y = false → lt y x = false → same x y = false → rmE lt same (A ++ x :: B) [y] = none
  | [], B, _, h1, h2, h3 => by
    rw [List.nil_append, rmE, if_neg (by rw [h1]; exact Bool.false_ne_true), if_neg (by rw [h2]; exact Bool.false_ne_true), if_neg (by rw [h3]; exact Bool.false_ne_true)]
  | a :: A, B, ha, h1, h2, h3 => by
    rw [List.cons_append, rmE, if_pos (ha a List.mem_cons_self), rm_bad (fun a h => ha a (List.mem_cons_of_mem _ h)) h1 h2 h3]; rfl
end
theorem sameLv_refl {v : List Nat} (h : ∀ x ∈ v, lvlE x = 0) : sameLv v v = true := by
  refine decide_eq_true ⟨rfl, fun i hi => ?_⟩; have h1 := h _ (List.getElem_mem hi); have h2 := lvl_ok h1; rw [getDg _ _ hi, (fcmp32 h2.1 h2.1).2.1]; exact decide_eq_false (by simp)
theorem bef_lt {d : Dom} {l : List Pc} (hs : storeE d l = 0) {i j : Nat} (h : i < j) (hj : j < l.length) : befE d (pcA l i) (pcA l j) = true ∧ befE d (pcA l j) (pcA l i) = false := by
  have hd := (store_dom hs).1; have e1 := ltP_bef hd (store_pc hs _ (pcA_mem (show i < l.length by omega))) (store_pc hs _ (pcA_mem hj)); have e2 := ltP_bef hd (store_pc hs _ (pcA_mem hj)) (store_pc hs _ (pcA_mem (show i < l.length by omega))); have h2 := all_lt (store_dom hs).2.2 j h hj; have h3 : ltP (plE d (pcA l i)) (plE d (pcA l j)) = true := decide_eq_true (by omega); exact ⟨e1 ▸ h3, e2 ▸ ltP_weak.asym _ _ h3⟩
theorem bef_self {d : Dom} {l : List Pc} (hs : storeE d l = 0) {p : Pc} (hp : p ∈ l) : befE d p p = false := by
  rw [← ltP_bef (store_dom hs).1 (store_pc hs p hp) (store_pc hs p hp)]; exact ltP_weak.irr _
theorem mrgV_of {d : Dom} {a b r : List Pc} (ha : storeE d a = 0) (hb : storeE d b = 0) (h : rmE (befE d) smL a b = some r) (hr : r.length ≤ 4096) : mrgV d a b = (r, 0) := by
  rw [mrg_val ha hb, h]; show (if (4096 : Int) < (r.length : Nat) then (([], 5) : List Pc × Int) else (r, 0)) = _; rw [if_neg (by omega)]
theorem one_store {d : Dom} {l : List Pc} (hs : storeE d l = 0) {i : Nat} (hi : i < l.length) : storeE d [pcA l i] = 0 := store_sub hs (List.singleton_sublist.2 (pcA_mem hi))
theorem mrg_more {d : Dom} {l : List Pc} (hs : storeE d l = 0) {S : List Nat} {i : Nat} (hi : i < l.length) (hS : i ∉ S) : mrgV d (sel l S) [pcA l i] = (sel l (i :: S), 0) := by
  obtain ⟨A, B, h1, h2, h3, h4⟩ := sel_at hi hS; refine mrgV_of (store_sub hs (sel_sub l S)) (one_store hs hi) ?_ (Nat.le_trans (sel_sub l _).length_le (store_dom hs).2.1); rw [h1, h2]; refine rm_ins (fun a ha => ?_) fun b hb => ?_
  · obtain ⟨j, h5, rfl⟩ := h3 a ha; exact (bef_lt hs h5 hi).1
  obtain ⟨j, h5, h6, rfl⟩ := h4 b hb; exact bef_lt hs h5 h6
theorem smL_self {d : Dom} {l : List Pc} (hs : storeE d l = 0) {p : Pc} (hp : p ∈ l) : smL p p = true := sameLv_refl (store_lv hs p hp)
theorem mrg_again {d : Dom} {l : List Pc} (hs : storeE d l = 0) {S : List Nat} {i : Nat} (hi : i < l.length) (hS : i ∉ S) : mrgV d [pcA l i] (sel l (i :: S)) = (sel l (i :: S), 0) := by
  obtain ⟨A, B, h1, h2, h3, h4⟩ := sel_at hi hS; refine mrgV_of (one_store hs hi) (store_sub hs (sel_sub l _)) ?_ (Nat.le_trans (sel_sub l _).length_le (store_dom hs).2.1); rw [h2]; refine rm_in (fun a ha => ?_) (bef_self hs (pcA_mem hi)) (smL_self hs (pcA_mem hi)); obtain ⟨j, h5, rfl⟩ := h3 a ha; exact bef_lt hs h5 hi
theorem mrg_self {d : Dom} {l : List Pc} (hs : storeE d l = 0) : mrgV d l l = (l, 0) := mrgV_of hs hs (rm_self fun a ha => ⟨bef_self hs ha, smL_self hs ha⟩) (store_dom hs).2.1
theorem samePc_self {d : Dom} {l : List Pc} (hs : storeE d l = 0) : sameSt l l = true := decide_eq_true ⟨rfl, fun i hi => decide_eq_true ⟨rfl, rfl, rfl, rfl, smL_self hs (pcA_mem hi)⟩⟩
theorem lost_iff {l : List Pc} {r : Int} {s : Sl} : lost l r s = true ↔ ∀ p ∈ l, ¬ (p.1 = r ∧ slotE p = s) := by
  unfold lost fndE; rw [decide_eq_true_iff]; by_cases h : l.findIdx (hitB r s) < l.length
  · rw [if_pos h]; refine ⟨fun hh => by omega, fun hh => ?_⟩; have h1 : hitB r s l[l.findIdx (hitB r s)] = true := List.findIdx_getElem (w := h); exact absurd (hitB_iff.1 h1) (hh _ (List.getElem_mem h))
  rw [if_neg h]; refine ⟨fun _ p hp hh => ?_, fun _ => by omega⟩; have h5 : l.findIdx (hitB r s) = l.length := Nat.le_antisymm List.findIdx_le_length (by omega); have h4 := List.findIdx_eq_length.1 h5 _ hp; rw [hitB_iff.2 hh] at h4; cases h4
theorem count_less {α : Type} [DecidableEq α] {p : α → Bool} {x : α} : ∀ {xs : List α}, xs.Nodup → x ∈ xs → p x = true → (xs.filter p).length = (xs.filter fun y => p y && decide (y ≠ x)).length + 1
  | [], _, h, _ => by cases h
  | a :: xs, hn, h, hp => by
    obtain ⟨h1, h2⟩ := List.nodup_cons.1 hn; by_cases he : a = x
    · subst he; rw [List.filter_cons_of_pos hp, List.filter_cons_of_neg (by simp), List.length_cons]; congr 2; refine List.filter_congr fun y hy => ?_; have : y ≠ a := fun e => h1 (e ▸ hy); simp [this]
    have hx : x ∈ xs := (List.mem_cons.1 h).resolve_left fun e => he e.symm; have ih := count_less h2 hx hp
    cases ha : p a with
    | true => rw [List.filter_cons_of_pos ha, List.filter_cons_of_pos (by simp [ha, he]), List.length_cons, List.length_cons, ih]
    | false => rw [List.filter_cons_of_neg (by simp [ha]), List.filter_cons_of_neg (by simp [ha]), ih]
theorem sel_mem {l : List Pc} {S : List Nat} {p : Pc} : p ∈ sel l S ↔ ∃ j, j < l.length ∧ j ∈ S ∧ p = pcA l j := by
  unfold sel; rw [List.mem_map]; constructor
  · rintro ⟨j, hj, rfl⟩; obtain ⟨h1, h2⟩ := List.mem_filter.1 hj; exact ⟨j, List.mem_range.1 h1, of_decide_eq_true h2, rfl⟩
  rintro ⟨j, h1, h2, rfl⟩; exact ⟨j, List.mem_filter.2 ⟨List.mem_range.2 h1, decide_eq_true h2⟩, rfl⟩
theorem miss_less {d : Dom} {l : List Pc} (hs : storeE d l = 0) {S : List Nat} {i : Nat} (hi : i < l.length) (hS : i ∉ S) : (missL d (sel l S) (pcA l i).1).length = (missL d (sel l (i :: S)) (pcA l i).1).length + 1 := by
  have hd := (store_dom hs).1; have hp := store_pc hs _ (pcA_mem hi); have hx := slot_in hd hp
  have hlost : lost (sel l S) (pcA l i).1 (slotE (pcA l i)) = true := lost_iff.2 fun p hp hh => by
    obtain ⟨j, h1, h2, rfl⟩ := sel_mem.1 hp; have := slot_uniq (store_dom hs).2.2 h1 hi hh.1 hh.2; subst this; exact hS h2
  have h1 := count_less (slAll_nodup hd) hx hlost
  have h2 : ((slAll d).filter fun y => lost (sel l S) (pcA l i).1 y && decide (y ≠ slotE (pcA l i))) = (slAll d).filter (lost (sel l (i :: S)) (pcA l i).1) := by
    refine List.filter_congr fun y _ => ?_; rw [Bool.eq_iff_iff, Bool.and_eq_true, lost_iff, lost_iff, decide_eq_true_iff]; constructor
    · rintro ⟨h3, h4⟩ p hp hh; obtain ⟨j, h5, h6, rfl⟩ := sel_mem.1 hp; rcases List.mem_cons.1 h6 with rfl | h6
      · exact h4 hh.2.symm
      exact h3 _ (sel_mem.2 ⟨j, h5, h6, rfl⟩) hh
    intro h3; refine ⟨fun p hp hh => ?_, fun e => ?_⟩
    · obtain ⟨j, h5, h6, rfl⟩ := sel_mem.1 hp; exact h3 _ (sel_mem.2 ⟨j, h5, List.mem_cons_of_mem _ h6, rfl⟩) hh
    exact h3 _ (sel_mem.2 ⟨i, hi, List.mem_cons_self, rfl⟩) ⟨rfl, e.symm⟩
  rw [h2] at h1; exact h1
theorem pc_run {d : Dom} {p : Pc} (h : pcE d p = 0) : rangeE p.1 0 100000 = 0 := by
  have h5 := (pc_lv h).1; unfold pcPre at h5; rw [firstE_zero] at h5; exact h5 _ List.mem_cons_self
theorem fieldA_zero {d : Dom} {l : List Pc} {n : Int} (h1 : storeE d l = 0) (h2 : rangeE n 0 100000 = 0) : fieldA d l n = 0 := by rw [fieldA_eq, if_neg (by simpa using h1)]; exact h2
theorem lat_done {d : Dom} {l : List Pc} {now : Int} (hs : storeE d l = 0) (hn : rangeE now 0 100000 = 0) : ((latV d l now).2 = 0 ∧ rangeE (latV d l now).1 0 100000 = 0 ∧ missL d l (latV d l now).1 = []) ∨ (latV d l now).2 = 7 := by
  rw [finL1 (fieldA_zero hs hn), latF, latG]; by_cases h : latR d l now < 0
  · rw [if_pos h, if_pos h]; exact .inr rfl
  rw [if_neg h, if_neg h]; refine .inl ⟨rfl, ?_⟩; obtain ⟨_, _, hz⟩ := store_dom hs; have h1 := asc_pair (rn_asc hz)
  have h2 : (runsE l).Pairwise (· ≤ ·) := by
    have := cpt_sub (xs := rnL l) (Nat.le_refl _); rw [List.take_length] at this; exact h1.sublist this
  have key : ∀ {p : Int → Bool} {xs : List Int} (i : Nat), bstE p xs i = -1 ∨ (p (bstE p xs i) = true ∧ ∃ j, j < i ∧ bstE p xs i = xs.getD j 0) := fun {p xs} i => by
    induction i with
    | zero => exact .inl rfl
    | succ i ih =>
      unfold bstE; by_cases hp : p (xs.getD i 0) = true
      · rw [if_pos hp]; rcases Int.le_total (bstE p xs i) (xs.getD i 0) with h3 | h3
        · rw [Int.max_eq_right h3]; exact .inr ⟨hp, i, by omega, rfl⟩
        rw [Int.max_eq_left h3]; rcases ih with h4 | ⟨h4, j, h5, h6⟩
        · exact .inl h4
        exact .inr ⟨h4, j, by omega, h6⟩
      rw [if_neg hp]; rcases ih with h4 | ⟨h4, j, h5, h6⟩
      · exact .inl h4
      exact .inr ⟨h4, j, by omega, h6⟩
  rcases key (p := latP d l now) (xs := runsE l) (runsE l).length with h3 | ⟨h3, j, h4, h5⟩
  · exact absurd (show latR d l now < 0 by unfold latR; rw [h3]; decide) h
  have h6 : latP d l now (latR d l now) = true := h3; unfold latP at h6; rw [Bool.and_eq_true, decide_eq_true_iff, decide_eq_true_iff] at h6; have h7 := rangeE_zero.1 hn; exact ⟨rangeE_zero.2 ⟨by omega, by omega⟩, h6.1⟩
end Go.Proofs
namespace Go.Proofs
open Go.Fs Ieee
end Go.Proofs
namespace Go.Proofs
open Go.Fs Ieee
def nextX (x : Int) : Int := (742938285 * x).tmod 2147483647
def drE : Nat → Int → List Int → List Int
  | 0, _, o => o
  | 1, _, o => o
  | m + 2, x, o => drE (m + 1) (nextX x) (swp o (m + 1) ((nextX x).tmod ((m : Int) + 2)).toNat 0)
def rngE (n i : Nat) : List Int := (List.range i).map (fun j : Nat => (j : Int)) ++ List.replicate (n - i) 0
def drawE (key : Int) (n : Nat) : List Int := drE n key (rngE n n)
theorem rng_len {n i : Nat} (h : i ≤ n) : (rngE n i).length = n := by simp [rngE]; omega
theorem rng_set {n i : Nat} (h : i < n) : (rngE n i).set i (i : Int) = rngE n (i + 1) := by
  unfold rngE; obtain ⟨k, hk⟩ : ∃ k, n - i = k + 1 := ⟨n - i - 1, by omega⟩; rw [List.set_append_right _ _ (by simp), hk, show n - (i + 1) = k by omega]; simp [List.range_succ, List.replicate_succ]
theorem next_ok {x : Int} (h0 : 0 ≤ x) : 0 ≤ nextX x ∧ nextX x < 2147483647 := by
  unfold nextX; rw [Int.tmod_eq_emod_of_nonneg (by omega)]; omega
theorem dr_perm : ∀ (m : Nat) (x : Int) (o : List Int), m ≤ o.length → 0 ≤ x → (drE m x o).Perm o
  | 0, _, o, _, _ => List.Perm.refl _
  | 1, _, o, _, _ => List.Perm.refl _
  | m + 2, x, o, h, h0 => by
    rw [drE]; obtain ⟨h1, h2⟩ := next_ok h0
    have hk : ((nextX x).tmod ((m : Int) + 2)).toNat < m + 2 := by
      rw [Int.tmod_eq_emod_of_nonneg h1]; have := Int.emod_lt_of_pos (nextX x) (show (0 : Int) < (m : Int) + 2 by omega); have := Int.emod_nonneg (nextX x) (show ((m : Int) + 2) ≠ 0 by omega); omega
    refine (dr_perm (m + 1) _ _ (by rw [swp_len]; omega) h1).trans ?_; unfold swp; rw [getDg _ _ (by omega), getDg _ _ (by omega)]; exact List.set_set_perm (by omega) (by omega)
theorem rDraw_ok {key : Int} {n : Nat} (h0 : 0 ≤ key) (h1 : key < 4294967296) (hn : n ≤ 100000) : VFG Tryz.prog OA 8 [I key, I ((n : Nat) : Int)] [] (fun r g => ∃ w, r = .raw w ∧ g = [(w, .row 3 (.int .i64) (drawE key n))]) := by
  refine VFG.enter Tryz.func8 rfl (fun _ _ => rfl) rfl ?_; show VC _ _ _ _ _ [(0, I key), (1, I ((n : Nat) : Int))] [] _; refine VC.seq (VC.text ?_); refine VO.c (.assign rfl) ?_; refine VO.go (VC.seq (VC.text ?_)); refine VO.c (.move rfl) ?_; refine VO.cell (.make (k := n) rfl rfl el31 zt3 (by omega)) ?_; intro ww1; refine VO.c (.assign rfl) ?_; refine VO.go (VC.seq (VC.seq (VC.text ?_))); refine VO.c (.assign rfl) ?_; refine VO.go (VC.block ?_); refine VC.keep [(0, I key), (1, I ((n : Nat) : Int)), (5, .raw ww1), (6, I ((0 : Nat) : Int))] ⟨rfl, rfl, rfl, rfl, trivial⟩ ?_; refine VC.loop (I := fun kk ff ss => ∃ (i : Nat), kk = n - i ∧ ff = [(0, I key), (1, I ((n : Nat) : Int)), (5, .raw ww1), (6, I ((i : Nat) : Int))] ∧ ss = [(ww1, .row 3 (.int .i64) (rngE n i))] ∧ (i ≤ n)) ?_ _ _ _ ⟨0, rfl, rfl, (by rw [show rngE n 0 = List.replicate n (0 : Int) by simp [rngE]] <;> rfl), Nat.zero_le _⟩; rintro kk ff ss ⟨i, hk0, rfl, rfl, hi⟩; have hl := rng_len hi; refine VC.seq (VC.seq (VC.text ?_)); refine VO.c (.move rfl) (VO.c (.move rfl) (VO.c (.lss) (VO.go ?_))); refine VC.condD rfl (fun c3 => ?_) (fun c3 => ?_)
  · refine VC.skip (VC.seq (VC.block (VC.text ?_))); refine VO.c (.move rfl) (VO.c (.move rfl) (VO.c (.move rfl) (VO.c (.ixO (j := i) rfl rfl m0 el31 (by omega)) ?_))); refine VO.setE i rfl rfl vt3 (by omega) ?_; refine VO.nil (VC.text ?_); refine VO.c (.move rfl) (VO.c (.add rfl rfl (by omega)) (VO.c (.assign rfl) ?_)); refine VO.nil ?_; refine ⟨_, [(0, I key), (1, I ((n : Nat) : Int)), (5, .raw ww1), (6, I (((i + 1) : Nat) : Int))], ?_, ⟨rfl, rfl, rfl, rfl, trivial⟩, (i + 1), rfl, rfl, (by rw [rng_set (show i < n by omega)]), (by omega)⟩; omega
  refine VC.exit (VC.seq (VC.text ?_)); refine VO.c (.move rfl) (VO.c (.assign rfl) ?_); refine VO.go (VC.seq (VC.seq (VC.text ?_))); refine VO.c (.move rfl) (VO.c (.sub rfl rfl (by omega)) (VO.c (.assign rfl) ?_)); refine VO.go (VC.block ?_); refine VC.keep [(5, .raw ww1), (7, I key), (8, I (((n : Nat) : Int) - 1))] ⟨rfl, rfl, rfl, trivial⟩ ?_; refine VC.loop (I := fun kk ff ss => ∃ (m : Nat) (x : Int) (o : List Int), kk = m ∧ ff = [(5, .raw ww1), (7, I x), (8, I (((m : Nat) : Int) - 1))] ∧ ss = [(ww1, .row 3 (.int .i64) o)] ∧ (m ≤ n) ∧ (0 ≤ x ∧ x < 4294967296) ∧ (o.length = n) ∧ (drawE key n = drE m x o)) ?_ _ _ _ ⟨n, key, rngE n n, rfl, rfl, (by rw [show i = n by omega]), (by omega), (by omega), (by exact rng_len (Nat.le_refl _)), (by rfl)⟩; rintro kk ff ss ⟨m, x, o, hk2, rfl, rfl, hm, hx, ho, hd⟩; refine VC.seq (VC.seq (VC.text ?_)); refine VO.c (.move rfl) (VO.c (.gtr) (VO.go ?_)); refine VC.condD rfl (fun c8 => ?_) (fun c8 => ?_)
  · have hm2 : 2 ≤ m := by omega
    have hnx := next_ok hx.1; refine VC.skip (VC.seq (VC.block (VC.seq (VC.text ?_)))); refine VO.c (.move rfl) ?_; rw [show ((m : Nat) : Int) - 1 = ((m - 1 : Nat) : Int) by omega]; refine VO.c (.mul rfl rfl (by omega)) (VO.c (.rem rfl rfl (by decide)) ?_); rw [show (742938285 * x).tmod 2147483647 = nextX x from rfl]; refine VO.c (.assign rfl) ?_; refine VO.go (VC.seq (VC.text ?_)); refine VO.c (.move rfl) (VO.c (.move rfl) (VO.c (.add rfl rfl (by omega)) (VO.c (.rem rfl rfl (by omega)) ?_)))
    have hk : 0 ≤ (nextX x).tmod (((m - 1 : Nat) : Int) + (1 : Int)) ∧ (nextX x).tmod (((m - 1 : Nat) : Int) + (1 : Int)) < m := by
      rw [Int.tmod_eq_emod_of_nonneg hnx.1]; have := Int.emod_lt_of_pos (nextX x) (show (0 : Int) < ((m - 1 : Nat) : Int) + 1 by omega); have := Int.emod_nonneg (nextX x) (show (((m - 1 : Nat) : Int) + 1) ≠ 0 by omega); omega
    refine VO.c (.assign rfl) ?_; refine VO.go (VC.drawn ?_); refine VD.c (.move rfl) (VD.c (.move rfl) (VD.c (.move rfl) (VD.c (.move rfl) ?_))); refine VD.c (.move rfl) (VD.c (.move rfl) (VD.nw [] ?_)); refine VD.co (.ixOZ (k := ((nextX x).tmod (((m - 1 : Nat) : Int) + (1 : Int)))) rfl rfl m0 el31 (by omega) (by omega)) ?_; refine VD.r [(ww1, .row 3 (.int .i64) o)] (.ldOD 0 rfl m0 vt3 (by omega)) (.inr ⟨rfl, rfl⟩) ?_; refine VD.c (.move rfl) (VD.c (.move rfl) ?_); refine VD.co (.ixO (j := (m - 1)) rfl rfl m0 el31 (by omega)) ?_; refine VD.r [(ww1, .row 3 (.int .i64) o)] (.ldOD 0 rfl m0 vt3 (by omega)) (.inr ⟨rfl, rfl⟩) ?_; refine VD.co (.ixO (j := (m - 1)) rfl rfl m0 el31 (by omega)) ?_; refine VD.nw [] ?_; refine VD.mk0 (MakeV.setE (j := (m - 1)) vt3 (by omega) rfl rfl) ?_; rintro _ _ tl2 ⟨rfl, rfl⟩; refine VD.co (.ixOZ (k := ((nextX x).tmod (((m - 1 : Nat) : Int) + (1 : Int)))) rfl rfl m0 el31 (by omega) (by simp; omega)) ?_; refine VD.mk0 (MakeV.setE (j := (Int.toNat ((nextX x).tmod (((m - 1 : Nat) : Int) + (1 : Int))))) vt3 (by simp; omega) rfl rfl) ?_; rintro _ _ tl3 ⟨rfl, rfl⟩; refine VD.nil ?_; refine VC.text ?_; refine VO.c (.move rfl) (VO.c (.sub rfl rfl (by omega)) (VO.c (.assign rfl) ?_)); refine VO.nil ?_; refine ⟨_, [(5, .raw ww1), (7, I (nextX x)), (8, I ((((m - 1) : Nat) : Int) - 1))], ?_, ⟨rfl, slI rfl (by first | rfl | simp | omega), slI rfl (by omega), trivial⟩, (m - 1), (nextX x), (swp o (m - 1) ((nextX x).tmod (((m - 1 : Nat) : Int) + (1 : Int))).toNat 0), rfl, rfl, (by rfl), (by omega), (by have := next_ok hx.1; omega), (by rw [swp_len]; exact ho), (by obtain ⟨q, rfl⟩ : ∃ q, m = q + 2 := ⟨m - 2, by omega⟩; rw [hd, drE, show q + 2 - 1 = q + 1 from rfl, show (((q + 1 : Nat) : Int)) + (1 : Int) = (q : Int) + 2 by omega])⟩; omega
  refine VC.exit (VC.seq (VC.text ?_)); refine VO.c (.move rfl) (VO.c (.assign rfl) (VO.go ?_)); refine VC.ret ?_; exact VEndG.row rfl evT ⟨ww1, rfl, (by rw [hd]; have h01 : m = 0 ∨ m = 1 := (by omega); rcases h01 with h | h <;> subst h <;> rfl)⟩
theorem draw_perm {key : Int} {n : Nat} (h : 0 ≤ key) : (drawE key n).Perm ((List.range n).map (fun j : Nat => (j : Int))) := by
  have := dr_perm n key (rngE n n) (Nat.le_of_eq (rng_len (Nat.le_refl _)).symm) h; unfold drawE; refine this.trans ?_; simp [rngE]
theorem draw_len {key : Int} {n : Nat} (h : 0 ≤ key) : (drawE key n).length = n := by rw [(draw_perm h).length_eq]; simp
def ordN (key : Int) (n : Nat) : List Nat := (drawE key n).map Int.toNat
theorem ord_perm {key : Int} {n : Nat} (h : 0 ≤ key) : (ordN key n).Perm (List.range n) := by
  have := (draw_perm (n := n) h).map Int.toNat; rw [List.map_map] at this; exact this.trans (by rw [show ((Int.toNat ∘ fun j => (j : Int)) : Nat → Nat) = id from funext fun j => by simp, List.map_id])
theorem ord_nodup {key : Int} {n : Nat} (h : 0 ≤ key) : (ordN key n).Nodup := (ord_perm h).nodup_iff.2 List.nodup_range
theorem draw_mem {key : Int} {n : Nat} (h : 0 ≤ key) {x : Int} (hx : x ∈ drawE key n) : 0 ≤ x ∧ x < n := by
  obtain ⟨j, hj, rfl⟩ := List.mem_map.1 ((draw_perm h).mem_iff.1 hx); have := List.mem_range.1 hj; omega
end Go.Proofs
namespace Go.Fs
variable {P : Program} {orc : FuncId → List Value → Heap → Option (Value × Heap)} {rnd : Option Nat} {h h' h0 h1 h2 : Heap} {S S' S0 B G : List Nat} {σ σ' σr : Sto} {t t' : Tr} {ms : List Nat} {fl : VL} {ops : Array Oper} {n i mem : Nat} {l : List Oper} {K : VL → Sto → Prop} {Q : Ex → VL → Sto → Prop}
  {d : Tmp} {ty : TypeId} {pos : String} {after : Array Edge} {op : Op} {v pv : PV} {g : Option (Nat × Bool)} {x y z : Operand} {T T' e : TypeId} {τ τ' : Ty} {w : Value}
theorem ReadV.ldAggO {cs : List PV} (us : List Value) (hm : (w, Cell.var cs) ∈ σ) (hT : ValT P T τ) (hdet : ∀ h S vs, RepL h S cs vs → vs = us) (hl : us.length = τ.size) (ha : τ.agg = true := by rfl) (hx : evV fl x = some (.raw w) := by rfl) : ReadV P fl σ (.load T x) (.raw (.agg us.toArray)) :=
  ⟨rfl, fun h S t hs hcc => by
    have h1 : evalO t x = w := hs x (by simp [Op.operands]) _ hx; obtain ⟨b, e, vs, h3, h4, h5, h6, _⟩ := hcc _ hm; obtain rfl := hdet _ _ _ h6; refine ⟨.agg vs.toArray, rfl, fun H hH _ _ _ _ _ => ?_⟩; have hB : BoxR H 0 w vs := ⟨b, e, h3, Nat.zero_le _, hH b _ h5⟩; show (fsLoad P T (evalO t x) H).map _ = _
    rw [h1, hB.ldA hT ha hl]; rfl⟩
theorem rep5 {w : Value} {a b c : Int} {s : ByteArray} : RepL h S [.v (.int .i64) a, .v .str s, .v (.int .i64) b, .v (.int .i64) c, .raw w] [.int .i64 a, .string s, .int .i64 b, .int .i64 c, w] := ⟨_, _, rfl, RepV.ofInt _ _, _, _, rfl, RepV.ofStr _, _, _, rfl, RepV.ofInt _ _, _, _, rfl, RepV.ofInt _ _, _, _, rfl, rfl, rfl⟩
theorem rep5' {w : Value} {a b c : Int} {s : ByteArray} {vs : List Value} (hr : RepL h S [.v (.int .i64) a, .v .str s, .v (.int .i64) b, .v (.int .i64) c, .raw w] vs) : vs = [.int .i64 a, .string s, .int .i64 b, .int .i64 c, w] := by
  obtain ⟨u1, r1, rfl, h1, u2, r2, rfl, h2, u3, r3, rfl, h3, u4, r4, rfl, h4, u5, r5, rfl, h5, rfl⟩ := hr; rw [RepV.int h1, RepV.str h2, RepV.int h3, RepV.int h4, show u5 = w from h5]
theorem one5 {w : Value} {a b c : Int} {s : ByteArray} (ho : oneCell w = true) : [Value.int .i64 a, .string s, .int .i64 b, .int .i64 c, w].all oneCell = true := by
  simp only [List.all_cons, List.all_nil, ho, Bool.and_true]; rfl
theorem VC.nilD {c : Code} (k : Nat) (τ : Ty) (hk : lkV fl k = some (.raw (.slice none 0 0))) (hx : VC P orc rnd c n ((k, .v (.sl τ) []) :: fl) σ Q) : VC P orc rnd c n fl σ Q := fun h0 G S0 t h ms I =>
  hx h0 G S0 t h ms { I with slots := I.slots.cons (by
    have : t.get k = .slice none 0 0 := I.slots _ _ hk
    rw [this]; exact SlV.nil.rep) }
end Go.Fs
namespace Go.Proofs
open Go.Fs Ieee
theorem lPcO_ok {p : Pc} (hl : p.2.2.2.2.length < 100000) : VFG Tryz.prog OA 11 [.v y45 p] [] (fun r g => ∃ w, oneCell w = true ∧ r = .raw (.agg #[.int .i64 p.1, .string p.2.1, .int .i64 p.2.2.1, .int .i64 p.2.2.2.1, w]) ∧ g = [(w, .row 54 (.flt .f32) p.2.2.2.2)]) := by
  refine VFG.enterR Tryz.func11 rfl (fun _ _ => rfl) rfl ?_; show VC _ _ _ _ _ [(0, .v y45 p)] [] _; refine VC.seq (VC.text ?_); refine VO.new (.box) ?_; refine VO.cell (.alloc zt43) ?_; intro ww6; refine VO.go (VC.seq (VC.text ?_)); refine VO.r (.ld vt45) ?_; refine VO.cell (.alloc zt43) ?_; intro ww7; refine VO.setV (cs' := [I p.1, St p.2.1, I p.2.2.1, I p.2.2.2.1, .v y41 p.2.2.2.2]) vt43 .v ?_; refine VO.go (VC.seq (VC.text ?_)); refine VO.cell (.lit0 el41) ?_; intro ww8; refine VO.c (.fa (.r (.r (.r (.r .o))))) ?_; refine VO.r (.ld vt41) ?_; refine VO.app rfl rfl el41 el41 (by simp; omega) ?_; intro ww9; refine VO.c (.faO (k := 4) m1) ?_; refine VO.perm swap1 ?_; refine VO.one m1 fun ho10 => ?_; refine VO.setF (cs' := [I p.1, St p.2.1, I p.2.2.1, I p.2.2.2.1, .raw ww9]) 4 vt41 (.raw rfl (agg_one ho10) ho10) ?_; refine VO.go (VC.seq (VC.text ?_)); refine VO.r (.ldAggO [.int .i64 p.1, .string p.2.1, .int .i64 p.2.2.1, .int .i64 p.2.2.2.1, ww9] m0 vt43 (fun _ _ _ h => rep5' h) rfl) ?_; refine VO.perm swap2 ?_; refine VO.setV (cs' := [I p.1, St p.2.1, I p.2.2.1, I p.2.2.2.1, .raw ww9]) vt43 (.agg rfl (one5 ho10) fun _ _ => rep5) ?_; refine VO.perm swap1 ?_; refine VO.shut [] .nil ?_; refine VO.go ?_; refine VC.ret ?_; exact ⟨rfl, 2, 43, ww6, ww9, _, _, y43, 54, .flt .f32, p.2.2.2.2, rfl, rfl, rfl, fun _ _ _ h => rep5' h, List.mem_cons_of_mem _ (List.mem_cons_of_mem _ (List.mem_cons_of_mem _ (List.mem_cons_of_mem _ List.mem_cons_self))), vt43, rfl, rfl, ⟨ww9, ho10, rfl, by simp⟩⟩
def dnW (x : Nat) : Nat := (single.sub x 1065353216).getD 0
theorem dn_sub {x : Nat} (h : lvlE x = 0) (h1 : -960 ≤ sxE x ∧ sxE x ≤ 1024) : single.sub x 1065353216 = some (dnW x) ∧ lvlE (dnW x) = 0 ∧ sxE (dnW x) = sxE x - 16 := by
  obtain ⟨hu, _, _⟩ := lvl_ok h
  have e : sxE x * 44601490397061246283071436545296723011960832 - 16 * 44601490397061246283071436545296723011960832 = (sxE x - 16) * 44601490397061246283071436545296723011960832 := by omega
  obtain ⟨r, hr, hr2⟩ := Format.sub_exact hu wone rfl (by
    rw [e, Int.natAbs_mul]
    have : (44601490397061246283071436545296723011960832 : Int).natAbs = 2 ^ 145 := by decide
    rw [this]
    exact rep_small (show (sxE x - 16).natAbs < 2 ^ 24 by omega) (by decide)) sng_good
  rw [e] at hr2
  have hw : dnW x = r := by unfold dnW; rw [hr] <;> rfl
  rw [hw]; obtain ⟨h2, h3⟩ := lvl_of hr2 (by omega) (by omega); exact ⟨hr, h2, h3⟩
theorem sub32E {p q r : Nat} (h : Ieee.single.sub p q = some r) : fopE .sub .f32 p q = some r := h
theorem wzero : u32 0 = some 0 := by decide +kernel
theorem gt0 {x : Nat} (h : lvlE x = 0) : fcmpE .gtr .f32 x 0 = decide (0 < sxE x) := by
  rw [(fcmp32 (lvl_ok h).1 wzero).2.2.2.2.1]; exact decide_eq_decide.2 ⟨fun h => by omega, fun h => by omega⟩
def turnW (x : Nat) : Nat := if 0 < sxE x then dnW x else upW x
theorem turn_ok {x : Nat} (h : lvlE x = 0) : lvlE (turnW x) = 0 ∧ fcmpE .neq .f32 x (turnW x) = true := by
  have h0 := lvl_ok h; unfold turnW; split
  · obtain ⟨h1, h2, h3⟩ := dn_sub h ⟨by omega, by omega⟩; refine ⟨h2, ?_⟩; rw [(fcmp32 h0.1 (lvl_ok h2).1).2.1]; exact decide_eq_true (by omega)
  obtain ⟨h1, h2, h3⟩ := up_add_low h (by omega); refine ⟨h2, ?_⟩; rw [(fcmp32 h0.1 (lvl_ok h2).1).2.1]; exact decide_eq_true (by omega)
def otherP (p : Pc) : Pc := (p.1, p.2.1, p.2.2.1, p.2.2.2.1, p.2.2.2.2.set 0 (turnW (p.2.2.2.2.getD 0 0)))
def stK (l : List Pc) (K : Int) (k : Nat) : List Pc := sel l ((ordN K l.length).take k)
theorem sel_congr {l : List Pc} {S S' : List Nat} (h : ∀ i, i ∈ S ↔ i ∈ S') : sel l S = sel l S' := by
  unfold sel; congr 1; exact List.filter_congr fun i _ => decide_eq_decide.2 (h i)
structure StepK (d : Dom) (l : List Pc) (K : Int) (k i : Nat) : Prop where
  lt : i < l.length
  at_ : (drawE K l.length).getD k 0 = (i : Int)
  more : mrgV d (stK l K k) [pcA l i] = (stK l K (k + 1), 0)
  again : mrgV d [pcA l i] (stK l K (k + 1)) = (stK l K (k + 1), 0)
  miss : (missL d (stK l K k) (pcA l i).1).length = (missL d (stK l K (k + 1)) (pcA l i).1).length + 1
  run : rangeE (pcA l i).1 0 100000 = 0
theorem stK_sub {l : List Pc} {K : Int} {k : Nat} : (stK l K k).Sublist l := sel_sub l _
theorem stK_len {l : List Pc} {K : Int} {k : Nat} (h0 : 0 ≤ K) (hk : k ≤ l.length) : (stK l K k).length = k := by
  have hn := ord_nodup (n := l.length) h0; unfold stK; rw [sel_len (List.Pairwise.sublist (List.take_sublist _ _) hn) fun i hi => List.mem_range.1 ((ord_perm h0).mem_iff.1 (List.mem_of_mem_take hi)), List.length_take, (ord_perm h0).length_eq, List.length_range]; omega
theorem stK_all {l : List Pc} {K : Int} {k : Nat} (h0 : 0 ≤ K) (hk : l.length ≤ k) : stK l K k = l := by
  unfold stK; rw [List.take_of_length_le (by rw [(ord_perm h0).length_eq, List.length_range]; exact hk)]; exact sel_all fun i hi => (ord_perm h0).mem_iff.2 (List.mem_range.2 hi)
theorem stK_nil {l : List Pc} {K : Int} : stK l K 0 = [] := by unfold stK; rw [List.take_zero]; exact sel_nil
theorem stepK {d : Dom} {l : List Pc} (hs : storeE d l = 0) {K : Int} (h0 : 0 ≤ K) {k : Nat} (hk : k < l.length) : ∃ i, StepK d l K k i := by
  have hn := ord_nodup (n := l.length) h0
  have hol : (ordN K l.length).length = l.length := by rw [(ord_perm h0).length_eq, List.length_range]
  have hi := List.mem_range.1 ((ord_perm h0).mem_iff.1 (List.getElem_mem (l := ordN K l.length) (n := k) (by omega))); refine ⟨(ordN K l.length)[k], hi, ?_, ?_, ?_, ?_, pc_run (store_pc hs _ (pcA_mem hi))⟩
  · have hdl := draw_len (n := l.length) h0; have hm := draw_mem h0 (List.getElem_mem (l := drawE K l.length) (n := k) (by omega)); rw [getDg _ _ (by omega)]; simp only [ordN, List.getElem_map]; omega
  all_goals
    have hnot : (ordN K l.length)[k] ∉ (ordN K l.length).take k := fun hm => by
      obtain ⟨j, hj, e⟩ := List.getElem_of_mem hm; rw [List.length_take] at hj; rw [List.getElem_take] at e; exact List.pairwise_iff_getElem.1 hn j k (by omega) (by omega) (by omega) e
    have hsel : stK l K (k + 1) = sel l ((ordN K l.length)[k] :: (ordN K l.length).take k) := by
      unfold stK; rw [List.take_succ_eq_append_getElem (by omega)]
      exact sel_congr fun i => by rw [List.mem_append, List.mem_singleton, List.mem_cons]; exact or_comm
    rw [hsel]
  · exact mrg_more hs hi hnot
  · exact mrg_again hs hi hnot
  exact miss_less hs hi hnot
theorem other_bad {d : Dom} {l : List Pc} (hs : storeE d l = 0) {i : Nat} (hi : i < l.length) : storeE d [otherP (pcA l i)] = 0 ∧ mrgV d l [otherP (pcA l i)] = ([], 30) ∧ 0 < (pcA l i).2.2.2.2.length := by
  have hp := store_pc hs _ (pcA_mem hi); have hd := (store_dom hs).1; have hlv := (pc_lv hp).2; have hpre := (pc_lv hp).1
  have hlen : (pcA l i).2.2.2.2.length = d.2.1 := by
    unfold pcPre at hpre; rw [firstE_zero] at hpre; have h1 := whenE_zero (by decide) (hpre _ (List.mem_cons_of_mem _ (List.mem_cons_of_mem _ (List.mem_cons_of_mem _ (List.mem_cons_of_mem _ List.mem_cons_self))))); omega
  have hdd := dom_ok hd
  have h0 : 0 < (pcA l i).2.2.2.2.length := by omega
  have hx := hlv _ (List.getElem_mem h0); obtain ⟨t1, t2⟩ := turn_ok hx; have hg : (pcA l i).2.2.2.2.getD 0 0 = (pcA l i).2.2.2.2[0] := getDg _ _ h0
  have ho : pcE d (otherP (pcA l i)) = 0 := by
    have e1 : pcPre d (otherP (pcA l i)) = pcPre d (pcA l i) := by unfold pcPre otherP; simp only [List.length_set]
    unfold pcE; rw [e1, if_pos hpre, firstE_zero]; intro e he; obtain ⟨y, hy, rfl⟩ := List.mem_map.1 he; rcases List.mem_or_eq_of_mem_set hy with h | h
    · exact hlv y h
    rw [h, hg]; exact t1
  have hso : storeE d [otherP (pcA l i)] = 0 := store_iff.2 ⟨hd, by simp, fun p hp => by obtain rfl := List.mem_singleton.1 hp; exact ho, List.pairwise_singleton _ _⟩; refine ⟨hso, ?_, h0⟩; have hself : stK l 1 l.length = l := stK_all (by decide) (Nat.le_refl _); rw [mrg_val hs hso]; have hkey : ∀ {q : Pc}, pcE d q = 0 → befE d q (otherP (pcA l i)) = befE d q (pcA l i) ∧ befE d (otherP (pcA l i)) q = befE d (pcA l i) q := fun hq => ⟨rfl, rfl⟩
  have hsplit : l = l.take i ++ pcA l i :: l.drop (i + 1) := by
    conv => lhs; rw [← List.take_append_drop i l, List.drop_eq_getElem_cons hi, pcA_eq hi]
  have hb0 := bef_self hs (pcA_mem hi)
  have hbad : rmE (befE d) smL l [otherP (pcA l i)] = none := by
    have : rmE (befE d) smL (l.take i ++ pcA l i :: l.drop (i + 1)) [otherP (pcA l i)] = none := rm_bad (fun a ha => by
      obtain ⟨j, hj, rfl⟩ := List.getElem_of_mem ha; rw [List.length_take] at hj; rw [List.getElem_take, pcA_eq (by omega)]
      exact (bef_lt hs (show j < i by omega) hi).1) (by exact hb0) (by exact hb0) (decide_eq_false fun hh => by
        have h3 := hh.2 0 h0; rw [show (otherP (pcA l i)).2.2.2.2 = (pcA l i).2.2.2.2.set 0 (turnW ((pcA l i).2.2.2.2.getD 0 0)) from rfl, getDg ((pcA l i).2.2.2.2.set 0 _) _ (by simpa using h0), List.getElem_set_self, hg, t2] at h3
        cases h3)
    rwa [← hsplit] at this
  rw [hbad] <;> rfl
end Go.Proofs
namespace Go.Fs
variable {P : Program} {fl : VL} {σ γ : Sto} {Q : PV → Sto → Prop} {fn : Func}
variable {p q r : ByteArray}
variable {x y : Operand} {T T' : TypeId}
end Go.Fs
namespace Go.Fs
variable {P : Program} {orc : FuncId → List Value → Heap → Option (Value × Heap)} {rnd : Option Nat} {h h' h0 h1 h2 : Heap} {S S' S0 : List Nat} {σ σ' : Sto} {t t' : Tr} {ms : List Nat} {fl : VL} {ops : Array Oper} {n i mem : Nat} {l : List Oper} {K : VL → Sto → Prop}
  {d : Tmp} {ty : TypeId} {pos : String} {after : Array Edge} {op : Op} {v pv : PV} {g : Option (Nat × Bool)} {x y z : Operand} {T T' e : TypeId} {τ τ' : Ty}
inductive FnL : List PV → List PV → Prop where
  | nil : FnL [] []
  | same {p : PV} {l l' : List PV} (hl : FnL l l') : FnL (p :: l) (p :: l')
  | fn {f : FuncId} {l l' : List PV} (hl : FnL l l') : FnL (.clo f [] [] :: l) (.v .fn (some f) :: l')
end Go.Fs
namespace Go.Fs
variable {P : Program} {orc : FuncId → List Value → Heap → Option (Value × Heap)} {rnd : Option Nat} {h h' h0 h1 h2 hr : Heap} {S S' S0 B G A : List Nat} {σ σ' σr ρ : Sto} {t t' : Tr} {ms : List Nat} {fl : VL} {ops : Array Oper} {n i mem : Nat} {l : List Oper} {K : VL → Sto → Prop} {Q : Ex → VL → Sto → Prop}
  {d : Tmp} {ty : TypeId} {pos : String} {after : Array Edge} {op : Op} {v pv : PV} {g : Option (Nat × Bool)} {x y z : Operand} {T T' e : TypeId} {τ τ' : Ty} {bs nw rd chg : List Nat} {segs : List (Nat × Nat × Nat)} {tail tl : Bool} {w w' : Value}
section
variable (P orc)
end
structure Late (hr h : Heap) (S0 A : List Nat) (σ ρ : Sto) (t : Tr) (fl : VL) (nw rd chg : List Nat) : Prop where
  ok : HOk hr
  lt : ∀ b ∈ A ++ S0, b < hr.next
  next : hr.next ≤ h.next
  goes : Goes hr (A ++ S0) h (own σ ++ S0)
  slots : ∀ k pv, lkV fl k = some pv → nwHas nw k = false → RepPV hr (A ++ S0) pv (t.get k)
  suf : ∃ σ1, σ = σ1 ++ ρ
  cells : ∀ c ∈ ρ, CellR hr (A ++ S0) c.1 c.2
  fix : ∀ b ∈ own ρ, b ∈ A
  new : ∀ b ∈ own σ, b ∈ A ∨ hr.next ≤ b
  rd : ∀ b ∈ rd, b < hr.next ∧ (b ∈ own ρ ∨ b ∉ A)
  chg : ∀ k ∈ chg, k ∉ own ρ ∧ (k ∈ A ∨ hr.next ≤ k)
section
variable (P orc)
end
end Go.Fs
namespace Go.Fs
variable {P : Program} {orc : FuncId → List Value → Heap → Option (Value × Heap)} {rnd : Option Nat} {h h' h0 h1 h2 : Heap} {S S' S0 B G : List Nat} {σ σ' σr : Sto} {t t' : Tr} {ms : List Nat} {fl : VL} {ops : Array Oper} {n i mem : Nat} {l : List Oper} {K : VL → Sto → Prop} {Q : Ex → VL → Sto → Prop}
  {d : Tmp} {ty : TypeId} {pos : String} {after : Array Edge} {op : Op} {v pv : PV} {g : Option (Nat × Bool)} {x y z : Operand} {T T' e : TypeId} {τ τ' : Ty} {w : Value} {ρ : Sto} {bs nw : List Nat} {tl : Bool}
end Go.Fs
namespace Go.Fs
open Go.RowKit (Below)
open Go.Sort Go.Proofs
variable {P : Program}
variable {B : Nat} {w0 w w' : World} {ρ : Ren} {S : Nat → Prop} {h : Heap}
end Go.Fs
namespace Go.Fs
variable {P : Program} {O : FuncId → List Value → Heap → Option (Value × Heap)} {h h' : Heap} {S : List Nat}
end Go.Fs
namespace Go.Fs
variable {P : Program} {h : Heap} {S : List Nat} {σ : Sto} {t : Tr} {fl : VL} {x : Operand} {T e : TypeId} {τ : Ty}
end Go.Fs
namespace Go.Fs
variable {P : Program} {σ : Sto} {fl : VL} {x y : Operand} {T T' : TypeId} {p q : Bool}
end Go.Fs
namespace Go.Fs
variable {P : Program} {orc : FuncId → List Value → Heap → Option (Value × Heap)} {σ : Sto} {fl : VL} {ops : Array Oper} {n : Nat} {l : List Oper} {K : VL → Sto → Prop} {d : Tmp} {ty : TypeId} {pos : String} {after : Array Edge} {g : Option (Nat × Bool)} {x : Operand} {T e : TypeId} {τ : Ty}
end Go.Fs
namespace Go.Fs
variable {P : Program} {fl : VL} {e : TypeId} {τ : Ty}
end Go.Fs
namespace Go.Fs
variable {P : Program} {orc : FuncId → List Value → Heap → Option (Value × Heap)} {rnd : Option Nat} {h h' h0 h1 h2 hs : Heap} {S S' S0 B G : List Nat} {σ σ' : Sto} {t t' : Tr} {ms : List Nat} {fl : VL} {ops : Array Oper} {n i mem : Nat} {l : List Oper} {K : VL → Sto → Prop} {Q : Ex → VL → Sto → Prop}
  {d d1 d2 : Tmp} {ty ty1 ty2 : TypeId} {pos pos1 pos2 : String} {after after1 after2 : Array Edge} {op : Op} {v v1 : PV} {g g1 g2 : Option (Nat × Bool)} {bs nw : List Nat} {segs : List (Nat × Nat × Nat)} {tail so : Bool}
section
variable (P orc)
def VDu (ops : Array Oper) (n : Nat) (l : List Oper) (i : Nat) (fl : VL) (nw : List Nat) (σ : Sto) (so : Bool) (bs : List Nat) (mem : Nat) (K : VL → Sto → Prop) : Prop :=
  ∀ (h0 : Heap) (G S0 : List Nat) (t : Tr) (h : Heap) (ms : List Nat) (segs : List (Nat × Nat × Nat)), Iv h0 G S0 h σ t ms fl → Old S0 h σ t fl nw so segs → (∀ s ∈ segs, s.2.2 ≤ h.next) →
    EvD P orc ops n l i ⟨t, h, bs, segs, mem, false⟩ fun s => ∃ fl' σ', Iv h0 G S0 s.h σ' s.t ms fl' ∧ K fl' σ'
end
theorem VC.drawnU {id : Nat} {ops : Array Oper} (hx : VDu P orc ops n ops.toList 0 fl [] σ true [] 0 fun fl' σ' => Q .normal fl' σ') (hl : lateB ops = false := by kernel_rfl) : VC P orc rnd (.region id ops true) n fl σ Q := fun h0 G S0 t h ms I => by
  refine EvC.draw hl ?_; obtain ⟨m, s', h1, fl', σ', h2, h3⟩ := hx h0 G S0 t h ms [] I ⟨h, I.ok, After.refl h, SegsOk.nil, I.lc.s0, fun k pv hk _ => I.slots k pv hk, fun _ => I.cells⟩ (fun _ hs => by cases hs); exact ⟨m, s', h1, rfl, fl', σ', h2, h3⟩
theorem VDu.c {b : Nat} (hc : CalmV P fl [] op v) (hk : VDu P orc ops n l (i + 1) ((d, v) :: fl) (nwSet (oldOp nw op || v.flat0) d nw) σ so (bs ++ [b]) mem K)
    (hb : beforeOf bs ⟨some d, op, ty, pos, after, g⟩ = b := by rfl) (hw : wantV ops fl g = some true := by rfl) (hn : (Nat.blt d n && Nat.ble n 4000) = true := by rfl) :
    VDu P orc ops n (⟨some d, op, ty, pos, after, g⟩ :: l) i fl nw σ so bs mem K := fun h0 G S0 t h ms segs I ho hup => by
  obtain ⟨n1, n2⟩ := fits hn; obtain ⟨u, e1, e2⟩ := hc.2 h (own σ ++ S0) t I.slots.sees (fun _ hc => by cases hc); refine EvD.op (s' := ⟨t.set depth d u, h, bs ++ [b], segs, mem, false⟩) ?_ (hk h0 G S0 _ h ms segs (I.set e1 n2) (ho.set n2 fun hold hs a1 a2 a3 a4 a5 => ?_) hup)
  · unfold fsDraw; have hwt : fsWanted ops t ⟨some d, op, ty, pos, after, g⟩ = some true := want_ok I.slots hw; simp only [hwt, hc.1, if_true, e2, Nat.beq_refl, cond_true, put_fits n1, Option.map_some, hb]
  rcases Bool.or_eq_true_iff.1 hold with hold | hold
  · obtain ⟨u', f1, f2⟩ := hc.2 hs (own σ ++ S0) t (old_op a4 hold) (fun _ hc => by cases hc)
    have : u' = u := by
      have g1 := e2 none 0 "" #[] none h; rw [f2 none 0 "" #[] none h] at g1; simpa using g1
    rw [← this]; exact f1
  exact (RepPV.flat0 hold e1).2 _ _
theorem VDu.r {b : Nat} (cs : Sto) (hc : ReadV P fl cs op v) (hcs : cs = [] ∨ (so = true ∧ cs = σ)) (hk : VDu P orc ops n l (i + 1) ((d, v) :: fl) (nwSet true d nw) σ so (bs ++ [b]) (mem ||| 2 ^ i) K)
    (hb : beforeOf bs ⟨some d, op, ty, pos, after, g⟩ = b := by rfl) (hold : oldOp nw op = true := by rfl) (hw : wantV ops fl g = some true := by rfl) (hn : (Nat.blt d n && Nat.ble n 4000) = true := by rfl) :
    VDu P orc ops n (⟨some d, op, ty, pos, after, g⟩ :: l) i fl nw σ so bs mem K := fun h0 G S0 t h ms segs I ho hup => by
  obtain ⟨n1, n2⟩ := fits hn; obtain ⟨M, m1, m2, m3, m4, m5, m6, m7⟩ := seen_ok (tail := false) (mem := mem) I hb (fun _ => ho); obtain ⟨hs, a1, a2, a3, a4, a5, a6, a7⟩ := m7 rfl
  have hcell : ∀ c ∈ cs, CellR hs (own σ ++ S0) c.1 c.2 := by
    rcases hcs with rfl | ⟨hso, hcs⟩
    · intro c hc; cases hc
    rw [hcs]; exact a7 hso
  obtain ⟨u, e1, e2⟩ := hc.2 hs (own σ ++ S0) t (old_op a6 hold) hcell; have hst := e2 M (fun b o hg => by rw [a3.get b (a1 b o hg)]; exact hg) (some d) ty pos after g; have hrep : RepPV h (own σ ++ S0) v u := e1.nx (a2.nx a1); refine EvD.op (draw_read m1 m3 m4 hb rfl hc.1 (want_ok I.slots hw) rfl hst n1) (hk h0 G S0 _ h ms _ (I.set hrep n2) ?_ fun s hs => ?_)
  · refine Old.seg ?_ (Nat.le_refl _); refine Old.set (old := true) ⟨hs, a1, a2, a4, a5, a6, a7⟩ n2 fun _ hs' b1 b2 b3 b4 b5 => ?_
    have hcell' : ∀ c ∈ cs, CellR hs' (own σ ++ S0) c.1 c.2 := by
      rcases hcs with rfl | ⟨hso, hcs⟩
      · intro c hc; cases hc
      rw [hcs]; exact b5 hso
    obtain ⟨u', f1, f2⟩ := hc.2 hs' (own σ ++ S0) t (old_op b4 hold) hcell'; have g1 := e2 h (fun b o hg => by rw [a2.get b (a1 b o hg)]; exact hg) (some d) ty pos after g; rw [f2 h (fun b o hg => by rw [b2.get b (b1 b o hg)]; exact hg) (some d) ty pos after g] at g1
    have : u' = u := by simpa using g1
    rw [← this]; exact f1
  rcases List.mem_cons.1 hs with rfl | hs
  · exact Nat.le_refl _
  exact hup s hs
theorem mask_keep {m b : Nat} : ∀ (segs : List (Nat × Nat × Nat)) (objs : List (Nat × AObj)), (∀ s ∈ segs, m.testBit s.1 = false → ¬(s.2.1 ≤ b ∧ b < s.2.2)) → look (mask m segs objs) b = look objs b
  | [], _, _ => rfl
  | (k, lo, hi) :: segs, objs, h => by
    simp only [mask]; rw [mask_keep segs _ fun s hs => h s (List.mem_cons_of_mem _ hs)]
    cases hk : m.testBit k with
    | true => rfl
    | false =>
      have := h (k, lo, hi) List.mem_cons_self hk; simp only [Bool.false_eq_true, if_false]; refine look_filter_all (fun o => ?_) objs; unfold outside; simp only [Bool.not_eq_true', Bool.and_eq_false_iff, decide_eq_false_iff_not]; exact Decidable.not_and_iff_not_or_not.1 this
end Go.Fs
namespace Go.Fs
variable {P : Program} {orc : FuncId → List Value → Heap → Option (Value × Heap)} {rnd : Option Nat} {h h' h0 h1 h2 : Heap} {S S' S0 B G : List Nat} {σ σ' : Sto} {t t' : Tr} {ms : List Nat} {fl : VL} {ops : Array Oper} {n i mem : Nat} {l : List Oper} {K : VL → Sto → Prop} {Q : Ex → VL → Sto → Prop}
  {d : Tmp} {ty : TypeId} {pos : String} {after : Array Edge} {op : Op} {v pv : PV} {g : Option (Nat × Bool)} {bs nw : List Nat} {segs : List (Nat × Nat × Nat)} {so : Bool}
theorem VDu.nws {nw0 : List Nat} (nw1 : List Nat) (hk : VDu P orc ops n l i fl nw1 σ so bs mem K) (he : nw0 = nw1 := by rfl) : VDu P orc ops n l i fl nw0 σ so bs mem K := he ▸ hk
theorem VDu.new {b : Nat} (hs : FreshV P fl op v) (hk : VDu P orc ops n l (i + 1) ((d, v) :: fl) (nwSet false d nw) σ so (bs ++ [b]) (mem ||| 2 ^ i) K)
    (hb : beforeOf bs ⟨some d, op, ty, pos, after, g⟩ = b := by rfl) (hw : wantV ops fl g = some true := by rfl) (hn : (Nat.blt d n && Nat.ble n 4000) = true := by rfl) :
    VDu P orc ops n (⟨some d, op, ty, pos, after, g⟩ :: l) i fl nw σ so bs mem K := fun h0 G S0 t h ms segs I ho hup => by
  obtain ⟨n1, n2⟩ := fits hn; obtain ⟨M, m1, m2, m3, m4, m5, m6, m7⟩ := seen_ok (tail := false) (mem := mem) I hb (fun _ => ho); obtain ⟨mk, o, e1, e2⟩ := hs.2 h _ t I.slots.sees I.ok I.lc.lt; refine EvD.op (draw_fresh m1 m2 m3 m4 hb rfl hs.1 (want_ok I.slots hw) rfl (e2 M _ _ _ _ _) n1) (hk h0 G S0 _ _ ms _ ((I.calm (Aft.push h o [])).set e1 n2) ?_ fun s hs => ?_)
  · exact (ho.set (old := false) n2 fun e => by cases e).next (After.push h o) (Nat.le_refl _)
  rcases List.mem_cons.1 hs with rfl | hs
  · exact Nat.le_refl _
  exact Nat.le_succ_of_le (hup s hs)
theorem VDu.call {b : Nat} {f : Operand} {args : Array Operand} {ats : Array TypeId} {F r : PV} {asl : List PV} (hf : evV fl f = some F) (ha : evVs fl args.toList = some asl) (hc : VCall P orc F asl r) (hk : VDu P orc ops n l (i + 1) ((d, r) :: fl) (nwSet r.flat d nw) σ so (bs ++ [b]) (mem ||| 2 ^ i) K)
    (hb : beforeOf bs ⟨some d, .call { callee := .value f, args := args, argTypes := ats }, ty, pos, after, g⟩ = b := by rfl) (hold : (oldX nw f && args.toList.all (oldX nw)) = true := by rfl) (hw : wantV ops fl g = some true := by rfl) (hn : (Nat.blt d n && Nat.ble n 4000) = true := by rfl) :
    VDu P orc ops n (⟨some d, .call { callee := .value f, args := args, argTypes := ats }, ty, pos, after, g⟩ :: l) i fl nw σ so bs mem K := fun h0 G S0 t h ms segs I ho hup => by
  obtain ⟨n1, n2⟩ := fits hn; obtain ⟨o1, o2⟩ := band hold; obtain ⟨M, m1, m2, m3, m4, m5, m6, m7⟩ := seen_ok (tail := false) (mem := mem) I hb (fun _ => ho); obtain ⟨hs, a1, a2, a3, a4, a5, a6, a7⟩ := m7 rfl; have hN : Goes hs (own σ ++ S0) M (own σ ++ S0) := a3.nx a1; have hA1 : RepL M (own σ ++ S0) asl (args.toList.map (evalO t)) := (sees_list (fun x hx pv hp => old_sees a6 hp (List.all_eq_true.1 o2 x hx)) ha : RepL hs (own σ ++ S0) asl _).nx hN; obtain ⟨fid, ca, cc, h1, h2⟩ := hc.ev m2 (fun b hb => by rw [m3]; exact Lc.lt I.lc b hb) ((old_sees a6 hf o1).nx hN) hA1; refine EvD.call (o := ⟨some d, .call { callee := .value f, args := args, argTypes := ats }, ty, pos, after, g⟩) (want_ok I.slots hw) rfl rfl h1 rfl ?_; rw [m1]; refine h2.mono fun u h' hq => ?_; obtain ⟨q1, q2, q3⟩ := hq; have hA := q1.after; have hl : h.next ≤ h'.low := hA.low h.next (by omega) (by omega)
  have hlow : Nat.ble h.next h'.low = true := by rw [Nat.ble_eq]; exact hl
  have hnx : h.next ≤ h'.next := by have := hA.next; omega
  refine ⟨blt_of_le hnx, by simp only [hlow, Bool.true_or], _, put_fits n1 t u, ?_⟩
  have hd : drewOn ⟨some d, .call { callee := .value f, args := args, argTypes := ats }, ty, pos, after, g⟩ i ⟨t, h, bs, segs, mem, false⟩ (t.set depth d u) h' =
      ⟨t.set depth d u, { next := h'.next, low := h.low, objs := newer h.next h'.next h'.objs ++ h.objs }, bs ++ [b], (i, h.next, h'.next) :: segs, mem ||| 2 ^ i, false⟩ := by
    unfold drewOn; simp only [hlow, cond_true, hb]
  rw [hd]; obtain ⟨z1, z2⟩ := newer_left (h' := h') I.ok m5 m3 hA m2; have eA : Aft h { next := h'.next, low := h.low, objs := newer h.next h'.next h'.objs ++ h.objs } [] := ⟨z1.next, fun b hb _ => z1.get b hb, z1.ok, fun e h3 h4 _ => z1.low e h3 h4, fun b hb => .inl (z1.get b hb), Nat.le_refl _⟩; refine hk h0 G S0 _ _ ms _ ((I.calm eA).set (q2.nx (z2 _)) n2) ((ho.set (old := r.flat) n2 fun hfl _ _ _ _ _ _ => (q2.flat hfl).2 _ _).next z1 (Nat.le_refl _)) fun s hs => ?_; rcases List.mem_cons.1 hs with rfl | hs
  · exact Nat.le_refl _
  exact Nat.le_trans (hup s hs) hnx
theorem VDu.callP {b1 b2 : Nat} {d1 d2 : Tmp} {f1 : Operand} {f2 : FuncId} {as1 : Array Operand} {at1 at2 : Array TypeId} {ty1 ty2 : TypeId} {p1 p2 : String} {a1 a2 : Array Edge} {F r1 r2 : PV} {asl : List PV}
    (hf : evV fl f1 = some F) (ha : evVs fl as1.toList = some asl) (hc1 : VCall P orc F asl r1) (hc2 : VCall P orc (.clo f2 [] []) [r1] r2)
    (hk : VD P orc ops n l (i + 1 + 1) ((d2, r2) :: (d1, r1) :: fl) (nwSet r2.flat d2 (nwSet r1.flat d1 nw)) σ so ((bs ++ [b1]) ++ [b2]) ((mem ||| 2 ^ i) ||| 2 ^ (i + 1)) false K)
    (hold : (oldX nw f1 && as1.toList.all (oldX nw)) = true := by rfl)
    (hb1 : beforeOf bs ⟨some d1, .call { callee := .value f1, args := as1, argTypes := at1 }, ty1, p1, a1, none⟩ = b1 := by rfl)
    (hb2 : beforeOf (bs ++ [b1]) ⟨some d2, .call { callee := .value (.func f2), args := #[.tmp d1], argTypes := at2 }, ty2, p2, a2, none⟩ = b2 := by rfl)
    (hun : Nat.beq (mem &&& b1) mem = false := by rfl) (hsub : Nat.beq (b1 &&& b2) b1 = true := by rfl) (hi2 : b2.testBit i = true := by rfl)
    (hn1 : (Nat.blt d1 n && Nat.ble n 4000) = true := by rfl) (hn2 : (Nat.blt d2 n && Nat.ble n 4000) = true := by rfl) :
    VDu P orc ops n (⟨some d1, .call { callee := .value f1, args := as1, argTypes := at1 }, ty1, p1, a1, none⟩ :: ⟨some d2, .call { callee := .value (.func f2), args := #[.tmp d1], argTypes := at2 }, ty2, p2, a2, none⟩ :: l) i fl nw σ so bs mem K := fun h0 G S0 t h ms segs I ho hup => by
  obtain ⟨n1, n2⟩ := fits hn1; obtain ⟨n3, n4⟩ := fits hn2; obtain ⟨o1, o2⟩ := band hold; have ho0 := ho; obtain ⟨hs, c1, c2, c3, c4, c5, c6⟩ := ho
  let H1 : Heap := { next := h.next, low := h.next, objs := mask b1 segs h.objs }
  have eM1 : seenBy ⟨some d1, .call { callee := .value f1, args := as1, argTypes := at1 }, ty1, p1, a1, none⟩ ⟨t, h, bs, segs, mem, false⟩ = H1 := by
    unfold seenBy; simp only [hb1, hun, cond_false]; rfl
  have see1 : ∀ k o, H1.get k = some o → h.get k = some o := fun k o => mask_sees segs h.objs; have ok1 : HOk H1 := fun k o hg => I.ok k o (see1 k o hg); have hnx0 := c2.next
  have hN : Goes hs (own σ ++ S0) H1 (own σ ++ S0) := fun k o hg hb => ⟨by
    show look (mask b1 segs h.objs) k = some o; rw [mask_keep segs h.objs fun s hs2 _ hh => by have := c3 s hs2; have := c1 k o hg; omega]; show h.get k = some o
    rw [c2.get k (c1 k o hg)]; exact hg, hb⟩
  have hA1 : RepL H1 (own σ ++ S0) asl (as1.toList.map (evalO t)) := (sees_list (fun x hx pv hp => old_sees c5 hp (List.all_eq_true.1 o2 x hx)) ha : RepL hs (own σ ++ S0) asl _).nx hN; obtain ⟨fid, ca, cc, e1, ev1⟩ := hc1.ev ok1 (S := own σ ++ S0) I.lc.lt ((old_sees c5 hf o1).nx hN) hA1; refine EvD.call (o := ⟨some d1, .call { callee := .value f1, args := as1, argTypes := at1 }, ty1, p1, a1, none⟩) rfl rfl rfl e1 rfl ?_; rw [eM1]; refine ev1.mono fun u h1 hq => ?_; obtain ⟨q1, q2, q3⟩ := hq; have hA := q1.after; have hl : h.next ≤ h1.low := hA.low h.next (Nat.le_refl _) (Nat.le_refl _)
  have hlow : Nat.ble h.next h1.low = true := by rw [Nat.ble_eq]; exact hl
  have hnx : h.next ≤ h1.next := hA.next; refine ⟨blt_of_le hnx, by simp only [hlow, Bool.true_or], _, put_fits n1 t u, ?_⟩
  have hd : drewOn ⟨some d1, .call { callee := .value f1, args := as1, argTypes := at1 }, ty1, p1, a1, none⟩ i ⟨t, h, bs, segs, mem, false⟩ (t.set depth d1 u) h1 =
      ⟨t.set depth d1 u, { next := h1.next, low := h.low, objs := newer h.next h1.next h1.objs ++ h.objs }, bs ++ [b1], (i, h.next, h1.next) :: segs, mem ||| 2 ^ i, false⟩ := by
    unfold drewOn; simp only [hlow, cond_true, hb1]
  rw [hd]; obtain ⟨g1, g2⟩ := newer_left (M := H1) (h' := h1) I.ok see1 rfl hA ok1; generalize hg : ({ next := h1.next, low := h.low, objs := newer h.next h1.next h1.objs ++ h.objs } : Heap) = gg at g1 g2
  have ggn : gg.next = h1.next := by rw [← hg]
  have ggl : gg.low = h.low := by rw [← hg]
  have eA : Aft h gg [] := ⟨g1.next, fun b hb _ => g1.get b hb, g1.ok, fun e h3 h4 _ => g1.low e h3 h4, fun b hb => .inl (g1.get b hb), by rw [ggl]; exact Nat.le_refl _⟩; have I2 := (I.calm eA).set (d := d1) (v := r1) (u := u) (q2.nx (g2 _)) n2; have O2 : Old S0 gg σ (t.set depth d1 u) ((d1, r1) :: fl) (nwSet r1.flat d1 nw) so ((i, h.next, h1.next) :: segs) := (ho0.set (old := r1.flat) n2 fun hfl _ _ _ _ _ _ => (q2.flat hfl).2 _ _).next g1 (Nat.le_refl _)
  let H2 : Heap := { next := gg.next, low := gg.next, objs := bif Nat.beq ((mem ||| 2 ^ i) &&& b2) (mem ||| 2 ^ i) then gg.objs else mask b2 ((i, h.next, h1.next) :: segs) gg.objs }
  have eM2 : seenBy ⟨some d2, .call { callee := .value (.func f2), args := #[.tmp d1], argTypes := at2 }, ty2, p2, a2, none⟩ ⟨t.set depth d1 u, gg, bs ++ [b1], (i, h.next, h1.next) :: segs, mem ||| 2 ^ i, false⟩ = H2 := by
    unfold seenBy; simp only [hb2]; rfl
  have see2 : ∀ k o, H2.get k = some o → gg.get k = some o := fun k o => by
    show look (bif Nat.beq ((mem ||| 2 ^ i) &&& b2) (mem ||| 2 ^ i) then gg.objs else mask b2 ((i, h.next, h1.next) :: segs) gg.objs) k = some o → look gg.objs k = some o
    cases Nat.beq ((mem ||| 2 ^ i) &&& b2) (mem ||| 2 ^ i) with
    | true => exact fun h => h
    | false => exact mask_sees _ gg.objs
  have vis : ∀ k o, h1.get k = some o → H2.get k = some o := fun k o hgo => by
    have hg2 : gg.get k = some o := (g2 [] k o hgo (by simp)).1; show look (bif Nat.beq ((mem ||| 2 ^ i) &&& b2) (mem ||| 2 ^ i) then gg.objs else mask b2 ((i, h.next, h1.next) :: segs) gg.objs) k = some o
    cases Nat.beq ((mem ||| 2 ^ i) &&& b2) (mem ||| 2 ^ i) with
    | true => exact hg2
    | false =>
      show look (mask b2 ((i, h.next, h1.next) :: segs) gg.objs) k = some o; rw [mask_keep _ gg.objs fun s hs htb hh => ?_]
      · exact hg2
      rcases List.mem_cons.1 hs with rfl | hs
      · rw [hi2] at htb; cases htb
      have h5 := hup s hs
      have h6 : H1.get k = some o := by rw [← hA.get k (by show k < h.next; omega)]; exact hgo
      have h7 := (mask_some segs h.objs k o h6).2 s.1 s.2.1 s.2.2 hs hh.1 hh.2
      have h8 : (b1 &&& b2).testBit s.1 = b1.testBit s.1 := by rw [nbeq hsub]
      rw [Nat.testBit_and, h7, htb] at h8; cases h8
  have ok2 : HOk H2 := fun k o hgo => I2.ok k o (see2 k o hgo)
  have hu : evalO (t.set depth d1 u) (.tmp d1) = u := by
    show (t.set depth d1 u).get d1 = u; rw [get_setD t d1 u d1 n2]; simp
  have hR : RepL H2 (own σ ++ S0) [r1] [u] := ⟨u, [], rfl, q2.nx fun k o hgo hb => ⟨vis k o hgo, hb⟩, rfl⟩; obtain ⟨fid', ca', cc', e2, ev2⟩ := hc2.ev ok2 (S := own σ ++ S0) I2.lc.lt (show RepPV H2 (own σ ++ S0) (.clo f2 [] []) (.func (.func f2) #[] #[]) from ⟨[], [], rfl, rfl, rfl⟩) hR; refine EvD.call (o := ⟨some d2, .call { callee := .value (.func f2), args := #[.tmp d1], argTypes := at2 }, ty2, p2, a2, none⟩) rfl rfl rfl e2 rfl ?_; rw [eM2]; simp only [List.map_cons, List.map_nil, hu]; refine ev2.mono fun u2 h2 hq => ?_; obtain ⟨k1, k2, k3⟩ := hq; have hB := k1.after; have hl2 : gg.next ≤ h2.low := hB.low gg.next (Nat.le_refl _) (Nat.le_refl _)
  have hlow2 : Nat.ble gg.next h2.low = true := by rw [Nat.ble_eq]; exact hl2
  have hnx2 : gg.next ≤ h2.next := hB.next; refine ⟨blt_of_le hnx2, by simp only [hlow2, Bool.true_or], _, put_fits n3 _ u2, ?_⟩
  have hd2 : drewOn ⟨some d2, .call { callee := .value (.func f2), args := #[.tmp d1], argTypes := at2 }, ty2, p2, a2, none⟩ (i + 1) ⟨t.set depth d1 u, gg, bs ++ [b1], (i, h.next, h1.next) :: segs, mem ||| 2 ^ i, false⟩ ((t.set depth d1 u).set depth d2 u2) h2 =
      ⟨(t.set depth d1 u).set depth d2 u2, { next := h2.next, low := gg.low, objs := newer gg.next h2.next h2.objs ++ gg.objs }, (bs ++ [b1]) ++ [b2], (i + 1, gg.next, h2.next) :: (i, h.next, h1.next) :: segs, (mem ||| 2 ^ i) ||| 2 ^ (i + 1), false⟩ := by
    unfold drewOn; simp only [hlow2, cond_true, hb2]
  rw [hd2]; obtain ⟨w1, w2⟩ := newer_left (M := H2) (h' := h2) I2.ok see2 rfl hB ok2; have eB : Aft gg { next := h2.next, low := gg.low, objs := newer gg.next h2.next h2.objs ++ gg.objs } [] := ⟨w1.next, fun b hb _ => w1.get b hb, w1.ok, fun e h3 h4 _ => w1.low e h3 h4, fun b hb => .inl (w1.get b hb), Nat.le_refl _⟩; exact hk h0 G S0 _ _ ms _ ((I2.calm eB).set (k2.nx (w2 _)) n4) fun _ => (O2.set (old := r2.flat) n4 fun hfl _ _ _ _ _ _ => (k2.flat hfl).2 _ _).next w1 (Nat.le_refl _)
end Go.Fs
namespace Go.Fs
open Go.RowKit (Below)
variable {P : Program} {H : Type} {enc : TypeId × Value → H} {w : World} {base : Nat} {sp : Nat → Bool} {held : Bool}
def fsB (P : Program) (ty : TypeId → Ty → Bool) : List Field → Nat → Ty → Bool
  | [f], off, .pair a .unit => Nat.beq f.offset off && Nat.beq (P.cellsOf f.type) a.size && ty f.type a
  | [f], off, τ => Nat.beq f.offset off && Nat.beq (P.cellsOf f.type) τ.size && ty f.type τ
  | f :: fs, off, .pair a b => Nat.beq f.offset off && Nat.beq (P.cellsOf f.type) a.size && ty f.type a && fsB P ty fs (off + a.size) b
  | _, _, _ => false
def arrFs (P : Program) (m : Nat) (e : TypeId) : List Field := (List.range m).map fun i => { name := "", type := e, offset := i * P.cellsOf e, embedded := false, tag := "", pkgPath := "", byteOffset := 0 }
def tyB (P : Program) : Nat → TypeId → Ty → Bool
  | 0, _, _ => false
  | n + 1, t, τ =>
    match P.underlying t, τ with
    | some (.int k), .int k' => decide (k = k')
    | some .bool, .bool => true
    | some .string, .str => true
    | some (.float k), .flt k' => decide (k = k')
    | some (.slice te), .sl e => Nat.beq (P.cellsOf te) e.size && Nat.blt 0 e.size && tyB P n te e
    | some (.struct fs), .pair a b => Nat.beq (P.cellsOf t) (Ty.pair a b).size && fsB P (tyB P n) fs.toList 0 (.pair a b)
    | some (.array m e), .pair a b => Nat.beq (P.cellsOf t) (Ty.pair a b).size && fsB P (tyB P n) (arrFs P m e) 0 (.pair a b)
    | _, _ => false
def Wf : (τ : Ty) → τ.den → Prop
  | .int k, n => (Lit.int k n).wf = true
  | .bool, _ => True
  | .str, s => s.size ≤ maxLen
  | .flt k, n => (Lit.float k n).wf = true
  | .sl e, xs => List.length xs ≤ maxLen ∧ ∀ x ∈ (xs : List e.den), Wf e x
  | .pair a b, x => Wf a x.1 ∧ Wf b x.2
  | .unit, _ => True
  | .mp _ _, _ => True
  | .fn, _ => True
  | .hnd, _ => True
structure Got (P : Program) (w : World) (ρ : Ren) (S : Nat → Prop) (h : Heap) (ρ' : Ren) (S' : Nat → Prop) (h' : Heap) : Prop where
  hr : HR P ρ' S' w.heap.size (wz w) h' w
  agree : ∀ b, S b → S' b ∧ ρ' b = ρ b
  aft : After h h'
theorem Got.refl {ρ : Ren} {S : Nat → Prop} {h : Heap} (hr : HR P ρ S w.heap.size (wz w) h w) : Got P w ρ S h ρ S h := ⟨hr, fun _ hb => ⟨hb, rfl⟩, After.refl h⟩
theorem Got.trans {ρ ρ1 ρ2 : Ren} {S S1 S2 : Nat → Prop} {h h1 h2 : Heap} (a : Got P w ρ S h ρ1 S1 h1) (b : Got P w ρ1 S1 h1 ρ2 S2 h2) : Got P w ρ S h ρ2 S2 h2 :=
  ⟨b.hr, fun i hi => let ⟨h3, h4⟩ := a.agree i hi; let ⟨h5, h6⟩ := b.agree i h3; ⟨h5, h6.trans h4⟩, a.aft.trans b.aft⟩
theorem Got.ok {ρ ρ1 : Ren} {S S1 : Nat → Prop} {h h1 : Heap} (a : Got P w ρ S h ρ1 S1 h1) : HOk h1 := fun b o hg => (a.hr.ids b (a.hr.objs b o hg).1).1
theorem Got.row {ρ : Ren} {S : Nat → Prop} {h : Heap} (hr : HR P ρ S w.heap.size (wz w) h w) {te : TypeId} {cs : List Value} {a : Addr} (ha : a.block < w.heap.size) (hc : ∀ i, i < cs.length → ∃ v, w.cell? ⟨a.block, a.off + i, none⟩ = some v ∧ VR ρ S (cs.getD i undef) v) :
    Got P w ρ S h (fun b => if b = h.next then (.clean a.block a.off 0 (P.cellsOf te)) else ρ b) (fun b => S b ∨ b = h.next) (h.push (.row te cs false false)) := by
  have hag : ∀ b, S b → (S b ∨ b = h.next) ∧ (fun b => if b = h.next then (Loc.clean a.block a.off 0 (P.cellsOf te)) else ρ b) b = ρ b := fun b hb => by
    have := (hr.ids b hb).1; exact ⟨.inl hb, by simp only; rw [if_neg (by omega)]⟩
  have hold : ∀ i o, (h.push (.row te cs false false)).get i = some o → (i = h.next ∧ o = .row te cs false false) ∨ (i ≠ h.next ∧ h.get i = some o) := fun i o hg => by
    rw [Heap.get_push] at hg; by_cases hi : i = h.next
    · rw [if_pos hi] at hg; exact .inl ⟨hi, (Option.some.inj hg).symm⟩
    rw [if_neg hi] at hg; exact .inr ⟨hi, hg⟩
  refine ⟨⟨fun i o hg => ?_, fun i j oi oj hi hj oi1 oj1 he => ?_, fun i o hg ho => ?_, fun i o hg ho => ?_, fun b hb => ?_, Nat.succ_pos _, z_below (Below.refl _ _), Nat.zero_le _, Nat.le_refl _⟩, hag, After.push h _⟩
  · rcases hold i o hg with ⟨rfl, rfl⟩ | ⟨hi, hg'⟩
    · refine ⟨.inr rfl, ?_⟩; simp only [if_true]; refine ⟨rfl, fun i hi => ?_⟩; obtain ⟨v, h1, h2⟩ := hc i hi; exact ⟨v, h1, h2.mono hag⟩
    obtain ⟨h1, h2⟩ := hr.objs i o hg'; refine ⟨.inl h1, ?_⟩; simp only [if_neg hi]; exact h2.mono hag
  · rcases hold i oi hi with ⟨rfl, rfl⟩ | ⟨hi', hgi⟩
    · cases oi1
    rcases hold j oj hj with ⟨rfl, rfl⟩ | ⟨hj', hgj⟩
    · cases oj1
    simp only [if_neg hi', if_neg hj'] at he; exact hr.inj i j oi oj hgi hgj oi1 oj1 he
  · rcases hold i o hg with ⟨rfl, rfl⟩ | ⟨hi, hg'⟩
    · cases ho
    simp only [if_neg hi]; exact hr.base i o hg' ho
  · rcases hold i o hg with ⟨rfl, rfl⟩ | ⟨hi, hg'⟩
    · simp only [if_true]; exact ha
    simp only [if_neg hi]; exact hr.ro i o hg' ho
  have hn : (h.push (.row te cs false false)).next = h.next + 1 := rfl; rw [hn]; rcases hb with hb | rfl
  · have := hr.ids b hb; exact ⟨by omega, this.2⟩
  have := hr.pos; exact ⟨by omega, by omega⟩
theorem trod_float {fuel : Nat} {t : TypeId} {cs : List Value} {x : DataW H × List MemPlace} {k : FloatKind} (ht : P.underlying t = some (.float k)) (h : DataW.trod enc P w base sp held fuel t cs = some x) : ∃ n, cs = [.float k n] ∧ (Lit.float k n).wf = true := by
  cases fuel with
  | zero => simp [DataW.trod] at h
  | succ n =>
    unfold DataW.trod at h; rw [ht] at h; split at h <;> simp_all
theorem mapM_all {α β : Type} (f : α → Option β) : ∀ (l : List α) (r : List β), l.mapM f = some r → l.length = r.length ∧ ∀ i (hi : i < l.length) (hr : i < r.length), f l[i] = some r[i]
  | [], r, h => by
    simp only [List.mapM_nil] at h; obtain rfl := Option.some.inj h
    exact ⟨rfl, fun i hi => absurd hi (by simp)⟩
  | a :: l, r, h => by
    rw [List.mapM_cons] at h
    cases hf : f a with
    | none => rw [hf] at h; cases h
    | some b =>
      rw [hf] at h
      cases hl : l.mapM f with
      | none => rw [hl] at h; cases h
      | some bs =>
        rw [hl] at h; obtain rfl := Option.some.inj h; obtain ⟨h1, h2⟩ := mapM_all f l bs hl; refine ⟨by simp [h1], fun i hi hr => ?_⟩
        cases i with
        | zero => exact hf
        | succ i => exact h2 i (by simpa using hi) (by simpa using hr)
theorem cells_some {a : Addr} {n : Nat} {cs : List Value} (h : w.cells? base a n = some cs) : cs.length = n ∧ ∀ i, i < n → w.cell? (a.add i) = some (cs.getD i undef) := by
  unfold World.cells? at h; split at h
  · obtain ⟨h1, h2⟩ := mapM_all _ _ _ h; rw [List.length_range] at h1; refine ⟨h1.symm, fun i hi => ?_⟩; have := h2 i (by simpa using hi) (by omega); rw [List.getElem_range] at this; rw [this]; simp [List.getD, show i < cs.length by omega]
  cases h
theorem cell_some {a : Addr} {v : Value} (h : w.cell? a = some v) : a.spot = none ∧ a.block < w.heap.size := by
  unfold World.cell? at h; split at h
  · rename_i c _ _ hb; refine ⟨?_, (Array.getElem?_eq_some_iff.1 hb).1⟩
    cases hs : a.spot with
    | none => rfl
    | some s => rw [hs] at h; cases h
  cases h
def Tells (P : Program) (w : World) (τ : Ty) (cs : List Value) : Prop := ∀ (ρ : Ren) (S : Nat → Prop) (h : Heap), HR P ρ S w.heap.size (wz w) h w →
  ∃ ρ' S' h' cs' x, Got P w ρ S h ρ' S' h' ∧ LR ρ' S' cs' cs ∧ RepC h' [] τ cs' x ∧ Wf τ x
theorem LR.one {ρ : Ren} {S : Nat → Prop} {v v' : Value} (h : VR ρ S v v') : LR ρ S [v] [v'] := LR.cons h LR.nil
theorem tells_elems {e : Ty} (a : Addr) (len : Nat) (hcs : ∀ i, i < len → ∃ cs, (∀ j, j < e.size → w.cell? (a.add (i * e.size + j)) = some (cs.getD j undef)) ∧ cs.length = e.size ∧ Tells P w e cs) :
    ∀ (ρ : Ren) (S : Nat → Prop) (h : Heap), HR P ρ S w.heap.size (wz w) h w → ∃ ρ' S' h' rs xs, Got P w ρ S h ρ' S' h' ∧ rs.length = len * e.size ∧ List.length xs = len ∧ (∀ i, i < len * e.size → ∃ v, w.cell? (a.add i) = some v ∧ VR ρ' S' (rs.getD i undef) v) ∧
      Elems h' [] e rs xs ∧ ∀ x ∈ (xs : List e.den), Wf e x := by
  induction len with
  | zero =>
    intro ρ S h hr
    exact ⟨ρ, S, h, [], [], Got.refl hr, by simp, rfl, fun i hi => by omega, Elems.nil, fun x hx => by cases hx⟩
  | succ n ih =>
    intro ρ S h hr; obtain ⟨ρ1, S1, h1, rs, xs, g1, l1, l2, c1, e1, w1⟩ := ih (fun i hi => hcs i (by omega)) ρ S h hr; obtain ⟨cs, k1, k2, k3⟩ := hcs n (by omega); obtain ⟨ρ2, S2, h2, cs', x, g2, lr, rc, wf⟩ := k3 ρ1 S1 h1 g1.hr; have hN : Goes h1 [] h2 [] := g2.aft.nx g1.ok; have hl : cs'.length = e.size := rc.len
    have hel : Elems h2 [] e cs' [x] := by
      refine ⟨by simpa using hl, fun i hi => ?_⟩
      obtain rfl : i = 0 := by simpa using hi
      simp only [Nat.zero_mul, List.drop_zero, List.getElem_cons_zero]; rw [List.take_of_length_le (by omega)]; exact rc
    refine ⟨ρ2, S2, h2, rs ++ cs', xs ++ [x], g1.trans g2, by rw [List.length_append, l1, hl, Nat.add_mul]; omega, by simp [l2], fun i hi => ?_, (e1.nx hN).append hel, fun y hy => ?_⟩
    · rw [Nat.add_mul, Nat.one_mul] at hi; by_cases hin : i < n * e.size
      · obtain ⟨v, hv1, hv2⟩ := c1 i hin; refine ⟨v, hv1, ?_⟩; rw [List.getD_eq_getElem?_getD, List.getElem?_append_left (by omega), ← List.getD_eq_getElem?_getD]; exact hv2.mono g2.agree
      have hj : i - n * e.size < e.size := by omega
      refine ⟨cs.getD (i - n * e.size) undef, ?_, ?_⟩
      · have := k1 (i - n * e.size) hj
        rwa [show n * e.size + (i - n * e.size) = i by omega] at this
      rw [List.getD_eq_getElem?_getD, List.getElem?_append_right (by omega), l1, ← List.getD_eq_getElem?_getD]; exact lr.getD _
    rcases List.mem_append.1 hy with hy | hy
    · exact w1 y hy
    obtain rfl := List.mem_singleton.1 hy; exact wf
theorem Addr.add_spot {a : Addr} (h : a.spot = none) (n : Nat) : a.add n = ⟨a.block, a.off + n, none⟩ := by
  obtain ⟨b, o, s⟩ := a; simp only at h; subst h; unfold Addr.add; by_cases hn : n = 0
  · subst hn; simp
  simp [hn]
theorem tells_fields {n : Nat} (ih : ∀ (t : TypeId) (τ : Ty), tyB P n t τ = true → ∀ (fuel : Nat) (cs : List Value) (x : DataW H × List MemPlace), DataW.trod enc P w base sp held fuel t cs = some x → Tells P w τ cs) :
    ∀ (fs : List Field) (off : Nat) (τ : Ty) (cs : List Value) (m : Nat), fsB P (tyB P n) fs off τ = true → cs.length = off + τ.size → (∀ f ∈ fs, ∃ x, DataW.trod enc P w base sp held m f.type ((cs.drop f.offset).take (P.cellsOf f.type)) = some x) → Tells P w τ (cs.drop off) := by
  have one : ∀ (f : Field) (off : Nat) (τ : Ty) (cs : List Value) (m : Nat), f.offset = off → P.cellsOf f.type = τ.size → tyB P n f.type τ = true → off + τ.size ≤ cs.length → (∃ x, DataW.trod enc P w base sp held m f.type ((cs.drop f.offset).take (P.cellsOf f.type)) = some x) → Tells P w τ ((cs.drop off).take τ.size) := by
    intro f off τ cs m h1 h2 h3 h4 ⟨x, hx⟩; rw [h1, h2] at hx; exact ih f.type τ h3 m _ x hx
  intro fs
  induction fs with
  | nil => intro off τ cs m hb; cases hb
  | cons f fs ihf =>
    intro off τ cs m hb hl hall; have hf := hall f List.mem_cons_self
    cases fs with
    | nil =>
      by_cases hs : ∃ a, τ = .pair a .unit
      · obtain ⟨a, rfl⟩ := hs; have hb' : (Nat.beq f.offset off && Nat.beq (P.cellsOf f.type) a.size && tyB P n f.type a) = true := hb; obtain ⟨hb', h3⟩ := band hb'; obtain ⟨h1, h2⟩ := band hb'
        have hs : (Ty.pair a .unit).size = a.size := by simp [Ty.size]
        rw [hs] at hl; have := one f off a cs m (nbeq h1) (nbeq h2) h3 (by omega) hf; intro ρ S h hr; obtain ⟨ρ', S', h', cs', x, g, lr, rc, wf⟩ := this ρ S h hr; have e1 : (cs.drop off).take a.size = cs.drop off := List.take_of_length_le (by rw [List.length_drop]; omega); rw [e1] at lr; have hcl := rc.len; exact ⟨ρ', S', h', cs', (x, ()), g, lr, ⟨by rw [List.take_of_length_le (by omega)]; exact rc, by rw [List.drop_eq_nil_of_le (by omega)]; rfl⟩, wf, trivial⟩
      have hb' : (Nat.beq f.offset off && Nat.beq (P.cellsOf f.type) τ.size && tyB P n f.type τ) = true := by
        cases τ with
        | pair a b =>
          cases b with
          | unit => exact absurd ⟨a, rfl⟩ hs
          | _ => exact hb
        | _ => exact hb
      obtain ⟨hb', h3⟩ := band hb'; obtain ⟨h1, h2⟩ := band hb'; have := one f off τ cs m (nbeq h1) (nbeq h2) h3 (by omega) hf; have e1 : (cs.drop off).take τ.size = cs.drop off := List.take_of_length_le (by rw [List.length_drop]; omega)
      rwa [e1] at this
    | cons g fs =>
      cases τ with
      | pair a b =>
        have hb' : (Nat.beq f.offset off && Nat.beq (P.cellsOf f.type) a.size && tyB P n f.type a && fsB P (tyB P n) (g :: fs) (off + a.size) b) = true := hb; obtain ⟨hb', h4⟩ := band hb'; obtain ⟨hb', h3⟩ := band hb'; obtain ⟨h1, h2⟩ := band hb'; have hs : (Ty.pair a b).size = a.size + b.size := rfl; rw [hs] at hl; have ha := one f off a cs m (nbeq h1) (nbeq h2) h3 (by omega) hf; have hrest := ihf (off + a.size) b cs m h4 (by omega) (fun g hg => hall g (List.mem_cons_of_mem _ hg)); intro ρ S h hr; obtain ⟨ρ1, S1, h1', cs1, x1, g1, lr1, rc1, wf1⟩ := ha ρ S h hr; obtain ⟨ρ2, S2, h2', cs2, x2, g2, lr2, rc2, wf2⟩ := hrest ρ1 S1 h1' g1.hr; have hN : Goes h1' [] h2' [] := g2.aft.nx g1.ok; have hc1 := rc1.len; refine ⟨ρ2, S2, h2', cs1 ++ cs2, (x1, x2), g1.trans g2, ?_, ⟨?_, ?_⟩, wf1, wf2⟩
        · have := (lr1.mono g2.agree).append lr2
          rwa [show (cs.drop off).take a.size ++ cs.drop (off + a.size) = cs.drop off from by rw [← List.drop_drop, List.take_append_drop]] at this
        · rw [List.take_left' hc1]; exact rc1.nx hN
        rw [List.drop_left' hc1]; exact rc2
      | _ => cases hb
theorem tells : ∀ (n : Nat) (t : TypeId) (τ : Ty), tyB P n t τ = true → ∀ (fuel : Nat) (cs : List Value) (x : DataW H × List MemPlace), DataW.trod enc P w base sp held fuel t cs = some x → Tells P w τ cs := by
  intro n
  induction n with
  | zero => intro t τ h; cases h
  | succ n ih =>
    intro t τ hb fuel cs x hx; unfold tyB at hb; split at hb
    · rename_i k k' hu; obtain rfl : k = k' := of_decide_eq_true hb; obtain ⟨m, rfl, _, hwf⟩ := DataW.trod_int hu hx; exact fun ρ S h hr => ⟨ρ, S, h, _, m, Got.refl hr, LR.one (.lit rfl), rfl, hwf⟩
    · rename_i hu; obtain ⟨b, rfl, _⟩ := DataW.trod_bool hu hx; exact fun ρ S h hr => ⟨ρ, S, h, _, b, Got.refl hr, LR.one (.lit rfl), rfl, trivial⟩
    · rename_i hu; obtain ⟨s, rfl, _, hs⟩ := DataW.trod_string hu hx; exact fun ρ S h hr => ⟨ρ, S, h, _, s, Got.refl hr, LR.one (.lit rfl), rfl, hs⟩
    · rename_i k k' hu; obtain rfl : k = k' := of_decide_eq_true hb; obtain ⟨m, rfl, hwf⟩ := trod_float hu hx; exact fun ρ S h hr => ⟨ρ, S, h, _, m, Got.refl hr, LR.one (.lit rfl), rfl, hwf⟩
    · rename_i te e hu; obtain ⟨hb, h3⟩ := band hb; obtain ⟨h1, h2⟩ := band hb; have hce := nbeq h1; have hpos := nblt h2; rcases DataW.trod_slice hu hx with ⟨rfl, _⟩ | ⟨a, len, cap, elems, rest, m, _, rfl, _, hba, hlc, hcap, hlen, hel, _⟩
      · exact fun ρ S h hr => ⟨ρ, S, h, [.slice none 0 0], [], Got.refl hr, LR.one (.lit rfl), ⟨_, rfl, .inl ⟨rfl, rfl⟩⟩, Nat.zero_le _, fun x hx => by cases hx⟩
      by_cases h0 : len = 0
      · subst h0; exact fun ρ S h hr => ⟨ρ, S, h, [.slice (some ⟨0, 0, none⟩) 0 2], [], Got.refl hr, LR.one (.slice 0 0 0 2 cap a (Nat.zero_le _) (fun h => by cases h) (fun _ => rfl) (fun h => absurd rfl h)), ⟨_, rfl, .inr ⟨0, 0, 2, rfl, .inl rfl⟩⟩, Nat.zero_le _, fun x hx => by cases hx⟩
      have hcs : ∀ i, i < len → ∃ cs, (∀ j, j < e.size → w.cell? (a.add (i * e.size + j)) = some (cs.getD j undef)) ∧ cs.length = e.size ∧ Tells P w e cs := by
        intro i hi; have := hel i hi; rw [List.getElem?_eq_getElem (by omega)] at this; rw [hce] at this
        cases hc : w.cells? base (a.add (i * e.size)) e.size with
        | none => rw [hc] at this; cases this
        | some cs =>
          rw [hc] at this; obtain ⟨k1, k2⟩ := cells_some hc; refine ⟨cs, fun j hj => ?_, k1, ih te e h3 m cs _ this⟩; rw [← k2 j hj]; congr 1; obtain ⟨b, o, s⟩ := a; unfold Addr.add; by_cases hx1 : i * e.size = 0
          · simp [hx1]
          by_cases hx2 : j = 0
          · subst hx2; simp [hx1]
          simp [hx1, hx2, Nat.add_assoc]
      have hfirst : a.spot = none ∧ a.block < w.heap.size := by
        obtain ⟨cs, k1, _⟩ := hcs 0 (by omega); have := k1 0 hpos; rw [Nat.zero_mul, Nat.zero_add] at this; have h4 := cell_some this; simpa [Addr.add] using h4
      intro ρ S h hr; obtain ⟨ρ1, S1, h1', rs, xs, g1, l1, l2, c1, e1, w1⟩ := tells_elems (P := P) a len hcs ρ S h hr
      have hrow := Got.row (te := te) g1.hr (cs := rs) (a := a) hfirst.2 (fun i hi => by
        have := c1 i (by omega)
        rwa [Addr.add_spot hfirst.1] at this)
      have hsl : SlV (h1'.push (.row te rs false false)) [] e (.slice (some ⟨h1'.next, 0, none⟩) (List.length xs) 2) xs := (e1.nx (hrow.aft.nx g1.ok)).slv (by rw [Heap.get_push, if_pos rfl]) (by simp); refine ⟨_, _, _, [.slice (some ⟨h1'.next, 0, none⟩) (List.length xs) 2], xs, g1.trans hrow, ?_, ⟨_, rfl, hsl⟩, by omega, w1⟩; rw [l2]; refine LR.one (.slice h1'.next 0 len 2 cap a hlc (fun h => by cases h) (fun h5 => by have := g1.hr.pos; omega) fun _ => ⟨.inr rfl, ?_, fun h => by cases h⟩); simp only [if_true, Loc.at, Nat.add_zero]; obtain ⟨b, o, s⟩ := a; simp only at hfirst; rw [hfirst.1]
    · rename_i fs a b hu; obtain ⟨h1, h2⟩ := band hb; obtain ⟨xs, m, _, _, hl, hsz, hall⟩ := DataW.trod_struct hu hx
      have hcl : cs.length = (Ty.pair a b).size := by rw [hl, nbeq h1]
      have := tells_fields ih fs.toList 0 (.pair a b) cs m h2 (by omega) (fun f hf => by
        obtain ⟨i, hi, rfl⟩ := List.getElem_of_mem hf
        have hi' : i < fs.size := by simpa using hi
        have := hall i fs[i] (by simp [hi']); rw [List.getElem?_eq_getElem (by omega)] at this
        exact ⟨_, by simpa using this⟩)
      simpa using this
    · rename_i m e a b hu; obtain ⟨h1, h2⟩ := band hb; obtain ⟨xs, m', _, _, hl, hsz, hall⟩ := DataW.trod_array hu hx
      have hcl : cs.length = (Ty.pair a b).size := by rw [hl, nbeq h1]
      have := tells_fields ih (arrFs P m e) 0 (.pair a b) cs m' h2 (by omega) (fun f hf => by
        obtain ⟨i, hi, rfl⟩ := List.mem_map.1 hf; have hi' : i < m := List.mem_range.1 hi; have := hall i hi'; rw [List.getElem?_eq_getElem (by omega)] at this
        exact ⟨_, this⟩)
      simpa using this
    cases hb
theorem okWide_agg {n : Nat} {r : Reach} {b0 : Nat} {t : TypeId} {τ : Ty} {v : Value} (hb : tyB P n t τ = true) (hval : Value.okWide P w r b0 t v) : isAggV v = τ.agg := by
  cases n with
  | zero => cases hb
  | succ n =>
    unfold tyB at hb; unfold Value.okWide at hval; split at hb
    · rename_i k k' hu; rw [hu] at hval; simp only [Cell.okWide, hu, Cell.ok] at hval; cases v <;> simp_all [isAggV, Ty.agg]
    · rename_i hu; rw [hu] at hval; simp only [Cell.okWide, hu, Cell.ok] at hval; cases v <;> simp_all [isAggV, Ty.agg]
    · rename_i hu; rw [hu] at hval; simp only [Cell.okWide, hu, Cell.ok] at hval; cases v <;> simp_all [isAggV, Ty.agg]
    · rename_i k k' hu; rw [hu] at hval; simp only [Cell.okWide, hu, Cell.ok] at hval; cases v <;> simp_all [isAggV, Ty.agg]
    · rename_i te e hu; rw [hu] at hval; simp only [Cell.okWide, hu, Cell.ok] at hval; cases v <;> simp_all [isAggV, Ty.agg]
    · rename_i fs a b hu; rw [hu] at hval; obtain ⟨cs, rfl, _⟩ := hval; rfl
    · rename_i m e a b hu; rw [hu] at hval; obtain ⟨cs, rfl, _⟩ := hval; rfl
    cases hb
theorem tell_arg {ρ : Ren} {S : Nat → Prop} {h : Heap} (hr : HR P ρ S w.heap.size (wz w) h w) {n : Nat} {r : Reach} {b0 : Nat} {t : TypeId} {τ : Ty} {v : Value} {d : DataW H} {ps : List MemPlace} (hb : tyB P n t τ = true) (hval : Value.okWide P w r b0 t v) (hd : DataW.Trod enc P w base sp held t v d ps) :
    ∃ ρ' S' h' v' x, Got P w ρ S h ρ' S' h' ∧ VR ρ' S' v' v ∧ RepV h' [] τ v' x ∧ Wf τ x := by
  have hag := okWide_agg hb hval; obtain ⟨fuel, hf⟩ := hd; obtain ⟨ρ', S', h', cs', x, g, lr, rc, wf⟩ := tells n t τ hb fuel _ _ hf ρ S h hr
  cases hτ : τ.agg with
  | true =>
    rw [hτ] at hag
    cases v with
    | agg cs =>
      refine ⟨ρ', S', h', .agg cs'.toArray, x, g, VR.agg' (by simpa [Value.cells] using lr), ⟨hτ.symm, by simpa [Value.cells] using rc⟩, wf⟩
    | _ => cases hag
  | false =>
    rw [hτ] at hag; rw [cells_one hag] at lr; obtain ⟨u, rfl, hu⟩ := rc.one hτ; have := lr.2 0 (by simp); exact ⟨ρ', S', h', u, x, g, by simpa using this, hu, wf⟩
theorem hr_empty (hw : 0 ≤ w.heap.size) : HR P (fun _ => Loc.clean 0 0 0 0) (fun _ => False) w.heap.size (wz w) ⟨1, 1, []⟩ w where
  objs := fun i o h => by cases h
  inj := fun i j oi oj h => by cases h
  base := fun i o h => by cases h
  ro := fun i o h => by cases h
  ids := fun b hb => hb.elim
  pos := Nat.one_pos
  below := z_below (Below.refl _ _)
  drawn := Nat.zero_le _
  size := Nat.le_refl _
section
open Go.WideElems Go.ChangeShapes
theorem trodAll_below (hl : laidOutB P = true) {W W' : World} (hb : Below W.heap.size W W') : ∀ {ts : List TypeId} {vs : List Value} {ds : List (DataW H)} {ps : List MemPlace}, (ts.all fun t => P.readableRec t && decide (t < P.types.size)) = true →
    DataW.TrodAll enc P W 0 (fun _ => true) true ts vs ds ps → (∀ x ∈ ps, x.block < W.heap.size) → DataW.TrodAll enc P W' 0 (fun b => decide (b < W.heap.size)) true ts vs ds ps
  | [], [], [], _, _, h, _ => h
  | [], _ :: _, _, _, _, h, _ => h.elim
  | [], [], _ :: _, _, _, h, _ => h.elim
  | _ :: _, [], _, _, _, h, _ => h.elim
  | _ :: _, _ :: _, [], _, _, h, _ => h.elim
  | t :: ts, v :: vs, d :: ds, ps, ha, h, hp => by
    obtain ⟨p, q, h1, h2, rfl⟩ := h; simp only [List.all_cons, Bool.and_eq_true, decide_eq_true_eq] at ha; exact ⟨p, q, Go.RowKit.Below.trod hl ha.1.1 ha.1.2 h1 hb (fun x hx => hp x (List.mem_append_left _ hx)), trodAll_below hl hb (by simpa using ha.2) h2 (fun x hx => hp x (List.mem_append_right _ hx)), rfl⟩
theorem law_post {f : Func} {s : ChangeSpec} {tb : TypeId} (hl : laidOutB P = true) (hrd : (f.params.toList.all fun t => P.readableRec t && decide (t < P.types.size)) = true) (hres : f.resultTypes = #[tb]) (htb : P.underlying tb = some .bool) (hvars : s.vars = []) {W W' : World} {args : Array Value} {ds gs : List (DataW H)}
    {before : List MemPlace} (hW : DataW.Whole enc P f.params.toList s.vars false W args.toList ds gs before) (hr : (s.fn H (ds ++ gs)).results = [.lit (.bool true)]) (ha : (s.fn H (ds ++ gs)).args = ds) (hv : (s.fn H (ds ++ gs)).vars = []) (hb : Below W.heap.size W W') :
    s.post enc P f false true false false W args (.bool true) W' := by
  have hlt := hW.lt; have hW' := hW; obtain ⟨p, q, hA, hV, rfl, _, _⟩ := hW; rw [hvars] at hV; have hV' : gs = [] ∧ q = [] := trodVars_none hV; obtain ⟨rfl, rfl⟩ := hV'; refine ⟨ds, [], p ++ [], [], p, [], hW', ?_, ?_, ?_, hb.frame _, fun h => by cases h⟩
  · rw [hr, hres]; exact trodAll_mk1 (Go.RowKit.shut_bool htb _)
  · rw [ha]; exact trodAll_below hl hb hrd hA fun x hx => hlt x (List.mem_append_left _ hx)
  rw [hvars, hv]; exact rfl
end
theorem law_calls3 (hP : ProgOk P) {orc : FuncId → List Value → Heap → Option (Value × Heap)} {W : World} (horc : CallSound P W.heap.size (wz W) orc) {f : FuncId} (hen : Enters P f) {fn : Func} {n : Nat} {t0 t1 t2 : TypeId} {τ0 τ1 τ2 : Ty} (hp : fn.params = #[t0, t1, t2]) (hb0 : tyB P n t0 τ0 = true) (hb1 : tyB P n t1 τ1 = true) (hb2 : tyB P n t2 τ2 = true)
    (hE : ∀ (h : Heap) (v0 v1 v2 : Value) (x0 : τ0.den) (x1 : τ1.den) (x2 : τ2.den), HOk h → RepV h [] τ0 v0 x0 → RepV h [] τ1 v1 x1 → RepV h [] τ2 v2 x2 → Wf τ0 x0 → Wf τ1 x1 → Wf τ2 x2 → EvF P orc f [v0, v1, v2] h fun r h' => r = .bool true ∧ h' = h)
    {args : Array Value} {ds : List (DataW H)} {ps : List MemPlace} (hval : ∀ (j : Nat) t v, fn.params[j]? = some t → args[j]? = some v → Value.okWide P W .any base t v) (hA : DataW.TrodAll enc P W 0 sp held fn.params.toList args.toList ds ps) :
    Calls P f args W fun | .returned v', w' => v' = .bool true ∧ Below W.heap.size W w' | _, _ => False := by
  rw [hp] at hA hval; obtain ⟨v0, vs0, d0, ds0, p0, q0, ha, rfl, rfl, k0, r0⟩ := Go.ChangeShapes.trodAll_cons hA; obtain ⟨v1, vs1, d1, ds1, p1, q1, rfl, rfl, rfl, k1, r1⟩ := Go.ChangeShapes.trodAll_cons r0; obtain ⟨v2, vs2, d2, ds2, p2, q2, rfl, rfl, rfl, k2, r2⟩ := Go.ChangeShapes.trodAll_cons r1; obtain ⟨rfl, rfl, rfl⟩ := Go.ChangeShapes.trodAll_nil r2
  obtain rfl : args = #[v0, v1, v2] := by cases args; simp_all
  obtain ⟨ρ0, S0, h0, u0, x0, g0, c0, e0, w0⟩ := tell_arg (hr_empty (P := P) (w := W) (Nat.zero_le _)) hb0 (hval 0 t0 v0 rfl rfl) k0; obtain ⟨ρ1, S1, h1, u1, x1, g1, c1, e1, w1⟩ := tell_arg g0.hr hb1 (hval 1 t1 v1 rfl rfl) k1; obtain ⟨ρ2, S2, h2, u2, x2, g2, c2, e2, w2⟩ := tell_arg g1.hr hb2 (hval 2 t2 v2 rfl rfl) k2; have hR := hE h2 u0 u1 u2 x0 x1 x2 g2.ok ((e0.nx (g1.aft.nx g0.ok)).nx (g2.aft.nx g1.ok)) (e1.nx (g2.aft.nx g1.ok)) e2 w0 w1 w2; refine (fs_open (args' := [v0, v1, v2]) hP horc hen g2.hr (LR.cons ((c0.mono g1.agree).mono g2.agree) (LR.cons (c1.mono g2.agree) (LR.one c2))) (EvF.mono hR fun v h' h => h.1) rfl).mono fun e w' he => ?_
  cases e with
  | returned v => exact ⟨he.1, below_z he.2⟩
  | panicked c => exact he
  | outgrown => exact he
end Go.Fs
namespace Go.Proofs
open Go.Fs Ieee
set_option maxHeartbeats 2000000
theorem miss_lt {d : Dom} {l : List Pc} {n : Int} (hs : storeE d l = 0) : (missL d l n).length < 100000 := by
  obtain ⟨h1, _, h3, h4, _⟩ := dom_ok (store_dom hs).1; have h5 := has_len (n := n) hs; have h6 := slAll_len (store_dom hs).1; have h7 : (d.2.2.2.length : Int) * d.2.2.1 ≤ 16 * 96 := Int.mul_le_mul (by omega) h3.2 (by omega) (by omega); have h8 : (d.2.2.2.length : Int) * d.2.2.1 * d.1 ≤ 16 * 96 * 8 := Int.mul_le_mul h7 h1.2 (by omega) (by omega); omega
theorem wf16u {n : Int} (h : (Lit.int .u16 n).wf = true) : 0 ≤ n ∧ n < 65536 := by
  have h1 : (decide (IntKind.u16.min ≤ n) && decide (n ≤ IntKind.u16.max)) = true := h; obtain ⟨h2, h3⟩ := band h1; have h4 : (0 : Int) ≤ n := of_decide_eq_true h2; have h5 : n ≤ (65535 : Int) := of_decide_eq_true h3; exact ⟨h4, by omega⟩
theorem law15_ok {d : Int × Int × Int × (List (ByteArray × Int))} {l : List (Int × ByteArray × Int × Int × (List Nat))} {key : Int} (hd1 : d.2.2.2.length ≤ 9223372036854775807) (hl1 : l.length ≤ 9223372036854775807) (hk1 : 0 ≤ key ∧ key < 65536) : VF Tryz.prog OA 3 [.v y24 d, .v y25 l, .v (.int .u16) key] (B true) := by
  refine VF.enter Tryz.func3 rfl (fun _ _ => rfl) rfl ?_; show VC _ _ _ _ _ [(0, .v y24 d), (1, .v y25 l), (2, .v (.int .u16) key)] [] _; refine VC.seq (VC.text ?_); refine VO.new (.box) ?_; refine VO.c (.assign rfl) ?_; refine VO.go (VC.seq (VC.seq (VC.text ?_))); refine VO.r (.ld vt24) ?_; refine VO.call rfl rfl (VF.call (rShortD_ok (by first | assumption | omega | simp))) ?_; refine VO.c (.not) (VO.c (.move rfl) ?_); refine VO.splitB (x := 34) rfl (fun g1_3 => ?_) (fun g1_3 => ?_)
  · try simp only [Bool.and_eq_true, Bool.or_eq_true, Bool.and_eq_false_iff, Bool.or_eq_false_iff, Bool.not_eq_true', Bool.not_eq_false', decide_eq_true_eq, decide_eq_false_iff_not] at g1_3
    refine VO.skip (VO.skip (VO.skip (VO.c (.pickT rfl rfl) ?_))); refine VO.c (.move rfl) (VO.skip (VO.skip (VO.skip ?_))); refine VO.skip (VO.c (.pickT rfl rfl) (VO.go ?_)); refine VC.condT rfl ?_; refine VC.seq (VC.text ?_); refine VO.call rfl rfl (VF.call (awake_ok )) ?_; refine VO.c (.assign rfl) (VO.go ?_); refine VC.ret ?_; exact VEnd.one rfl evT (pvE (by rfl))
  try simp only [Bool.and_eq_true, Bool.or_eq_true, Bool.and_eq_false_iff, Bool.or_eq_false_iff, Bool.not_eq_true', Bool.not_eq_false', decide_eq_true_eq, decide_eq_false_iff_not] at g1_3
  refine VO.c (.move rfl) ?_; refine VO.call rfl rfl (VF.call (rShortS_ok (by first | assumption | omega | simp))) ?_; refine VO.c (.not) (VO.c (.pickF rfl rfl) (VO.c (.move rfl) ?_)); refine VO.splitB (x := 39) rfl (fun g1_8 => ?_) (fun g1_8 => ?_)
  · try simp only [Bool.and_eq_true, Bool.or_eq_true, Bool.and_eq_false_iff, Bool.or_eq_false_iff, Bool.not_eq_true', Bool.not_eq_false', decide_eq_true_eq, decide_eq_false_iff_not] at g1_8
    refine VO.skip (VO.skip (VO.skip (VO.skip ?_))); refine VO.c (.pickT rfl rfl) (VO.go ?_); refine VC.condT rfl ?_; refine VC.seq (VC.text ?_); refine VO.call rfl rfl (VF.call (awake_ok )) ?_; refine VO.c (.assign rfl) (VO.go ?_); refine VC.ret ?_; exact VEnd.one rfl evT (pvE (by rfl))
  try simp only [Bool.and_eq_true, Bool.or_eq_true, Bool.and_eq_false_iff, Bool.or_eq_false_iff, Bool.not_eq_true', Bool.not_eq_false', decide_eq_true_eq, decide_eq_false_iff_not] at g1_8
  have hsh : shortD d = true ∧ shortS l 24 = true := by simp_all
  have hsd := of_decide_eq_true hsh.1; have hss := of_decide_eq_true hsh.2
  have hdl : d.2.2.2.length < 100000 := by have := hsd.1; omega
  have hll : l.length < 10000 := by have := hss.1; omega
  have hr : ∀ p ∈ l, p.2.2.2.2.length < 100000 := fun p m => by obtain ⟨i, hi, rfl⟩ := List.getElem_of_mem m; have := (hss.2 i hi).2; rw [← pcA_eq hi] at this; omega
  refine VO.r (.ld vt24) ?_; refine VO.c (.move rfl) ?_; refine VO.call rfl rfl (VF.call (rStore_ok (by omega) hr)) ?_; refine VO.c (.neq) (VO.c (.pickF rfl rfl) (VO.go ?_)); refine VC.condD rfl (fun c1 => ?_) (fun c1 => ?_)
  · refine VC.seq (VC.text ?_); refine VO.call rfl rfl (VF.call (awake_ok )) ?_; refine VO.c (.assign rfl) (VO.go ?_); refine VC.ret ?_; exact VEnd.one rfl evT (pvE (by rfl))
  have hs : storeE d l = 0 := by simp_all
  have hK : 0 ≤ 1 + key := by omega
  have hrK : ∀ k, ∀ p ∈ stK l (1 + key) k, p.2.2.2.2.length < 100000 := fun k p hp => hr p (stK_sub.subset hp)
  have hlK : ∀ k, (stK l (1 + key) k).length < 100000 := fun k => by have := (stK_sub (l := l) (K := 1 + key) (k := k)).length_le; omega
  have hsK : ∀ k, storeE d (stK l (1 + key) k) = 0 := fun k => store_sub hs stK_sub; refine VC.skip (VC.seq (VC.text ?_)); refine VO.c (.move rfl) (VO.c (.convI rfl .i64 (by exact wrap64 (by omega) (by omega))) (VO.c (.add rfl rfl (by omega)) (VO.c (.move rfl) ?_))); refine VO.r (.len el25) ?_; refine VO.callG [] rfl rfl rfl (VFG.call (rDraw_ok (by omega) (by omega) (by omega))) ?_; rintro _ _ ⟨ww1, rfl, rfl⟩; show VO _ _ _ _ _ _ [(ww1, .row 3 (.int .i64) (drawE ((1 : Int) + key) l.length))] _; refine VO.c (.assign rfl) ?_; refine VO.go (VC.seq (VC.text ?_)); refine VO.c (.assign rfl) ?_; refine VO.go (VC.seq (VC.seq ?_)); refine VC.nilD 8 y43 rfl ?_; refine VC.shutL [(ww1, .row 3 (.int .i64) (drawE ((1 : Int) + key) l.length))] [(7, .v y31 (drawE ((1 : Int) + key) l.length))] rfl (.cons rfl (.row m0) .nil) ?_; refine VC.text ?_; refine VO.c (.move rfl) ?_; refine VO.r (.len el31) ?_; refine VO.c (.move rfl) ?_; refine VO.go (VC.block ?_); refine VC.keep [(1, .v y25 l), (2, .v (.int .u16) key), (3, .p y24 d), (8, .v y33 (stK l (1 + key) 0)), (52, .v y31 (drawE ((1 : Int) + key) l.length)), (53, I (((drawE ((1 : Int) + key) l.length).length : Nat) : Int)), (54, I ((0 : Nat) : Int))] ⟨rfl, rfl, rfl, slE rfl (by rw [stK_nil]), rfl, rfl, rfl, trivial⟩ ?_; refine VC.loop (I := fun kk ff ss => ∃ (k : Nat), kk = l.length - k ∧ ff = [(1, .v y25 l), (2, .v (.int .u16) key), (3, .p y24 d), (8, .v y33 (stK l (1 + key) k)), (52, .v y31 (drawE ((1 : Int) + key) l.length)), (53, I (((drawE ((1 : Int) + key) l.length).length : Nat) : Int)), (54, I ((k : Nat) : Int))] ∧ ss = [] ∧ (k ≤ l.length)) ?_ _ _ _ ⟨0, rfl, rfl, rfl, Nat.zero_le _⟩; rintro kk ff ss ⟨k, hk0, rfl, rfl, hk⟩; refine VC.seq (VC.text ?_); refine VO.c (.lss) ?_; refine VO.go (VC.seq ?_); refine VC.condD rfl (fun c6 => ?_) (fun c6 => ?_)
  · have hdl2 := draw_len (n := l.length) hK
    have hkl : k < l.length := by omega
    obtain ⟨iw, hst⟩ := stepK hs hK hkl; have hiw := hst.lt; have hpc := hr _ (pcA_mem hiw)
    have hone : ∀ p ∈ [pcA l iw], p.2.2.2.2.length < 100000 := fun p hp => by rw [List.mem_singleton.1 hp]; exact hpc
    have hdk : (drawE (1 + key) l.length)[k]'(by omega) = (iw : Int) := by have := hst.at_; rw [getDg _ _ (by omega)] at this; exact this
    have hpe := pcA_eq hiw; have hln1 := stK_len (l := l) (k := k + 1) hK (by omega); have hm0 : missV d (stK l (1 + key) k) (pcA l iw).1 = ((((missL d (stK l (1 + key) k) (pcA l iw).1).length : Nat) : Int), (missL d (stK l (1 + key) k) (pcA l iw).1).headD z3, 0) := if_neg (fun h => h (fieldA_zero (hsK k) hst.run)); have hm1 : missV d (stK l (1 + key) (k + 1)) (pcA l iw).1 = ((((missL d (stK l (1 + key) (k + 1)) (pcA l iw).1).length : Nat) : Int), (missL d (stK l (1 + key) (k + 1)) (pcA l iw).1).headD z3, 0) := if_neg (fun h => h (fieldA_zero (hsK (k + 1)) hst.run)); have hmis := hst.miss; have hml := miss_lt (n := (pcA l iw).1) (hsK (k + 1)); refine VC.skip (VC.seq (VC.block (VC.seq (VC.text ?_)))); refine VO.c (.move rfl) (VO.c (.ix (j := k) rfl rfl el31 (by omega)) ?_); refine VO.r (.ld vt3) ?_; refine VO.c (.assign rfl) (VO.c (.assign rfl) ?_); rw [hdk]; refine VO.go (VC.seq (VC.drawn ?_)); refine VD.r [] (.ld vt24) (.inl rfl) ?_; refine VD.call rfl rfl (VF.call (lDom_ok hdl)) ?_; refine VD.c (.move rfl) (VD.c (.move rfl) (VD.c (.move rfl) (VD.c (.ix (j := iw) rfl rfl el25 (by omega)) ?_))); refine VD.nw [61] ?_; refine VD.r [] (.ld vt45) (.inl rfl) ?_; rw [hpe]; refine VD.call rfl rfl (VF.call (lPc_ok hpc)) ?_; refine VD.new (.lit [(pcA l iw)] el33) ?_; refine VD.callO rfl rfl (VF.call (sMerge_ok (hlK k) (hrK k) (by simp) hone)) ?_; refine VD.c (.move rfl) (VD.c (.extract) (VD.c (.extract) ?_)); simp only [hst.more]; refine VD.nw [70, 59, 69, 68, 67, 61] (VD.c (.assign rfl) (VD.c (.assign rfl) ?_)); refine VD.go (VC.seq (VC.seq (VC.text ?_))); refine VO.c (.move rfl) (VO.c (.neq) (VO.c (.move rfl) ?_)); refine VO.splitD (x := 74) rfl (fun g9_2 => ?_) (fun g9_2 => ?_)
    · exact absurd rfl g9_2
    refine VO.c (.move rfl) ?_; refine VO.r (.len el33) ?_; refine VO.c (.move rfl) (VO.c (.add rfl rfl (by omega)) (VO.c (.neq) (VO.c (.pickF rfl rfl) ?_))); refine VO.c (.move rfl) ?_; refine VO.splitD (x := 81) rfl (fun g9_9 => ?_) (fun g9_9 => ?_)
    · exact absurd g9_9 (by omega)
    refine VO.r (.ld vt24) ?_; refine VO.call rfl rfl (VF.call (lDom_ok hdl)) ?_; refine VO.c (.move rfl) ?_; refine VO.call rfl rfl (VF.call (lTold_ok (hlK (k + 1)))) ?_; refine VO.call rfl rfl (VF.call (lPcs_ok (hlK (k + 1)) (hrK (k + 1)))) ?_; refine VO.call rfl rfl (VF.call (sStore_ok (hlK (k + 1)) (hrK (k + 1)))) ?_; refine VO.c (.neq) (VO.c (.pickF rfl rfl) (VO.go ?_)); refine VC.condD rfl (fun c9 => ?_) (fun c9 => ?_)
    · exact absurd (hsK (k + 1)) c9
    refine VC.skip (VC.seq ?_); refine VC.keep [(1, .v y25 l), (2, .v (.int .u16) key), (3, .p y24 d), (8, .v y33 (stK l (1 + key) k)), (10, I ((iw : Nat) : Int)), (11, .v y33 (stK l (1 + key) (k + 1))), (52, .v y31 (drawE ((1 : Int) + key) l.length)), (53, I (((drawE ((1 : Int) + key) l.length).length : Nat) : Int)), (54, I ((k : Nat) : Int))] ⟨rfl, rfl, rfl, rfl, rfl, rfl, rfl, rfl, rfl, trivial⟩ ?_; refine VC.drawnU ?_; refine VDu.r [] (.ld vt24) (.inl rfl) ?_; refine VDu.call rfl rfl (VF.call (lDom_ok hdl)) ?_; refine VDu.c (.move rfl) ?_; refine VDu.c (.move rfl) ?_; refine VDu.c (.ix (j := iw) rfl rfl el25 (by omega)) ?_; refine VDu.r [] (.ld vt45) (.inl rfl) ?_; rw [hpe]; refine VDu.nws [92] ?_; refine VDu.call rfl rfl (VF.call (lPc_ok hpc)) ?_; refine VDu.new (.lit [(pcA l iw)] el33) ?_; refine VDu.c (.move rfl) ?_; refine VDu.callP rfl rfl (VF.call (lTold_ok (hlK (k + 1)))) (VF.call (lPcs_ok (hlK (k + 1)) (hrK (k + 1)))) ?_; refine VD.callO rfl rfl (VF.call (sMerge_ok (by simp) hone (hlK (k + 1)) (hrK (k + 1)))) ?_; refine VD.c (.move rfl) (VD.nw [90, 102, 101, 100, 98, 97, 92] (VD.c (.extract) (VD.c (.extract) ?_))); simp only [hst.again]; refine VD.c (.assign rfl) (VD.c (.assign rfl) ?_); refine VD.go (VC.seq (VC.seq (VC.text ?_))); refine VO.c (.move rfl) (VO.c (.neq) (VO.c (.move rfl) ?_)); refine VO.splitD (x := 107) rfl (fun g12_2 => ?_) (fun g12_2 => ?_)
    · exact absurd g12_2 g9_2
    refine VO.c (.move rfl) ?_; refine VO.call rfl rfl (VF.call (lTold_ok (hlK (k + 1)))) ?_; refine VO.c (.move rfl) ?_; refine VO.call rfl rfl (VF.call (lTold_ok (hlK (k + 1)))) ?_; refine VO.call rfl rfl (VF.call (rSame_ok (hlK (k + 1)) (hrK (k + 1)))) ?_; refine VO.c (.not) (VO.c (.pickF rfl rfl) (VO.go ?_)); refine VC.condB rfl (fun c12 => ?_) (fun c12 => ?_)
    · try simp only [Bool.and_eq_true, Bool.or_eq_true, Bool.and_eq_false_iff, Bool.or_eq_false_iff, Bool.not_eq_true', Bool.not_eq_false', decide_eq_true_eq, decide_eq_false_iff_not] at c12
      exact absurd (samePc_self (hsK (k + 1))) (by rw [c12]; decide)
    try simp only [Bool.and_eq_true, Bool.or_eq_true, Bool.and_eq_false_iff, Bool.or_eq_false_iff, Bool.not_eq_true', Bool.not_eq_false', decide_eq_true_eq, decide_eq_false_iff_not] at c12
    refine VC.skip (VC.seq (VC.drawn ?_)); refine VD.r [] (.ld vt24) (.inl rfl) ?_; refine VD.call rfl rfl (VF.call (lDom_ok hdl)) ?_; refine VD.c (.move rfl) (VD.c (.move rfl) (VD.c (.move rfl) (VD.c (.ix (j := iw) rfl rfl el25 (by omega)) ?_))); refine VD.nw [117] (VD.c (.fa (.l .o)) ?_); refine VD.r [] (.ld vt3) (.inl rfl) ?_; rw [hpe]; refine VD.callO rfl rfl (VF.call (sMissing_ok (hlK k) (hrK k))) ?_; refine VD.c (.move rfl) (VD.c (.extract) (VD.c (.extract) (VD.c (.extract) ?_))); simp only [hm0]; refine VD.nw [117] ?_; refine VD.cell (.alloc zt51) ?_; intro ww2; refine VD.c (.assign rfl) ?_; refine VD.mk0 (MakeV.setF (k := 0) vt51 .v (Nat.le_of_ble_eq_true rfl) (.inr ⟨rfl, rfl⟩) rfl rfl) ?_; rintro _ _ tl3 ⟨rfl, rfl⟩; refine VD.c (.assign rfl) ?_; refine VD.go (VC.seq ?_); refine VC.shutL [(ww2, .var [St (((missL d (stK l (1 + key) k) (pcA l iw).1).headD z3).1), I (((missL d (stK l (1 + key) k) (pcA l iw).1).headD z3).2.1), I (((missL d (stK l (1 + key) k) (pcA l iw).1).headD z3).2.2)])] [(16, .p y51 ((missL d (stK l (1 + key) k) (pcA l iw).1).headD z3))] rfl (.cons rfl (.var m0 .refl) .nil) ?_; refine VC.keep [(1, .v y25 l), (2, .v (.int .u16) key), (3, .p y24 d), (10, I ((iw : Nat) : Int)), (11, .v y33 (stK l (1 + key) (k + 1))), (15, I (((missL d (stK l (1 + key) k) (pcA l iw).1).length : Nat) : Int)), (17, I 0), (52, .v y31 (drawE ((1 : Int) + key) l.length)), (53, I (((drawE ((1 : Int) + key) l.length).length : Nat) : Int)), (54, I ((k : Nat) : Int))] ⟨rfl, rfl, rfl, rfl, rfl, rfl, rfl, rfl, rfl, rfl, trivial⟩ ?_; refine VC.drawn ?_; refine VD.r [] (.ld vt24) (.inl rfl) ?_; refine VD.call rfl rfl (VF.call (lDom_ok hdl)) ?_; refine VD.c (.move rfl) ?_; refine VD.call rfl rfl (VF.call (lTold_ok (hlK (k + 1)))) ?_; refine VD.callO rfl rfl (VF.call (lPcs_ok (hlK (k + 1)) (hrK (k + 1)))) ?_; refine VD.c (.move rfl) (VD.nw [133, 132, 130] (VD.c (.move rfl) (VD.c (.ix (j := iw) rfl rfl el25 (by omega)) ?_))); refine VD.c (.fa (.l .o)) ?_; refine VD.r [] (.ld vt3) (.inl rfl) ?_; rw [hpe]; refine VD.callO rfl rfl (VF.call (sMissing_ok (hlK (k + 1)) (hrK (k + 1)))) ?_; refine VD.c (.move rfl) (VD.c (.extract) (VD.nw [133, 132, 130] (VD.c (.extract) ?_))); refine VD.c (.extract) ?_; simp only [hm1]; refine VD.cell (.alloc zt51) ?_; intro ww4; refine VD.c (.assign rfl) ?_; refine VD.mk0 (MakeV.setF (k := 0) vt51 .v (Nat.le_of_ble_eq_true rfl) (.inr ⟨rfl, rfl⟩) rfl rfl) ?_; rintro _ _ tl5 ⟨rfl, rfl⟩; refine VD.c (.assign rfl) ?_; refine VD.go (VC.seq (VC.seq ?_)); refine VC.shutL [(ww4, .var [St (((missL d (stK l (1 + key) (k + 1)) (pcA l iw).1).headD z3).1), I (((missL d (stK l (1 + key) (k + 1)) (pcA l iw).1).headD z3).2.1), I (((missL d (stK l (1 + key) (k + 1)) (pcA l iw).1).headD z3).2.2)])] [(19, .p y51 ((missL d (stK l (1 + key) (k + 1)) (pcA l iw).1).headD z3))] rfl (.cons rfl (.var m0 .refl) .nil) ?_; refine VC.text ?_; refine VO.c (.move rfl) (VO.c (.neq) (VO.c (.move rfl) ?_)); refine VO.splitD (x := 145) rfl (fun g16_2 => ?_) (fun g16_2 => ?_)
    · exact absurd g16_2 g9_2
    refine VO.c (.move rfl) (VO.c (.neq) (VO.c (.pickF rfl rfl) (VO.c (.move rfl) ?_))); refine VO.splitD (x := 149) rfl (fun g16_6 => ?_) (fun g16_6 => ?_)
    · exact absurd g16_6 g9_2
    refine VO.c (.move rfl) (VO.c (.move rfl) (VO.c (.add rfl rfl (by omega)) (VO.c (.neq) ?_))); refine VO.c (.pickF rfl rfl) (VO.c (.move rfl) ?_); refine VO.splitD (x := 155) rfl (fun g16_12 => ?_) (fun g16_12 => ?_)
    · exact absurd g16_12 (by omega)
    refine VO.c (.move rfl) (VO.c (.eql) (VO.c (.move rfl) ?_)); refine VO.splitD (x := 158) rfl (fun g16_15 => ?_) (fun g16_15 => ?_)
    · have hnil : missL d (stK l (1 + key) (k + 1)) (pcA l iw).1 = [] := List.eq_nil_of_length_eq_zero (by omega); refine VO.r (.ld vt51) ?_; refine VO.c (.build (ByteArray.empty, 0, 0) bt51) (VO.c (.eneq eq51) (VO.c (.pickT rfl rfl) (VO.c (.pickF rfl rfl) ?_))); refine VO.go ?_; refine VC.condD rfl (fun c16 => ?_) (fun c16 => ?_)
      · exact absurd (by rw [hnil]; rfl) c16
      refine VC.skip ?_; refine VC.keep [(1, .v y25 l), (2, .v (.int .u16) key), (3, .p y24 d), (11, .v y33 (stK l (1 + key) (k + 1))), (52, .v y31 (drawE ((1 : Int) + key) l.length)), (53, I (((drawE ((1 : Int) + key) l.length).length : Nat) : Int)), (54, I ((k : Nat) : Int))] ⟨rfl, rfl, rfl, rfl, rfl, rfl, rfl, trivial⟩ ?_; refine VC.text ?_; refine VO.c (.move rfl) (VO.c (.assign rfl) ?_); refine VO.nil (VC.text ?_); refine VO.c (.add rfl rfl (by omega)) (VO.c (.move rfl) ?_); refine VO.nil ?_; refine ⟨_, [(1, .v y25 l), (2, .v (.int .u16) key), (3, .p y24 d), (8, .v y33 (stK l (1 + key) (k + 1))), (52, .v y31 (drawE ((1 : Int) + key) l.length)), (53, I (((drawE ((1 : Int) + key) l.length).length : Nat) : Int)), (54, I (((k + 1) : Nat) : Int))], ?_, ⟨rfl, rfl, rfl, slE rfl (by rfl), rfl, rfl, rfl, trivial⟩, (k + 1), rfl, rfl, rfl, (by omega)⟩; omega
    refine VO.skip (VO.skip (VO.skip (VO.c (.pickF rfl rfl) ?_))); refine VO.c (.pickF rfl rfl) (VO.go ?_); refine VC.condF rfl ?_; refine VC.skip ?_; refine VC.keep [(1, .v y25 l), (2, .v (.int .u16) key), (3, .p y24 d), (11, .v y33 (stK l (1 + key) (k + 1))), (52, .v y31 (drawE ((1 : Int) + key) l.length)), (53, I (((drawE ((1 : Int) + key) l.length).length : Nat) : Int)), (54, I ((k : Nat) : Int))] ⟨rfl, rfl, rfl, rfl, rfl, rfl, rfl, trivial⟩ ?_; refine VC.text ?_; refine VO.c (.move rfl) (VO.c (.assign rfl) ?_); refine VO.nil (VC.text ?_); refine VO.c (.add rfl rfl (by omega)) (VO.c (.move rfl) ?_); refine VO.nil ?_; refine ⟨_, [(1, .v y25 l), (2, .v (.int .u16) key), (3, .p y24 d), (8, .v y33 (stK l (1 + key) (k + 1))), (52, .v y31 (drawE ((1 : Int) + key) l.length)), (53, I (((drawE ((1 : Int) + key) l.length).length : Nat) : Int)), (54, I (((k + 1) : Nat) : Int))], ?_, ⟨rfl, rfl, rfl, slE rfl (by rfl), rfl, rfl, rfl, trivial⟩, (k + 1), rfl, rfl, rfl, (by omega)⟩; omega
  have hall := stK_all (l := l) (k := k) hK (by have := draw_len (n := l.length) hK; omega); refine VC.exit (VC.seq (VC.text ?_)); refine VO.r (.ld vt24) ?_; refine VO.call rfl rfl (VF.call (lDom_ok hdl)) ?_; refine VO.c (.move rfl) ?_; refine VO.call rfl rfl (VF.call (lPcs_ok (by omega) hr)) ?_; refine VO.c (.move rfl) ?_; refine VO.call rfl rfl (VF.call (lPcs_ok (by omega) hr)) ?_; refine VO.call rfl rfl (VF.call (sMerge_ok (by omega) hr (by omega) hr)) ?_; refine VO.c (.move rfl) (VO.c (.extract) (VO.c (.extract) ?_)); simp only [mrg_self hs]; refine VO.c (.assign rfl) (VO.c (.assign rfl) ?_); refine VO.go (VC.seq (VC.seq (VC.text ?_))); refine VO.c (.move rfl) (VO.c (.neq) (VO.c (.move rfl) ?_)); refine VO.splitD (x := 178) rfl (fun g21_2 => ?_) (fun g21_2 => ?_)
  · exact absurd rfl g21_2
  refine VO.c (.move rfl) ?_; refine VO.call rfl rfl (VF.call (lTold_ok (hlK k))) ?_; refine VO.c (.move rfl) ?_; refine VO.call rfl rfl (VF.call (rSame_ok (hlK k) (hrK k))) ?_; refine VO.c (.not) (VO.c (.pickF rfl rfl) (VO.c (.move rfl) ?_)); refine VO.splitB (x := 185) rfl (fun g21_9 => ?_) (fun g21_9 => ?_)
  · try simp only [Bool.and_eq_true, Bool.or_eq_true, Bool.and_eq_false_iff, Bool.or_eq_false_iff, Bool.not_eq_true', Bool.not_eq_false', decide_eq_true_eq, decide_eq_false_iff_not] at g21_9
    exact absurd (show sameSt (stK l (1 + key) k) l = true by rw [hall]; exact samePc_self hs) (by rw [g21_9]; decide)
  try simp only [Bool.and_eq_true, Bool.or_eq_true, Bool.and_eq_false_iff, Bool.or_eq_false_iff, Bool.not_eq_true', Bool.not_eq_false', decide_eq_true_eq, decide_eq_false_iff_not] at g21_9
  refine VO.c (.move rfl) ?_; refine VO.call rfl rfl (VF.call (lTold_ok (by omega))) ?_; refine VO.c (.move rfl) ?_; refine VO.call rfl rfl (VF.call (rSame_ok (by omega) hr)) ?_; refine VO.c (.not) (VO.c (.pickF rfl rfl) (VO.go ?_)); refine VC.condB rfl (fun c21 => ?_) (fun c21 => ?_)
  · try simp only [Bool.and_eq_true, Bool.or_eq_true, Bool.and_eq_false_iff, Bool.or_eq_false_iff, Bool.not_eq_true', Bool.not_eq_false', decide_eq_true_eq, decide_eq_false_iff_not] at c21
    exact absurd (samePc_self hs) (by rw [c21]; decide)
  try simp only [Bool.and_eq_true, Bool.or_eq_true, Bool.and_eq_false_iff, Bool.or_eq_false_iff, Bool.not_eq_true', Bool.not_eq_false', decide_eq_true_eq, decide_eq_false_iff_not] at c21
  refine VC.skip (VC.seq (VC.seq (VC.text ?_))); refine VO.c (.move rfl) ?_; refine VO.r (.len el25) ?_; refine VO.c (.eql) (VO.go ?_); refine VC.condD rfl (fun c23 => ?_) (fun c23 => ?_)
  · refine VC.seq ?_; refine VC.keep [(1, .v y25 l), (2, .v (.int .u16) key), (3, .p y24 d)] ⟨rfl, rfl, rfl, trivial⟩ ?_; refine VC.text ?_; refine VO.call rfl rfl (VF.call (awake_ok )) ?_; refine VO.c (.assign rfl) (VO.go ?_); refine VC.ret ?_; exact VEnd.one rfl evT (pvE (by rfl))
  have hl0 : 0 < l.length := by omega
  obtain ⟨jw, hjw⟩ : ∃ jw : Nat, key.tmod ((l.length : Nat) : Int) = (jw : Int) := ⟨(key.tmod ((l.length : Nat) : Int)).toNat, (Int.toNat_of_nonneg (Int.tmod_nonneg _ hk1.1)).symm⟩
  have hjl : jw < l.length := by have := Int.tmod_lt_of_pos key (show (0 : Int) < ((l.length : Nat) : Int) by omega); omega
  obtain ⟨hos, hom, ho0⟩ := other_bad hs hjl; have hpj := hr _ (pcA_mem hjl); have hxj := store_lv hs _ (pcA_mem hjl) _ (List.getElem_mem ho0); have hbj := (lvl_ok hxj).2; have hpe := pcA_eq hjl; have hgd : (pcA l jw).2.2.2.2.getD 0 0 = (pcA l jw).2.2.2.2[0] := getDg _ _ ho0
  have hoo : ∀ p ∈ [otherP (pcA l jw)], p.2.2.2.2.length < 100000 := fun p hp => by rw [List.mem_singleton.1 hp]; show ((pcA l jw).2.2.2.2.set 0 _).length < _; rw [List.length_set]; exact hpj
  have hld := lat_done (now := 100000) hs (by decide); refine VC.skip (VC.seq ?_); refine VC.keep [(1, .v y25 l), (2, .v (.int .u16) key), (3, .p y24 d)] ⟨rfl, rfl, rfl, trivial⟩ ?_; refine VC.text ?_; refine VO.c (.move rfl) (VO.c (.move rfl) (VO.c (.convI rfl .i64 (by exact wrap64 (by omega) (by omega))) (VO.c (.move rfl) ?_))); refine VO.r (.len el25) ?_; refine VO.c (.rem rfl rfl (by omega)) ?_; rw [hjw]; refine VO.c (.ix (j := jw) rfl rfl el25 (by omega)) ?_; refine VO.r (.ld vt45) ?_; rw [hpe]; refine VO.callG [] rfl rfl rfl (VFG.call (lPcO_ok (by omega))) ?_; rintro _ _ ⟨ww6, ho6, rfl, rfl⟩; show VO _ _ _ _ _ _ [(ww6, .row 54 (.flt .f32) ((pcA l jw).2.2.2.2))] _; refine VO.cell (.alloc zt43) ?_; intro ww7; refine VO.setV (cs' := [I ((pcA l jw).1), St ((pcA l jw).2.1), I ((pcA l jw).2.2.1), I ((pcA l jw).2.2.2.1), .raw ww6]) vt43 (.agg rfl (one5 ho6) fun _ _ => rep5) ?_; refine VO.go (VC.seq (VC.seq (VC.text ?_))); refine VO.c (.faO (k := 4) m0) ?_; refine VO.r (.ldF (k := 4) m0 vt41) ?_; refine VO.c (.ixO (j := 0) rfl rfl m1 el41 (by omega)) ?_; refine VO.r (.ldO rfl m1 vt54 (by omega)) ?_; refine VO.c (.fcmpD (b := .gtr) (gt0 hxj)) (VO.go ?_); refine VC.condD rfl (fun c26 => ?_) (fun c26 => ?_)
  · have htw : turnW ((pcA l jw).2.2.2.2.getD 0 0) = dnW ((pcA l jw).2.2.2.2[0]) := by rw [hgd]; exact if_pos c26
    refine VC.text ?_; refine VO.c (.faO (k := 4) m0) ?_; refine VO.r (.ldF (k := 4) m0 vt41) ?_; refine VO.c (.ixO (j := 0) rfl rfl m1 el41 (by omega)) ?_; refine VO.r (.ldO rfl m1 vt54 (by omega)) ?_; refine VO.c (.fop (sub32E (dn_sub hxj (by omega)).1)) (VO.c (.ixO (j := 0) rfl rfl m1 el41 (by omega)) ?_); refine VO.perm swap1 ?_; refine VO.setE 0 rfl rfl vt54 (by omega) ?_; refine VO.go (VC.seq ?_); refine VC.perm swap1 ?_; refine VC.perm swap1 ?_; refine VC.shutL [(ww6, .row 54 (.flt .f32) (((pcA l jw).2.2.2.2).set 0 (dnW ((pcA l jw).2.2.2.2[0])))), (ww7, .var [I ((pcA l jw).1), St ((pcA l jw).2.1), I ((pcA l jw).2.2.1), I ((pcA l jw).2.2.2.1), .raw ww6])] [(23, .p y43 ((pcA l jw).1, (pcA l jw).2.1, (pcA l jw).2.2.1, (pcA l jw).2.2.2.1, (((pcA l jw).2.2.2.2).set 0 (dnW ((pcA l jw).2.2.2.2[0])))))] rfl (.cons rfl (.var m1 (.cons .same (.cons .same (.cons .same (.cons .same (.cons (.row m0) .nil)))))) .nil) ?_; refine VC.drawn ?_; refine VD.r [] (.ld vt24) (.inl rfl) ?_; refine VD.call rfl rfl (VF.call (lDom_ok hdl)) ?_; refine VD.c (.move rfl) ?_; refine VD.call rfl rfl (VF.call (lPcs_ok (by omega) hr)) ?_; refine VD.r [] (.ld vt43) (.inl rfl) ?_; rw [← htw]; refine VD.new (.lit [otherP (pcA l jw)] el33) ?_; refine VD.nw [228, 226, 224] ?_; refine VD.callO rfl rfl (VF.call (sMerge_ok (by omega) hr (by simp) hoo)) ?_; refine VD.c (.move rfl) (VD.c (.extract) (VD.c (.extract) ?_)); simp only [hom]; refine VD.c (.assign rfl) (VD.c (.assign rfl) ?_); refine VD.go (VC.seq ?_); refine VC.keep [(1, .v y25 l), (3, .p y24 d), (25, I 30)] ⟨rfl, rfl, rfl, trivial⟩ ?_; refine VC.text ?_; refine VO.r (.ld vt24) ?_; refine VO.call rfl rfl (VF.call (lDom_ok hdl)) ?_; refine VO.c (.move rfl) ?_; refine VO.call rfl rfl (VF.call (lPcs_ok (by omega) hr)) ?_; refine VO.call rfl rfl (VF.call (sLatest_ok (by omega) hr)) ?_; refine VO.c (.move rfl) (VO.c (.extract) (VO.c (.extract) (VO.c (.assign rfl) ?_))); refine VO.c (.assign rfl) ?_; refine VO.go (VC.seq (VC.text ?_)); refine VO.r (.ld vt24) ?_; refine VO.call rfl rfl (VF.call (lDom_ok hdl)) ?_; refine VO.c (.move rfl) ?_; refine VO.call rfl rfl (VF.call (lPcs_ok (by omega) hr)) ?_; refine VO.c (.move rfl) ?_; refine VO.call rfl rfl (VF.call (sMissing_ok (by omega) hr)) ?_; refine VO.c (.move rfl) (VO.c (.extract) (VO.c (.extract) (VO.c (.extract) ?_))); refine VO.cell (.alloc zt51) ?_; intro ww8; refine VO.c (.assign rfl) ?_; refine VO.setV (cs' := [St (((missV d l ((latV d l (100000 : Int)).1)).2.1).1), I (((missV d l ((latV d l (100000 : Int)).1)).2.1).2.1), I (((missV d l ((latV d l (100000 : Int)).1)).2.1).2.2)]) vt51 .v ?_; refine VO.shut [(29, .p y51 ((missV d l ((latV d l (100000 : Int)).1)).2.1))] (.cons rfl (.var m0 .refl) .nil) ?_; refine VO.c (.assign rfl) ?_; refine VO.go (VC.seq (VC.text ?_)); refine VO.c (.move rfl) (VO.c (.eql) (VO.c (.move rfl) ?_)); refine VO.splitD (x := 252) rfl (fun g32_2 => ?_) (fun g32_2 => ?_)
    · refine VO.c (.move rfl) (VO.c (.eql) (VO.c (.move rfl) ?_)); refine VO.splitD (x := 255) rfl (fun g32_5 => ?_) (fun g32_5 => ?_)
      · have hl0 := hld.resolve_right fun h => absurd (g32_5.symm.trans h) (by decide); have hmv := finM1 (fieldA_zero hs hl0.2.1); refine VO.c (.move rfl) (VO.c (.eql) (VO.c (.pickT rfl rfl) (VO.c (.move rfl) ?_))); refine VO.splitD (x := 259) rfl (fun g32_9 => ?_) (fun g32_9 => ?_)
        · refine VO.c (.move rfl) (VO.c (.eql) (VO.c (.pickT rfl rfl) (VO.c (.move rfl) ?_))); refine VO.splitD (x := 263) rfl (fun g32_13 => ?_) (fun g32_13 => ?_)
          · refine VO.skip (VO.skip (VO.c (.pickT rfl rfl) (VO.c (.pickT rfl rfl) ?_))); refine VO.c (.move rfl) ?_; refine VO.call rfl rfl (VF.call (awake_ok )) ?_; refine VO.c (.pickT rfl rfl) (VO.c (.assign rfl) (VO.go ?_)); refine VC.ret ?_; exact VEnd.one rfl evT (pvE (by rfl))
          exact absurd (by rw [hmv, hl0.2.2]; rfl) g32_13
        exact absurd (by rw [hmv]) g32_9
      have hl7 : (latV d l (100000 : Int)).2 = 7 := hld.resolve_left fun h => g32_5 h.1; refine VO.skip (VO.skip (VO.c (.pickF rfl rfl) (VO.c (.move rfl) ?_))); refine VO.skip (VO.skip (VO.c (.pickF rfl rfl) (VO.c (.move rfl) ?_))); refine VO.c (.move rfl) (VO.c (.eql) (VO.c (.pickF rfl rfl) (VO.c (.pickT rfl rfl) ?_))); refine VO.c (.move rfl) ?_; refine VO.splitD (x := 268) rfl (fun g32_18 => ?_) (fun g32_18 => ?_)
      · refine VO.call rfl rfl (VF.call (awake_ok )) ?_; refine VO.c (.pickT rfl rfl) (VO.c (.assign rfl) (VO.go ?_)); refine VC.ret ?_; exact VEnd.one rfl evT (pvE (by rfl))
      exact absurd hl7 g32_18
    exact absurd rfl g32_2
  have htw : turnW ((pcA l jw).2.2.2.2.getD 0 0) = upW ((pcA l jw).2.2.2.2[0]) := by rw [hgd]; exact if_neg c26
  refine VC.text ?_; refine VO.c (.faO (k := 4) m0) ?_; refine VO.r (.ldF (k := 4) m0 vt41) ?_; refine VO.c (.ixO (j := 0) rfl rfl m1 el41 (by omega)) ?_; refine VO.r (.ldO rfl m1 vt54 (by omega)) ?_; refine VO.c (.fop (add32E (up_add_low hxj (by omega)).1)) (VO.c (.ixO (j := 0) rfl rfl m1 el41 (by omega)) ?_); refine VO.perm swap1 ?_; refine VO.setE 0 rfl rfl vt54 (by omega) ?_; refine VO.go (VC.seq ?_); refine VC.perm swap1 ?_; refine VC.perm swap1 ?_; refine VC.shutL [(ww6, .row 54 (.flt .f32) (((pcA l jw).2.2.2.2).set 0 (upW ((pcA l jw).2.2.2.2[0])))), (ww7, .var [I ((pcA l jw).1), St ((pcA l jw).2.1), I ((pcA l jw).2.2.1), I ((pcA l jw).2.2.2.1), .raw ww6])] [(23, .p y43 ((pcA l jw).1, (pcA l jw).2.1, (pcA l jw).2.2.1, (pcA l jw).2.2.2.1, (((pcA l jw).2.2.2.2).set 0 (upW ((pcA l jw).2.2.2.2[0])))))] rfl (.cons rfl (.var m1 (.cons .same (.cons .same (.cons .same (.cons .same (.cons (.row m0) .nil)))))) .nil) ?_; refine VC.drawn ?_; refine VD.r [] (.ld vt24) (.inl rfl) ?_; refine VD.call rfl rfl (VF.call (lDom_ok hdl)) ?_; refine VD.c (.move rfl) ?_; refine VD.call rfl rfl (VF.call (lPcs_ok (by omega) hr)) ?_; refine VD.r [] (.ld vt43) (.inl rfl) ?_; rw [← htw]; refine VD.new (.lit [otherP (pcA l jw)] el33) ?_; refine VD.nw [228, 226, 224] ?_; refine VD.callO rfl rfl (VF.call (sMerge_ok (by omega) hr (by simp) hoo)) ?_; refine VD.c (.move rfl) (VD.c (.extract) (VD.c (.extract) ?_)); simp only [hom]; refine VD.c (.assign rfl) (VD.c (.assign rfl) ?_); refine VD.go (VC.seq ?_); refine VC.keep [(1, .v y25 l), (3, .p y24 d), (25, I 30)] ⟨rfl, rfl, rfl, trivial⟩ ?_; refine VC.text ?_; refine VO.r (.ld vt24) ?_; refine VO.call rfl rfl (VF.call (lDom_ok hdl)) ?_; refine VO.c (.move rfl) ?_; refine VO.call rfl rfl (VF.call (lPcs_ok (by omega) hr)) ?_; refine VO.call rfl rfl (VF.call (sLatest_ok (by omega) hr)) ?_; refine VO.c (.move rfl) (VO.c (.extract) (VO.c (.extract) (VO.c (.assign rfl) ?_))); refine VO.c (.assign rfl) ?_; refine VO.go (VC.seq (VC.text ?_)); refine VO.r (.ld vt24) ?_; refine VO.call rfl rfl (VF.call (lDom_ok hdl)) ?_; refine VO.c (.move rfl) ?_; refine VO.call rfl rfl (VF.call (lPcs_ok (by omega) hr)) ?_; refine VO.c (.move rfl) ?_; refine VO.call rfl rfl (VF.call (sMissing_ok (by omega) hr)) ?_; refine VO.c (.move rfl) (VO.c (.extract) (VO.c (.extract) (VO.c (.extract) ?_))); refine VO.cell (.alloc zt51) ?_; intro ww9; refine VO.c (.assign rfl) ?_; refine VO.setV (cs' := [St (((missV d l ((latV d l (100000 : Int)).1)).2.1).1), I (((missV d l ((latV d l (100000 : Int)).1)).2.1).2.1), I (((missV d l ((latV d l (100000 : Int)).1)).2.1).2.2)]) vt51 .v ?_; refine VO.shut [(29, .p y51 ((missV d l ((latV d l (100000 : Int)).1)).2.1))] (.cons rfl (.var m0 .refl) .nil) ?_; refine VO.c (.assign rfl) ?_; refine VO.go (VC.seq (VC.text ?_)); refine VO.c (.move rfl) (VO.c (.eql) (VO.c (.move rfl) ?_)); refine VO.splitD (x := 252) rfl (fun g32_2 => ?_) (fun g32_2 => ?_)
  · refine VO.c (.move rfl) (VO.c (.eql) (VO.c (.move rfl) ?_)); refine VO.splitD (x := 255) rfl (fun g32_5 => ?_) (fun g32_5 => ?_)
    · have hl0 := hld.resolve_right fun h => absurd (g32_5.symm.trans h) (by decide); have hmv := finM1 (fieldA_zero hs hl0.2.1); refine VO.c (.move rfl) (VO.c (.eql) (VO.c (.pickT rfl rfl) (VO.c (.move rfl) ?_))); refine VO.splitD (x := 259) rfl (fun g32_9 => ?_) (fun g32_9 => ?_)
      · refine VO.c (.move rfl) (VO.c (.eql) (VO.c (.pickT rfl rfl) (VO.c (.move rfl) ?_))); refine VO.splitD (x := 263) rfl (fun g32_13 => ?_) (fun g32_13 => ?_)
        · refine VO.skip (VO.skip (VO.c (.pickT rfl rfl) (VO.c (.pickT rfl rfl) ?_))); refine VO.c (.move rfl) ?_; refine VO.call rfl rfl (VF.call (awake_ok )) ?_; refine VO.c (.pickT rfl rfl) (VO.c (.assign rfl) (VO.go ?_)); refine VC.ret ?_; exact VEnd.one rfl evT (pvE (by rfl))
        exact absurd (by rw [hmv, hl0.2.2]; rfl) g32_13
      exact absurd (by rw [hmv]) g32_9
    have hl7 : (latV d l (100000 : Int)).2 = 7 := hld.resolve_left fun h => g32_5 h.1; refine VO.skip (VO.skip (VO.c (.pickF rfl rfl) (VO.c (.move rfl) ?_))); refine VO.skip (VO.skip (VO.c (.pickF rfl rfl) (VO.c (.move rfl) ?_))); refine VO.c (.move rfl) (VO.c (.eql) (VO.c (.pickF rfl rfl) (VO.c (.pickT rfl rfl) ?_))); refine VO.c (.move rfl) ?_; refine VO.splitD (x := 268) rfl (fun g32_18 => ?_) (fun g32_18 => ?_)
    · refine VO.call rfl rfl (VF.call (awake_ok )) ?_; refine VO.c (.pickT rfl rfl) (VO.c (.assign rfl) (VO.go ?_)); refine VC.ret ?_; exact VEnd.one rfl evT (pvE (by rfl))
    exact absurd hl7 g32_18
  exact absurd rfl g32_2
end Go.Proofs
namespace Go.Fs
open Go.RowKit (Below)
variable {P : Program}
def orcB (fi fj fc : FuncId) (T : TypeId) : FuncId → List Value → Heap → Option (Value × Heap) := fun f xs h =>
  bif Nat.beq f fc then
    match xs with
    | [.pointer (some ⟨b, 0, none⟩)] =>
      match h.get b with
      | some (.row e [p, v] true false) =>
        bif Nat.beq e T then
          match p with
          | .pointer none => some (.tuple #[], h.set b (.row e [.pointer (some ⟨b, 0, none⟩), v] true false))
          | .pointer (some ⟨b', 0, none⟩) => bif Nat.beq b' b then some (.tuple #[], h) else none
          | _ => none
        else none
      | _ => none
    | _ => none
  else orcS fi fj f xs h
theorem orcB_sound {B : Nat} {w0 : World} {fi fj fc : FuncId} {T : TypeId} (hz : w0.drawn = 0) (hS : CallSound P B w0 (orcS fi fj)) (hc : Enters P fc)
    (hF : ∀ (b : Nat) (w : World), w.cell? ⟨b, 0, none⟩ = some (.pointer none) → w.shape? b = some (T, 2) → w.frozen? ⟨b, 0, none⟩ = false →
      Calls P fc #[.pointer (some ⟨b, 0, none⟩)] w fun e w' => e = .returned (.tuple #[]) ∧ w' = w.setCell ⟨b, 0, none⟩ (.pointer (some ⟨b, 0, none⟩)))
    (hU : ∀ (b : Nat) (w : World), w.cell? ⟨b, 0, none⟩ = some (.pointer (some ⟨b, 0, none⟩)) → Calls P fc #[.pointer (some ⟨b, 0, none⟩)] w fun e w' => e = .returned (.tuple #[]) ∧ w' = w) :
    CallSound P B w0 (orcB fi fj fc T) := by
  intro f xs h v h' hf; unfold orcB at hf
  cases hb : Nat.beq f fc with
  | false =>
    rw [hb] at hf
    exact hS f xs h v h' hf
  | true =>
    have := nbeq hb; subst this; rw [hb] at hf; simp only [cond_true] at hf; split at hf
    · rename_i b; split at hf
      · rename_i e p u hg; obtain ⟨he, hf2⟩ := bif_some hf; obtain rfl := nbeq he; refine ⟨hc, fun ρ S w args' hr ha nn => ?_⟩; obtain ⟨hsb, cur, k1, k2, k3, k4, k5, k6, k7⟩ := hr.objs b _ hg; have hcl : cur.length = 2 := (k6 rfl).symm
        match cur, hcl with
        | [p', u'], _ =>
        have hp : VR ρ S p p' := k7 0 (by simp); have hu : VR ρ S u u' := k7 1 (by simp)
        have hat : (ρ b).at 0 = ⟨(ρ b).block, 0, none⟩ := by unfold Loc.at; rw [k2]
        have harg : args' = [.pointer (some ⟨(ρ b).block, 0, none⟩)] := by
          have h1 := ha.1
          match args', h1 with
          | [a], _ =>
            have h2 : VR ρ S (.pointer (some ⟨b, 0, none⟩)) a := ha.2 0 (by simp); rw [h2.ptr_inv.2, hat]
        subst harg
        have hcell : w.cell? ⟨(ρ b).block, 0, none⟩ = some p' := by simp [World.cell?, k1]
        split at hf2
        · simp only [Option.some.injEq, Prod.mk.injEq] at hf2; obtain ⟨rfl, rfl⟩ := hf2; obtain rfl := hp.eq_of_af0 rfl; have hC : CallsIn Fence.wide nn P f #[.pointer (some ⟨(ρ b).block, 0, none⟩)] w _ := callsIn_wide.2 (hF (ρ b).block w hcell (by simp [World.shape?, k1]) (frozen_soft k1 (by rw [k3]; exact Nat.zero_lt_succ _))); refine hC.mono fun e2 w' hret => ?_; obtain ⟨rfl, rfl⟩ := hret; refine ⟨ρ, Moved.set hr hg rfl rfl rfl rfl rfl (by simp [World.setCell]) (fun k hk => ?_) ?_, VR.tuple' LR.nil⟩
          · simp only [World.setCell, Array.getElem?_modify]; rw [if_neg (fun e0 => hk e0.symm)]
          refine ⟨[.pointer (some ⟨(ρ b).block, 0, none⟩), u'], ?_, k2, k3, k4, Nat.le_refl _, fun _ => rfl, fun i hi => ?_⟩
          · simp only [World.setCell, Array.getElem?_modify, if_pos rfl, k1]; simp
          match i, hi with
          | 0, _ => show VR ρ S (.pointer (some ⟨b, 0, none⟩)) (.pointer (some ⟨(ρ b).block, 0, none⟩)); rw [← hat]; exact .ptr b 0 hsb
          | 1, _ => exact hu
        · rename_i b'; obtain ⟨hbb, hf3⟩ := bif_some hf2; obtain rfl := nbeq hbb; simp only [Option.some.injEq, Prod.mk.injEq] at hf3; obtain ⟨rfl, rfl⟩ := hf3; have hp2 := hp.ptr_inv.2; rw [hat] at hp2; subst hp2; have hC : CallsIn Fence.wide nn P f #[.pointer (some ⟨(ρ b').block, 0, none⟩)] w _ := callsIn_wide.2 (hU (ρ b').block w hcell); refine hC.mono fun e2 w' hret => ?_; obtain ⟨rfl, rfl⟩ := hret; exact ⟨ρ, Moved.same hr, VR.tuple' LR.nil⟩
        cases hf2
      cases hf
    cases hf
end Go.Fs
namespace Go.Fs
open Go.RowKit (Below)
variable {P : Program} {ops : Array Oper} {n : Nat}
def sameV : Value → Value → Bool
  | .int k a, .int k' b => decide (k = k') && decide (a = b)
  | .bool a, .bool b => decide (a = b)
  | _, _ => false
theorem sameV_eq {a b : Value} (h : sameV a b = true) : a = b := by
  unfold sameV at h; split at h
  · obtain ⟨h1, h2⟩ := band h; rw [of_decide_eq_true h1, of_decide_eq_true h2]
  · rw [of_decide_eq_true h]
  cases h
def sameL : List Value → List Value → Bool
  | [], [] => true
  | a :: r, b :: q => sameV a b && sameL r q
  | _, _ => false
theorem sameL_eq : ∀ {a b : List Value}, sameL a b = true → a = b
  | [], [], _ => rfl
  | [], _ :: _, h => by cases h
  | _ :: _, [], h => by cases h
  | a :: r, b :: q, h => by
    obtain ⟨h1, h2⟩ := band (h : (sameV a b && sameL r q) = true); rw [sameV_eq h1, sameL_eq h2]
def sameO : AObj → AObj → Bool
  | .row e cs o m, .row e' cs' o' m' => Nat.beq e e' && sameL cs cs' && decide (o = o') && decide (m = m')
  | _, _ => false
theorem sameO_eq {a b : AObj} (h : sameO a b = true) : a = b := by
  unfold sameO at h; split at h
  · obtain ⟨h, h1⟩ := band h; obtain ⟨h, h2⟩ := band h; obtain ⟨h, h3⟩ := band h; rw [nbeq h, sameL_eq h3, of_decide_eq_true h2, of_decide_eq_true h1]
  cases h
def okRd (rd : List (Nat × AObj)) (h : Heap) : Bool := rd.all fun p => match h.get p.1 with
  | some ob => sameO ob p.2
  | none => false
theorem stLook_mem {b : Nat} {ob : AObj} : ∀ {l : List (Nat × AObj)}, look l b = some ob → (b, ob) ∈ l
  | [], h => by cases h
  | (c, oc) :: r, h => by
    simp only [look] at h
    cases hc : Nat.beq c b with
    | true =>
      rw [hc] at h; simp only [cond_true, Option.some.injEq] at h
      rw [nbeq hc, h]; exact List.mem_cons_self
    | false =>
      rw [hc] at h; simp only [cond_false] at h; exact List.mem_cons_of_mem _ (stLook_mem h)
theorem okRd_get {rd : List (Nat × AObj)} {h : Heap} (hk : okRd rd h = true) {b : Nat} {ob : AObj} (hl : look rd b = some ob) : h.get b = some ob := by
  have := List.all_eq_true.1 hk _ (stLook_mem hl); simp only at this; split at this
  · rename_i o2 hg; rw [hg, sameO_eq this]
  cases this
def stillR (P : Program) (rd : List (Nat × AObj)) (ops : Array Oper) (n : Nat) (o : Oper) (s : DSt) : Option DSt :=
  match fsWanted ops s.t o, o.op with
  | some true, .load T a =>
    match evalO s.t a with
    | .pointer (some p) =>
      match look rd p.block with
      | some ob =>
        match fsLoad P T (evalO s.t a) { next := s.h.next, low := s.h.next, objs := [(p.block, ob)] } with
        | some v => (put n s.t o.dst v).map fun t => { s with t, bs := s.bs ++ [beforeOf s.bs o] }
        | none => none
      | none => none
    | _ => none
  | _, _ => none
def fsDrawnY (P : Program) (rd : List (Nat × AObj)) (step : Oper → (Operand → Value) → Heap → Option (Value × Heap)) (ops : Array Oper) (n : Nat) : List Oper → Nat → DSt → Option DSt
  | [], _, s => bif okRd rd s.h then some s else none
  | o :: r, i, s => bif okRd rd s.h then
      match fsDraw step ops n o i s with
      | some s' => fsDrawnY P rd step ops n r (i + 1) s'
      | none => match stillR P rd ops n o s with
        | some s' => fsDrawnY P rd step ops n r (i + 1) s'
        | none => none
    else none
def fsReads (P : Program) (h0 : Heap) (step : Oper → (Operand → Value) → Heap → Option (Value × Heap)) (ops : Array Oper) (n : Nat) : List Oper → Nat → DSt → List (Nat × AObj) → List (Nat × AObj)
  | [], _, _, l => l
  | o :: r, i, s, l => match fsDraw step ops n o i s with
    | some s' => fsReads P h0 step ops n r (i + 1) s' l
    | none => match stillO P h0 ops n o s with
      | some (s', b) => match h0.get (b - 1) with
        | some ob => fsReads P h0 step ops n r (i + 1) s' ((b - 1, ob) :: l)
        | none => l
      | none => l
def drawnY (P : Program) (h0 : Heap) (step : Oper → (Operand → Value) → Heap → Option (Value × Heap)) (ops : Array Oper) (n : Nat) (s : DSt) (rd : List (Nat × AObj)) : Option DSt :=
  bif rd.all fun p => Nat.blt p.1 h0.next then fsDrawnY P rd step ops n ops.toList 0 s else none
theorem stillR_of {call : FuncId → List Value → Heap → Option (Value × Heap)} {yield : Nat → List Value → Heap → Option (Value × Heap)} {X : Nat → AObj → Prop} {rd : List (Nat × AObj)} {o : Oper} {i : Nat} {s s' : DSt}
    (hf : stillR P rd ops n o s = some s') (hX : ∀ c ob, look rd c = some ob → X c ob) :
    s'.bs = s.bs ++ [beforeOf s.bs o] ∧ Did (fsOp P call yield) ops n X o i s s' := by
  unfold stillR at hf; split at hf
  · rename_i T a hw hop; split at hf
    · rename_i p hev; split at hf
      · rename_i ob hg; split at hf
        · rename_i v hv; obtain ⟨t, h3, h4⟩ := Option.map_eq_some_iff.1 hf; subst h4; refine ⟨rfl, .still hw v [(p.block, ob)] (fun c oc hc => ?_) ?_ h3 rfl rfl rfl rfl⟩
          · simp only [look] at hc
            cases hbc : Nat.beq p.block c with
            | true =>
              rw [hbc] at hc; simp only [cond_true, Option.some.injEq] at hc; obtain rfl := nbeq hbc; subst hc
              exact hX _ _ hg
            | false => rw [hbc] at hc; cases hc
          unfold fsOp; rw [hop]; simp only [hv, Option.map_some]
        cases hf
      cases hf
    cases hf
  cases hf
theorem drawnY_trace {call : FuncId → List Value → Heap → Option (Value × Heap)} {yield : Nat → List Value → Heap → Option (Value × Heap)} {rd : List (Nat × AObj)} : ∀ (l : List Oper) (i : Nat) (s s' : DSt), fsDrawnY P rd (fsOp P call yield) ops n l i s = some s' →
    ∃ st : Nat → DSt, st i = s ∧ st (i + l.length) = s' ∧ (∀ q, i ≤ q → q ≤ i + l.length → okRd rd (st q).h = true) ∧
    ∀ j o, l[j]? = some o → ∀ X : Nat → AObj → Prop, (∀ c ob, look rd c = some ob → X c ob) → (st (i + j + 1)).bs = (st (i + j)).bs ++ [beforeOf (st (i + j)).bs o] ∧ Did (fsOp P call yield) ops n X o (i + j) (st (i + j)) (st (i + j + 1))
  | [], i, s, s', h => by
    simp only [fsDrawnY] at h; obtain ⟨h1, h2⟩ := bif_some h; simp only [Option.some.injEq] at h2; subst h2
    exact ⟨fun _ => s, rfl, rfl, fun _ _ _ => h1, fun j o hj => by simp at hj⟩
  | o :: l, i, s, s', h => by
    simp only [fsDrawnY] at h; obtain ⟨hok, h⟩ := bif_some h
    have key : ∀ s1, fsDrawnY P rd (fsOp P call yield) ops n l (i + 1) s1 = some s' →
        (∀ X : Nat → AObj → Prop, (∀ c ob, look rd c = some ob → X c ob) → s1.bs = s.bs ++ [beforeOf s.bs o] ∧ Did (fsOp P call yield) ops n X o i s s1) →
      ∃ st : Nat → DSt, st i = s ∧ st (i + (o :: l).length) = s' ∧ (∀ q, i ≤ q → q ≤ i + (o :: l).length → okRd rd (st q).h = true) ∧
        ∀ j o', (o :: l)[j]? = some o' → ∀ X : Nat → AObj → Prop, (∀ c ob, look rd c = some ob → X c ob) → (st (i + j + 1)).bs = (st (i + j)).bs ++ [beforeOf (st (i + j)).bs o'] ∧ Did (fsOp P call yield) ops n X o' (i + j) (st (i + j)) (st (i + j + 1)) := fun s1 hr hd => by
      obtain ⟨st, h1, h2, hq, h3⟩ := drawnY_trace l (i + 1) s1 s' hr; refine ⟨fun k => if k = i then s else st k, by simp, ?_, fun q hq1 hq2 => ?_, fun j o' hj X hX => ?_⟩
      · simp only [List.length_cons]; rw [if_neg (by omega), ← h2]; congr 1; omega
      · rw [List.length_cons] at hq2; by_cases e : q = i
        · subst e; simpa using hok
        simp only [if_neg e]; exact hq q (by omega) (by omega)
      cases j with
      | zero =>
        simp at hj; subst hj
        simpa [h1] using hd X hX
      | succ j =>
        simp only [List.getElem?_cons_succ] at hj; have := h3 j o' hj X hX; rw [show i + 1 + j = i + (j + 1) by omega] at this; simp only; rw [if_neg (by omega), if_neg (by omega)]; exact this
    split at h
    · rename_i s1 hs1; exact key s1 h fun X _ => did_of hs1
    split at h
    · rename_i s1 hs1; exact key s1 h fun X hX => stillR_of hs1 hX
    cases h
theorem traceY_of {call : FuncId → List Value → Heap → Option (Value × Heap)} {yield : Nat → List Value → Heap → Option (Value × Heap)} {t0 : Tr} {h0 : Heap} {s : DSt} {rd : List (Nat × AObj)} (h : drawnY P h0 (fsOp P call yield) ops n ⟨t0, h0, [], [], 0, false⟩ rd = some s) : ∃ st, Trace (fsOp P call yield) ops n st t0 h0 ∧ st ops.size = s := by
  unfold drawnY at h; obtain ⟨hb, h⟩ := bif_some h; obtain ⟨st, h1, h2, hq, h3⟩ := drawnY_trace _ _ _ _ h
  have h2' : st ops.size = s := by simpa using h2
  refine ⟨st, ⟨h1, fun i o ho => ?_⟩, h2'⟩; have := h3 i o (by simpa using ho) (fun b ob => h0.get b = some ob ∧ b < h0.next ∧ (b < (st ops.size).h.low ∨ ∀ q, q ≤ ops.size → (st q).h.get b = some ob)) (fun c ob hc => ?_)
  · simpa only [Nat.zero_add] using this
  have hall : ∀ q, q ≤ ops.size → (st q).h.get c = some ob := fun q hq2 => okRd_get (hq q (Nat.zero_le _) (by simpa using hq2)) hc; have h0 := hall 0 (Nat.zero_le _); rw [h1] at h0; exact ⟨h0, nblt (List.all_eq_true.1 hb _ (stLook_mem hc)), .inr hall⟩
variable {B : Nat} {w0 : World} {S : Nat → Prop} {ρ0 : Ren} {call : FuncId → List Value → Heap → Option (Value × Heap)} {yield : Nat → List Value → Heap → Option (Value × Heap)} {t0 : Tr} {h0 : Heap}
theorem drawn_wpY (hcs : CallSnd P B w0 call) (hys : YieldSound P B w0 yield) (hok : regionOk ops = true) {s : DSt} {rd : List (Nat × AObj)} (hf : drawnY P h0 (fsOp P call yield) ops n ⟨t0, h0, [], [], 0, false⟩ rd = some s)
    {w : World} {a : Act} (hr : HR P ρ0 S B w0 h0 w) (ht : TrR ρ0 S t0 n a.tmps) {r : Option Nat} {nn : Nat} {Q : Exit → Act → World → Prop}
    (k : ∀ ρ' w' a', Moved P B w0 ρ0 ρ' S h0 s.h w w' → TrR ρ' (Ext S h0 s.h) s.t n a'.tmps → a'.defers = a.defers → Q .normal a' w') (t : Nat) :
    wpOpsIn (Wide r) nn P ops Q (Region.schedule true ops t) a w := drawn_wpT hcs hys hok (traceY_of hf) hr ht k t
end Go.Fs
namespace Go.Fs
open Go.RowKit (Below)
variable {P : Program} {B : Nat} {w0 : World}
def fsStepX (P : Program) (orc : FuncId → List Value → Heap → Option (Value × Heap)) (rec : Rec) : Rec := fun rnd c fr h =>
  match c with
  | .region _ ops true => match drawnX P { next := h.next, low := h.next, objs := h.objs } (fsOp P (callOf P orc rec) (fsYield rec)) ops fr.n ⟨fr.t, { next := h.next, low := h.next, objs := h.objs }, [], [], 0, false⟩ with
    | some s => some (.normal, { t := s.t, n := fr.n, marks := fr.marks }, { next := s.h.next, low := min h.low s.h.low, objs := s.h.objs })
    | none => match drawnY P { next := h.next, low := h.next, objs := h.objs } (fsOp P (callOf P orc rec) (fsYield rec)) ops fr.n ⟨fr.t, { next := h.next, low := h.next, objs := h.objs }, [], [], 0, false⟩ (fsReads P { next := h.next, low := h.next, objs := h.objs } (fsOp P (callOf P orc rec) (fsYield rec)) ops fr.n ops.toList 0 ⟨fr.t, { next := h.next, low := h.next, objs := h.objs }, [], [], 0, false⟩ []) with
      | some s => some (.normal, { t := s.t, n := fr.n, marks := fr.marks }, { next := s.h.next, low := min h.low s.h.low, objs := s.h.objs })
      | none => fsStep P orc rec rnd c fr h
  | c => fsStep P orc rec rnd c fr h
def fsCodeX (P : Program) (orc : FuncId → List Value → Heap → Option (Value × Heap)) : Nat → Rec
  | 0 => fun _ _ _ _ => none
  | n + 1 => fsStepX P orc (fsCodeX P orc n)
theorem HR.low {ρ : Ren} {S : Nat → Prop} {h : Heap} {w : World} (hr : HR P ρ S B w0 h w) (l : Nat) : HR P ρ S B w0 { next := h.next, low := l, objs := h.objs } w :=
  { objs := hr.objs, inj := hr.inj, base := hr.base, ro := hr.ro, ids := hr.ids, pos := hr.pos, below := hr.below, drawn := hr.drawn, size := hr.size }
theorem Moved.lowered {ρ ρ' : Ren} {S : Nat → Prop} {h h' : Heap} {w w' : World} {l : Nat} (m : Moved P B w0 ρ ρ' S { next := h.next, low := l, objs := h.objs } h' w w') :
    Moved P B w0 ρ ρ' S h { next := h'.next, low := min h.low h'.low, objs := h'.objs } w w' where
  agree := m.agree
  next := m.next
  hr := m.hr.low _
  frame := ⟨m.frame.os, m.frame.tape, m.frame.output, m.frame.size, m.frame.block⟩
  low := Nat.min_le_left _ _
  keep := fun i hi hl => m.keep i hi (Nat.lt_of_lt_of_le hl (Nat.min_le_right _ _))
  old := m.old
  fresh := fun i o ho hi => by
    obtain ⟨h1, h2⟩ := m.fresh i o ho hi; refine ⟨h1, ?_⟩; rcases h2 with h2 | ⟨j, oj, h3, h4, h5, h6, h7⟩
    · exact .inl h2
    exact .inr ⟨j, oj, h3, h4, h5, Nat.le_trans (Nat.min_le_right _ _) h6, h7⟩
theorem stepX_sound (hP : ProgOk P) {orc : FuncId → List Value → Heap → Option (Value × Heap)} (horc : CallSound P B w0 orc) {m : Nat} {rec : Rec} (hrec : SoundR P B w0 m rec) : SoundR P B w0 (m + 1) (fsStepX P orc rec) := by
  have hcs : CallSnd P B w0 (callOf P orc rec) := call_sound hP horc hrec; have hys : YieldSound P B w0 (fsYield rec) := yield_sound hrec; have hold := step_sound hP horc hrec; intro rnd c fr h e fr' h' hok hf
  cases c with
  | region id ops draw =>
    cases draw with
    | false => exact hold rnd _ fr h e fr' h' hok hf
    | true =>
      intro ρ S w a nn Q hr ht hm hs k; simp only [fsStepX] at hf; split at hf
      · rename_i s hrun; simp only [Option.some.injEq, Prod.mk.injEq] at hf; obtain ⟨rfl, rfl, rfl⟩ := hf; refine wpIn_region_draw fun t => ?_; rw [hP.mixed]; exact drawn_wpX (h0 := { next := h.next, low := h.next, objs := h.objs }) (call := callOf P orc rec) (yield := fsYield rec) hcs hys hok hrun ((hr.drew _).low _) ht (fun ρ1 w1 a1 m1 ht1 hd1 => k _ _ _ ⟨(Moved.ofDrew m1).lowered, ht1, by rw [hd1]; exact hm.mono fun b hb => ⟨.inl hb, m1.agree b hb⟩⟩) t
      split at hf
      · rename_i s hrun; simp only [Option.some.injEq, Prod.mk.injEq] at hf; obtain ⟨rfl, rfl, rfl⟩ := hf; refine wpIn_region_draw fun t => ?_; rw [hP.mixed]; exact drawn_wpY (h0 := { next := h.next, low := h.next, objs := h.objs }) (call := callOf P orc rec) (yield := fsYield rec) hcs hys hok hrun ((hr.drew _).low _) ht (fun ρ1 w1 a1 m1 ht1 hd1 => k _ _ _ ⟨(Moved.ofDrew m1).lowered, ht1, by rw [hd1]; exact hm.mono fun b hb => ⟨.inl hb, m1.agree b hb⟩⟩) t
      exact hold rnd _ fr h e fr' h' hok hf ρ S w a nn Q hr ht hm hs k
  | _ => exact hold rnd _ fr h e fr' h' hok hf
theorem codeX_sound (hP : ProgOk P) {orc : FuncId → List Value → Heap → Option (Value × Heap)} (horc : CallSound P B w0 orc) : ∀ m, SoundR P B w0 m (fsCodeX P orc m)
  | 0 => fun rnd c fr h e fr' h' _ hf => by cases hf
  | m + 1 => stepX_sound hP horc (codeX_sound hP horc m)
theorem fsX_calls (hP : ProgOk P) {orc : FuncId → List Value → Heap → Option (Value × Heap)} (horc : CallSound P B w0 orc) (m : Nat) : CallSound P B w0 (fsEnter P (fsCodeX P orc m)) := enter_sound hP (codeX_sound hP horc m)
theorem fsX_closed (hP : ProgOk P) {w : World} {orc : FuncId → List Value → Heap → Option (Value × Heap)} (horc : CallSound P w.heap.size (wz w) orc) {m : Nat} {f : FuncId} {args : List Value} {v : Value} (ha : args.all af = true)
    (hf : (fsEnter P (fsCodeX P orc m) f args ⟨1, 1, []⟩).map (·.1) = some v) (hv : af v = true) :
    Calls P f args.toArray w fun | .returned v', w' => v' = v ∧ Below w.heap.size w w' | _, _ => False := by
  obtain ⟨⟨v0, h0⟩, h1, h2⟩ := Option.map_eq_some_iff.1 hf; simp only at h2; subst h2
  have hr : HR P (fun _ => Loc.clean 0 0 0 0) (fun _ => False) w.heap.size (wz w) ⟨1, 1, []⟩ w :=
    { objs := fun i o hi => (by cases hi), inj := fun i j oi oj hi => (by cases hi), base := fun i o hi => (by cases hi), ro := fun i o hi => (by cases hi), ids := fun b hb => hb.elim, pos := by decide,
      below := z_below (Below.refl _ _), drawn := Nat.zero_le _, size := Nat.le_refl _ }
  have hc := ((fsX_calls hP horc m) f args _ _ _ h1).2 _ _ w args hr ⟨rfl, fun i hi => .of_af (List.all_eq_true.1 ha _ (mem_getD hi))⟩ 0; refine Calls.mono (callsIn_wide.1 hc) fun e w' he => ?_
  cases e with
  | returned v' =>
    obtain ⟨ρ', m1, hv1⟩ := he
    exact ⟨hv1.eq_of_af hv, below_z m1.hr.below⟩
  | panicked c => exact he.elim
  | outgrown => exact he.elim
theorem awakeX_calls (hP : ProgOk P) {B : Nat} {w0 : World} {O : FuncId → List Value → Heap → Option (Value × Heap)} {fa : FuncId} (hS : ∀ w, Below B w0 w → CallSound P w.heap.size (wz w) O) {m : Nat}
    (hrun : (fsEnter P (fsCodeX P O m) fa [] ⟨1, 1, []⟩).map (·.1) = some (.bool true)) (w : World) (hw : Below B w0 w) :
    Calls P fa #[] w fun | .returned v', w' => v' = .bool true ∧ Below w.heap.size w w' | _, _ => False :=
  fsX_closed hP (hS w hw) (args := []) rfl hrun rfl
end Go.Fs
namespace Go.Fs
variable {P : Program} {orc : FuncId → List Value → Heap → Option (Value × Heap)}
end Go.Fs
namespace Go.Fs
open Go.RowKit (Below)
variable {P : Program} {B : Nat} {w0 : World}
theorem orcI_sound {fi : FuncId} (hz : w0.drawn = 0) (hi : Enters P fi)
    (hI : ∀ (n : Int) (w : World), Below B w0 w → -9223372036854775808 ≤ n → n ≤ 9223372036854775807 → Calls P fi #[.int .i64 n] w fun e w' => e = .returned (.string ⟨(Lib.itoa n).toArray⟩) ∧ Below w.heap.size w w') : CallSound P B w0 (orcS fi fi) := by
  intro f xs h v h' hf; unfold orcS at hf
  cases hfi : Nat.beq f fi with
  | true =>
    have := nbeq hfi; subst this; rw [hfi] at hf; simp only [cond_true] at hf; split at hf
    · rename_i n; obtain ⟨hc, hf2⟩ := bif_some hf; obtain ⟨h0, h1⟩ := band hc; have h0 := of_decide_eq_true h0; have h1 := of_decide_eq_true h1; simp only [Option.some.injEq, Prod.mk.injEq] at hf2; obtain ⟨rfl, rfl⟩ := hf2; refine ⟨hi, fun ρ S w args' hr ha nn => ?_⟩; have he : args' = [.int .i64 n] := ha.eq_of_af (by rfl); subst he; have hC : CallsIn Fence.wide nn P f #[.int .i64 n] w _ := callsIn_wide.2 (hI n w hr.below (by omega) (by omega)); refine hC.mono fun e w' hret => ?_; obtain ⟨rfl, hb⟩ := hret; exact ⟨ρ, Moved.grewWorld hr hb (by rw [hz]; exact Nat.zero_le _), by rw [itoaF_eq h0 h1]; exact .lit rfl⟩
    cases hf
  | false =>
    rw [hfi] at hf; simp only [cond_false] at hf; cases hf
end Go.Fs
