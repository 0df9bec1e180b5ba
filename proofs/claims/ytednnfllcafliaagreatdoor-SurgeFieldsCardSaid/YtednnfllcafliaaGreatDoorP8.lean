/- Contracts of functions of the program, over the evaluator: what each answers. Conditions: those in each statement. -/
import Derived.Test.YtednnfllcafliaaGreatDoorP7
set_option linter.all false
namespace Go.Proofs
open Go.Fs Ieee
set_option linter.unusedVariables false
abbrev y98 : Ty := (.pair (.int .i64) (.pair .str (.int .i64)))
/-! ## The law of fields -/
theorem pc_lv {d : Dom} {p : Pc} (h : pcE d p = 0) : pcPre d p = 0 ∧ ∀ x ∈ p.2.2.2.2, lvlE x = 0 := by
  unfold pcE at h
  split at h
  · rename_i h0
    rw [firstE_zero] at h
    exact ⟨h0, fun x hx => h _ (List.mem_map_of_mem hx)⟩
  · contradiction
theorem step_lt {d : Dom} {l : List Pc} {i : Nat} (h : pieceE d l (i + 1) = 0) : ¬ 0 ≤ cmpP (plE d (pcA l i)) (plE d (pcA l (i + 1))) := fun hc => by
  rw [piece_z (piece_zero h)] at h
  rw [show i + 1 - 1 = i from rfl, decide_eq_true hc, decide_eq_true (Nat.succ_pos i)] at h
  cases h
theorem cmp_trans {a b c : Pc × Int} (h1 : ¬ 0 ≤ cmpP a b) (h2 : ¬ 0 ≤ cmpP b c) : ¬ 0 ≤ cmpP a c := by
  unfold cmpP at *
  have e3 : 0 ≤ firstE [] := by decide
  simp only [firstE_cmp, e3, and_true] at *
  omega
theorem all_lt {d : Dom} {l : List Pc} (hz : ∀ k, k < l.length → pieceE d l k = 0) {j : Nat} : ∀ (i : Nat), j < i → i < l.length → ¬ 0 ≤ cmpP (plE d (pcA l j)) (plE d (pcA l i))
  | 0, h, _ => by omega
  | i + 1, h, hi => by
    have h1 := step_lt (hz _ hi)
    rcases Nat.lt_succ_iff_lt_or_eq.1 h with h3 | h3
    · exact cmp_trans (all_lt hz i h3 (by omega)) h1
    · subst h3; exact h1
theorem cmp_same {d : Dom} {a b : Pc} (h1 : a.1 = b.1) (h2 : slotE a = slotE b) : 0 ≤ cmpP (plE d a) (plE d b) := by
  have e1 : a.2.1 = b.2.1 := congrArg (·.1) h2
  have e2 : a.2.2.1 = b.2.2.1 := congrArg (·.2.1) h2
  have e4 : a.2.2.2.1 = b.2.2.2.1 := congrArg (·.2.2) h2
  have e3 : 0 ≤ firstE [] := by decide
  unfold cmpP plE
  simp [e1, e2, e4, h1, firstE, show ∀ x : Int, cmpI x x = 0 from fun _ => cmpI_eq rfl]
theorem slot_uniq {d : Dom} {l : List Pc} (hz : ∀ k, k < l.length → pieceE d l k = 0) {i j : Nat} (hi : i < l.length) (hj : j < l.length) (h1 : (pcA l i).1 = (pcA l j).1) (h2 : slotE (pcA l i) = slotE (pcA l j)) : i = j := by
  rcases Nat.lt_trichotomy i j with h | h | h
  · exact absurd (cmp_same h1 h2) (all_lt hz j h hj)
  · exact h
  · exact absurd (cmp_same h1.symm h2.symm) (all_lt hz i h hi)
theorem hitB_iff {n : Int} {s : Sl} {p : Pc} : hitB n s p = true ↔ p.1 = n ∧ slotE p = s := by
  unfold hitB slotE
  rw [decide_eq_true_iff]
  constructor
  · rintro ⟨h1, h2, h3, h4⟩; exact ⟨h1, by rw [h2, h3, h4]⟩
  · rintro ⟨h1, h2⟩; subst h2; exact ⟨h1, rfl, rfl, rfl⟩
theorem fnd_run {d : Dom} {l : List Pc} (hz : ∀ k, k < l.length → pieceE d l k = 0) (n : Int) (s : Sl) : mget (runM l n l.length) s = if fndE l n s < 0 then none else some (pcA l (fndE l n s).toNat) := by
  unfold fndE
  by_cases h : l.findIdx (hitB n s) < l.length
  · rw [if_pos h, if_neg (by omega)]
    have h1 : hitB n s l[l.findIdx (hitB n s)] = true := List.findIdx_getElem (w := h)
    rw [pcA_eq h] at h1
    obtain ⟨h2, h3⟩ := hitB_iff.1 h1
    cases hg : mget (runM l n l.length) s with
    | none => exact absurd h3 (runM_none _ hg _ h h2)
    | some p =>
      obtain ⟨j, j1, rfl, j2, j3⟩ := runM_some _ hg
      rw [slot_uniq hz j1 h (j2.trans h2.symm) (j3.trans h3.symm)]
      simp
  · rw [if_neg h, if_pos (by omega)]
    cases hg : mget (runM l n l.length) s with
    | none => rfl
    | some p =>
      obtain ⟨j, j1, rfl, j2, j3⟩ := runM_some _ hg
      have h5 : l.findIdx (hitB n s) = l.length := Nat.le_antisymm List.findIdx_le_length (by omega)
      have h4 := List.findIdx_eq_length.1 h5 _ (pcA_mem j1)
      rw [hitB_iff.2 ⟨j2, j3⟩] at h4; cases h4
theorem fnd_has {d : Dom} {l : List Pc} (hz : ∀ k, k < l.length → pieceE d l k = 0) (n : Int) (x : ByteArray) (t : Int) (r : Nat) : fndQ l n x t r = (hasQ (runM l n l.length) x t r).map (fun v => v.map plusZ) := by
  unfold fndQ hasQ
  rw [fnd_run hz]
  split <;> rfl
theorem rowsQ_map {q : Nat → Option (List Nat)} {f : List Nat → List Nat} {n : Nat} : rowsQ (fun r => (q r).map f) n = ((rowsQ q n).1.map f, (rowsQ q n).2) := by
  cases h : (List.range n).all (fun r => (q r).isSome) with
  | true =>
    have h1 : ∀ r, r < n → (q r).isSome = true := fun r hr => List.all_eq_true.1 h r (List.mem_range.2 hr)
    rw [rowsQ_t h1, rowsQ_t fun r hr => by rw [Option.isSome_map]; exact h1 r hr]
    simp only [List.map_map]
    congr 1
    apply List.map_congr_left
    intro r hr
    have h2 := h1 r (List.mem_range.1 hr)
    simp only [Function.comp]
    cases hq : q r with
    | none => rw [hq] at h2; cases h2
    | some v => rfl
  | false =>
    obtain ⟨r, hr, h2⟩ := List.all_eq_false.1 h
    have h3 : (q r).isSome = false := by simpa using h2
    rw [rowsQ_f (List.mem_range.1 hr) h3, rowsQ_f (List.mem_range.1 hr) (by rw [Option.isSome_map]; exact h3)]
    rfl
theorem same_plus {v : List Nat} (h : ∀ x ∈ v, lvlE x = 0) : sameLv v (v.map plusZ) = true := by
  refine decide_eq_true ⟨by simp, fun i hi => ?_⟩
  have h1 := h _ (List.getElem_mem hi)
  have h2 := lvl_ok h1
  have h3 := plusZ_ok h1
  rw [List.getD_eq_getElem?_getD, List.getD_eq_getElem?_getD, List.getElem?_map, List.getElem?_eq_getElem hi]
  show fcmpE .neq .f32 v[i] (plusZ v[i]) = false
  rw [(fcmp32 h2.1 (h3.2.2.trans h2.1)).2.1]
  exact decide_eq_false (by simp)
theorem same_rows {a : List (List Nat)} (h : ∀ v ∈ a, ∀ x ∈ v, lvlE x = 0) : sameRw a (a.map fun v => v.map plusZ) = true := by
  refine decide_eq_true ⟨by simp, fun i hi => ?_⟩
  rw [List.getD_eq_getElem?_getD, List.getD_eq_getElem?_getD, List.getElem?_map, List.getElem?_eq_getElem hi]
  exact same_plus (h _ (List.getElem_mem hi))
theorem rows_lv {d : Dom} {l : List Pc} (hz : ∀ k, k < l.length → pieceE d l k = 0) {n : Int} {x : ByteArray} {t : Int} {m : Nat} : ∀ v ∈ (rowsQ (hasQ (runM l n l.length) x t) m).1, ∀ y ∈ v, lvlE y = 0 := by
  intro v hv y hy
  unfold rowsQ at hv
  cases h : (List.range m).all (fun r => (hasQ (runM l n l.length) x t r).isSome) with
  | false => rw [h] at hv; cases hv
  | true =>
    rw [h] at hv
    obtain ⟨r, _, rfl⟩ := List.mem_map.1 hv
    unfold hasQ at hy
    cases hg : mget (runM l n l.length) (x, t, (r : Int)) with
    | none => rw [hg] at hy; cases hy
    | some p =>
      rw [hg] at hy
      obtain ⟨j, j1, rfl, _⟩ := runM_some _ hg
      exact (pc_lv (piece_zero (hz j j1))).2 y hy
theorem fieldA_eq {d : Dom} {l : List Pc} {n : Int} : fieldA d l n = if storeE d l ≠ 0 then storeE d l else rangeE n 0 100000 := by
  rw [fieldA, show ∀ x y : Int, firstE [x, y] = firstE ([x] ++ [y]) from fun _ _ => rfl, firstE_app, firstE_one, firstE_one]
  by_cases h : storeE d l = 0
  · rw [if_pos h, if_neg (by simpa using h)]
  · rw [if_neg h, if_pos h]
theorem fieldB2_eq {d : Dom} (hd : domE d = 0) {x : ByteArray} {t : Int} : fieldB2 d x t = if memAt d.2.2.2 x < 0 then 10 else rangeE t 0 (d.2.2.1 - 1) := by
  rw [fieldB2, hasM_eq hd, show ∀ x y : Int, firstE [x, y] = firstE ([x] ++ [y]) from fun _ _ => rfl, firstE_app, firstE_one, firstE_one]
  by_cases h : memAt d.2.2.2 x < 0
  · rw [if_pos h, if_pos h] <;> rfl
  · rw [if_neg h, if_neg h] <;> rfl
theorem fieldV_len {d : Dom} {l : List Pc} {n : Int} {x : ByteArray} {t : Int} : (fieldV d l n x t).1.length ≤ 8 := by
  unfold fieldV
  split
  · exact Nat.zero_le _
  · split
    · exact Nat.zero_le _
    · rename_i h1 _
      have h2 := (dom_ok (store_dom (fieldA_ok (by simpa using h1)).1).1).1
      show (rowsQ _ _).1.length ≤ 8
      unfold rowsQ
      cases (List.range d.1.toNat).all (fun r => (hasQ (runM l n l.length) x t r).isSome) with
      | false => exact Nat.zero_le _
      | true => show (List.map _ _).length ≤ 8; rw [List.length_map, List.length_range]; omega
theorem fieldV_rows {d : Dom} {l : List Pc} {n : Int} {x : ByteArray} {t : Int} (hr : ∀ p ∈ l, p.2.2.2.2.length < 100000) : ∀ r ∈ (fieldV d l n x t).1, r.length < 100000 := by
  unfold fieldV
  split
  · intro r h; cases h
  · split
    · intro r h; cases h
    · intro v hv
      change v ∈ (rowsQ _ _).1 at hv
      unfold rowsQ at hv
      cases h : (List.range d.1.toNat).all (fun r => (hasQ (runM l n l.length) x t r).isSome) with
      | false => rw [h] at hv; cases hv
      | true =>
        rw [h] at hv
        obtain ⟨r, _, rfl⟩ := List.mem_map.1 hv
        unfold hasQ
        cases hg : mget (runM l n l.length) (x, t, (r : Int)) with
        | none => exact Nat.zero_lt_succ _
        | some p =>
          obtain ⟨j, j1, rfl, _⟩ := runM_some _ hg
          exact hr _ (pcA_mem j1)
theorem same_nil : sameRw [] [] = true := decide_eq_true ⟨rfl, fun i hi => by cases hi⟩
theorem fin3 {d : Dom} {l : List Pc} {n : Int} {x : ByteArray} {t : Int} (h : ¬ storeE d l = 0) : sameRw (fieldV d l n x t).1 [] = true ∧ (fieldV d l n x t).2 = storeE d l := by
  have e : fieldA d l n = storeE d l := by rw [fieldA_eq, if_pos h]
  rw [fieldV, e, if_pos h]
  exact ⟨same_nil, rfl⟩
theorem fin2 {d : Dom} {l : List Pc} {n : Int} {x : ByteArray} {t : Int} (h : storeE d l = 0) (h2 : ¬ fieldC d n x t = 0) : sameRw (fieldV d l n x t).1 [] = true ∧ (fieldV d l n x t).2 = fieldC d n x t := by
  have e : fieldA d l n = rangeE n 0 100000 := by rw [fieldA_eq, if_neg (by simpa using h)]
  have e2 := fieldB2_eq (store_dom h).1 (x := x) (t := t)
  unfold fieldC at h2 ⊢
  unfold fieldV
  rw [e, e2]
  by_cases h3 : rangeE n 0 100000 ≠ 0
  · rw [if_pos h3, if_pos h3]; exact ⟨same_nil, rfl⟩
  · rw [if_neg h3] at h2
    rw [if_neg h3, if_neg h3, if_pos h2]; exact ⟨same_nil, rfl⟩
theorem fin1 {d : Dom} {l : List Pc} {n : Int} {x : ByteArray} {t : Int} (h : storeE d l = 0) (h2 : fieldC d n x t = 0) : sameRw (fieldV d l n x t).1 (rowsQ (fndQ l n x t) d.1.toNat).1 = true ∧ (fieldV d l n x t).2 = whenE (!(rowsQ (fndQ l n x t) d.1.toNat).2) 7 := by
  have e : fieldA d l n = rangeE n 0 100000 := by rw [fieldA_eq, if_neg (by simpa using h)]
  have e2 := fieldB2_eq (store_dom h).1 (x := x) (t := t)
  have hz := (store_dom h).2.2
  have e3 : rowsQ (fndQ l n x t) d.1.toNat = _ := (congrArg (fun q => rowsQ q d.1.toNat) (funext fun r => fnd_has hz n x t r)).trans rowsQ_map
  unfold fieldC at h2
  unfold fieldV
  rw [e, e2, e3]
  by_cases h3 : rangeE n 0 100000 ≠ 0
  · rw [if_pos h3] at h2; exact absurd h2 h3
  · rw [if_neg h3] at h2
    rw [if_neg h3, if_neg (by simpa using h2)]
    exact ⟨same_rows (rows_lv hz), rfl⟩
theorem law9_ok {d : Int × Int × Int × (List (ByteArray × Int))} {l : List (Int × ByteArray × Int × Int × (List Nat))} {x : Int × ByteArray × Int} (hd1 : d.2.2.2.length ≤ 9223372036854775807) (hl1 : l.length ≤ 9223372036854775807) : VF Tryz.prog OA 9 [.v y95 d, .v y96 l, .v y98 x] (B true) := by
  refine VF.enter Tryz.func9 rfl (fun _ _ => rfl) rfl ?_
  show VC _ _ _ _ _ [(0, .v y95 d), (1, .v y96 l), (2, .v y98 x)] [] _
  refine VC.seq ?_
  refine VC.text ?_
  refine VO.new (.box) ?_
  refine VO.new (.box) ?_
  refine VO.c (.assign rfl) ?_
  refine VO.go ?_
  refine VC.seq ?_
  refine VC.seq ?_
  refine VC.text ?_
  refine VO.r (.ld vt95) ?_
  refine VO.call rfl rfl (VF.call (rShortD_ok hd1)) ?_
  refine VO.c (.not) ?_
  refine VO.c (.move rfl) ?_
  refine VO.splitB (x := 16) rfl (fun g1_3 => ?_) (fun g1_3 => ?_)
  · try simp only [Bool.and_eq_true, Bool.or_eq_true, Bool.and_eq_false_iff, Bool.or_eq_false_iff, Bool.not_eq_true', Bool.not_eq_false', decide_eq_true_eq, decide_eq_false_iff_not] at g1_3
    refine VO.skip ?_
    refine VO.skip ?_
    refine VO.skip ?_
    refine VO.c (.pickT rfl rfl) ?_
    refine VO.c (.move rfl) ?_
    refine VO.skip ?_
    refine VO.skip ?_
    refine VO.skip ?_
    refine VO.skip ?_
    refine VO.c (.pickT rfl rfl) ?_
    refine VO.go ?_
    refine VC.condT rfl ?_
    refine VC.seq ?_
    refine VC.text ?_
    refine VO.call rfl rfl (VF.call (awake_ok )) ?_
    refine VO.c (.assign rfl) ?_
    refine VO.go ?_
    refine VC.ret ?_
    exact VEnd.one rfl evT (pvE (by first | rfl | exact absurd c8 c5 | exact absurd ((fin1 c5 c8).1.symm.trans g11_3) (by decide) | exact absurd ((fin2 c5 c8).1.symm.trans g11_3) (by decide) | exact absurd ((fin3 c5).1.symm.trans g11_3) (by decide) | exact absurd (fin1 c5 c8).2 g11_8 | exact absurd (fin2 c5 c8).2 g11_8 | exact absurd (fin3 c5).2 g11_8))
  · try simp only [Bool.and_eq_true, Bool.or_eq_true, Bool.and_eq_false_iff, Bool.or_eq_false_iff, Bool.not_eq_true', Bool.not_eq_false', decide_eq_true_eq, decide_eq_false_iff_not] at g1_3
    refine VO.c (.move rfl) ?_
    refine VO.call rfl rfl (VF.call (rShortS_ok hl1)) ?_
    refine VO.c (.not) ?_
    refine VO.c (.pickF rfl rfl) ?_
    refine VO.c (.move rfl) ?_
    refine VO.splitB (x := 21) rfl (fun g1_8 => ?_) (fun g1_8 => ?_)
    · try simp only [Bool.and_eq_true, Bool.or_eq_true, Bool.and_eq_false_iff, Bool.or_eq_false_iff, Bool.not_eq_true', Bool.not_eq_false', decide_eq_true_eq, decide_eq_false_iff_not] at g1_8
      refine VO.skip ?_
      refine VO.skip ?_
      refine VO.skip ?_
      refine VO.skip ?_
      refine VO.c (.pickT rfl rfl) ?_
      refine VO.go ?_
      refine VC.condT rfl ?_
      refine VC.seq ?_
      refine VC.text ?_
      refine VO.call rfl rfl (VF.call (awake_ok )) ?_
      refine VO.c (.assign rfl) ?_
      refine VO.go ?_
      refine VC.ret ?_
      exact VEnd.one rfl evT (pvE (by first | rfl | exact absurd c8 c5 | exact absurd ((fin1 c5 c8).1.symm.trans g11_3) (by decide) | exact absurd ((fin2 c5 c8).1.symm.trans g11_3) (by decide) | exact absurd ((fin3 c5).1.symm.trans g11_3) (by decide) | exact absurd (fin1 c5 c8).2 g11_8 | exact absurd (fin2 c5 c8).2 g11_8 | exact absurd (fin3 c5).2 g11_8))
    · try simp only [Bool.and_eq_true, Bool.or_eq_true, Bool.and_eq_false_iff, Bool.or_eq_false_iff, Bool.not_eq_true', Bool.not_eq_false', decide_eq_true_eq, decide_eq_false_iff_not] at g1_8
      refine VO.c (.fa (.r (.l .o))) ?_
      refine VO.r (.ld vt9) ?_
      refine VO.r (.lenS) ?_
      refine VO.c (.gtr) ?_
      refine VO.c (.pickF rfl rfl) ?_
      refine VO.go ?_
      refine VC.condD rfl (fun c1 => ?_) (fun c1 => ?_)
      · refine VC.seq ?_
        refine VC.text ?_
        refine VO.call rfl rfl (VF.call (awake_ok )) ?_
        refine VO.c (.assign rfl) ?_
        refine VO.go ?_
        refine VC.ret ?_
        exact VEnd.one rfl evT (pvE (by first | rfl | exact absurd c8 c5 | exact absurd ((fin1 c5 c8).1.symm.trans g11_3) (by decide) | exact absurd ((fin2 c5 c8).1.symm.trans g11_3) (by decide) | exact absurd ((fin3 c5).1.symm.trans g11_3) (by decide) | exact absurd (fin1 c5 c8).2 g11_8 | exact absurd (fin2 c5 c8).2 g11_8 | exact absurd (fin3 c5).2 g11_8))
      · have hs : (shortD d = true ∧ shortS l 24 = true) := by simp_all
        have hsd := of_decide_eq_true hs.1
        have hss := of_decide_eq_true hs.2
        have hdl : d.2.2.2.length < 100000 := by have := hsd.1; omega
        have hll : l.length < 100000 := by have := hss.1; omega
        have hr : ∀ p ∈ l, p.2.2.2.2.length < 100000 := fun p m => by obtain ⟨i, hi, rfl⟩ := List.getElem_of_mem m; have := (hss.2 i hi).2; rw [← pcA_eq hi] at this; omega
        refine VC.skip ?_
        show VC _ _ _ _ _ _ _ _
        refine VC.seq ?_
        refine VC.drawn ?_
        refine VD.r [] (.ld vt95) (.inl rfl) ?_
        refine VD.call rfl rfl (VF.call (lDom_ok hdl)) ?_
        refine VD.c (.move rfl) ?_
        refine VD.call rfl rfl (VF.call (lPcs_ok hll hr)) ?_
        refine VD.c (.fa (.l .o)) ?_
        refine VD.r [] (.ld vt3) (.inl rfl) ?_
        refine VD.nw [32, 30] ?_
        refine VD.c (.fa (.r (.l .o))) ?_
        refine VD.r [] (.ld vt9) (.inl rfl) ?_
        refine VD.c (.fa (.r (.r .o))) ?_
        refine VD.r [] (.ld vt3) (.inl rfl) ?_
        refine VD.callO rfl rfl (VF.call (sFieldX_ok hll hr)) ?_
        refine VD.c (.move rfl) ?_
        refine VD.c (.extract) ?_
        refine VD.nw [40, 28, 39, 32, 30] ?_
        refine VD.c (.extract) ?_
        refine VD.c (.assign rfl) ?_
        refine VD.c (.assign rfl) ?_
        refine VD.go ?_
        refine VC.seq ?_
        refine VC.keep [(1, .v y96 l), (3, .p y95 d), (5, .p y98 x), (7, .v y101 ((fieldV d l x.1 x.2.1 x.2.2).1)), (8, I ((fieldV d l x.1 x.2.1 x.2.2).2))] ⟨rfl, rfl, rfl, rfl, rfl, trivial⟩ ?_
        refine VC.text ?_
        refine VO.r (.ld vt95) ?_
        refine VO.c (.move rfl) ?_
        refine VO.call rfl rfl (VF.call (rStore_ok hll hr)) ?_
        refine VO.c (.assign rfl) ?_
        refine VO.go ?_
        refine VC.seq ?_
        refine VC.seq ?_
        refine VC.text ?_
        refine VO.c (.move rfl) ?_
        refine VO.c (.eql) ?_
        refine VO.go ?_
        refine VC.condD rfl (fun c5 => ?_) (fun c5 => ?_)
        · refine VC.text ?_
          refine VO.r (.ld vt95) ?_
          refine VO.c (.fa (.l .o)) ?_
          refine VO.r (.ld vt3) ?_
          refine VO.c (.fa (.r (.l .o))) ?_
          refine VO.r (.ld vt9) ?_
          refine VO.c (.fa (.r (.r .o))) ?_
          refine VO.r (.ld vt3) ?_
          refine VO.call rfl rfl (VF.call (rFieldC_ok (store_dom c5).1)) ?_
          refine VO.c (.assign rfl) ?_
          refine VO.go ?_
          refine VC.seq ?_
          refine VC.text ?_
          refine VO.c (.assign rfl) ?_
          refine VO.go ?_
          refine VC.seq ?_
          refine VC.seq ?_
          refine VC.text ?_
          refine VO.c (.move rfl) ?_
          refine VO.c (.eql) ?_
          refine VO.go ?_
          refine VC.condD rfl (fun c8 => ?_) (fun c8 => ?_)
          · have hd0 : domE d = 0 := by first | exact absurd c8 c5 | exact (store_dom c5).1
            have hr2 : ∀ p ∈ l, p.2.2.2.2.length < 100000 ∧ ∀ x ∈ p.2.2.2.2, lvlE x = 0 := by first | exact absurd c8 c5 | exact fun p m => ⟨hr p m, by obtain ⟨i, hi, rfl⟩ := List.getElem_of_mem m; have := (pc_lv (piece_zero ((store_dom c5).2.2 i hi))).2; rw [← pcA_eq hi] at this; exact this⟩
            refine VC.seq ?_
            refine VC.text ?_
            refine VO.r (.ld vt95) ?_
            refine VO.c (.move rfl) ?_
            refine VO.c (.fa (.l .o)) ?_
            refine VO.r (.ld vt3) ?_
            refine VO.c (.fa (.r (.l .o))) ?_
            refine VO.r (.ld vt9) ?_
            refine VO.c (.fa (.r (.r .o))) ?_
            refine VO.r (.ld vt3) ?_
            refine VO.call rfl rfl (VF.call (rFieldX_ok hd0 hll hr2)) ?_
            refine VO.c (.move rfl) ?_
            refine VO.c (.extract) ?_
            refine VO.c (.extract) ?_
            refine VO.c (.assign rfl) ?_
            refine VO.c (.assign rfl) ?_
            refine VO.go ?_
            refine VC.keep [(7, .v y101 ((fieldV d l x.1 x.2.1 x.2.2).1)), (8, I ((fieldV d l x.1 x.2.1 x.2.2).2)), (11, .v y101 ((rowsQ (fndQ l x.1 x.2.1 x.2.2) d.1.toNat).1)), (12, B ((rowsQ (fndQ l x.1 x.2.1 x.2.2) d.1.toNat).2))] ⟨rfl, rfl, rfl, rfl, trivial⟩ ?_
            refine VC.text ?_
            refine VO.c (.move rfl) ?_
            refine VO.c (.move rfl) ?_
            refine VO.c (.not) ?_
            refine VO.call rfl rfl (VF.call (lWhen_ok )) ?_
            refine VO.c (.assign rfl) ?_
            refine VO.c (.assign rfl) ?_
            refine VO.go ?_
            refine VC.seq ?_
            refine VC.text ?_
            refine VO.c (.move rfl) ?_
            refine VO.c (.move rfl) ?_
            refine VO.call rfl rfl (VF.call (rSameRw_ok (by have : (fieldV d l x.1 x.2.1 x.2.2).1.length ≤ 8 := fieldV_len; omega) (fieldV_rows hr))) ?_
            refine VO.c (.move rfl) ?_
            refine VO.splitB (x := 76) rfl (fun g11_3 => ?_) (fun g11_3 => ?_)
            · refine VO.c (.move rfl) ?_
              refine VO.c (.move rfl) ?_
              refine VO.c (.eql) ?_
              refine VO.c (.pickT rfl rfl) ?_
              refine VO.c (.move rfl) ?_
              refine VO.splitD (x := 81) rfl (fun g11_8 => ?_) (fun g11_8 => ?_)
              · refine VO.call rfl rfl (VF.call (awake_ok )) ?_
                refine VO.c (.pickT rfl rfl) ?_
                refine VO.c (.assign rfl) ?_
                refine VO.go ?_
                refine VC.ret ?_
                exact VEnd.one rfl evT (pvE (by first | rfl | exact absurd c8 c5 | exact absurd ((fin1 c5 c8).1.symm.trans g11_3) (by decide) | exact absurd ((fin2 c5 c8).1.symm.trans g11_3) (by decide) | exact absurd ((fin3 c5).1.symm.trans g11_3) (by decide) | exact absurd (fin1 c5 c8).2 g11_8 | exact absurd (fin2 c5 c8).2 g11_8 | exact absurd (fin3 c5).2 g11_8))
              · refine VO.skip ?_
                refine VO.c (.pickF rfl rfl) ?_
                refine VO.c (.assign rfl) ?_
                refine VO.go ?_
                refine VC.ret ?_
                exact VEnd.one rfl evT (pvE (by first | rfl | exact absurd c8 c5 | exact absurd ((fin1 c5 c8).1.symm.trans g11_3) (by decide) | exact absurd ((fin2 c5 c8).1.symm.trans g11_3) (by decide) | exact absurd ((fin3 c5).1.symm.trans g11_3) (by decide) | exact absurd (fin1 c5 c8).2 g11_8 | exact absurd (fin2 c5 c8).2 g11_8 | exact absurd (fin3 c5).2 g11_8))
            · refine VO.skip ?_
              refine VO.skip ?_
              refine VO.skip ?_
              refine VO.c (.pickF rfl rfl) ?_
              refine VO.c (.move rfl) ?_
              refine VO.skip ?_
              refine VO.c (.pickF rfl rfl) ?_
              refine VO.c (.assign rfl) ?_
              refine VO.go ?_
              refine VC.ret ?_
              exact VEnd.one rfl evT (pvE (by first | rfl | exact absurd c8 c5 | exact absurd ((fin1 c5 c8).1.symm.trans g11_3) (by decide) | exact absurd ((fin2 c5 c8).1.symm.trans g11_3) (by decide) | exact absurd ((fin3 c5).1.symm.trans g11_3) (by decide) | exact absurd (fin1 c5 c8).2 g11_8 | exact absurd (fin2 c5 c8).2 g11_8 | exact absurd (fin3 c5).2 g11_8))
          · refine VC.skip ?_
            show VC _ _ _ _ _ _ _ _
            refine VC.seq ?_
            refine VC.text ?_
            refine VO.c (.move rfl) ?_
            refine VO.c (.move rfl) ?_
            refine VO.callC rfl rfl .same (.cons .same (.cons .nil .nil)) rfl (VF.call (rSameRw_ok (by have : (fieldV d l x.1 x.2.1 x.2.2).1.length ≤ 8 := fieldV_len; omega) (fieldV_rows hr))) ?_
            refine VO.c (.move rfl) ?_
            refine VO.splitB (x := 76) rfl (fun g11_3 => ?_) (fun g11_3 => ?_)
            · refine VO.c (.move rfl) ?_
              refine VO.c (.move rfl) ?_
              refine VO.c (.eql) ?_
              refine VO.c (.pickT rfl rfl) ?_
              refine VO.c (.move rfl) ?_
              refine VO.splitD (x := 81) rfl (fun g11_8 => ?_) (fun g11_8 => ?_)
              · refine VO.call rfl rfl (VF.call (awake_ok )) ?_
                refine VO.c (.pickT rfl rfl) ?_
                refine VO.c (.assign rfl) ?_
                refine VO.go ?_
                refine VC.ret ?_
                exact VEnd.one rfl evT (pvE (by first | rfl | exact absurd c8 c5 | exact absurd ((fin1 c5 c8).1.symm.trans g11_3) (by decide) | exact absurd ((fin2 c5 c8).1.symm.trans g11_3) (by decide) | exact absurd ((fin3 c5).1.symm.trans g11_3) (by decide) | exact absurd (fin1 c5 c8).2 g11_8 | exact absurd (fin2 c5 c8).2 g11_8 | exact absurd (fin3 c5).2 g11_8))
              · refine VO.skip ?_
                refine VO.c (.pickF rfl rfl) ?_
                refine VO.c (.assign rfl) ?_
                refine VO.go ?_
                refine VC.ret ?_
                exact VEnd.one rfl evT (pvE (by first | rfl | exact absurd c8 c5 | exact absurd ((fin1 c5 c8).1.symm.trans g11_3) (by decide) | exact absurd ((fin2 c5 c8).1.symm.trans g11_3) (by decide) | exact absurd ((fin3 c5).1.symm.trans g11_3) (by decide) | exact absurd (fin1 c5 c8).2 g11_8 | exact absurd (fin2 c5 c8).2 g11_8 | exact absurd (fin3 c5).2 g11_8))
            · refine VO.skip ?_
              refine VO.skip ?_
              refine VO.skip ?_
              refine VO.c (.pickF rfl rfl) ?_
              refine VO.c (.move rfl) ?_
              refine VO.skip ?_
              refine VO.c (.pickF rfl rfl) ?_
              refine VO.c (.assign rfl) ?_
              refine VO.go ?_
              refine VC.ret ?_
              exact VEnd.one rfl evT (pvE (by first | rfl | exact absurd c8 c5 | exact absurd ((fin1 c5 c8).1.symm.trans g11_3) (by decide) | exact absurd ((fin2 c5 c8).1.symm.trans g11_3) (by decide) | exact absurd ((fin3 c5).1.symm.trans g11_3) (by decide) | exact absurd (fin1 c5 c8).2 g11_8 | exact absurd (fin2 c5 c8).2 g11_8 | exact absurd (fin3 c5).2 g11_8))
        · refine VC.skip ?_
          show VC _ _ _ _ _ _ _ _
          refine VC.seq ?_
          refine VC.text ?_
          refine VO.c (.assign rfl) ?_
          refine VO.go ?_
          refine VC.seq ?_
          refine VC.seq ?_
          refine VC.text ?_
          refine VO.c (.move rfl) ?_
          refine VO.c (.eql) ?_
          refine VO.go ?_
          refine VC.condD rfl (fun c8 => ?_) (fun c8 => ?_)
          · have hd0 : domE d = 0 := by first | exact absurd c8 c5 | exact (store_dom c5).1
            have hr2 : ∀ p ∈ l, p.2.2.2.2.length < 100000 ∧ ∀ x ∈ p.2.2.2.2, lvlE x = 0 := by first | exact absurd c8 c5 | exact fun p m => ⟨hr p m, by obtain ⟨i, hi, rfl⟩ := List.getElem_of_mem m; have := (pc_lv (piece_zero ((store_dom c5).2.2 i hi))).2; rw [← pcA_eq hi] at this; exact this⟩
            refine VC.seq ?_
            refine VC.text ?_
            refine VO.r (.ld vt95) ?_
            refine VO.c (.move rfl) ?_
            refine VO.c (.fa (.l .o)) ?_
            refine VO.r (.ld vt3) ?_
            refine VO.c (.fa (.r (.l .o))) ?_
            refine VO.r (.ld vt9) ?_
            refine VO.c (.fa (.r (.r .o))) ?_
            refine VO.r (.ld vt3) ?_
            refine VO.call rfl rfl (VF.call (rFieldX_ok hd0 hll hr2)) ?_
            refine VO.c (.move rfl) ?_
            refine VO.c (.extract) ?_
            refine VO.c (.extract) ?_
            refine VO.c (.assign rfl) ?_
            refine VO.c (.assign rfl) ?_
            refine VO.go ?_
            refine VC.text ?_
            refine VO.c (.move rfl) ?_
            refine VO.c (.move rfl) ?_
            refine VO.c (.not) ?_
            refine VO.call rfl rfl (VF.call (lWhen_ok )) ?_
            refine VO.c (.assign rfl) ?_
            refine VO.c (.assign rfl) ?_
            refine VO.go ?_
            refine VC.seq ?_
            refine VC.text ?_
            refine VO.c (.move rfl) ?_
            refine VO.c (.move rfl) ?_
            refine VO.call rfl rfl (VF.call (rSameRw_ok (by have : (fieldV d l x.1 x.2.1 x.2.2).1.length ≤ 8 := fieldV_len; omega) (fieldV_rows hr))) ?_
            refine VO.c (.move rfl) ?_
            refine VO.splitB (x := 76) rfl (fun g11_3 => ?_) (fun g11_3 => ?_)
            · refine VO.c (.move rfl) ?_
              refine VO.c (.move rfl) ?_
              refine VO.c (.eql) ?_
              refine VO.c (.pickT rfl rfl) ?_
              refine VO.c (.move rfl) ?_
              refine VO.splitD (x := 81) rfl (fun g11_8 => ?_) (fun g11_8 => ?_)
              · refine VO.call rfl rfl (VF.call (awake_ok )) ?_
                refine VO.c (.pickT rfl rfl) ?_
                refine VO.c (.assign rfl) ?_
                refine VO.go ?_
                refine VC.ret ?_
                exact VEnd.one rfl evT (pvE (by first | rfl | exact absurd c8 c5 | exact absurd ((fin1 c5 c8).1.symm.trans g11_3) (by decide) | exact absurd ((fin2 c5 c8).1.symm.trans g11_3) (by decide) | exact absurd ((fin3 c5).1.symm.trans g11_3) (by decide) | exact absurd (fin1 c5 c8).2 g11_8 | exact absurd (fin2 c5 c8).2 g11_8 | exact absurd (fin3 c5).2 g11_8))
              · refine VO.skip ?_
                refine VO.c (.pickF rfl rfl) ?_
                refine VO.c (.assign rfl) ?_
                refine VO.go ?_
                refine VC.ret ?_
                exact VEnd.one rfl evT (pvE (by first | rfl | exact absurd c8 c5 | exact absurd ((fin1 c5 c8).1.symm.trans g11_3) (by decide) | exact absurd ((fin2 c5 c8).1.symm.trans g11_3) (by decide) | exact absurd ((fin3 c5).1.symm.trans g11_3) (by decide) | exact absurd (fin1 c5 c8).2 g11_8 | exact absurd (fin2 c5 c8).2 g11_8 | exact absurd (fin3 c5).2 g11_8))
            · refine VO.skip ?_
              refine VO.skip ?_
              refine VO.skip ?_
              refine VO.c (.pickF rfl rfl) ?_
              refine VO.c (.move rfl) ?_
              refine VO.skip ?_
              refine VO.c (.pickF rfl rfl) ?_
              refine VO.c (.assign rfl) ?_
              refine VO.go ?_
              refine VC.ret ?_
              exact VEnd.one rfl evT (pvE (by first | rfl | exact absurd c8 c5 | exact absurd ((fin1 c5 c8).1.symm.trans g11_3) (by decide) | exact absurd ((fin2 c5 c8).1.symm.trans g11_3) (by decide) | exact absurd ((fin3 c5).1.symm.trans g11_3) (by decide) | exact absurd (fin1 c5 c8).2 g11_8 | exact absurd (fin2 c5 c8).2 g11_8 | exact absurd (fin3 c5).2 g11_8))
          · refine VC.skip ?_
            show VC _ _ _ _ _ _ _ _
            refine VC.seq ?_
            refine VC.text ?_
            refine VO.c (.move rfl) ?_
            refine VO.c (.move rfl) ?_
            refine VO.callC rfl rfl .same (.cons .same (.cons .nil .nil)) rfl (VF.call (rSameRw_ok (by have : (fieldV d l x.1 x.2.1 x.2.2).1.length ≤ 8 := fieldV_len; omega) (fieldV_rows hr))) ?_
            refine VO.c (.move rfl) ?_
            refine VO.splitB (x := 76) rfl (fun g11_3 => ?_) (fun g11_3 => ?_)
            · refine VO.c (.move rfl) ?_
              refine VO.c (.move rfl) ?_
              refine VO.c (.eql) ?_
              refine VO.c (.pickT rfl rfl) ?_
              refine VO.c (.move rfl) ?_
              refine VO.splitD (x := 81) rfl (fun g11_8 => ?_) (fun g11_8 => ?_)
              · refine VO.call rfl rfl (VF.call (awake_ok )) ?_
                refine VO.c (.pickT rfl rfl) ?_
                refine VO.c (.assign rfl) ?_
                refine VO.go ?_
                refine VC.ret ?_
                exact VEnd.one rfl evT (pvE (by first | rfl | exact absurd c8 c5 | exact absurd ((fin1 c5 c8).1.symm.trans g11_3) (by decide) | exact absurd ((fin2 c5 c8).1.symm.trans g11_3) (by decide) | exact absurd ((fin3 c5).1.symm.trans g11_3) (by decide) | exact absurd (fin1 c5 c8).2 g11_8 | exact absurd (fin2 c5 c8).2 g11_8 | exact absurd (fin3 c5).2 g11_8))
              · refine VO.skip ?_
                refine VO.c (.pickF rfl rfl) ?_
                refine VO.c (.assign rfl) ?_
                refine VO.go ?_
                refine VC.ret ?_
                exact VEnd.one rfl evT (pvE (by first | rfl | exact absurd c8 c5 | exact absurd ((fin1 c5 c8).1.symm.trans g11_3) (by decide) | exact absurd ((fin2 c5 c8).1.symm.trans g11_3) (by decide) | exact absurd ((fin3 c5).1.symm.trans g11_3) (by decide) | exact absurd (fin1 c5 c8).2 g11_8 | exact absurd (fin2 c5 c8).2 g11_8 | exact absurd (fin3 c5).2 g11_8))
            · refine VO.skip ?_
              refine VO.skip ?_
              refine VO.skip ?_
              refine VO.c (.pickF rfl rfl) ?_
              refine VO.c (.move rfl) ?_
              refine VO.skip ?_
              refine VO.c (.pickF rfl rfl) ?_
              refine VO.c (.assign rfl) ?_
              refine VO.go ?_
              refine VC.ret ?_
              exact VEnd.one rfl evT (pvE (by first | rfl | exact absurd c8 c5 | exact absurd ((fin1 c5 c8).1.symm.trans g11_3) (by decide) | exact absurd ((fin2 c5 c8).1.symm.trans g11_3) (by decide) | exact absurd ((fin3 c5).1.symm.trans g11_3) (by decide) | exact absurd (fin1 c5 c8).2 g11_8 | exact absurd (fin2 c5 c8).2 g11_8 | exact absurd (fin3 c5).2 g11_8))
end Go.Proofs
